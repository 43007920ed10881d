/- Part of the proofs: an abstract program logic, plain models and contracts of functions. -/
import Derived.Test.YtboammbpdaoojaaGreatPa
import Derived.MapKept
set_option linter.unusedVariables false
set_option linter.unusedSimpArgs false
namespace Go.Abs
section
variable {P:Program}{ops:Array Oper}{n:Nat}{τ₀:Nat→AV}{D:List EF}{Q:Cu→Bt→Prop}{opn:Nat→Bool}{k:Nat}{τ:Nat→AV}{H:List BL}{rd:iM}{ef:eW}{effs:List Bool}{fx:List (Nat×Sp)}{dst:Option Tmp}{op:Op}{ty:TypeId}{pos:String}{aft:Array Edge}{v:AV}{H':List BL}
theorem KB {cs:List AV}(fx':List (Nat×Sp)) (ho:ops[k]?=some ⟨dst,op,ty,pos,aft,none⟩) (hn:opn k=true) (h:DH P ⟨dst,op,ty,pos,aft,none⟩ (ev τ) H (H5 cs H)) (haft:El ops k (fx'.map (·.1))=true)
  (next:∀b,KO ops k H (.box b cs::H) rd∧HC k (.eff (.ptr b 0) (.box b cs::H)) fx∧Dr P ops n τ₀ D Q opn (k+1) (put τ dst (.ptr b 0)) (.box b cs::H) rd ((k,H,.box b cs::H)::ef) (true::effs) (fx'++fx)):Dr P ops n τ₀ D Q opn k τ H rd ef effs fx :=
 Mp fx' ho hn h haft ⟨_,_,0,rfl,rfl⟩ (fun _ _ h=>h.elim) (fun v H' ⟨b,h1,h2⟩=>by subst h1;subst h2;exact next b)
theorem OI {i sz:Nat}{rows:List (List PV)}(fx':List (Nat×Sp)) (ho:ops[k]?=some ⟨dst,op,ty,pos,aft,none⟩) (hn:opn k=true) (h:DH P ⟨dst,op,ty,pos,aft,none⟩ (ev τ) H (NB i sz rows H)) (haft:El ops k (fx'.map (·.1))=true)
  (next:∀o c,KO ops k H (H.set i (.vec o sz rows c)) rd∧HC k (.eff (.vs o rows.length c) (H.set i (.vec o sz rows c))) fx∧Dr P ops n τ₀ D Q opn (k+1) (put τ dst (.vs o rows.length c)) (H.set i (.vec o sz rows c)) rd ((k,H,H.set i (.vec o sz rows c))::ef) (true::effs) (fx'++fx)):Dr P ops n τ₀ D Q opn k τ H rd ef effs fx :=
 Mp fx' ho hn h haft ⟨_,_,none,0,rfl,rfl⟩ (fun _ _ h=>h.elim) (fun v H' ⟨o,c,h1,h2⟩=>by subst h1;subst h2;exact next o c)
def HM (v:AV) (H':List BL):EG→List BL→Prop
 | .val v',H''=>v'=v∧H''=H'
 | .panic _,_=>False
theorem fU {c:Call}{g:Option (Nat×Bool)}{f:Operand}{fid:FuncId}{first caps:List AV}{ρ:Operand→AV}{Hs Hf Hs':List BL}{A:List AV}
  (hc:c.callee= .value f) (hf:(ρ f= .p (.fn fid)∧first=[]∧caps=[])∨ρ f= .fn (.func fid) first caps) (hp:H.Perm (Hs++Hf)) (h:Bu P fid A Hs (HM v Hs')) (hA:first++c.args.toList.map ρ++caps=A∨(first++c.args.toList.map ρ++caps).map norm=A) :
  Dh P ⟨dst,.call c,ty,pos,aft,g⟩ ρ H v (Hs'++Hf):=by
 refine(Fj (H:=H) hc hf hp h hA).mono ?_;rintro r H' ⟨Hs',h1,rfl⟩;cases r with
 | val v'=>obtain⟨rfl,rfl⟩:=h1;exact⟨rfl,rfl⟩
 | panic v'=>exact h1
end
def JP (k:Int):List (Int×AV)→Option AV
 | []=>none
 | (j,x)::r=>if j=k then some x else JP k r
def MS (k:Int) (v:AV):List (Int×AV)→List (Int×AV)
 | []=>[(k,v)]
 | (j,x)::r=>if j=k then (j,v)::r else (j,x)::MS k v r
def D7 (l:List (Int×AV)):List (PV×AV):=l.map fun p=>(.int .i64 p.1,p.2)
def mapOf (P:Program) (T:TypeId):Option TypeId :=
 match P.underlying T with
 | some (.map k e)=>match P.underlying k with
  | some (.int .i64)=>some e
  | _=>none
 | _=>none
theorem Mc {P:Program}{T e:TypeId}(h:mapOf P T=some e):∃k,P.underlying T=some (.map k e)∧P.underlying k=some (.int .i64):=by
 unfold mapOf at h;split at h
 ·rename_i k e' hu;split at h
  ·rename_i hk;injection h with h;subst h;exact⟨k,hu,hk⟩
  cases h
 cases h
section
variable {F:Nat→Prop}{w:World}
theorem NP {k:Int}:∀{l:List (Int×AV)}{es:List MapEntry}(i:Nat),Db F w (D7 l) es →
  (JP k l=none∧Instr.findNow (.int .i64) (.int .i64 k) es i=some none)∨∃j e x,JP k l=some x∧Instr.findNow (.int .i64) (.int .i64 k) es i=some (some (i+j,e.val))∧es[j]?=some e∧e.key= .int .i64 k∧CF F w x e.val
 | [],es,i,h=>by simp only[D7,List.map_nil,Db] at h;subst h;exact .inl ⟨rfl,rfl⟩
 | (j,x)::l,es,i,h=>by
  simp only[D7,List.map_cons,Db] at h;obtain⟨e,es',rfl,hk,hx,hr⟩:=h;simp only[CK] at hk;by_cases hj:j=k
  ·subst hj;exact .inr ⟨0,e,x,by simp[JP],by simp[Instr.findNow,hk,Instr.sameNow],rfl,hk,hx⟩
  have hne:(k==j)=false:=by simp[Ne.symm hj]
  rcases NP (k:=k) (i+1) hr with ⟨h1,h2⟩ | ⟨q,e',x',h1,h2,h3,h4,h5⟩
  ·exact .inl ⟨by simp[JP,hj,h1],by simp[Instr.findNow,hk,Instr.sameNow,hne,h2]⟩
  exact .inr ⟨q+1,e',x',by simp[JP,hj,h1],by simp[Instr.findNow,hk,Instr.sameNow,hne,h2];omega,by simpa using h3,h4,h5⟩
theorem Ua {k:Int}:∀{l:List (Int×AV)}{es:List MapEntry},Db F w (D7 l) es→JP k l=none→∀x∈es,x.key≠ .int .i64 k
 | [],es,h,_=>by
  simp only[D7,List.map_nil,Db] at h;subst h;simp
 | (j,v)::l,es,h,hm=>by
  simp only[D7,List.map_cons,Db] at h;obtain⟨e,es',rfl,hk,hv,hr⟩:=h;simp only[JP] at hm;split at hm
  ·cases hm
  rename_i q;intro x hx;rcases List.mem_cons.1 hx with rfl | hx
  ·simp only[CK] at hk;rw[hk];intro e;injection e with _ e2;exact q e2
  exact Ua hr hm x hx
theorem Vi {k:Int}{v:AV}{u:Value}{c:Nat}:∀{l:List (Int×AV)}{es:List MapEntry},Db F w (D7 l) es→JP k l=none→CF F w v u→Db F w (D7 (MS k v l)) (es++[{ key:= .int .i64 k,val:=u,born:=c }])
 | [],es,h,_,hv=>by
  simp only[D7,List.map_nil,Db] at h;subst h;simp only[MS,D7,List.map_cons,List.map_nil,List.nil_append,Db];exact⟨_,[],O,by simp[CK],hv,rfl⟩
 | (j,x)::l,es,h,hm,hv=>by
  simp only[D7,List.map_cons,Db] at h;obtain⟨e,es',rfl,hk,hx,hr⟩:=h;by_cases hj:j=k
  ·simp[JP,hj] at hm
  simp only[JP,if_neg hj] at hm;simp only[MS,if_neg hj,D7,List.map_cons,List.cons_append,Db];exact⟨e,_,O,hk,hx,Vi hr hm hv⟩
theorem Xb {k:Int}{v:AV}{u:Value}:∀{l:List (Int×AV)}{es:List MapEntry}{j:Nat}(i:Nat) {y:Value},Db F w (D7 l) es→Instr.findNow (.int .i64) (.int .i64 k) es i=some (some (i+j,y))→CF F w v u→Db F w (D7 (MS k v l)) (es.modify j fun e=>{ e with key:= .int .i64 k,val:=u })
 | [],es,j,i,y,h,hf,_=>by simp only[D7,List.map_nil,Db] at h;subst h;simp[Instr.findNow] at hf
 | (q,x)::l,es,j,i,y,h,hf,hv=>by
  simp only[D7,List.map_cons,Db] at h;obtain⟨e,es',rfl,hk,hx,hr⟩:=h;simp only[CK] at hk;by_cases hj:q=k
  ·subst hj;simp[Instr.findNow,hk,Instr.sameNow] at hf;obtain⟨rfl,_⟩:j=0∧True:=⟨by omega,trivial⟩;simp only[MS,if_true,D7,List.map_cons,Db];exact⟨_,es',O,by simp[CK],hv,hr⟩
  have hne:(k==q)=false:=by simp[Ne.symm hj]
  simp only[Instr.findNow,hk,Instr.sameNow,if_true,hne] at hf;cases j with
  | zero =>
   have:∀(es:List MapEntry) (m:Nat) (y:Value) (r:Nat),Instr.findNow (.int .i64) (.int .i64 k) es m=some (some (r,y))→m≤r:=by
    intro es
    induction es with
    | nil=>intro m y r h;simp[Instr.findNow] at h
    | cons e es ih =>
     intro m y r h;simp only[Instr.findNow] at h;split at h
     ·simp at h;omega
     ·have:=ih _ _ _ h;omega
     cases h
   have:=this _ _ _ _ hf;omega
  | succ j =>
   simp only[MS,if_neg hj,D7,List.map_cons,List.modify_succ_cons,Db];exact⟨e,_,O,by simpa [CK] using hk,hx,Xb (i+1) hr (by rw[show i+1+j=i+(j+1) by omega];exact hf) hv⟩
end
section
variable {P:Program}{dst:Option Tmp}{ty:TypeId}{pos:String}{aft:Array Edge}{g:Option (Nat×Bool)}{ρ:Operand→AV}{H:List BL}{x y z:Operand}{v:AV}
def Zy (H:List BL):EG→List BL→Prop
 | .val v,H'=>∃b,v= .map b∧H'= .map b (D7 [])::H
 | .panic _,_=>False
theorem VZ {T:TypeId}:DH P ⟨dst,.makeMap T none,ty,pos,aft,g⟩ ρ H (Zy H) :=
 Gx fun F w E hH hE=>by
  refine⟨.map (some w.heap.size),World.push w (.map #[] 0),.map w.heap.size,.map w.heap.size (D7 [])::H,_,?_,⟨_,O,O⟩,MP H _ _ (.inl O),N5 hH _ _ O ?_,by simp[CF]⟩
  ·simp[execOp,Instr.makeMap,Sem.run_bind];rfl
  exact⟨#[],0,LK _,MapKept.stamped_empty _,O⟩
theorem V2 {T e : TypeId} {b i : Nat} {l : List (Int × AV)} {k : Int} {zv : Value} {za : AV} (hT : mapOf P T = some e) (hz : zeroOf P e = some zv) (hza : ∀ F w, CF F w za zv) (hx : ρ x = .map b) (hy : ρ y = .p (.int .i64 k)) (hi : H[i]? = some (.map b (D7 l))) :
  Dh P ⟨dst, .lookup T x y false, ty, pos, aft, g⟩ ρ H ((JP k l).getD za) H :=
 CP fun F w E hH hE => by
  obtain ⟨kt, hu, hk⟩ := Mc hT
  have h1 := hE x Ac
  have h2 := hE y Ac
  rw [hx] at h1
  rw [hy] at h2
  simp only [CF, CK] at h1 h2
  obtain ⟨es, clk, hb, hs0, hr⟩ := hH.obj _ (List.mem_of_getElem? hi)
  have hzv : (zeroValue e).run P w = .ok zv w := by
   unfold zeroOf at hz
   cases hi : P.info? e with
   | none => simp [hi] at hz
   | some i => have hz' : i.zero = some zv := by simpa [hi] using hz
               simp [zeroValue, typeInfo, hi, hz', Sem.run_bind]
  have hkey : MapKept.IsKey (.int .i64) (.int .i64 k) := rfl
  rcases NP (k := k) 0 hr with ⟨h3, h4⟩ | ⟨j, e', x', h3, h4, h5, h6, h7⟩
  ·refine ⟨zv, ?_, by rw [h3]; exact hza F w⟩
   simp [execOp, Instr.lookup, Sem.run_bind, run_underlying hu, h1, h2, MapKept.run_getObj_map hb, MapKept.run_checkKey hk hkey, MapKept.run_findKey hk h4, hzv]
  refine ⟨e'.val, ?_, by rw [h3]; exact h7⟩
  simp [execOp, Instr.lookup, Sem.run_bind, run_underlying hu, h1, h2, MapKept.run_getObj_map hb, MapKept.run_checkKey hk hkey, MapKept.run_findKey hk h4]
theorem Ts {T e : TypeId} {b i : Nat} {l : List (Int × AV)} {k : Int} {zv : Value} {za : AV} (hT : mapOf P T = some e) (hz : zeroOf P e = some zv) (hza : ∀ F w, CF F w za zv) (hx : ρ x = .map b) (hy : ρ y = .p (.int .i64 k)) (hi : H[i]? = some (.map b (D7 l))) :
  Dh P ⟨dst, .lookup T x y true, ty, pos, aft, g⟩ ρ H (.tup [(JP k l).getD za, .p (.bool (JP k l).isSome)]) H :=
 CP fun F w E hH hE => by
  obtain ⟨kt, hu, hk⟩ := Mc hT
  have h1 := hE x Ac
  have h2 := hE y Ac
  rw [hx] at h1
  rw [hy] at h2
  simp only [CF, CK] at h1 h2
  obtain ⟨es, clk, hb, hs0, hr⟩ := hH.obj _ (List.mem_of_getElem? hi)
  have hzv : (zeroValue e).run P w = .ok zv w := by
   unfold zeroOf at hz
   cases hi : P.info? e with
   | none => simp [hi] at hz
   | some i => have hz' : i.zero = some zv := by simpa [hi] using hz
               simp [zeroValue, typeInfo, hi, hz', Sem.run_bind]
  have hkey : MapKept.IsKey (.int .i64) (.int .i64 k) := rfl
  rcases NP (k := k) 0 hr with ⟨h3, h4⟩ | ⟨j, e', x', h3, h4, h5, h6, h7⟩
  ·refine ⟨.tuple #[zv, .bool false], ?_, ?_⟩
   ·simp [execOp, Instr.lookup, Sem.run_bind, run_underlying hu, h1, h2, MapKept.run_getObj_map hb, MapKept.run_checkKey hk hkey, MapKept.run_findKey hk h4, hzv]
   simp only [h3, CF, Bz, CK]
   exact ⟨[zv, .bool false], O, _, _, O, hza F w, _, _, O, O, O⟩
  refine ⟨.tuple #[e'.val, .bool true], ?_, ?_⟩
  ·simp [execOp, Instr.lookup, Sem.run_bind, run_underlying hu, h1, h2, MapKept.run_getObj_map hb, MapKept.run_checkKey hk hkey, MapKept.run_findKey hk h4]
  simp only [h3, CF, Bz, CK]
  exact ⟨[e'.val, .bool true], O, _, _, O, h7, _, _, O, O, O⟩
theorem Rj {T e:TypeId}{b i:Nat}{l:List (Int×AV)}{k:Int}{va:AV}(hT:mapOf P T=some e) (hx:ρ x= .map b) (hy:ρ y= .p (.int .i64 k)) (hz:ρ z=va) (hi:H[i]?=some (.map b (D7 l))) :
  Dh P ⟨dst,.mapUpdate T x y z,ty,pos,aft,g⟩ ρ H (.p .any) (H.set i (.map b (D7 (MS k va l)))) :=
 (Ha (R:=oX (.p .any) (H.set i (.map b (D7 (MS k va l))))) fun F w E hH hE=>by
  obtain⟨kt,hu,hk⟩:=Mc hT;have h1:=hE x Ac;have h2:=hE y Ac;have h0:=hE z Ac;rw[hx] at h1;rw[hy] at h2;rw[hz] at h0;simp only[CF,CK] at h1 h2;obtain⟨es,clk,hb,hs0,hr⟩:=hH.obj _ (List.mem_of_getElem? hi);have hFb:F b:=hH.sub _ (List.mem_of_getElem? hi) b rfl;have hlt:=hH.bd b hFb;have hkey:MapKept.IsKey (.int .i64) (.int .i64 k):=rfl;have fin:∀(es':Array MapEntry) (clk':Nat),MapKept.Stamped es' clk'→Db F w (D7 (MS k va l)) es'.toList→Trans F H w F (H.set i (.map b (D7 (MS k va l)))) { w with heap:=w.heap.setIfInBounds b (.map es' clk') }∧HRel F (H.set i (.map b (D7 (MS k va l)))) { w with heap:=w.heap.setIfInBounds b (.map es' clk') }:=by
   intro es' clk' hs' hr';have hw:HG b (.map es' clk') w { w with heap:=w.heap.setIfInBounds b (.map es' clk') }:=⟨rfl,rfl,rfl,rfl⟩;have st:=hw.stable hFb;exact⟨hw.trans hi O O,hw.HRel hH hi O O ⟨es',clk',hw.self hlt,hs',Db.mono st _ _ hr'⟩⟩
  rcases NP (k:=k) 0 hr with ⟨h3,h4⟩ | ⟨j,e',x',h3,h4,h5,h6,h7⟩
  ·have hr':=Vi (c:=clk) hr h3 h0;obtain⟨f1,f2⟩:=fin (es.push { key:= .int .i64 k,val:=E z,born:=clk }) (clk+1) (MapKept.stamped_push hs0 (Ua hr h3)) (by simpa using hr');refine⟨_,_,F,?_,⟨O,O⟩,f1,f2⟩;simp[execOp,Instr.mapUpdate,Sem.run_bind,run_underlying hu,h1,h2,MapKept.run_getObj_map hb,MapKept.run_checkKey hk hkey,MapKept.run_findKey hk h4,MapKept.run_setObj_map _ hb]
  have hr':=Xb (v:=va) (u:=E z) 0 hr h4 h0;obtain⟨f1,f2⟩:=fin (es.modify j fun e=>{ e with key:= .int .i64 k,val:=E z }) clk (MapKept.stamped_modify hs0 j _ (fun _ _=>rfl) (fun e _ he=>by rw[show es[j]?=some e' by simpa using h5] at he;cases he;exact h6.symm)) (by simpa using hr');refine⟨_,_,F,?_,⟨O,O⟩,f1,f2⟩;have h5':es[j]?=some e':=by simpa using h5
  simp[execOp,Instr.mapUpdate,Sem.run_bind,run_underlying hu,h1,h2,MapKept.run_getObj_map hb,MapKept.run_checkKey hk hkey,MapKept.run_findKey hk h4,MapKept.run_setObj_map _ hb,h5',h6,Instr.keyThatStays,Instr.sameBits])
theorem IV {T:TypeId}{d:TypeDesc}{a b:Value}{c:Bool}{w:World}(hu:P.underlying T=some d) (h:(match d,a,b with
  | .bool,.bool x,.bool y=>some (x==y)
  | .interface _,.nilIface,.nilIface=>some true
  | .interface _,.iface _ _,.nilIface=>some false
  | .slice _,.slice none _ _,.slice none _ _=>some true
  | .slice _,.slice (some _) _ _,.slice none _ _=>some false
  | _,_,_=>none)=some c):(Op.equal T a b).run P w= .ok c w:=by
 unfold Op.equal;rw[show Op.maxDepth=9999+1 from rfl];unfold Op.equalIn;simp only[Sem.run_bind,run_underlying hu,Result.andThen_ok];split at h<;>simp_all
theorem Gl {T U:TypeId}{ms:Array (String×TypeId)}{X:PV}{b:Bool}(hu:P.underlying T=some (.interface ms)) (hx:ρ x= .p X) (hy:ρ (.const .nilIface)= .p .nilIface) (hX:(match X with | .nilIface=>some false | .iface _ _=>some true | _=>none)=some b):Dh P ⟨dst,.binOp .neq T x (.const .nilIface) U,ty,pos,aft,g⟩ ρ H (.p (.bool b)) H :=
 CP fun F w E hH hE=>by
  have e2:=hE (.const .nilIface) Ac;rw[hy] at e2;simp only[CF,CK] at e2;have e1:=hE x Ac;rw[hx] at e1;have hg:∀a,(eqGuard .neq T x (.const .nilIface) a .nilIface).run P w= .ok () w:=by
   intro a;unfold eqGuard;cases a<;>simp<;>rfl
  refine⟨.bool b,?_,by simp[CF,CK]⟩;cases X with
  | nilIface =>
   simp at hX;subst hX;simp only[CF,CK] at e1;have hq:(Op.equal T .nilIface .nilIface).run P w= .ok true w:=IV hu rfl;simp[execOp,Sem.run_bind,hg,e1,e2,binOp,hq]
  | iface t c =>
   simp at hX;subst hX;simp only[CF,CK] at e1;obtain⟨u,e1,_⟩:=e1;have hq:(Op.equal T (.iface t u) .nilIface).run P w= .ok false w:=IV hu rfl;simp[execOp,Sem.run_bind,hg,e1,e2,binOp,hq]
  | _=>simp at hX
theorem Rh {T e:TypeId}{len sz b o:Nat}{k:IntKind}{i:Int}{inf:TypeInfo}(hu:P.underlying T=some (.array len e)) (hj:P.info? e=some inf) (hs:inf.size=sz) (hx:ρ x= .ptr b o) (hy:ρ y= .p (.int k i)) (h0:0≤i) (hn:i<len) :
  Dh P ⟨dst,.indexAddr T x y,ty,pos,aft,g⟩ ρ H (.ptr b (o+i.toNat*sz)) H :=
 CP fun F w E hH hE=>by
  have h1:=hE x Ac;have h2:=hE y Ac;rw[hx] at h1;rw[hy] at h2;simp only[CF,CK] at h1 h2;refine⟨.pointer (some ⟨b,o+i.toNat*sz,none⟩),?_,by simp[CF]⟩;simp[execOp,Instr.indexAt,Sem.run_bind,run_underlying hu,h1,h2,asIntOf,h0,hn,sizeOf,typeInfo,hj,hs,Addr.add_mid,Instr.sureAddr,asAddr]
theorem RZ {T e:TypeId}{len:Nat}{parts:Array (Nat×Operand)}{z:Value}{cs:List AV}{inf:TypeInfo}(hu:P.underlying T=some (.array len e)) (hj:P.info? e=some inf) (hz:zeroOf P T=some z)
  (hc:FH (fun i=>some (i*inf.size,inf.size)) (z.cells.toList.map GO) (parts.toList.map fun p=>(p.1,ρ p.2))=some cs):Dh P ⟨dst,.build T parts,ty,pos,aft,g⟩ ρ H (.agg cs) H :=
 CP fun F w E hH hE=>by
  unfold zeroOf at hz;cases hi:P.info? T with
  | none=>simp[hi] at hz
  | some i =>
   have hz':i.zero=some z:=by simpa [hi] using hz
   have hzv:(zeroValue T).run P w= .ok z w:=by simp[zeroValue,typeInfo,hi,hz',Sem.run_bind]
   have hsz:(sizeOf e).run P w= .ok inf.size w:=by simp[sizeOf,typeInfo,hj]
   obtain⟨us,hf,hr⟩:=Ig (F:=F) (w:=w) (place:=(fun i=>some (i*inf.size,inf.size))) _ (parts.toList.map fun p=>(p.1,E p.2)) _ z.cells.toList _ As (by
    intro j p q h1 h2;simp only[List.getElem?_map] at h1 h2;cases hj:parts.toList[j]? with
    | none=>simp[hj] at h1
    | some t =>
     simp[hj] at h1 h2;subst h1;subst h2;exact⟨O,hE _ (by
      have:=List.mem_of_getElem? hj;simp only[Op.operands];exact List.mem_map.2 ⟨t,this,O⟩)⟩) (Ge _) hc
   refine⟨.agg ⟨us⟩,?_,by simp only[CF];exact⟨us,rfl,hr⟩⟩;simp only[execOp,Instr.build,Sem.run_bind,hzv,Result.andThen_ok,run_underlying hu,hsz];have hf':Instr.fill (fun i=>some (i*inf.size,inf.size)) z.cells (parts.toList.map fun p=>(p.1,E p.2))=some ⟨us⟩:=hf;simp[hf']
theorem Tx {T U:TypeId}{e:TypeId}{rows:List (List PV)}(hu:P.underlying T=some (.slice e)) (hx:ρ x= .p (.lst rows)) (hy:ρ y= .p .nils):DH P ⟨dst,.binOp .eql T x y U,ty,pos,aft,g⟩ ρ H (fun r H'=>match r with | .val v=>(∃b,v= .p (.bool b)∧(b=true→rows=[]))∧H'=H | .panic _=>False) :=
 Gx fun F w E hH hE=>by
  have e1:=hE x Ac;have e2:=hE y Ac;rw[hx] at e1;rw[hy] at e2;simp only[CF,CK] at e1 e2;have hg:∀o n c,(eqGuard .eql T x y (.slice o n c) (.slice none 0 0)).run P w= .ok () w:=by intro o n c;unfold eqGuard;rfl
  have key:∃b,(execOp E ⟨dst,.binOp .eql T x y U,ty,pos,aft,g⟩).run P w= .ok (.value (.bool b)) w∧(b=true→rows=[]):=by
   rcases e1 with ⟨rfl,o,c,h1⟩ | ⟨bb,o,c,sz,h1,_⟩
   ·cases o with
    | none =>
     have hq:(Op.equal T (.slice none 0 c) (.slice none 0 0)).run P w= .ok true w:=IV hu rfl;exact⟨true,by simp[execOp,Sem.run_bind,hg,h1,e2,binOp,hq],fun _=>rfl⟩
    | some a =>
     have hq:(Op.equal T (.slice (some a) 0 c) (.slice none 0 0)).run P w= .ok false w:=IV hu rfl;exact⟨false,by simp[execOp,Sem.run_bind,hg,h1,e2,binOp,hq],fun _=>rfl⟩
   have hq:(Op.equal T (.slice (some ⟨bb,o,none⟩) rows.length c) (.slice none 0 0)).run P w= .ok false w:=IV hu rfl;exact⟨false,by simp[execOp,Sem.run_bind,hg,h1,e2,binOp,hq],fun h=>by cases h⟩
  obtain⟨b,hb,hr⟩:=key;exact⟨_,w,.p (.bool b),H,F,hb,⟨⟨b,O,hr⟩,O⟩,.refl,hH,by simp[CF,CK]⟩
end
def NV (P:Program) (T:TypeId):Bool :=
 match P.underlying T with
 | some (.struct fs)=>match fs.toList with
  | [f,g]=>f.name != "_" &&g.name != "_" &&Nat.beq f.offset 0&&Nat.beq g.offset 1&&(match P.underlying f.type,P.underlying g.type with | some (.int .i64),some (.int .i64)=>true | _,_=>false)&& !P.stoodInHeld T&& !P.eqGuardType P.depth T
  | _=>false
 | _=>false
theorem Wj {P:Program}{T:TypeId}{a b c d:Int}{w:World}(h:NV P T=true):(Op.equal T (.agg #[.int .i64 a,.int .i64 b]) (.agg #[.int .i64 c,.int .i64 d])).run P w= .ok (a==c&&b==d) w:=by
 unfold NV at h;split at h
 ·rename_i fs hu;split at h
  ·rename_i f g hfs;obtain rfl:fs=#[f,g]:=by apply Array.ext';simpa using hfs
   simp only[Bool.and_eq_true,bne_iff_ne,ne_eq,Bool.not_eq_true'] at h;obtain⟨⟨⟨⟨⟨⟨h1,h2⟩,h3⟩,h4⟩,h5⟩,h6⟩,h7⟩:=h;split at h5
   ·rename_i hf hg;have e3:=Nat.eq_of_beq_eq_true h3;have e4:=Nat.eq_of_beq_eq_true h4;have hp:(program).run P w= .ok P w:=rfl;have af:(isAgg f.type).run P w= .ok false w:=Lo hf false rfl w;have ag:(isAgg g.type).run P w= .ok false w:=Lo hg false rfl w;have pf:∀x y,(part f.type #[.int .i64 x,.int .i64 y] f.offset).run P w= .ok (.int .i64 x) w:=by
     intro x y;unfold part;simp[Sem.run_bind,af,e3]
    have pg:∀x y,(part g.type #[.int .i64 x,.int .i64 y] g.offset).run P w= .ok (.int .i64 y) w:=by
     intro x y;unfold part;simp[Sem.run_bind,ag,e4]
    have qf:∀x y,(Op.equalIn 9999 f.type (.int .i64 x) (.int .i64 y)).run P w= .ok (x==y) w:=by
     intro x y;rw[show (9999:Nat)=9998+1 from rfl];unfold Op.equalIn;simp[Sem.run_bind,run_underlying hf]
    have qg:∀x y,(Op.equalIn 9999 g.type (.int .i64 x) (.int .i64 y)).run P w= .ok (x==y) w:=by
     intro x y;rw[show (9999:Nat)=9998+1 from rfl];unfold Op.equalIn;simp[Sem.run_bind,run_underlying hg]
    unfold Op.equal;rw[show Op.maxDepth=9999+1 from rfl];unfold Op.equalIn;simp only[Sem.run_bind,run_underlying hu,Result.andThen_ok,hp,h6];simp[Sem.run_bind,h1,h2,pf,pg,qf,qg];cases hac:(a==c)<;>cases hbd:(b==d)<;>simp_all [Sem.run_bind,h1,h2,pf,pg,qf,qg]
   cases h5
  cases h
 cases h
section
variable {P:Program}{dst:Option Tmp}{ty:TypeId}{pos:String}{aft:Array Edge}{g:Option (Nat×Bool)}{ρ:Operand→AV}{H:List BL}{x y z:Operand}{v:AV}
theorem ZN {T U:TypeId}{a b c d:Int}(h:NV P T=true) (hx:ρ x= .agg [.p (.int .i64 a),.p (.int .i64 b)]) (hy:ρ y= .agg [.p (.int .i64 c),.p (.int .i64 d)]):Dh P ⟨dst,.binOp .neq T x y U,ty,pos,aft,g⟩ ρ H (.p (.bool (!(a==c&&b==d)))) H :=
 CP fun F w E hH hE=>by
  have e1:=hE x Ac;have e2:=hE y Ac;rw[hx] at e1;rw[hy] at e2;simp only[CF,Bz,CK] at e1 e2;obtain⟨vs,e1,u1,us1,rfl,rfl,u2,us2,rfl,rfl,rfl⟩:=e1;obtain⟨vs',e2,v1,vs1,rfl,rfl,v2,vs2,rfl,rfl,rfl⟩:=e2;refine⟨.bool (!(a==c&&b==d)),?_,by simp[CF,CK]⟩;have hq:=Wj (P:=P) (T:=T) (a:=a) (b:=b) (c:=c) (d:=d) (w:=w) h;have h':=h;have hg:(eqGuard .neq T x y (.agg #[.int .i64 a,.int .i64 b]) (.agg #[.int .i64 c,.int .i64 d])).run P w= .ok () w:=by
   unfold NV at h';split at h'
   ·split at h'
    ·simp only[Bool.and_eq_true,Bool.not_eq_true'] at h';have h7:=h'.2;have hp:(program).run P w= .ok P w:=rfl;unfold eqGuard;simp[Sem.run_bind,hp,h7]
    cases h'
   cases h'
  simp[execOp,Sem.run_bind,hg,e1,e2,binOp,hq]
end
theorem Hr {P:Program}{r:Option Nat}{c:Code}{S:Bt}{Q:Cu→Bt→Prop}(N:Nat) (C:Nat→Prop) (St:Nat→Bt) (i₀:Nat) (h₀:i₀≤N) (hC:C i₀) (l:Le S (St i₀))
  (round:∀i,i≤N→C i→IT P r c (St i) (Rp (fun S'=>i<N∧C (i+1)∧Le S' (St (i+1))) Q)):IT P r (.loop c) S Q:=by
 refine VA (fun m S=>∃i,i≤N∧m=N - i∧C i∧S=St i) (m:=N - i₀) l ⟨i₀,h₀,O,hC,O⟩ ?_;rintro m S ⟨i,hi,rfl,hc,rfl⟩;refine(round i hi hc).mono ?_;intro e S' h;cases e with
 | normal =>
  obtain⟨h1,h2,h3⟩:=h;exact⟨N - (i+1),St (i+1),by omega,h3,i+1,by omega,rfl,h2,rfl⟩
 | exit id=>exact h
 | ret=>exact h
 | panic v=>exact h
theorem Bn {α:Type}{P:Program}{r:Option Nat}{c:Code}{S:Bt}{Q:Cu→Bt→Prop}(St:α→Bt) (μ:α→Nat) (C:α→Prop) (a₀:α) (hC:C a₀) (l:Le S (St a₀))
  (round:∀a,C a→IT P r c (St a) (Rp (fun S'=>∃a',μ a' < μ a∧C a'∧Le S' (St a')) Q)):IT P r (.loop c) S Q:=by
 refine VA (fun m S=>∃a,m=μ a∧C a∧S=St a) (m:=μ a₀) l ⟨a₀,O,hC,O⟩ ?_;rintro m S ⟨a,rfl,hc,rfl⟩;refine(round a hc).mono ?_;intro e S' h;cases e with
 | normal =>
  obtain⟨a',h1,h2,h3⟩:=h;exact⟨μ a',St a',h1,h3,a',O,h2,O⟩
 | exit id=>exact h
 | ret=>exact h
 | panic v=>exact h
abbrev wr (n:Int):Int:=IntKind.i64.wrap n
section
variable {P:Program}{dst:Option Tmp}{ty:TypeId}{pos:String}{aft:Array Edge}{g:Option (Nat×Bool)}{ρ:Operand→AV}{H:List BL}{x y z:Operand}{v:AV}
theorem FC {m n:Int}{T U:TypeId}(hx:ρ x= .p (.int .i64 m)) (hy:ρ y= .p (.int .i64 n)):Dh P ⟨dst,.binOp .add T x y U,ty,pos,aft,g⟩ ρ H (.p (.int .i64 (wr (m+n)))) H :=
 CP fun F w E hH hE=>by
  have e1:=hE x Ac;have e2:=hE y Ac;rw[hx] at e1;rw[hy] at e2;simp only[CF,CK] at e1 e2;exact⟨.int .i64 (wr (m+n)),by simp[execOp,Sem.run_bind,JD,e1,e2,binOp,Op.intArith],by simp[CF,CK]⟩
theorem JW {m n:Int}{T U:TypeId}(hx:ρ x= .p (.int .i64 m)) (hy:ρ y= .p (.int .i64 n)):Dh P ⟨dst,.binOp .sub T x y U,ty,pos,aft,g⟩ ρ H (.p (.int .i64 (wr (m - n)))) H :=
 CP fun F w E hH hE=>by
  have e1:=hE x Ac;have e2:=hE y Ac;rw[hx] at e1;rw[hy] at e2;simp only[CF,CK] at e1 e2;exact⟨.int .i64 (wr (m - n)),by simp[execOp,Sem.run_bind,JD,e1,e2,binOp,Op.intArith],by simp[CF,CK]⟩
end
def oM (R:AV→Prop):EG→List BL→Prop
 | .val v,H'=>R v∧H'=[]
 | .panic _,_=>False
abbrev FX (P:Program) (f:FuncId) (args:List AV) (R:AV→Prop):Prop:=Bu P f args [] (oM R)
theorem FX.of {P:Program}{f:FuncId}{args:List AV}{v:AV}{R:AV→Prop}(h:FF P f args v) (hR:R v):FX P f args R :=
 Bu.mono h fun r H hr=>by
  cases r with
  | val v'=>obtain⟨rfl,rfl⟩:=hr;exact⟨hR,rfl⟩
  | panic v'=>exact hr
def Ow (R:AV→Prop) (H:List BL):EG→List BL→Prop
 | .val v,H'=>R v∧H'=H
 | .panic _,_=>False
section
variable {P:Program}{r:Option Nat}{ops:Array Oper}{Q:Cu→Bt→Prop}{k:Nat}{n:Nat}{τ:Nat→AV}{H H':List BL}{D:List EF}{dst:Option Tmp}{op:Op}{ty:TypeId}{pos:String}{aft:Array Edge}{g:Option (Nat×Bool)}{v:AV}
theorem B7 {c:Call}{f:Operand}{fid:FuncId}{ρ:Operand→AV}{A:List AV}{R:AV→Prop}(hc:c.callee= .value f) (hf:ρ f= .p (.fn fid)) (h:FX P fid A R) (hA:c.args.toList.map ρ=A∨(c.args.toList.map ρ).map norm=A) :
  DH P ⟨dst,.call c,ty,pos,aft,g⟩ ρ H (Ow R H):=by
 refine(Fj (H:=H) (Hs:=[]) (Hf:=H) (first:=[]) (caps:=[]) hc (.inl ⟨hf,O,O⟩) (A:=A) As h (by simpa using hA)).mono ?_;rintro r H' ⟨Hs',h1,rfl⟩;cases r with
 | val v'=>obtain⟨h1,rfl⟩:=h1;exact⟨h1,rfl⟩
 | panic v'=>exact h1
theorem DO {R:AV→Prop}(ho:ops[k]?=some ⟨dst,op,ty,pos,aft,none⟩) (hd:GA dst n=true) (h:DH P ⟨dst,op,ty,pos,aft,none⟩ (ev τ) H (Ow R H))
  (next:∀v,R v→AL P r ops (k+1) ⟨n,put τ dst v,H,D⟩ Q):AL P r ops k ⟨n,τ,H,D⟩ Q :=
 Fp (S:=⟨n,τ,H,D⟩) ho Al (H7 hd) h (fun v H' ⟨h1,h2⟩=>by subst h2;exact next v h1) (fun _ _ h=>h.elim)
theorem G5 {R:AV→Prop}{j d:Nat}{want:Bool}(ho:ops[k]?=some ⟨dst,op,ty,pos,aft,some (j,want)⟩) (hd:GA dst n=true) (hj:(ops[j]?).bind (·.dst)=some d) (hb:τ d= .p (.bool want)) (h:DH P ⟨dst,op,ty,pos,aft,some (j,want)⟩ (ev τ) H (Ow R H))
  (next:∀v,R v→AL P r ops (k+1) ⟨n,put τ dst v,H,D⟩ Q):AL P r ops k ⟨n,τ,H,D⟩ Q :=
 Fp (S:=⟨n,τ,H,D⟩) ho (by simp only[Cy];exact⟨d,hj,hb⟩) (H7 hd) h (fun v H' ⟨h1,h2⟩=>by subst h2;exact next v h1) (fun _ _ h=>h.elim)
end
section
variable {P:Program}{ops:Array Oper}{n:Nat}{τ₀:Nat→AV}{D:List EF}{Q:Cu→Bt→Prop}{opn:Nat→Bool}{k:Nat}{τ:Nat→AV}{H:List BL}{rd:iM}{ef:eW}{effs:List Bool}{fx:List (Nat×Sp)}{dst:Option Tmp}{op:Op}{ty:TypeId}{pos:String}{aft:Array Edge}
theorem JN {R:AV→Prop}(fx':List (Nat×Sp)) (ho:ops[k]?=some ⟨dst,op,ty,pos,aft,none⟩) (hn:opn k=true) (h:DH P ⟨dst,op,ty,pos,aft,none⟩ (ev τ) H (Ow R H)) (haft:El ops k (fx'.map (·.1))=true) (hne:∃v,R v) (owe:KO ops k H H rd)
  (next:∀v,R v→HC k (.eff v H) fx∧Dr P ops n τ₀ D Q opn (k+1) (put τ dst v) H rd ((k,H,H)::ef) (true::effs) (fx'++fx)):Dr P ops n τ₀ D Q opn k τ H rd ef effs fx :=
 Mp fx' ho hn h haft (let ⟨v,hv⟩:=hne;⟨v,H,hv,rfl⟩) (fun _ _ h=>h.elim) (fun v H' ⟨h1,h2⟩=>by subst h2;exact⟨owe,next v h1⟩)
theorem fE {R:AV→Prop}{j d:Nat}{want:Bool}(fx':List (Nat×Sp)) (ho:ops[k]?=some ⟨dst,op,ty,pos,aft,some (j,want)⟩) (hn:opn k=true) (hj:(ops[j]?).bind (·.dst)=some d) (hb:τ d= .p (.bool want)) (h:DH P ⟨dst,op,ty,pos,aft,some (j,want)⟩ (ev τ) H (Ow R H)) (haft:El ops k (fx'.map (·.1))=true) (hne:∃v,R v) (owe:KO ops k H H rd)
  (next:∀v,R v→HC k (.eff v H) fx∧Dr P ops n τ₀ D Q opn (k+1) (put τ dst v) H rd ((k,H,H)::ef) (true::effs) (fx'++fx)):Dr P ops n τ₀ D Q opn k τ H rd ef effs fx :=
 .opn (Ow R H) fx' ho hn ⟨d,hj,hb⟩ h haft (let ⟨v,hv⟩:=hne;⟨v,H,hv,rfl⟩) (fun v H' ⟨_,h2⟩=>by subst h2;exact owe) (fun v H' ⟨h1,h2⟩=>by subst h2;exact(next v h1).1) (fun v H' ⟨h1,h2⟩=>by subst h2;exact(next v h1).2) (fun _ _ h=>h.elim)
end
theorem Bb {P:Program}{r:Option Nat}{c:Code}{Q:Cu→Bt→Prop}{n:Nat}{τ:Nat→AV}{H:List BL}{D:List EF}(live:List Nat) (d:Nat) (R:AV→Prop) (h:IT P r c ⟨n,τ,H,D⟩ (Rp (fun S'=>S'.n=n∧S'.D=D∧H.Sublist S'.H∧R (S'.τ d)∧jN S'.τ τ live) Q))
  (next:∀x,R x→Q .normal ⟨n,mk ((d,x)::live.map fun t=>(t,τ t)),H,D⟩):IT P r c ⟨n,τ,H,D⟩ Q:=by
 intro F a w hs;refine wpIn_mono (h F a w hs) ?_;rintro e a' w' ⟨e',S',F',hq,he,hs',ht⟩;cases e' with
 | normal =>
  obtain⟨n',τ',H',D'⟩:=S';obtain⟨h1,h3,h2,h4,h5⟩:=hq;simp only at h1 h2 h3 h4 h5;subst h1;subst h3;have l:Le ⟨n',τ',H',D'⟩ ⟨n',mk ((d,τ' d)::live.map fun t=>(t,τ t)),H,D'⟩:=D2 ⟨rfl,PE h5⟩ h2;exact⟨.normal,_,F',next _ h4,he,hs'.le l,ht.sublist h2⟩
 | exit id=>exact⟨.exit id,S',F',hq,he,hs',ht⟩
 | ret=>exact⟨.ret,S',F',hq,he,hs',ht⟩
 | panic v=>exact⟨.panic v,S',F',hq,he,hs',ht⟩
def Fh (v:AV):Prop:=∃b:Bool,v= .p (.bool b)
def YL (v:AV):Prop:=∃e:Int,v= .p (.int .i64 e)
end Go.Abs
namespace Go.Eu
open Go.Abs
noncomputable def NQ {α:Type}(a b:α):Bool:= @decide (a=b) (Classical.propDecidable _)
theorem Fg {α:Type}{a b:α}(h:a=b):NQ a b=true:=by simp[NQ,h]
theorem HV {α:Type}{a b:α}(h:a≠b):NQ a b=false:=by simp[NQ,h]
theorem HY {α:Type}{a b:α}:NQ a b=true↔a=b:=by simp[NQ]
abbrev LV (l:Cf):AV:= .agg ((CD l).map .p)
abbrev l4 (ts:List Tm):AV:= .p (.lst (BK ts))
abbrev nc (ls:List Cf):AV:= .p (.lst (ls.map CD))
theorem Ee {ts:List CT}{i:Nat}{t:CT}(h:ts[i]?=some t):(ts.map Gm)[i]?=some (Gm t):=by simp[h]
theorem G0 {ts:List Cf}{i:Nat}{t:Cf}(h:ts[i]?=some t):(ts.map CD)[i]?=some (CD t):=by simp[h]
def agree {α:Type}(a b:List α) (i:Nat):Prop:=a.take i=b.take i
theorem MI {α:Type}(a b:List α):agree a b 0:=by simp[agree]
theorem MT {α:Type}{a b:List α}{i:Nat}{x:α}(h:agree a b i) (ha:a[i]?=some x) (hb:b[i]?=some x):agree a b (i+1):=by
 unfold agree at *;rw[List.take_add_one,List.take_add_one,ha,hb,h]
theorem N1 {α:Type}{a b:List α}{n:Nat}(h:agree a b n) (ha:a.length=n) (hb:b.length=n):a=b:=by
 unfold agree at h
 rwa [List.take_of_length_le Ar,List.take_of_length_le Ar] at h
theorem BB {α:Type}{l:List α}{i:Nat}(h:i<l.length):∃x,l[i]?=some x:=⟨_,List.getElem?_eq_getElem h⟩
abbrev Dv:Nat:=1099511627776
def JJ (n:Int):Prop:= -9223372036854775808≤n∧n≤9223372036854775807
structure RQ (l:Cf):Prop where
 vars:l.vars.length<Dv
 c:JJ l.const
 v:∀v∈l.vars,JJ v.index∧JJ v.plus
mutual
def Nd:Tm→Prop
 | .mk k i n ls ks=>n.size<Dv∧ls.length<Dv∧(∀l∈ls,RQ l)∧ks.length<Dv∧Mk ks∧JJ k∧JJ i
def Mk:List Tm→Prop
 | []=>True
 | t::ts=>Nd t∧Mk ts
end
theorem Dy:∀{ts:List Tm}{i:Nat}{t:Tm},Mk ts→ts[i]?=some t→Nd t
 | [],i,t,_,h=>by simp at h
 | a::ts,0,t,hn,h=>by simp at h;subst h;exact hn.1
 | a::ts,i+1,t,hn,h=>by simp at h;exact Dy hn.2 h
mutual
def depth:Tm→Nat
 | .mk _ _ _ _ ks=>dT ks+1
def dT:List Tm→Nat
 | []=>0
 | t::ts=>max (depth t) (dT ts)
end
end Go.Eu
namespace Go.Eu
theorem Mq (bs : ByteArray) : ∀ (d i : Nat) (r : List UInt8), bs.size - i = d → ByteArray.toList.loop bs i r = r.reverse ++ bs.data.toList.drop i := by
 intro d
 induction d with
 | zero =>
  intro i r h
  unfold ByteArray.toList.loop
  have : ¬ i < bs.size := by omega
  simp only [this, if_false]
  rw [List.drop_eq_nil_of_le (by have : bs.data.size = bs.size := rfl; simp; omega)]; simp
 | succ d ih =>
  intro i r h
  unfold ByteArray.toList.loop
  have hi : i < bs.size := by omega
  simp only [hi, if_true]
  rw [ih (i + 1) _ Ar]
  have hlt : i < bs.data.toList.length := by have : bs.data.size = bs.size := rfl; simp; omega
  rw [List.drop_eq_getElem_cons hlt]
  have : bs.get! i = bs.data.toList[i] := by
   have h2 : i < bs.data.size := by simpa using hlt
   show bs.data[i]! = _
   rw [getElem!_pos bs.data i h2]; simp
  simp [this]
theorem NC (bs:ByteArray):bs.toList=bs.data.toList:=by
 unfold ByteArray.toList;rw[Mq bs _ 0 [] rfl];simp
theorem G4 {a b:ByteArray}(h:a.toList=b.toList):a=b:=by
 rw[NC,NC] at h;cases a;cases b;simp at h;congr
end Go.Eu
namespace Go.Eu
open Go.Abs
mutual
def EZ:Tm→Int→Int
 | .mk _ _ _ _ ks,most=>EL ks most 0
def EL:List Tm→Int→Int→Int
 | [],_,n=>n
 | t::ts,most,n=>if n > most then n else EL ts most (wr (n+wr (1+EZ t (wr (most - n)))))
end
theorem R2 {l:List Tm}{i:Nat}{t:Tm}{most n:Int}(h:l[i]?=some t):EL (l.drop i) most n=if n > most then n else EL (l.drop (i+1)) most (wr (n+wr (1+EZ t (wr (most - n))))):=by
 have hlt:i<l.length:=(List.getElem?_eq_some_iff.1 h).1;rw[List.drop_eq_getElem_cons hlt];have:l[i]=t:=by simpa [List.getElem?_eq_getElem hlt] using h
 rw[this,EL]
end Go.Eu
namespace Go.Eu
def arity (k:Int):Int:=if k=4∨k=5∨k=6∨k=7 then 2 else if k=8∨k=11 then 3 else if k=9∨k=10 then 1 else 0
def below (k i:Int):Int:=if ((i==1&&(k==5||k==6||k==7))||(i==2&&k==11))=true then 1 else 0
def XG:Tm→Prop
 | .mk kd _ _ _ ks=>0≤kd∧kd<13∧(ks.length:Int)=arity kd
mutual
def wf (vars metas:Int):Int→Tm→Prop
 | d,.mk kd ix _ _ ks=>0≤kd∧kd<13∧(ks.length:Int)=arity kd∧(kd=0→0≤ix∧ix - d<vars)∧(kd=12→0≤ix∧ix<metas)∧fW vars metas kd d 0 ks
def fW (vars metas:Int):Int→Int→Nat→List Tm→Prop
 | _,_,_,[]=>True
 | kd,d,i,t::ts=>wf vars metas (d+below kd i) t∧fW vars metas kd d (i+1) ts
end
theorem J1 {vars metas kd d:Int}:∀{ks:List Tm}{i:Nat},(∀j t,ks[j]?=some t→wf vars metas (d+below kd ((i+j:Nat):Int)) t)→fW vars metas kd d i ks
 | [],i,_=>by simp[fW]
 | t::ts,i,h=>by
  simp only[fW];exact⟨by have:=h 0 t rfl;simpa using this,J1 fun j t' ht=>by have:=h (j+1) t' (by simpa using ht);rw[show i+1+j=i+(j+1) by omega];exact this⟩
theorem DD (k i:Int):0≤below k i∧below k i≤1:=by unfold below;split<;>omega
theorem C6 {α:Type}{l:List α}{p:Nat→α→Prop}{i:Nat}{x:α}(h:∀j,j<i→∀t,l[j]?=some t→p j t) (hx:l[i]?=some x) (hp:p i x):∀j,j<i+1→∀t,l[j]?=some t→p j t:=by
 intro j hj t ht;rcases Nat.lt_or_ge j i with h' | h'
 ·exact h j h' t ht
 have e:j=i:=by omega
 subst e;rw[hx] at ht;injection ht with ht;subst ht;exact hp
end Go.Eu
namespace Go.Abs
section
variable {α:Type}
def On (is:List Nat):Nat→List α→List α
 | _,[]=>[]
 | k,a::l=>bif is.any (Nat.beq k ·) then a::On is (k+1) l else On is (k+1) l
theorem OE (is:List Nat):∀(k:Nat) (l:List α),(On is k l).Sublist l
 | _,[]=>List.Sublist.refl _
 | k,a::l=>by
  simp only[On];cases is.any (Nat.beq k ·)
  ·exact(OE is (k+1) l).cons _
  exact(OE is (k+1) l).cons_cons _
theorem CO {is:List Nat}{l l':List α}(h:On is 0 l=l'):l'.Sublist l:=h▸OE is 0 l
def FD (H:List α):List Nat→List α→Prop
 | [],xs=>xs=[]
 | i::is,xs=>∃x xs',xs=x::xs'∧H[i]?=some x∧FD H is xs'
def Ki (H:List α):List Nat→List α→List α
 | i::is,x::xs=>Ki (H.set i x) is xs
 | _,_=>H
def C0 (is:List Nat):Nat→List α→List α
 | _,[]=>[]
 | k,a::l=>if k∈is then C0 is (k+1) l else a::C0 is (k+1) l
theorem O0:∀(k:Nat) (l:List α),C0 [] k l=l
 | _,[]=>rfl
 | k,a::l=>by simp[C0,O0 (k+1) l]
theorem O2 {is:List Nat}{j:Nat}:∀(k:Nat) (l:List α),j<k→C0 (j::is) k l=C0 is k l
 | _,[],_=>rfl
 | k,a::l,h=>by
  have:k≠j:=by omega
  have ih:=O2 (is:=is) (j:=j) (k+1) l Ar;simp[C0,this,ih]
theorem Ms {is:List Nat}{x:α}:∀(l:List α) (k i:Nat),l[i]?=some x→(k+i) ∉ is→(C0 is k l).Perm (x::C0 ((k+i)::is) k l)
 | [],k,i,h,_=>by simp at h
 | a::l,k,0,h,hn=>by
  simp at h hn;subst h;simp[C0,hn,O2 (k+1) l (Nat.lt_succ_self k)]
 | a::l,k,i+1,h,hn=>by
  simp at h;have ih:=Ms l (k+1) i h (by rw[show k+1+i=k+(i+1) by omega];exact hn);rw[show k+1+i=k+(i+1) by omega] at ih;have hk:k≠k+(i+1):=by omega
  simp only[C0,List.mem_cons,hk,false_or];split
  ·exact ih
  exact(ih.cons a).trans (.swap _ _ _)
theorem DK {H:List α}:∀{is:List Nat}{xs:List α},is.Nodup→FD H is xs→H.Perm (xs++C0 is 0 H)
 | [],xs,_,h=>by simp only[FD] at h;subst h;simp[O0]
 | i::is,xs,hn,h=>by
  obtain⟨x,xs',rfl,hx,hr⟩:=h;have hn':=List.nodup_cons.1 hn;have ih:=DK hn'.2 hr;have:=Ms (is:=is) H 0 i hx (by simpa using hn'.1);simp only[Nat.zero_add] at this;exact ih.trans (((List.Perm.refl xs').append this).trans List.perm_middle)
theorem Om {is:List Nat}{y:α}:∀(l:List α) (k i:Nat),(k+i)∈is→C0 is k (l.set i y)=C0 is k l
 | [],k,i,_=>by simp
 | a::l,k,0,h=>by simp at h;simp[C0,h]
 | a::l,k,i+1,h=>by
  have:=Om (y:=y) l (k+1) i (by rw[show k+1+i=k+(i+1) by omega];exact h);simp only[List.set_cons_succ,C0,this]
theorem Qh {i:Nat}{y:α}:∀{is:List Nat}{xs H:List α},i ∉ is→FD H is xs→FD (H.set i y) is xs
 | [],xs,H,_,h=>h
 | j::is,xs,H,hn,h=>by
  obtain⟨x,xs',rfl,hx,hr⟩:=h;simp at hn;exact⟨x,xs',O,by rw[List.getElem?_set_ne hn.1];exact hx,Qh hn.2 hr⟩
theorem Ro:∀{is:List Nat}{xs xs' H:List α},is.Nodup→FD H is xs→xs'.length=xs.length→FD (Ki H is xs') is xs'∧(∀ks k,(∀i∈is,k+i∈ks)→C0 ks k (Ki H is xs')=C0 ks k H)∧∀j,j ∉ is→(Ki H is xs')[j]?=H[j]?
 | [],xs,xs',H,_,h,hl=>by
  simp only[FD] at h;subst h;have:xs'=[]:=by simpa using hl
  subst this;exact⟨O,fun _ _ _=>O,fun _ _=>O⟩
 | i::is,xs,xs',H,hn,h,hl=>by
  obtain⟨x,xr,rfl,hx,hr⟩:=h;have hn':=List.nodup_cons.1 hn;cases xs' with
  | nil=>simp at hl
  | cons y ys =>
   have hlt:i<H.length:=(List.getElem?_eq_some_iff.1 hx).1;obtain⟨h1,h2,h3⟩:=Ro (H:=H.set i y) hn'.2 (Qh hn'.1 hr) (by simpa using hl);refine⟨⟨y,ys,O,by rw[Ki,h3 i hn'.1];simp[hlt],h1⟩,fun ks k hk=>?_,fun j hj=>?_⟩
   ·rw[Ki,h2 ks k (fun q hq=>hk q (by simp[hq])),Om _ _ _ (hk i As)]
   simp at hj;rw[Ki,h3 j hj.2,List.getElem?_set_ne (fun e=>hj.1 e.symm)]
theorem LY {is:List Nat}{xs xs' H:List α}(hn:is.Nodup) (h:FD H is xs) (hl:xs'.length=xs.length):(Ki H is xs').Perm (xs'++C0 is 0 H):=by
 obtain⟨h1,h2,_⟩:=Ro hn h hl;have:=DK hn h1
 rwa [h2 is 0 (fun i hi=>by simpa using hi)] at this
end
def iG (τ:Nat→AV) (x:AV):List Nat→Prop
 | []=>True
 | t::r=>τ t=x∧iG τ x r
theorem FQ {τ:Nat→AV}{x:AV}:∀{ts:List Nat},iG τ x ts→∀t∈ts,τ t=x
 | [],_,t,h=>by simp at h
 | a::r,h,t,ht=>by
  rcases List.mem_cons.1 ht with rfl | ht
  ·exact h.1
  exact FQ h.2 t ht
section
variable {P:Program}{S:Bt}{a T n b i:Nat}{cs:List AV}{v:AV}
theorem BN (hT:Dp P T=some (true,n)) (ha:S.τ a= .ptr b 0) (hi:S.H[i]?=some (.box b cs)) (hn:cs.length=n):eF P S (.cell a T) (.agg cs):=by
 obtain⟨d,h1,h2,h3⟩:=E1 hT;exact⟨b,cs,i,ha,hi,.inl ⟨d,h1,h2,by rw[h3,hn],rfl⟩⟩
theorem GP (hT:Dp P T=some (false,n)) (ha:S.τ a= .ptr b 0) (hi:S.H[i]?=some (.box b [v])):eF P S (.cell a T) v:=by
 obtain⟨d,h1,h2,h3⟩:=E1 hT;exact⟨b,[v],i,ha,hi,.inr ⟨d,h1,h2,O⟩⟩
end
section
variable {P:Program}{dst:Option Tmp}{ty:TypeId}{pos:String}{aft:Array Edge}{g:Option (Nat×Bool)}{ρ:Operand→AV}{H Hs Hs':List BL}{x y z:Operand}{v:AV}{c:Call}{f:Operand}{fid:FuncId}{first caps A:List AV}
theorem DH.permD {o:Oper}{H H' H'':List BL}(h:Dh P o ρ H v H') (hp:H'.Perm H''):Dh P o ρ H v H'':=by
 intro r F S a w hs hH hρ hd;have:=h r F S a w hs hH hρ hd;refine Ln this ?_ ?_
 ·rintro a' w' ⟨v',H1,F',⟨rfl,rfl⟩,hs',ht⟩;exact⟨v',H'',F',⟨O,O⟩,⟨hs'.size,hs'.tmp,hs'.heap.perm hp,hs'.defs⟩,{ ht with keys:=fun o ho=>ht.keys o (hp.mem_iff.2 ho) }⟩
 rintro e a' w' ⟨v',H1,F',u,h,_⟩;exact h.elim
theorem Co (is:List Nat) (hc:c.callee= .value f) (hf:(ρ f= .p (.fn fid)∧first=[]∧caps=[])∨ρ f= .fn (.func fid) first caps) (h:Bu P fid A Hs (HM v Hs')) (hg:FD H is Hs) (hn:is.Nodup) (hl:Hs'.length=Hs.length) (hA:first++c.args.toList.map ρ++caps=A∨(first++c.args.toList.map ρ++caps).map norm=A) :
  Dh P ⟨dst,.call c,ty,pos,aft,g⟩ ρ H v (Ki H is Hs') :=
 DH.permD (fU hc hf (DK hn hg) h hA) (LY hn hg hl).symm
theorem fI (hc:c.callee= .value f) (hf:ρ f= .fn (.func fid) first caps) (h:FF P fid A v) (hA:first++c.args.toList.map ρ++caps=A∨(first++c.args.toList.map ρ++caps).map norm=A) :
  Dh P ⟨dst,.call c,ty,pos,aft,g⟩ ρ H v H:=by
 refine(Fj (H:=H) (Hs:=[]) (Hf:=H) hc (.inr hf) (A:=A) As h hA).mono ?_;rintro r H' ⟨Hs',h1,rfl⟩;cases r with
 | val v'=>obtain⟨rfl,rfl⟩:=h1;exact⟨rfl,rfl⟩
 | panic v'=>exact h1
theorem C4 {T T2 e e2:TypeId}{sz bytes n2 n3 c i n:Nat}{o:Option Nat}{rows rows' rows2:List (List PV)}{zv:Value}(hT:FV P T=some (e,sz,bytes)) (hT2:FV P T2=some (e2,n2,n3)) (hz:zeroOf P e=some zv) (hzs:zv.cells.size=sz) (hb0:(Nat.blt 0 sz&&Nat.blt 0 bytes)=true)
  (hx:ρ x= .vs o n c) (hn:n=rows.length) (hi:H[i]?=some (.vec o sz rows c)) (hy:norm (ρ y)= .p (.lst rows')) (hsol:∀r∈rows',EB sz r) (hroom:2*(rows.length+rows'.length)*bytes≤281474976710656) (h2:rows++rows'=rows2) :
  DH P ⟨dst,.call { callee:= .builtin .append,args:=#[x,y],argTypes:=#[T,T2] },ty,pos,aft,g⟩ ρ H (NB i sz rows2 H):=by
 subst h2;exact QM hT hT2 hz hzs hb0 hx hn hi hy hsol hroom
theorem T3 {F:Nat→Prop}{w:World}{u:Value}(h:CF F w (.p .nils) u):CF F w (.vs none 0 0) u:=by
 simp only[CF,CK] at *;exact⟨Au,Au,none,h⟩
theorem WR {α : Type} : ∀ {us cs : List α}, us.length = cs.length → splice cs 0 us = us := by
 have key : ∀ (us : List α) (pre cs : List α), us.length = cs.length → splice (pre ++ cs) pre.length us = pre ++ us := by
  intro us
  induction us with
  | nil => intro pre cs h; have : cs = [] := by simpa using h.symm
           subst this; simp [splice]
  | cons u us ih =>
   intro pre cs h
   cases cs with
   | nil => simp at h
   | cons c cs =>
    simp only [splice]
    have := ih (pre ++ [u]) cs (by simpa using h)
    have e : (pre ++ c :: cs).set pre.length u = pre ++ [u] ++ cs := by simp
    rw [e]
    simpa using this
 intro us cs h
 exact key us [] cs h
theorem Bd {T:TypeId}{bl:Bool}{n b i:Nat}{cs us:List AV}(hT:Dp P T=some (bl,n+1)) (hx:ρ x= .ptr b 0) (hi:H[i]?=some (.box b cs)) (hy:EP (ρ y)=some us) (hn:us.length=n+1)
  (ho:cs.length=n+1) (h1:us.all one=true):Dh P ⟨dst,.store T x y,ty,pos,aft,g⟩ ρ H (.p .any) (H.set i (.box b us)):=by
 have:=Cl (P:=P) (dst:=dst) (ty:=ty) (pos:=pos) (aft:=aft) (g:=g) hT hx hi hy hn (by rw[ho];simp) h1
 rwa [WR (by rw[hn,ho])] at this
theorem EE {T:TypeId}{bl:Bool}{b i j sz c:Nat}{rows rows2:List (List PV)}{us:List AV}{r:List PV}(hT:Dp P T=some (bl,sz)) (hpos:Nat.blt 0 sz=true) (hx:ρ x= .ptr b (j*sz)) (hi:H[i]?=some (.vec (some b) sz rows c)) (hj:j<rows.length) (hy:EP (ρ y)=some us) (hp:F9 (us.map dn)=some r) (hrl:r.length=sz) (h1:us.all one=true) (h2:rows.set j r=rows2) :
  Dh P ⟨dst,.store T x y,ty,pos,aft,g⟩ ρ H (.p .any) (H.set i (.vec (some b) sz rows2 c)):=by
 subst h2;exact RY hT hpos hx hi hj hy hp hrl h1
theorem Ko {T e:TypeId}{sz bytes:Nat}{m:Int}{zs:List Value}{zv:Value}{zr:List PV}{rows2:List (List PV)}(hT:FV P T=some (e,sz,bytes)) (hz:zeroOf P e=some zv) (hzs:zv.cells=⟨zs⟩) (hsz:zs.length=sz) (hpos:0<sz) (hp:F9 ((zs.map GO).map dn)=some zr)
  (hx:ρ x= .p (.int .i64 m)) (hy:ρ y= .p (.int .i64 m)) (h0:0≤m) (hm:bytes*m≤281474976710656) (hm2:m≤9223372036854775807) (h2:List.replicate m.toNat zr=rows2) :
  DH P ⟨dst,.makeSlice T x y,ty,pos,aft,g⟩ ρ H (K7 sz rows2 H):=by
 subst h2;exact Rb hT hz hzs hsz hpos hp hx hy h0 hm hm2
theorem Cz {T e:TypeId}{sz bytes lo hi:Nat}{rows rows2:List (List PV)}{l h:Option Operand}(hT:FV P T=some (e,sz,bytes)) (hx:ρ x= .p (.lst rows)) (hr:∀r∈rows,r.length=sz)
  (hl:match l with | none=>lo=0 | some y=>∃k,ρ y= .p (.int k lo)) (hh:match h with | none=>hi=rows.length | some y=>∃k,ρ y= .p (.int k hi)) (h1:lo≤hi) (h2:hi≤rows.length) (h3:(rows.take hi).drop lo=rows2) :
  Dh P ⟨dst,.slice T x l h none,ty,pos,aft,g⟩ ρ H (.p (.lst rows2)) H:=by
 subst h3;exact Y2 hT hx hr hl hh h1 h2
end
section
variable {P:Program}{r:Option Nat}{ops:Array Oper}{Q:Cu→Bt→Prop}{k:Nat}{n:Nat}{τ:Nat→AV}{H H':List BL}{D:List EF}{dst:Option Tmp}{op:Op}{ty:TypeId}{pos:String}{aft:Array Edge}{v:AV}
theorem jz (ho:ops[k]?=some ⟨dst,op,ty,pos,aft,none⟩) (hd:GA dst n=true) (h:DH P ⟨dst,op,ty,pos,aft,none⟩ (ev τ) H (Zy H))
  (next:∀b,AL P r ops (k+1) ⟨n,put τ dst (.map b),.map b (D7 [])::H,D⟩ Q):AL P r ops k ⟨n,τ,H,D⟩ Q :=
 Fp (S:=⟨n,τ,H,D⟩) ho Al (H7 hd) h (fun v H' ⟨b,h1,h2⟩=>by subst h1;subst h2;exact next b) (fun _ _ h=>h.elim)
end
theorem leH {is:List Nat}{H H1 H':List BL}(h:On is 0 H=H1) (w:FW H1 H'):hY H H':=⟨H1,CO h,w⟩
theorem Dz {x y:AV}(h:norm x=y):Qs x y:=fun _ _ _ hr=>h▸hr.norm
theorem Dd:FW [] []:=rfl
theorem wl {o o':BL}{l l':List BL}(h:LA o o') (r:FW l l'):FW (o::l) (o'::l'):=⟨o',l',rfl,h,r⟩
theorem on {b:Nat}{cs cs':List AV}(h:cs.map dn=cs'):LA (.box b cs) (.box b cs'):=⟨rfl,fun F w hr=>by
 obtain⟨vs,T,h1,h2⟩:=hr;exact⟨vs,T,h1,h▸Jb h2⟩⟩
theorem Bl {n:Nat}{τ:Nat→AV}{H:List BL}{D:List EF}{i b:Nat}{cs:List AV}(hi:H[i]?=some (.box b cs)):Hv ⟨n,τ,H,D⟩ ⟨n,τ,H.set i (.box b (cs.map dn)),D⟩:=by
 intro F a w hs;refine⟨F,⟨hs.size,hs.tmp,?_,hs.defs⟩,?_⟩
 ·have hk:=Ff (x':= .box b (cs.map dn)) hi rfl;refine⟨fun o ho c hc=>?_,by show List.Nodup _;rw[hk];exact hs.heap.nodup,fun o ho=>?_,hs.heap.bd⟩
  ·rcases Da ho with rfl | ⟨j,_,hj⟩
   ·exact hs.heap.sub _ (List.mem_of_getElem? hi) c hc
   exact hs.heap.sub _ (List.mem_of_getElem? hj) c hc
  rcases Da ho with rfl | ⟨j,_,hj⟩
  ·exact(on O).2 F w (hs.heap.obj _ (List.mem_of_getElem? hi))
  exact hs.heap.obj _ (List.mem_of_getElem? hj)
 refine { Trans.refl (F:=F) (H:=H) (w:=w) with keys:=fun o ho c hc=>?_ };rcases Da ho with rfl | ⟨j,_,hj⟩
 ·exact .inl ⟨_,List.mem_of_getElem? hi,hc⟩
 exact .inl ⟨_,List.mem_of_getElem? hj,hc⟩
theorem Fi {n:Nat}{τ:Nat→AV}{H:List BL}{D:List EF}(t:Nat):Hv ⟨n,τ,H,D⟩ ⟨n,put τ (some t) (norm (τ t)),H,D⟩:=Q5 fun _ _ _ h=>h.norm
theorem ob {b:Nat}{cs cs':List AV}(h:cs=cs'):LA (.box b cs) (.box b cs'):=oe (by rw[h])
theorem om {b:Nat}{l l':List (PV×AV)}(h:l=l'):LA (.map b l) (.map b l'):=oe (by rw[h])
def Ya (mkv:AV→AV) (sz:Nat) (rows:List (List PV)):EG→List BL→Prop
 | .val v,H'=>∃o c,v=mkv (.vs o rows.length c)∧H'=[.vec o sz rows c]
 | .panic _,_=>False
section
variable {P:Program}{r:Option Nat}{ops:Array Oper}{Q:Cu→Bt→Prop}{k:Nat}{n:Nat}{τ:Nat→AV}{H H':List BL}{D:List EF}{dst:Option Tmp}{op:Op}{ty:TypeId}{pos:String}{aft:Array Edge}{v:AV}
theorem MU {c:Call}{f:Operand}{fid:FuncId}{first caps:List AV}{A:List AV}{mkv:AV→AV}{sz:Nat}{rows:List (List PV)}
  (ho:ops[k]?=some ⟨dst,.call c,ty,pos,aft,none⟩) (hd:GA dst n=true)
  (hc:c.callee= .value f) (hf:(ev τ f= .p (.fn fid)∧first=[]∧caps=[])∨ev τ f= .fn (.func fid) first caps) (h:Bu P fid A [] (Ya mkv sz rows)) (hA:first++c.args.toList.map (ev τ)++caps=A∨(first++c.args.toList.map (ev τ)++caps).map norm=A)
  (next:∀o cp,AL P r ops (k+1) ⟨n,put τ dst (mkv (.vs o rows.length cp)),.vec o sz rows cp::H,D⟩ Q):AL P r ops k ⟨n,τ,H,D⟩ Q :=
 IL ho hd hc hf (Hs:=[]) (Hf:=H) As h hA (fun v H' ⟨o,cp,h1,h2⟩=>by subst h1;subst h2;exact next o cp) (fun _ _ h=>h.elim)
end
theorem XC {P:Program}{f:FuncId}{args:List AV}{pre post:List AV}{sz:Nat}{rows:List (List PV)}(h:Bu P f args [] (Ya (fun v=> .tup (pre++v::post)) sz rows)) (hb:∀x∈pre++post,∀F F' w v,DM F w F' w→CF F w x v→CF F' w x v) :
  FF P f args (.tup (pre++ .p (.lst rows)::post)):=by
 refine⟨h.1,fun F w vs hH ha=>(h.2 F w vs hH ha).mono ?_⟩;rintro e w' ⟨r,H',F',hR,he,hH',ht⟩;cases r with
 | panic v=>exact hR.elim
 | val v =>
  obtain⟨o,c,rfl,rfl⟩:=hR;obtain⟨u,rfl,hu⟩:=he;have hbd:∀b,o=some b→b<w'.heap.size:=fun b hb=>hH'.bd b (hH'.sub _ (List.mem_cons_self ..) b (by rw[←hb];rfl));have st:DM F' w' (fun b=>F' b∧o≠some b) w':=⟨Nat.le_refl _,fun _ _ _=>rfl,fun _ h _ h'=>h h'.1⟩;have hob:=hH'.obj _ (List.mem_cons_self ..);refine⟨.val (.tup (pre++ .p (.lst rows)::post)),[],fun b=>F' b∧o≠some b,⟨O,O⟩,⟨u,O,?_⟩,?_,?_⟩
  ·simp only[CF] at hu ⊢;obtain⟨us,hus,hr⟩:=hu;refine⟨us,hus,?_⟩;have key:∀(pre:List AV) (us:List Value),(∀x∈pre++post,∀F F' w v,DM F w F' w→CF F w x v→CF F' w x v)→Bz F' w' (pre++ .vs o rows.length c::post) us→Bz (fun b=>F' b∧o≠some b) w' (pre++ .p (.lst rows)::post) us:=by
    intro pre
    induction pre with
    | nil =>
     intro us hb hr;simp only[List.nil_append,Bz] at hr ⊢;obtain⟨u,us',rfl,h1,h2⟩:=hr;refine⟨u,us',O,J9 hbd hob h1 _ st (fun b hb h=>h.2 hb),?_⟩;exact Bz.mono st _ _ h2
    | cons x pre ih =>
     intro us hb hr;simp only[List.cons_append,Bz] at hr ⊢;obtain⟨u,us',rfl,h1,h2⟩:=hr;exact⟨u,us',rfl,hb x As _ _ _ _ st h1,ih us' (fun y hy=>hb y (by simp at hy ⊢;rcases hy with h | h<;>simp[h])) h2⟩
   exact key pre us hb hr
  ·exact⟨fun _ h=>by simp at h,by simp,fun _ h=>by simp at h,fun b hb=>hH'.bd b hb.1⟩
  refine⟨ht.size,fun b hb hn=>ht.same b hb hn,fun b hb hn=>⟨ht.keep b hb hn,?_⟩,fun b hb=>ht.fresh b hb.1,fun _ h=>by simp at h,ht.os,ht.out,ht.tape⟩;intro ho;subst ho;have:=hH.bd b hb;rcases ht.keys _ (List.mem_cons_self ..) b rfl with ⟨o',ho',_⟩ | h
  ·simp at ho'
  omega
theorem Ui (c:AV) (F F':Nat→Prop) (w:World) (v:Value) (st:DM F w F' w) (h:CF F w c v):CF F' w c v:=CF.mono st _ _ h
def Fl:List AV→List AV→Prop
 | [],ys=>ys=[]
 | x::xs,ys=>∃y ys',ys=y::ys'∧Qs x y∧Fl xs ys'
theorem FB:Fl [] []:=rfl
theorem aw {x y:AV}{xs ys:List AV}(h:Qs x y) (r:Fl xs ys):Fl (x::xs) (y::ys):=⟨y,ys,rfl,h,r⟩
theorem OH {F:Nat→Prop}{w:World}:∀{xs ys:List AV}{vs:List Value},Fl xs ys→Bz F w xs vs→Bz F w ys vs
 | [],ys,vs,h,hr=>by simp only[Fl] at h;subst h;exact hr
 | x::xs,ys,vs,h,hr=>by
  obtain⟨y,ys',rfl,h1,h2⟩:=h;simp only[Bz] at hr ⊢;obtain⟨u,us,rfl,r1,r2⟩:=hr;exact⟨u,us,O,h1 F w u r1,OH h2 r2⟩
theorem N9:Qs (.p .nils) (.vs none 0 0):=fun _ _ _ h=>T3 h
theorem Bu.args {P:Program}{f:FuncId}{args A:List AV}{H:List BL}{R:EG→List BL→Prop}(h:Bu P f A H R) (hA:Fl args A):Bu P f args H R :=
 ⟨h.1,fun F w vs hH ha=>h.2 F w vs hH (OH hA ha)⟩
section
variable {P:Program}{r:Option Nat}{ops:Array Oper}{Q:Cu→Bt→Prop}{k:Nat}{n:Nat}{τ:Nat→AV}{H Hs:List BL}{D:List EF}{dst:Option Tmp}{op:Op}{ty:TypeId}{pos:String}{aft:Array Edge}{v:AV}{c:Call}{f:Operand}{fid:FuncId}{first caps A:List AV}{R:EG→List BL→Prop}
theorem S1 {S:Bt}{H':List BL}(hp:S.H.Perm H'):Hv S ⟨S.n,S.τ,H',S.D⟩:=fun F a w hs =>
 ⟨F,⟨hs.size,hs.tmp,hs.heap.perm hp,hs.defs⟩,{ Trans.refl (F:=F) (H:=S.H) (w:=w) with keys:=fun o ho b hb=> .inl ⟨o,hp.mem_iff.2 ho,hb⟩ }⟩
theorem cJ (is:List Nat) (ho:ops[k]?=some ⟨dst,.call c,ty,pos,aft,none⟩) (hd:GA dst n=true)
  (hc:c.callee= .value f) (hf:(ev τ f= .p (.fn fid)∧first=[]∧caps=[])∨ev τ f= .fn (.func fid) first caps) (h:Bu P fid A Hs R) (hg:FD H is Hs) (hn:is.Nodup) (hA:Fl (first++c.args.toList.map (ev τ)++caps) A)
  (next:∀v Hs',R (.val v) Hs'→Hs'.length=Hs.length∧AL P r ops (k+1) ⟨n,put τ dst v,Ki H is Hs',D⟩ Q) (pan:∀v Hs',R (.panic v) Hs'→Q (.panic v) ⟨n,τ,Hs'++C0 is 0 H,D⟩):AL P r ops k ⟨n,τ,H,D⟩ Q :=
 IL ho hd hc hf (DK hn hg) (h.args hA) (.inl rfl) (fun v H' hR=>by
  obtain⟨hl,hn'⟩:=next v H' hR;exact CN (S1 (S:=⟨n,put τ dst v,H'++C0 is 0 H,D⟩) (LY hn hg hl).symm) hn') pan
theorem aQ (is:List Nat) (ho:ops[k]?=some ⟨dst,.call c,ty,pos,aft,none⟩) (hd:GA dst n=true)
  (hc:c.callee= .value f) (hf:(ev τ f= .p (.fn fid)∧first=[]∧caps=[])∨ev τ f= .fn (.func fid) first caps) (h:Bu P fid A Hs R) (hg:FD H is Hs) (hn:is.Nodup) (hA:Fl (first++c.args.toList.map (ev τ)++caps) A)
  (next:∀v Hs',R (.val v) Hs'→AL P r ops (k+1) ⟨n,put τ dst v,Hs'++C0 is 0 H,D⟩ Q) (pan:∀v Hs',R (.panic v) Hs'→Q (.panic v) ⟨n,τ,Hs'++C0 is 0 H,D⟩):AL P r ops k ⟨n,τ,H,D⟩ Q :=
 IL ho hd hc hf (DK hn hg) (h.args hA) (.inl rfl) next pan
theorem ML {sz:Nat}:Hv ⟨n,τ,H,D⟩ ⟨n,τ,.vec none sz [] 0::H,D⟩:=by
 intro F a w hs;have hH:HRel F (.vec none sz [] 0::H) w:=⟨fun o ho b hb=>by
   rcases List.mem_cons.1 ho with rfl | ho
   ·cases hb
   ·exact hs.heap.sub o ho b hb,by simpa [List.filterMap_cons,BL.key] using hs.heap.nodup,fun o ho=>by
   rcases List.mem_cons.1 ho with rfl | ho
   ·exact⟨O,O⟩
   exact hs.heap.obj o ho,hs.heap.bd⟩
 exact⟨F,⟨hs.size,hs.tmp,hH,hs.defs⟩,⟨Nat.le_refl _,fun _ _ _=>O,fun _ h _=>h,fun _ h=> .inl h,fun o ho b hb=>by
   rcases List.mem_cons.1 ho with rfl | ho
   ·cases hb
   exact .inl ⟨o,ho,hb⟩,O,O,O⟩⟩
end
section
variable {P:Program}{r:Option Nat}{ops:Array Oper}{Q:Cu→Bt→Prop}{k:Nat}{n:Nat}{τ:Nat→AV}{H:List BL}{D:List EF}{o:Option Nat}{sz cp i:Nat}{rows:List (List PV)}
theorem Uq {F:Nat→Prop}{w:World}{a:Act}(hs:DX F ⟨n,τ,H,D⟩ a w) (hi:H[i]?=some (.vec o sz rows cp)) (hne:0<rows.length):∃b,o=some b:=by
 have:=hs.heap.obj _ (List.mem_of_getElem? hi);cases o with
 | none=>obtain⟨h,_⟩:=this;simp[h] at hne
 | some b=>exact⟨b,rfl⟩
theorem NG (hi:H[i]?=some (.vec o sz rows cp)) (hne:0<rows.length) (next:∀b,o=some b→AL P r ops k ⟨n,τ,H,D⟩ Q):AL P r ops k ⟨n,τ,H,D⟩ Q:=fun F a w hs=>by
 obtain⟨b,hb⟩:=Uq hs hi hne;exact next b hb F a w hs
theorem Kn {c:Code}(hi:H[i]?=some (.vec o sz rows cp)) (hne:0<rows.length) (next:∀b,o=some b→IT P r c ⟨n,τ,H,D⟩ Q):IT P r c ⟨n,τ,H,D⟩ Q:=fun F a w hs=>by
 obtain⟨b,hb⟩:=Uq hs hi hne;exact next b hb F a w hs
end
section
variable {P:Program}{dst:Option Tmp}{ty:TypeId}{pos:String}{aft:Array Edge}{g:Option (Nat×Bool)}{ρ:Operand→AV}{H:List BL}
theorem BS {a:Operand}{T e:TypeId}{n n1 n2:Nat}{rows:List (List PV)}(hT:FV P T=some (e,n1,n2)) (hx:ρ a= .p (.lst rows)) (hn:rows.length=n) :
  Dh P ⟨dst,.call { callee:= .builtin .len,args:=#[a],argTypes:=#[T] },ty,pos,aft,g⟩ ρ H (.p (.int .i64 n)) H:=Me hT (.inl ⟨rows,hx,hn⟩)
theorem Mo {a:Operand}{T e:TypeId}{m n n1 n2 c:Nat}{o:Option Nat}(hT:FV P T=some (e,n1,n2)) (hx:ρ a= .vs o m c) (hn:m=n) :
  Dh P ⟨dst,.call { callee:= .builtin .len,args:=#[a],argTypes:=#[T] },ty,pos,aft,g⟩ ρ H (.p (.int .i64 n)) H:=Me hT (.inr (.inl ⟨o,c,by rw[hx,hn]⟩))
end
section
variable {P:Program}{dst:Option Tmp}{ty:TypeId}{pos:String}{aft:Array Edge}{g:Option (Nat×Bool)}{ρ:Operand→AV}{H:List BL}{x y:Operand}
end
section
variable {P:Program}{ops:Array Oper}{n:Nat}{τ₀:Nat→AV}{D:List EF}{Q:Cu→Bt→Prop}{opn:Nat→Bool}{k:Nat}{τ:Nat→AV}{H:List BL}{rd:iM}{ef:eW}{effs:List Bool}{fx:List (Nat×Sp)}{dst:Option Tmp}{ty:TypeId}{pos:String}{aft:Array Edge}{c:Call}{f:Operand}{fid:FuncId}{first caps A:List AV}{mkv:AV→AV}{sz:Nat}{rows:List (List PV)}
theorem jJ (fx':List (Nat×Sp)) (ho:ops[k]?=some ⟨dst,.call c,ty,pos,aft,none⟩) (hn:opn k=true)
  (hc:c.callee= .value f) (hf:(ev τ f= .p (.fn fid)∧first=[]∧caps=[])∨ev τ f= .fn (.func fid) first caps) (h:Bu P fid A [] (Ya mkv sz rows)) (hA:first++c.args.toList.map (ev τ)++caps=A∨(first++c.args.toList.map (ev τ)++caps).map norm=A) (haft:El ops k (fx'.map (·.1))=true)
  (next:∀o cp,KO ops k H (.vec o sz rows cp::H) rd∧HC k (.eff (mkv (.vs o rows.length cp)) (.vec o sz rows cp::H)) fx∧Dr P ops n τ₀ D Q opn (k+1) (put τ dst (mkv (.vs o rows.length cp))) (.vec o sz rows cp::H) rd ((k,H,.vec o sz rows cp::H)::ef) (true::effs) (fx'++fx)):Dr P ops n τ₀ D Q opn k τ H rd ef effs fx :=
 Mp fx' ho hn (Fj (H:=H) (Hs:=[]) (Hf:=H) hc hf As h hA) haft ⟨_,_,_,⟨none,0,rfl,rfl⟩,rfl⟩ (fun v H' ⟨_,h,_⟩=>h.elim) (fun v H' ⟨Hs',⟨o,cp,h1,h2⟩,h3⟩=>by subst h1;subst h2;subst h3;exact next o cp)
end
section
variable {P:Program}{dst:Option Tmp}{ty:TypeId}{pos:String}{aft:Array Edge}{g:Option (Nat×Bool)}{ρ:Operand→AV}{H Hs Hs':List BL}{v:AV}{c:Call}{f:Operand}{fid:FuncId}{first caps A:List AV}
theorem G1 (hc:c.callee= .value f) (hf:ρ f= .p (.fn fid)) (h:FF P fid A v) (hA:Fl (c.args.toList.map ρ) A):Dh P ⟨dst,.call c,ty,pos,aft,g⟩ ρ H v H:=BM hc hf (h.args hA) rfl
end
end Go.Abs
namespace Go.Eu
open Go.Abs
structure Mv where
 type:Tm
 known:Bool
 value:Tm
 cls:Bool
 deriving Inhabited
def GC (n:Int):List PV:=[I n]
def GD (s:ByteArray):List PV:=[.str s]
def qp (b:Bool):List PV:=[.bool b]
def mU (m:Mv):List PV:=BU m.type++(.bool m.known::(BU m.value++[.bool m.cls]))
theorem K1 {ts:List Int}{i:Nat}{t:Int}(h:ts[i]?=some t):(ts.map GC)[i]?=some (GC t):=by simp[h]
theorem Nq {ts:List ByteArray}{i:Nat}{t:ByteArray}(h:ts[i]?=some t):(ts.map GD)[i]?=some (GD t):=by simp[h]
abbrev MV (m:Mv):AV:= .agg ((mU m).map .p)
abbrev qz (l:List Mv):AV:= .p (.lst (l.map mU))
abbrev rC (l:List Int):AV:= .p (.lst (l.map GC))
def ot (sz:Nat) {α:Type}(f:α→List PV):Prop:=∀a,EB sz (f a)
theorem Gi {α:Type}{sz:Nat}{f:α→List PV}(h:∀a,EB sz (f a)) (l:List α):∀r∈l.map f,EB sz r:=by
 intro r hr;obtain⟨a,_,rfl⟩:=List.mem_map.1 hr;exact h a
theorem KW (t:Tm):EB 5 (BU t):=by
 obtain⟨k,i,n,l,s⟩:=t;refine⟨O,?_⟩;intro c hc;simp[BU] at hc;rcases hc with rfl | rfl | rfl | rfl | rfl<;>simp
theorem B9 (l:List Tm):∀r∈BK l,EB 5 r:=by rw[Ea];exact Gi KW l
theorem OZ (l:List Int):∀r∈l.map GC,EB 1 r:=Gi (f:=GC) (fun a=>⟨rfl,by simp[GC]⟩) l
theorem Jt (l:List ByteArray):∀r∈l.map GD,EB 1 r:=Gi (f:=GD) (fun a=>⟨rfl,by simp[GD]⟩) l
theorem Ml (l:List CT):∀r∈l.map Gm,EB 2 r:=Gi (f:=Gm) (fun a=>⟨rfl,by simp[Gm]⟩) l
theorem Sg (l:List Cf):∀r∈l.map CD,EB 2 r:=Gi (f:=CD) (fun a=>⟨rfl,by simp[CD]⟩) l
theorem CQ {sz:Nat}{rows:List (List PV)}(h:∀r∈rows,EB sz r):∀r∈rows,r.length=sz:=fun r hr=>(h r hr).1
theorem O7 (a b:List Tm):BK a++BK b=BK (a++b):=by simp[Ea]
theorem JS {α:Type}{f:α→List PV}(a b:List α):a.map f++b.map f=(a++b).map f:=by simp
theorem Ru (l:List Tm) (j:Nat) (x:Tm):(BK l).set j (BU x)=BK (l.set j x):=by simp[Ea,List.map_set]
theorem dH {α:Type}{f:α→List PV}(l:List α) (j:Nat) (x:α):(l.map f).set j (f x)=(l.set j x).map f:=by simp[List.map_set]
theorem lL (n:Nat) (x:Tm):List.replicate n (BU x)=BK (List.replicate n x):=by simp[Ea]
theorem jk {α:Type}{f:α→List PV}(n:Nat) (x:α):List.replicate n (f x)=(List.replicate n x).map f:=by simp
theorem Sa (l:List Tm) (hi:Nat):((BK l).take hi).drop 0=BK (l.take hi):=by simp[Ea,List.map_take]
theorem XF {α:Type}{f:α→List PV}(l:List α) (hi:Nat):((l.map f).take hi).drop 0=(l.take hi).map f:=by simp[List.map_take]
theorem L8 (l:List Tm) (lo:Nat):((BK l).take (BK l).length).drop lo=BK (l.drop lo):=by rw[List.take_length];simp[Ea,List.map_drop]
theorem iq {α:Type}{f:α→List PV}(l:List α) (lo:Nat):((l.map f).take (l.map f).length).drop lo=(l.drop lo).map f:=by rw[List.take_length,List.map_drop]
theorem Gk {sz:Nat}{r:List PV}(h:EB sz r):(r.map AV.p).all one=true:=by
 simp only[List.all_eq_true];intro x hx;obtain⟨c,hc,rfl⟩:=List.mem_map.1 hx;have:=h.2 c hc;cases c<;>simp_all [one]
theorem DR (t:Tm):((BU t).map AV.p).all one=true:=Gk (KW t)
theorem cH {r:List PV}(h:∀c∈r,c≠ .nils):(r.map AV.p).map dn=r.map .p:=by
 induction r with
 | nil=>rfl
 | cons c r ih =>
  simp only[List.map_cons];rw[ih fun d hd=>h d (by simp[hd])];have:=h c As;cases c<;>simp_all [dn]
theorem JY (t:Tm):F9 (((BU t).map AV.p).map dn)=some (BU t):=by obtain⟨k,i,n,l,s⟩:=t;rfl
end Go.Eu
namespace Go.Eu
def TJ (f a:Tm):Tm:= .mk 4 0 ⟨#[]⟩ [] [f,a]
def apply (f:Tm) (xs:List Tm):Tm:=xs.foldl TJ f
theorem P4 {f:Tm}{xs:List Tm}{i:Nat}{x:Tm}(h:xs[i]?=some x):apply f (xs.take (i+1))=TJ (apply f (xs.take i)) x:=by
 simp[apply,List.take_add_one,h]
def BD:Tm→Tm×List Tm
 | .mk k i n l [f,a]=>if k=4 then ((BD f).1,(BD f).2++[a]) else (.mk k i n l [f,a],[])
 | t=>(t,[])
theorem MJ {k i:Int}{n:ByteArray}{l:List Cf}{ts:List Tm}(h:k≠4∨((ts.length:Nat):Int)≠2):BD (.mk k i n l ts)=(.mk k i n l ts,[]):=by
 unfold BD;split
 ·rename_i k' i' n' l' f a e;injection e with e1 e2 e3 e4 e5;subst e1 e2 e3 e4 e5;simp at h;rw[if_neg h]
 rfl
theorem SK {k i:Int}{n:ByteArray}{l:List Cf}{ts:List Tm}{x y:Tm}(h:k=4∧((ts.length:Nat):Int)=2) (hx:ts[0]?=some x) (hy:ts[1]?=some y):BD (.mk k i n l ts)=((BD x).1,(BD x).2++[y]):=by
 obtain⟨rfl,h2⟩:=h
 match ts,h2,hx,hy with
 | [a,b],_,hx,hy =>
  simp at hx hy;subst hx hy;simp[BD]
theorem cP {ts:List Tm}{x y:Tm}(h:((ts.length:Nat):Int)=2) (hx:ts[0]?=some x) (hy:ts[1]?=some y):ts=[x,y]:=by
 match ts,h,hx,hy with
 | [a,b],_,hx,hy =>
  simp at hx hy;subst hx hy;rfl
theorem H8:∀(t:Tm),size (BD t).1+Bg (BD t).2+(BD t).2.length=size t
 | .mk k i n l [f,a]=>by
  unfold BD;split
  ·have:=H8 f;simp[size,Bg] at this ⊢;have e:∀(xs:List Tm) (y:Tm),Bg (xs++[y])=Bg xs+size y:=by
    intro xs y
    induction xs with
    | nil=>simp[Bg]
    | cons z zs ih=>simp[Bg,ih];omega
   rw[e];omega
  ·simp[Bg]
 | .mk k i n l []=>by simp[BD,Bg]
 | .mk k i n l [_]=>by simp[BD,Bg]
 | .mk k i n l (_::_::_::_)=>by simp[BD,Bg]
theorem SF (t:Tm):(BD t).2.length<size t:=by
 have:=H8 t;have:=size_pos (BD t).1;omega
def V9 (k:Int) (xs:List Tm) (t:Tm):Tm:=xs.foldr (fun a t=> .mk k 0 ⟨#[]⟩ [] [a,t]) t
theorem sd:(∀(p:Prop) [Decidable p],(decide p=true)=p)∧(∀{p:Prop} [Decidable p],decide p=false↔¬p)∧(∀{α:Type} [BEq α] [LawfulBEq α] {a b:α},(a==b)=true↔a=b)∧(∀{α:Type} [BEq α] [LawfulBEq α] {a b:α},(a !=b)=true↔a≠b)∧(∀{α:Type} [BEq α] [LawfulBEq α] {a b:α},(a==b)=false↔a≠b)∧(∀{α:Type} [BEq α] [LawfulBEq α] {a b:α},(a !=b)=false↔a=b)∧(∀{α:Type}(a b:α),(a≠b)=¬(a=b))∧(∀{α:Type} [LT α] {x y:α},x > y↔y<x)∧(∀{α:Type} [LE α] {x y:α},x≥y↔y≤x)∧(∀(b:Bool),(¬(b=true))=(b=false))∧(∀(b:Bool),(¬(b=false))=(b=true))∧(∀(b:Bool),((!b)=true)=(b=false))∧(∀(b:Bool),((!b)=false)=(b=true))∧(∀{a b:Int},¬a<b↔b≤a)∧(∀{a b:Int},¬a≤b↔b<a) :=
 ⟨fun _=>decide_eq_true_eq,decide_eq_false_iff_not,beq_iff_eq,bne_iff_ne,beq_eq_false_iff_ne,bne_eq_false_iff_eq,ne_eq,gt_iff_lt,ge_iff_le,Bool.not_eq_true,Bool.not_eq_false,fun b=>by cases b<;>simp,fun b=>by cases b<;>simp,Int.not_lt,Int.not_le⟩
theorem se:(∀(ts:List Tm),(BK ts).length=ts.length)∧(∀{α β:Type}{ays:List α}{f:α→β},(ays.map f).length=ays.length)∧(∀{α:Type}{n:Nat}{a:α},(List.replicate n a).length=n)∧(∀(a b:Bool),((a||b)=true)=(a=true∨b=true))∧(∀(a b:Bool),((a&&b)=true)=(a=true∧b=true))∧(∀{x y:Bool},(x||y)=false↔x=false∧y=false)∧(∀{x y:Bool},(x&&y)=false↔x=true→y=false) :=
 ⟨Bc,List.length_map _,List.length_replicate,Bool.or_eq_true,Bool.and_eq_true,Bool.or_eq_false_iff,Bool.and_eq_false_imp⟩
end Go.Eu
namespace Go.Eu
open Go.Abs
def PH (i:Int):Tm:= .mk 0 i ⟨#[]⟩ [] []
def Be:Tm:= .mk 0 0 ⟨#[]⟩ [] []
def GI (er e:Int):Int:=if er=0 then e else er
def NK (er i:Int):Int:=if i > 65535 then GI er 24 else er
mutual
def Fo:Tm→Int
 | .mk _ _ _ _ ks=>J6 1 ks
def J6:Int→List Tm→Int
 | n,[]=>n
 | n,t::ts=>J6 (wr (n+Fo t)) ts
end
mutual
def Ep:Tm→Int
 | .mk _ _ _ _ ks=>wr (JL 0 ks+1)
def JL:Int→List Tm→Int
 | n,[]=>n
 | n,t::ts=>JL (max n (Ep t)) ts
end
mutual
def Ce (b fr:Int):Int→Int→Tm→Tm×Int
 | d,er,.mk k i n l ks =>
  if k=0 then
   (if i<wr (fr+d) then (.mk k i n l ks,er)
    else if wr (i+b)<wr (fr+d) then (.mk k i n l ks,GI er 24)
    else (PH (wr (i+b)),NK er (wr (i+b))))
  else ((.mk k i n l (C9 b fr k d 0 er ks).1),(C9 b fr k d 0 er ks).2)
def C9 (b fr k:Int):Int→Nat→Int→List Tm→List Tm×Int
 | d,j,er,[]=>([],er)
 | d,j,er,t::ts=>((Ce b fr (d+below k j) er t).1::(C9 b fr k d (j+1) (Ce b fr (d+below k j) er t).2 ts).1,(C9 b fr k d (j+1) (Ce b fr (d+below k j) er t).2 ts).2)
end
mutual
def CW (vs:List Tm):Int→Int→Int→Tm→Tm×Int×Int
 | d,er,nd,.mk k i n l ks =>
  if nd > 4096 then (.mk k i n l ks,er,nd)
  else if k=0∧i≥d∧i - d<(vs.length:Int) then
   ((Ce d 0 0 er (vs.getD (i - d).toNat Be)).1,(Ce d 0 0 er (vs.getD (i - d).toNat Be)).2,wr (nd+Fo (vs.getD (i - d).toNat Be)))
  else if k=0 then
   (if i≥d then (PH (wr (i - vs.length)),NK er (wr (i - vs.length)),wr (nd+1)) else (.mk k i n l ks,er,wr (nd+1)))
  else ((.mk k i n l (Cg vs k d 0 er (wr (nd+1)) ks).1),(Cg vs k d 0 er (wr (nd+1)) ks).2)
def Cg (vs:List Tm) (k:Int):Int→Nat→Int→Int→List Tm→List Tm×Int×Int
 | d,j,er,nd,[]=>([],er,nd)
 | d,j,er,nd,t::ts=>((CW vs (d+below k j) er nd t).1::(Cg vs k d (j+1) (CW vs (d+below k j) er nd t).2.1 (CW vs (d+below k j) er nd t).2.2 ts).1,
   (Cg vs k d (j+1) (CW vs (d+below k j) er nd t).2.1 (CW vs (d+below k j) er nd t).2.2 ts).2)
end
def Cv (t:Tm) (vs:List Tm) (d:Int):Tm×Int :=
 if (CW vs (min d 65536) 0 0 t).2.2 > 4096 then (Be,5)
 else if (CW vs (min d 65536) 0 0 t).2.1≠0 then (Be,(CW vs (min d 65536) 0 0 t).2.1)
 else if Ep (CW vs (min d 65536) 0 0 t).1 > 200 then (Be,7)
 else ((CW vs (min d 65536) 0 0 t).1,0)
structure Ik where
 steps:Int
 nodes:Int
 forms:Int
 limit:Int
 over:Bool
 deriving Inhabited
def ZV (c:Ik):List PV:=[I c.steps,I c.nodes,I c.forms,I c.limit,.bool c.over]
def Ik.form (c:Ik) (t:Tm) (e:Int):Ik :=
 { c with forms:=wr (c.forms+Fo t),over:=c.over||(e !=0||decide (c.steps > c.limit)||decide (c.nodes > wr (2*c.limit))||decide (wr (c.forms+Fo t) > wr (40*c.limit))||decide (Fo t > 2000)||decide (Ep t > 95)) }
def Ik.sized (c:Ik) (t:Tm):Ik:={ c with over:=c.over||(decide (Fo t > 2000)||decide (Ep t > 95)) }
def qA:Ik:=⟨0,0,0,1000,false⟩
end Go.Eu
namespace Go.Eu
theorem C2 {α:Type}{l:List α}{i:Nat}{x:α}(h:l[i]?=some x):l.drop i=x::l.drop (i+1):=by
 have hlt:=(List.getElem?_eq_some_iff.1 h).1;have e:l[i]=x:=(List.getElem?_eq_some_iff.1 h).2;rw[List.drop_eq_getElem_cons hlt,e]
theorem TH {α:Type}{l:List α}{i:Nat}{x d:α}(h:l[i]?=some x):l.getD i d=x:=by simp[List.getD,h]
end Go.Eu
namespace Go.Eu
open Go.Abs
theorem WE (n:Int):JJ (wr n):=by
 unfold JJ wr IntKind.wrap;have:IntKind.i64.min= -9223372036854775808:=rfl;have:IntKind.i64.max=9223372036854775807:=rfl;simp[IntKind.signed,IntKind.bits];omega
theorem cA (i:Int):Nd (PH (wr i)):=by
 have:=WE i;exact⟨by decide,by decide,by simp,by decide,trivial,⟨by decide,by decide⟩,this⟩
theorem PZ:Nd Be:=⟨by decide,by decide,by simp,by decide,trivial,⟨by decide,by decide⟩,⟨by decide,by decide⟩⟩
mutual
theorem SG (b fr:Int):∀(t:Tm) (d er:Int),Nd t→Nd (Ce b fr d er t).1
 | .mk k i n l ks,d,er,h=>by
  unfold Ce;split
  ·split
   ·exact h
   split
   ·exact h
   exact cA _
  simp only[Nd] at h ⊢;obtain⟨h1,h2,h3,h4,h5,h6⟩:=h;obtain⟨e1,e2⟩:=Qr b fr k ks d 0 er h5;exact⟨h1,h2,h3,by rw[e1];exact h4,e2,h6⟩
theorem Qr (b fr k:Int):∀(ts:List Tm) (d:Int) (j:Nat) (er:Int),Mk ts→(C9 b fr k d j er ts).1.length=ts.length∧Mk (C9 b fr k d j er ts).1
 | [],d,j,er,h=>by simp[C9,Mk]
 | t::ts,d,j,er,h=>by
  simp only[C9,Mk,List.length_cons] at *;have:=SG b fr t (d+below k j) er h.1;obtain⟨e1,e2⟩:=Qr b fr k ts d (j+1) (Ce b fr (d+below k j) er t).2 h.2;exact⟨by rw[e1],this,e2⟩
end
theorem dk {vs:List Tm}(h:Mk vs) (i:Nat):Nd (vs.getD i Be):=by
 cases e:vs[i]? with
 | none=>simp[List.getD,e];exact PZ
 | some x=>rw[TH e];exact Dy h e
mutual
theorem SC:∀(t:Tm) (vs:List Tm) (d er nd:Int),Nd t→Mk vs→Nd (CW vs d er nd t).1
 | .mk k i n l ks,vs,d,er,nd,h,hv=>by
  unfold CW;split
  ·exact h
  split
  ·exact SG _ _ _ _ _ (dk hv _)
  split
  ·split
   ·exact cA _
   exact h
  simp only[Nd] at h ⊢;obtain⟨h1,h2,h3,h4,h5,h6⟩:=h;obtain⟨e1,e2⟩:=RC ks vs k d 0 er (wr (nd+1)) h5 hv;exact⟨h1,h2,h3,by rw[e1];exact h4,e2,h6⟩
theorem RC:∀(ts:List Tm) (vs:List Tm) (k d:Int) (j:Nat) (er nd:Int),Mk ts→Mk vs→(Cg vs k d j er nd ts).1.length=ts.length∧Mk (Cg vs k d j er nd ts).1
 | [],vs,k,d,j,er,nd,h,hv=>by simp[Cg,Mk]
 | t::ts,vs,k,d,j,er,nd,h,hv=>by
  simp only[Cg,Mk,List.length_cons] at *;have:=SC t vs (d+below k j) er nd h.1 hv;obtain⟨e1,e2⟩:=RC ts vs k d (j+1) (CW vs (d+below k j) er nd t).2.1 (CW vs (d+below k j) er nd t).2.2 h.2 hv;exact⟨by rw[e1],this,e2⟩
end
theorem ZY (t:Tm) (vs:List Tm) (d:Int) (h:Nd t) (hv:Mk vs):Nd (Cv t vs d).1:=by
 unfold Cv;split
 ·exact PZ
 split
 ·exact PZ
 split
 ·exact PZ
 exact SC t vs _ _ _ h hv
theorem T4 {o:Option Nat}{c:Nat}(l:List Tm) {l':List Tm}(h:l=l'):AV.vs o (BK l).length c= .vs o (BK l').length c:=by rw[h]
theorem Gq {α:Type}{f:α→List PV}{o:Option Nat}{c:Nat}(l:List α) {l':List α}(h:l=l'):AV.vs o (l.map f).length c= .vs o (l'.map f).length c:=by rw[h]
theorem Oh {o:Option Nat}{sz c:Nat}(l:List Tm) {l':List Tm}(h:l=l'):LA (.vec o sz (BK l) c) (.vec o sz (BK l') c):=oe (by rw[h])
theorem F6 {α:Type}{f:α→List PV}{o:Option Nat}{sz c:Nat}(l:List α) {l':List α}(h:l=l'):LA (.vec o sz (l.map f) c) (.vec o sz (l'.map f) c):=oe (by rw[h])
theorem DF {o:Option Nat}{c:Nat}(l:List Tm) {l':List Tm}(h:l.length=l'.length):AV.vs o (BK l).length c= .vs o (BK l').length c:=by rw[Bc,Bc,h]
theorem S4 {α:Type}{f:α→List PV}{o:Option Nat}{c:Nat}(l:List α) {l':List α}(h:l.length=l'.length):AV.vs o (l.map f).length c= .vs o (l'.map f).length c:=by rw[List.length_map,List.length_map,h]
mutual
def W7:List Int→Tm→List Int
 | l,.mk k i _ _ ks=>if k=12 then (if i∈l then l else TX (l++[i]) ks) else TX l ks
def TX:List Int→List Tm→List Int
 | l,[]=>l
 | l,t::ts=>TX (W7 l t) ts
end
def rB (l:List Int) (n:Int):Bool:=decide (n∈l)
def ay (fr:Int):Nat→Nat→List Tm
 | _,0=>[]
 | m,k+1=>PH (fr+(m+k:Nat))::ay fr m k
def lg (n fr:Int):List Tm:=if n<1∨n > 4096∨fr<0 then [] else ay fr 0 n.toNat
def nF:List Int→List Tm→Option (List Int)
 | l,[]=>some l
 | l,.mk k i _ _ _::ts=>if k≠0∨i∈l then none else nF (l++[i]) ts
def qZ (t:Tm):Int×List Int×Bool :=
 if (BD t).1.kind≠12 then (0,[],false)
 else match nF [] (BD t).2 with
  | none=>(0,[],false)
  | some l=>((BD t).1.index,l,true)
def qM (ms:List Mv) (ctx:List Tm) (t:Tm) (cls:Bool):List Mv×Tm×Int :=
 if ms.length≥2000 then ([],Be,6)
 else if Fo (V9 6 ctx t) > 4096 then ([],Be,5)
 else if Ep (V9 6 ctx t) > 200 then ([],Be,7)
 else (ms++[⟨V9 6 ctx t,false,Be,cls⟩],apply (.mk 12 ms.length ⟨#[]⟩ [] []) (lg ctx.length 0),0)
end Go.Eu
namespace Go.Eu
end Go.Eu
namespace Go.Eu
open Go.Abs
theorem Ej {n:Int}(h:JJ n):wr n=n:=TU (k:= .i64) h.1 h.2
mutual
theorem S3 (B:Int) (hB:B≤4611686018427387904):∀(t:Tm),(size t:Int)<B→Fo t=size t
 | .mk k i n l ks,h=>by
  have h':(1:Int)+Bg ks<B:=by rw[size] at h;omega
  show J6 1 ks=_;rw[Qt B hB ks 1 Ar h',size];omega
theorem Qt (B:Int) (hB:B≤4611686018427387904):∀(ts:List Tm) (n:Int),0≤n→n+Bg ts<B→J6 n ts=n+Bg ts
 | [],n,_,_=>by simp[J6,Bg]
 | t::ts,n,h0,h=>by
  simp only[Bg,J6] at *;rw[S3 B hB t (by have:=size_pos t;omega),Ej ⟨by omega,by omega⟩,Qt B hB ts (n+size t) Ar Ar];omega
end
theorem Qb {t:Tm}(h:(size t:Int)<4611686018427387904):Fo t=size t:=S3 _ (Int.le_refl _) t h
mutual
def Wt:Tm→Prop
 | .mk k i _ _ ks=>(ks.length:Int)=arity k∧(k=12→0≤i)∧Mn ks
def Mn:List Tm→Prop
 | []=>True
 | t::ts=>Wt t∧Mn ts
end
theorem Pl:∀{ts:List Tm}{i:Nat}{t:Tm},Mn ts→ts[i]?=some t→Wt t
 | [],i,t,_,h=>by simp at h
 | a::ts,0,t,hn,h=>by simp at h;subst h;exact hn.1
 | a::ts,i+1,t,hn,h=>by simp at h;exact Pl hn.2 h
theorem KI (a b:List Tm):Bg (a++b)=Bg a+Bg b:=by
 induction a with
 | nil=>simp[Bg]
 | cons x a ih=>simp[Bg,ih];omega
mutual
theorem gx {vars metas:Int}:∀(t:Tm) (d:Int),wf vars metas d t→Wt t
 | .mk k i n l ks,d,h=>by
  simp only[wf,Wt] at *;exact⟨h.2.2.1,fun e=>(h.2.2.2.2.1 e).1,cU ks k d 0 h.2.2.2.2.2⟩
theorem cU {vars metas:Int}:∀(ts:List Tm) (k d:Int) (j:Nat),fW vars metas k d j ts→Mn ts
 | [],k,d,j,h=>trivial
 | t::ts,k,d,j,h=>by
  simp only[fW,Mn] at *;exact⟨gx t _ h.1,cU ts k d (j+1) h.2⟩
end
theorem ao (i:Int):Wt (PH i):=⟨by simp[arity],by simp,trivial⟩
theorem Pq:Wt Be:=⟨by simp[arity],by simp,trivial⟩
mutual
theorem Sw (b fr:Int):∀(t:Tm) (d er:Int),Wt t→Wt (Ce b fr d er t).1
 | .mk k i n l ks,d,er,h=>by
  unfold Ce;split
  ·split
   ·exact h
   split
   ·exact h
   exact ao _
  simp only[Wt] at h ⊢;obtain⟨e1,e2⟩:=Qi b fr k ks d 0 er h.2.2;exact⟨by rw[e1];exact h.1,h.2.1,e2⟩
theorem Qi (b fr k:Int):∀(ts:List Tm) (d:Int) (j:Nat) (er:Int),Mn ts→(C9 b fr k d j er ts).1.length=ts.length∧Mn (C9 b fr k d j er ts).1
 | [],d,j,er,h=>by simp[C9,Mn]
 | t::ts,d,j,er,h=>by
  simp only[C9,Mn,List.length_cons] at *;have:=Sw b fr t (d+below k j) er h.1;obtain⟨e1,e2⟩:=Qi b fr k ts d (j+1) (Ce b fr (d+below k j) er t).2 h.2;exact⟨by rw[e1],this,e2⟩
end
theorem dL {vs:List Tm}(h:Mn vs) (i:Nat):Wt (vs.getD i Be):=by
 cases e:vs[i]? with
 | none=>simp[List.getD,e];exact Pq
 | some x=>rw[TH e];exact Pl h e
mutual
theorem Rl:∀(t:Tm) (vs:List Tm) (d er nd:Int),Wt t→Mn vs→Wt (CW vs d er nd t).1
 | .mk k i n l ks,vs,d,er,nd,h,hv=>by
  unfold CW;split
  ·exact h
  split
  ·exact Sw _ _ _ _ _ (dL hv _)
  split
  ·split
   ·exact ao _
   exact h
  simp only[Wt] at h ⊢;obtain⟨e1,e2⟩:=Qa ks vs k d 0 er (wr (nd+1)) h.2.2 hv;exact⟨by rw[e1];exact h.1,h.2.1,e2⟩
theorem Qa:∀(ts:List Tm) (vs:List Tm) (k d:Int) (j:Nat) (er nd:Int),Mn ts→Mn vs→(Cg vs k d j er nd ts).1.length=ts.length∧Mn (Cg vs k d j er nd ts).1
 | [],vs,k,d,j,er,nd,h,hv=>by simp[Cg,Mn]
 | t::ts,vs,k,d,j,er,nd,h,hv=>by
  simp only[Cg,Mn,List.length_cons] at *;have:=Rl t vs (d+below k j) er nd h.1 hv;obtain⟨e1,e2⟩:=Qa ts vs k d (j+1) (CW vs (d+below k j) er nd t).2.1 (CW vs (d+below k j) er nd t).2.2 h.2 hv;exact⟨by rw[e1],this,e2⟩
end
theorem Yw (t:Tm) (vs:List Tm) (d:Int) (h:Wt t) (hv:Mn vs):Wt (Cv t vs d).1:=by
 unfold Cv;split
 ·exact Pq
 split
 ·exact Pq
 split
 ·exact Pq
 exact Rl t vs _ _ _ h hv
mutual
theorem Oi (b fr:Int):∀(t:Tm) (d er:Int),t.kind=0∧t.kids=[]∨Wt t→size (Ce b fr d er t).1=size t
 | .mk k i n l ks,d,er,h=>by
  unfold Ce;split
  ·rename_i hk;split
   ·rfl
   split
   ·rfl
   have:ks=[]:=by
    rcases h with h | h
    ·exact h.2
    have:=h.1;subst hk;simp[arity] at this;exact this
   subst this;simp[PH,size,Bg]
  rename_i hk;have hw:Mn ks:=by
   rcases h with h | h
   ·exact absurd h.1 hk
   exact h.2.2
  simp only[size];rw[Nb b fr k ks d 0 er hw]
theorem Nb (b fr k:Int):∀(ts:List Tm) (d:Int) (j:Nat) (er:Int),Mn ts→Bg (C9 b fr k d j er ts).1=Bg ts
 | [],d,j,er,h=>by simp[C9]
 | t::ts,d,j,er,h=>by
  simp only[C9,Bg];rw[Oi b fr t _ _ (.inr h.1),Nb b fr k ts _ _ _ h.2]
end
mutual
theorem I4 (V:Int) (hV:1≤V) (hV2:V≤2305843009213693952):∀(t:Tm) (vs:List Tm) (d er nd:Int),Wt t→Mn vs→(∀x∈vs,(size x:Int)≤V)→0≤nd→nd≤4096+V →
  nd≤(CW vs d er nd t).2.2∧(CW vs d er nd t).2.2≤4096+V∧((CW vs d er nd t).2.2≤4096→(size (CW vs d er nd t).1:Int)=(CW vs d er nd t).2.2 - nd)
 | .mk k i n l ks,vs,d,er,nd,h,hv,hs,h0,h1=>by
  have hk0:k=0→ks=[]:=by
   intro e;have:=h.1;subst e;simp[arity] at this;exact this
  unfold CW;split
  ·exact⟨by simp,h1,by simp;omega⟩
  split
  ·rename_i hc;have hlt:(i - d).toNat<vs.length:=by omega
   obtain⟨x,hx⟩:=BB hlt;have hxs:=hs x (List.mem_of_getElem? hx);rw[TH hx,Oi _ _ _ _ _ (.inr (Pl hv hx)),Qb Ar,Ej ⟨by omega,by omega⟩];simp only;exact⟨by omega,by omega,by omega⟩
  split
  ·rename_i hk;have hk:=hk0 hk;subst hk;split
   ·simp only[PH,size,Bg];rw[Ej ⟨by omega,by omega⟩];exact⟨by omega,by omega,by omega⟩
   simp only[size,Bg];rw[Ej ⟨by omega,by omega⟩];exact⟨by omega,by omega,by omega⟩
  rw[Ej (n:=nd+1) ⟨by omega,by omega⟩];obtain⟨e1,e2,e3⟩:=KR V hV hV2 ks vs k d 0 er (nd+1) h.2.2 hv hs Ar Ar;simp only[size];exact⟨by omega,e2,fun q=>by have:=e3 q;omega⟩
theorem KR (V:Int) (hV:1≤V) (hV2:V≤2305843009213693952):∀(ts:List Tm) (vs:List Tm) (k d:Int) (j:Nat) (er nd:Int),Mn ts→Mn vs→(∀x∈vs,(size x:Int)≤V)→0≤nd→nd≤4096+V →
  nd≤(Cg vs k d j er nd ts).2.2∧(Cg vs k d j er nd ts).2.2≤4096+V∧((Cg vs k d j er nd ts).2.2≤4096→(Bg (Cg vs k d j er nd ts).1:Int)=(Cg vs k d j er nd ts).2.2 - nd)
 | [],vs,k,d,j,er,nd,h,hv,hs,h0,h1=>by simp only[Cg,Bg];exact⟨by omega,h1,by omega⟩
 | t::ts,vs,k,d,j,er,nd,h,hv,hs,h0,h1=>by
  obtain⟨e1,e2,e3⟩:=I4 V hV hV2 t vs (d+below k j) er nd h.1 hv hs h0 h1;obtain⟨f1,f2,f3⟩:=KR V hV hV2 ts vs k d (j+1) (CW vs (d+below k j) er nd t).2.1 (CW vs (d+below k j) er nd t).2.2 h.2 hv hs Ar e2;simp only[Cg,Bg];exact⟨by omega,f2,fun q=>by have:=f3 q;have:=e3 Ar;omega⟩
end
theorem VI (t:Tm) (vs:List Tm) (d:Int) (h:Wt t) (hv:Mn vs) (hs:∀x∈vs,(size x:Int)≤2305843009213693952):size (Cv t vs d).1≤4096:=by
 have hz:size Be≤4096:=by simp[Be,size,Bg]
 obtain⟨e1,e2,e3⟩:=I4 2305843009213693952 Ar Ar t vs (min d 65536) 0 0 h hv hs Ar Ar;unfold Cv;split
 ·exact hz
 rename_i hn;have:=e3 Ar;split
 ·exact hz
 split
 ·exact hz
 simp only;omega
def known (ms:List Mv) (t:Tm):Bool :=
 match t with
 | .mk k i _ _ _=>k==12&&(decide (i<ms.length)&&(match ms[i.toNat]? with | some m=>m.known | none=>false))
def valueOf (ms:List Mv) (i:Int):Tm:=match ms[i.toNat]? with | some m=>m.value | none=>Be
def Ol (F:Ik→Tm→Tm×Int×Ik):Ik→List Tm→List Tm×Int×Ik
 | c,[]=>([],0,c)
 | c,t::ts=>if (F c t).2.1≠0 then ([],(F c t).2.1,(F c t).2.2)
  else if (Ol F (F c t).2.2 ts).2.1≠0 then ([],(Ol F (F c t).2.2 ts).2.1,(Ol F (F c t).2.2 ts).2.2)
  else ((F c t).1::(Ol F (F c t).2.2 ts).1,0,(Ol F (F c t).2.2 ts).2.2)
def px (l:List Tm) (q:List Tm×Int×Ik):List Tm×Int×Ik:=if q.2.1≠0 then ([],q.2.1,q.2.2) else (l++q.1,0,q.2.2)
def iO:Ik→Tm→List Tm→Ik×Tm×List Tm
 | c,v,[]=>(c,v,[])
 | c,v,a::l=>if v.kind=5∧c.over=false then iO (c.form (Cv (v.kids.getD 1 Be) [a] 0).1 (Cv (v.kids.getD 1 Be) [a] 0).2) (Cv (v.kids.getD 1 Be) [a] 0).1 l else (c,v,a::l)
def Ky:Tm→List Tm→Tm
 | .mk k i n l _,ks=> .mk k i n l ks
def LO (ms:List Mv):Nat→List Int→Ik→Tm→Tm×Int×Ik
 | 0,ab,c,t=>(Be,11,c)
 | n+1,ab,c,t =>
  if c.over=true then (Be,11,c)
  else if known ms (BD t).1=false then
   (let q:=Ol (LO ms n ab) c (BD t).1.kids
    if q.2.1≠0 then (Be,q.2.1,q.2.2)
    else
     (let r:=Ol (LO ms n ab) q.2.2 (BD t).2
      if r.2.1≠0 then (Be,r.2.1,r.2.2)
      else (apply (Ky (BD t).1 q.1) r.1,0,r.2.2.sized (apply (Ky (BD t).1 q.1) r.1))))
  else if (BD t).1.index∈ab then (Be,22,c)
  else
   (let v:=LO ms n (ab++[(BD t).1.index]) c (valueOf ms (BD t).1.index)
    if v.2.1≠0 then (Be,v.2.1,v.2.2)
    else
     (let r:=Ol (LO ms n ab) (v.2.2.form v.1 0) (BD t).2
      if r.2.1≠0 then (Be,r.2.1,r.2.2)
      else
       (let b:=iO r.2.2 v.1 r.1
        (apply b.2.1 b.2.2,0,b.1.form (apply b.2.1 b.2.2) 0))))
def free (ms:List Mv) (ab:List Int):Nat:=((List.range ms.length).filter fun i:Nat=> !decide ((i:Int)∈ab)).length
def Mb (S:Nat):Nat→Nat
 | 0=>0
 | k+1=>S*(Mb S k+2)+4096+Mb S k
def qi (S:Nat) (ms:List Mv):Prop:=∀m∈ms,Nd m.value∧Wt m.value∧size m.value≤S
structure p9 (M:Nat) (s:Nat) (r:Tm):Prop where
 nd:Nd r
 wt:Wt r
 size:size r≤s*M
theorem KN {α:Type}{l:List α}{x:α}(h:x∈l):∃i:Nat,l[i]?=some x:=by
 obtain⟨i,hi,he⟩:=List.mem_iff_getElem.1 h;exact⟨i,by rw[List.getElem?_eq_getElem hi,he]⟩
section
variable {ms:List Mv}{n:Nat}{ab:List Int}{c:Ik}{t:Tm}{zk zi:Int}{zn:ByteArray}{zl:List Cf}{zs:List Tm}
end
end Go.Eu
namespace Go.Eu
theorem HR {l:List Tm}{x:Tm}(h:x∈l):size x≤Bg l:=by
 obtain⟨i,hi⟩:=KN h;exact Cj hi
def cN (ms:List Mv) (n:Nat) (c:Ik) (t:Tm):Tm×Int×Ik :=
 ((LO ms n [] c t).1,(LO ms n [] c t).2.1,if (LO ms n [] c t).2.1=0 then (LO ms n [] c t).2.2.form (LO ms n [] c t).1 0 else (LO ms n [] c t).2.2)
def qW (ms:List Mv) (n:Nat) (c:Ik) (t:Tm):List Int×Int :=
 if (cN ms n c t).2.1=0 then (W7 [] (cN ms n c t).1,0) else ([],(cN ms n c t).2.1)
end Go.Eu
namespace Go.Abs
section
variable {P:Program}{r:Option Nat}{ops:Array Oper}{Q:Cu→Bt→Prop}{k:Nat}{n:Nat}{τ:Nat→AV}{T:List BL}{D:List EF}{dst:Option Tmp}{op:Op}{ty:TypeId}{pos:String}{aft:Array Edge}{v:AV}{c:Call}{f:Operand}{fid:FuncId}{first caps A:List AV}{R:EG→List BL→Prop}
theorem K4 {H H':List BL}(hp:H.Perm H') (h:AL P r ops k ⟨n,τ,H',D⟩ Q):AL P r ops k ⟨n,τ,H,D⟩ Q:=CN (S1 (S:=⟨n,τ,H,D⟩) hp) h
theorem IU (fr:List BL) {l:Nat}(ho:ops[k]?=some ⟨dst,.call c,ty,pos,aft,none⟩) (hd:GA dst n=true)
  (hc:c.callee= .value f) (hf:ev τ f= .fn (.yield l) [] []) (h:Kw P l A T R) (hA:c.args.toList.map (ev τ)=A)
  (next:∀v T',R (.val v) T'→AL P r ops (k+1) ⟨n,put τ dst v,fr++T',D⟩ Q) (pan:∀v T',R (.panic v) T'→Q (.panic v) ⟨n,τ,T'++fr,D⟩):AL P r ops k ⟨n,τ,fr++T,D⟩ Q :=
 Fp (S:=⟨n,τ,fr++T,D⟩) ho Al (H7 hd) (Y5 hc hf List.perm_append_comm h hA) (fun v H' ⟨Hs',h1,h2⟩=>by subst h2;exact K4 List.perm_append_comm (next v Hs' h1)) (fun v H' ⟨Hs',h1,h2⟩=>by subst h2;exact pan v Hs' h1)
theorem Hg (fr:List BL) (ho:ops[k]?=some ⟨dst,.call c,ty,pos,aft,none⟩) (hd:GA dst n=true)
  (hc:c.callee= .value f) (hf:(ev τ f= .p (.fn fid)∧first=[]∧caps=[])∨ev τ f= .fn (.func fid) first caps) (h:Bu P fid A T R) (hA:Fl (first++c.args.toList.map (ev τ)++caps) A)
  (next:∀v T',R (.val v) T'→AL P r ops (k+1) ⟨n,put τ dst v,fr++T',D⟩ Q) (pan:∀v T',R (.panic v) T'→Q (.panic v) ⟨n,τ,T'++fr,D⟩):AL P r ops k ⟨n,τ,fr++T,D⟩ Q :=
 IL ho hd hc hf List.perm_append_comm (h.args hA) (.inl rfl) (fun v H' h1=>K4 List.perm_append_comm (next v H' h1)) pan
end
theorem FW.append:∀{l l':List BL}{T:List BL},FW l l'→FW (l++T) (l'++T)
 | [],l',T,h=>by simp only[FW] at h;subst h;exact FW.refl T
 | o::l,l',T,h=>by
  obtain⟨o',r',rfl,h1,h2⟩:=h;exact⟨o',r'++T,O,h1,FW.append h2⟩
theorem Xh (is:List Nat) (l:List BL) {l1 l' T:List BL}(h:On is 0 l=l1) (w:FW l1 l'):hY (l++T) (l'++T):=⟨l1++T,(CO h).append_right T,w.append⟩
theorem GM (is:List Nat) (l:List BL) {l1 T:List BL}(h:On is 0 l=l1):(l1++T).Sublist (l++T):=(CO h).append_right T
def qQ (b:Bool) (H':List BL):EG→List BL→Prop
 | .val v,H''=>v= .p (.bool b)∧H''=H'
 | .panic _,_=>False
theorem C5 {n:Nat}{τ:Nat→AV}{H:List BL}{D:List EF}{t:Nat}{x:AV}(h:τ t=x):Hv ⟨n,τ,H,D⟩ ⟨n,put τ (some t) x,H,D⟩:=Q5 fun _ _ _ hr=>h▸hr
section
variable {P:Program}{dst:Option Tmp}{ty:TypeId}{pos:String}{aft:Array Edge}{g:Option (Nat×Bool)}{ρ:Operand→AV}{H:List BL}{x y:Operand}
theorem Tu {e:TypeId}{bl:Bool}{sz:Nat}(ht:Dp P e=some (bl,sz)):∃inf,P.info? e=some inf∧inf.size=sz:=by
 obtain⟨d,_,_,h⟩:=E1 ht;cases hi:P.info? e with
 | none=>simp[hi] at h
 | some inf=>simp[hi] at h;exact⟨inf,rfl,h⟩
theorem QG {T e:TypeId}{bl:Bool}{len sz b o:Nat}{k:IntKind}{i:Int}(hu:P.underlying T=some (.array len e)) (ht:Dp P e=some (bl,sz)) (hx:ρ x= .ptr b o) (hy:ρ y= .p (.int k i)) (h0:0≤i) (hn:i<len) :
  Dh P ⟨dst,.indexAddr T x y,ty,pos,aft,g⟩ ρ H (.ptr b (o+i.toNat*sz)) H:=by
 obtain⟨inf,h1,h2⟩:=Tu ht;exact Rh hu h1 h2 hx hy h0 hn
theorem EC {T e:TypeId}{bl:Bool}{len sz:Nat}{parts:Array (Nat×Operand)}{z:Value}{cs:List AV}(hu:P.underlying T=some (.array len e)) (ht:Dp P e=some (bl,sz)) (hz:zeroOf P T=some z)
  (hc:FH (fun i=>some (i*sz,sz)) (z.cells.toList.map GO) (parts.toList.map fun p=>(p.1,ρ p.2))=some cs):Dh P ⟨dst,.build T parts,ty,pos,aft,g⟩ ρ H (.agg cs) H:=by
 obtain⟨inf,h1,h2⟩:=Tu ht;subst h2;exact RZ hu h1 hz hc
end
theorem QP {P:Program}{g:Operand}{ps:Array Tmp}{assign body:Code}{S:Bt}{Q:Cu→Bt→Prop}{fid:FuncId}{first caps:List AV}
  (hg:(ev S.τ g= .p (.fn fid)∧first=[]∧caps=[])∨ev S.τ g= .fn (.func fid) first caps)
  (h:∀d l (L:NI),L=⟨.ready,none,S.n,S.τ,ps,assign,body⟩→∃Hs Hf,(BL.loop l L:: .dfr d::S.H).Perm (Hs++Hf) ∧
   Bu P fid (first++[.fn (.yield l) [] []]++caps) Hs (fun r H'=>Tn P l d S Q r (H'++Hf))) :
  IT P none (.rangeFunc g ps assign body) S Q:=Y7 hg fun d l=>h d l _ rfl
def qU (H':List BL):EG→List BL→Prop
 | .val v,H''=>v= .tup []∧H''=H'
 | .panic _,_=>False
def Ut (v:AV) (C:List BL→Prop):EG→List BL→Prop
 | .val v',H'=>v'=v∧C H'
 | .panic _,_=>False
section
variable {P:Program}{n:Nat}{τ:Nat→AV}{H:List BL}{D:List EF}
theorem dt {b:Nat}{cs cs':List AV}(h:Fl cs cs'):LA (.box b cs) (.box b cs'):=⟨rfl,fun F w hr=>by
 obtain⟨vs,T,h1,h2⟩:=hr;exact⟨vs,T,h1,OH h h2⟩⟩
theorem Lu {i:Nat}{o o':BL}(hi:H[i]?=some o) (hw:LA o o'):Hv ⟨n,τ,H,D⟩ ⟨n,τ,H.set i o',D⟩:=by
 intro F a w hs;refine⟨F,⟨hs.size,hs.tmp,?_,hs.defs⟩,?_⟩
 ·have hk:=Ff (x':=o') hi hw.1;refine⟨fun x hx c hc=>?_,by show List.Nodup _;rw[hk];exact hs.heap.nodup,fun x hx=>?_,hs.heap.bd⟩
  ·rcases Da hx with rfl | ⟨j,_,hj⟩
   ·exact hs.heap.sub _ (List.mem_of_getElem? hi) c (by rw[←hw.1];exact hc)
   exact hs.heap.sub _ (List.mem_of_getElem? hj) c hc
  rcases Da hx with rfl | ⟨j,_,hj⟩
  ·exact hw.2 F w (hs.heap.obj _ (List.mem_of_getElem? hi))
  exact hs.heap.obj _ (List.mem_of_getElem? hj)
 refine { Trans.refl (F:=F) (H:=H) (w:=w) with keys:=fun x hx c hc=>?_ };rcases Da hx with rfl | ⟨j,_,hj⟩
 ·exact .inl ⟨_,List.mem_of_getElem? hi,by rw[←hw.1];exact hc⟩
 exact .inl ⟨_,List.mem_of_getElem? hj,hc⟩
end
section
variable {P:Program}{dst:Option Tmp}{ty:TypeId}{pos:String}{aft:Array Edge}{g:Option (Nat×Bool)}{ρ:Operand→AV}{H:List BL}{x y:Operand}
theorem Vn {T e:TypeId}{b i:Nat}{l:List (Int×AV)}{k:Int}{zv:Value}{za v:AV}(hT:mapOf P T=some e) (hz:zeroOf P e=some zv) (hza:∀F w,CF F w za zv) (hx:ρ x= .map b) (hy:ρ y= .p (.int .i64 k)) (hi:H[i]?=some (.map b (D7 l))) (hv:(JP k l).getD za=v) :
  Dh P ⟨dst,.lookup T x y false,ty,pos,aft,g⟩ ρ H v H:=by subst hv;exact V2 hT hz hza hx hy hi
theorem RS {T e:TypeId}{b i:Nat}{l:List (Int×AV)}{k:Int}{zv:Value}{za v:AV}{ok:Bool}(hT:mapOf P T=some e) (hz:zeroOf P e=some zv) (hza:∀F w,CF F w za zv) (hx:ρ x= .map b) (hy:ρ y= .p (.int .i64 k)) (hi:H[i]?=some (.map b (D7 l))) (hv:(JP k l).getD za=v) (hok:(JP k l).isSome=ok) :
  Dh P ⟨dst,.lookup T x y true,ty,pos,aft,g⟩ ρ H (.tup [v,.p (.bool ok)]) H:=by subst hv;subst hok;exact Ts hT hz hza hx hy hi
end
section
variable {P:Program}{dst:Option Tmp}{ty:TypeId}{pos:String}{aft:Array Edge}{g:Option (Nat×Bool)}{ρ:Operand→AV}{H:List BL}{x y:Operand}
theorem Kc {T e:TypeId}{sz bytes:Nat}(hT:FV P T=some (e,sz,bytes)) :
  DH P ⟨dst,.buildSlice T 0 #[],ty,pos,aft,g⟩ ρ H (K7 sz [] H) :=
 Gx fun F w E hH hE=>by
  obtain⟨hu,i,hi,hs,hby⟩:=E0 hT;obtain⟨v,H',F',h1,h2,h3,h4⟩:=NM (F:=F) (w:=w) (sz:=sz) (c:=0) (rows:=[]) (vs:=[]) (T:=e) (H:=H) hH As (by simp[Bz]) As As;refine⟨_,_,v,H',F',?_,h1,h2,h3,h4⟩;have hszr:(sizeOf e).run P w= .ok sz w:=by simp[sizeOf,typeInfo,hi,hs]
  simp only[execOp,Instr.buildSlice,Sem.run_bind,run_underlying hu,Result.andThen_ok,hszr];rw[if_neg Ar];simp only[Sem.run_pure,Result.andThen_ok,Sem.run_bind,pure_bind,Nat.zero_mul,if_true];have e0:(Array.map (fun x=>(#[]:Array Value)[x % (#[]:Array Value).size]!) (Array.range 0))=(⟨[]⟩:Array Value):=by simp
  rw[e0];simp only[Array.map_empty,Instr.fill,newRow,newObj,Sem.run_bind,Sem.run,Result.andThen,Sem.run_pure];rfl
end
section
variable {P:Program}{dst:Option Tmp}{ty:TypeId}{pos:String}{aft:Array Edge}{g:Option (Nat×Bool)}{ρ:Operand→AV}{H:List BL}{x y:Operand}
theorem MB {T U e:TypeId}{n1 n2:Nat}{rows:List (List PV)}(hT:FV P T=some (e,n1,n2)) (hx:ρ x= .p (.lst rows)) (hy:ρ y= .p .nils):DH P ⟨dst,.binOp .eql T x y U,ty,pos,aft,g⟩ ρ H (Ow (fun v=>∃b:Bool,v= .p (.bool b)∧(b=true→rows=[])) H) :=
 (Tx (E0 hT).1 hx hy).mono fun r H' h=>by cases r<;>exact h
end
section
variable {P:Program}{r:Option Nat}{ops:Array Oper}{Q:Cu→Bt→Prop}{k:Nat}{n:Nat}{τ:Nat→AV}{H:List BL}{D:List EF}{dst:Option Tmp}{ty:TypeId}{pos:String}{aft:Array Edge}{v:AV}{c:Call}{f:Operand}{fid:FuncId}{first caps A:List AV}
theorem M5 (ho:ops[k]?=some ⟨dst,.call c,ty,pos,aft,none⟩) (hd:GA dst n=true) (hc:c.callee= .value f) (hf:(ev τ f= .p (.fn fid)∧first=[]∧caps=[])∨ev τ f= .fn (.func fid) first caps) (h:Bu P fid A [] (Tg v [])) (hA:Fl (first++c.args.toList.map (ev τ)++caps) A) (pan:Q (.panic v) ⟨n,τ,H,D⟩):AL P r ops k ⟨n,τ,H,D⟩ Q :=
 IL ho hd hc hf (Hs:=[]) (Hf:=H) As (h.args hA) (.inl rfl) (fun _ _ h=>h.elim) (fun v' H' ⟨h1,h2⟩=>by subst h1;subst h2;exact pan)
end
end Go.Abs
namespace Go.Eu
open Go.Abs
def JA (k:Int):Int:=if k=5∨k=6∨k=7 then 1 else if k=11 then 2 else -1
theorem Un {k:Int}{i:Int}(h:i=JA k) (hi:0≤i):below k i=1:=by
 unfold JA at h;unfold below;split at h
 ·rename_i hk;subst h;rcases hk with rfl | rfl | rfl<;>simp
 split at h
 ·rename_i hk;subst h;subst hk;simp
 omega
theorem R1 {k:Int}{i:Int}(h:i≠JA k):below k i=0:=by
 unfold JA at h;unfold below;rw[if_neg];simp only[Bool.or_eq_true,Bool.and_eq_true,beq_iff_eq];intro hc;apply h;rcases hc with ⟨h1,h2⟩ | ⟨h1,h2⟩
 ·rw[if_pos (by rcases h2 with (h | h) | h<;>simp[h]),h1]
 rw[if_neg Ar,if_pos h2,h1]
theorem UM {k:Int}(h:¬(0≤k∧k<13)):JA k= -1:=by
 unfold JA;rw[if_neg Ar,if_neg Ar]
section
variable {σ:Type}
mutual
def EX (st:σ→Int→Tm→σ×Bool):Tm→Int→σ→σ×Bool
 | .mk k i n l ks,d,s=>if (st s d (.mk k i n l ks)).2=false then ((st s d (.mk k i n l ks)).1,false) else EO st k d 0 (st s d (.mk k i n l ks)).1 ks
def EO (st:σ→Int→Tm→σ×Bool) (k d:Int):Nat→σ→List Tm→σ×Bool
 | _,s,[]=>(s,true)
 | j,s,t::ts=>if (EX st t (d+below k j) s).2=false then ((EX st t (d+below k j) s).1,false) else EO st k d (j+1) (EX st t (d+below k j) s).1 ts
end
end
def Oa (ix nm:Bool) (lv ks bl:Int):List AV:=[.p (.bool ix),.p (.bool nm),.p (I lv),.p (I ks),.p (I bl)]
def OX:List AV:=[Oa true false 0 0 (-1),Oa false false 0 0 (-1),Oa false false 1 0 (-1),Oa false true (-1) 0 (-1),Oa false false 0 2 (-1),Oa false false 0 2 1,Oa false false 0 2 1,Oa false false 0 2 1,Oa false false 0 3 (-1),Oa false false 0 1 (-1),Oa false false 0 1 (-1),Oa false false 0 3 2,Oa true false 0 0 (-1)].flatten
theorem cZ {k:Int}(h:0≤k∧k<13):OX[0+k.toNat*5+4]?=some (.p (I (JA k))):=by
 have:k=0∨k=1∨k=2∨k=3∨k=4∨k=5∨k=6∨k=7∨k=8∨k=9∨k=10∨k=11∨k=12:=by omega
 rcases this with rfl | rfl | rfl | rfl | rfl | rfl | rfl | rfl | rfl | rfl | rfl | rfl | rfl<;>rfl
section
variable {σ:Type}{st:σ→Int→Tm→σ×Bool}{Inv:Nat→σ→Prop}
theorem VY {t:Tm}{d:Int}{s:σ}(h:(st s d t).2=false):EX st t d s=((st s d t).1,false):=by
 obtain⟨k,i,n,l,ks⟩:=t;rw[EX,if_pos h]
theorem HI {k i:Int}{n:ByteArray}{l:List Cf}{ks:List Tm}{d:Int}{s:σ}(h:(st s d (.mk k i n l ks)).2=true):EX st (.mk k i n l ks) d s=EO st k d 0 (st s d (.mk k i n l ks)).1 ks:=by
 rw[EX,if_neg (by simp[h])]
theorem IG {k d:Int}{ts:List Tm}{i:Nat}{x:Tm}{s:σ}(hx:ts[i]?=some x) (h:(EX st x (d+below k i) s).2=false):EO st k d i s (ts.drop i)=((EX st x (d+below k i) s).1,false):=by
 rw[C2 hx,EO,if_pos h]
theorem KL {k d:Int}{ts:List Tm}{i:Nat}{x:Tm}{s:σ}(hx:ts[i]?=some x) (h:(EX st x (d+below k i) s).2=true):EO st k d i s (ts.drop i)=EO st k d (i+1) (EX st x (d+below k i) s).1 (ts.drop (i+1)):=by
 rw[C2 hx,EO,if_neg (by simp[h])]
mutual
theorem Ix (hI:∀m s d t,Inv (m+1) s→Inv m (st s d t).1):∀(t:Tm) (d:Int) (s:σ) (m:Nat),Inv (m+size t) s→(EX st t d s).2=true→Inv m (EX st t d s).1
 | .mk k i n l ks,d,s,m,h,hv=>by
  rw[size,show m+(1+Bg ks)=(m+Bg ks)+1 by omega] at h;have h1:=hI _ _ d (.mk k i n l ks) h;rw[EX] at hv ⊢;split at hv
  ·cases hv
  rename_i hc;rw[if_neg hc];exact O6 hI ks k d 0 _ m h1 hv
theorem O6 (hI:∀m s d t,Inv (m+1) s→Inv m (st s d t).1):∀(ts:List Tm) (k d:Int) (j:Nat) (s:σ) (m:Nat),Inv (m+Bg ts) s→(EO st k d j s ts).2=true→Inv m (EO st k d j s ts).1
 | [],k,d,j,s,m,h,hv=>by simpa [EO,Bg] using h
 | t::ts,k,d,j,s,m,h,hv=>by
  rw[Bg,show m+(size t+Bg ts)=(m+Bg ts)+size t by omega] at h;rw[EO] at hv ⊢;split at hv
  ·cases hv
  rename_i hc;rw[if_neg hc];have:=Ix hI t (d+below k j) s _ h (by simpa using hc);exact O6 hI ts k d (j+1) _ m this hv
end
end
def Wa (s:Int) (d:Int) (t:Tm):Int×Bool:=(wr (s+1),true)
mutual
theorem U4 (B:Int) (hB:B≤4611686018427387904):∀(t:Tm) (d s:Int),0≤s→s+size t<B→EX Wa t d s=(s+size t,true)
 | .mk k i n l ks,d,s,h0,h=>by
  rw[size] at h ⊢;rw[HI rfl];simp only[Wa];rw[Ej ⟨by omega,by omega⟩,SY B hB ks k d 0 (s+1) Ar Ar];congr 1;omega
theorem SY (B:Int) (hB:B≤4611686018427387904):∀(ts:List Tm) (k d:Int) (j:Nat) (s:Int),0≤s→s+Bg ts<B→EO Wa k d j s ts=(s+Bg ts,true)
 | [],k,d,j,s,h0,h=>by simp[EO,Bg]
 | t::ts,k,d,j,s,h0,h=>by
  rw[Bg] at h ⊢;rw[EO,U4 B hB t _ s h0 Ar];simp only;rw[if_neg As,SY B hB ts k d (j+1) (s+size t) Ar Ar];congr 1;omega
end
def qj (s:List Int) (d:Int):Tm→List Int×Bool
 | .mk k i _ _ _=>(if k=12∧i ∉ s then s++[i] else s,true)
def rG (s:List Int):List (Int×AV):=s.map fun i=>(i,.p (.bool true))
def Um (xs ys:List Tm) (i:Nat):Prop:=ys.length=xs.length∧∀k,k<xs.length→ys[k]?=if k<i∨xs.length - 1 - k<i then xs[xs.length - 1 - k]? else xs[k]?
theorem V7 (xs:List Tm):Um xs xs 0:=⟨rfl,fun k hk=>by rw[if_neg Ar]⟩
theorem XA {xs ys:List Tm}{i:Nat}{a b:Tm}(h:Um xs ys i) (hi:i<xs.length - 1 - i) (ha:ys[i]?=some a) (hb:ys[xs.length - 1 - i]?=some b):Um xs ((ys.set i b).set (xs.length - 1 - i) a) (i+1):=by
 obtain⟨hl,h⟩:=h;refine⟨by simp[hl],fun k hk=>?_⟩;have e1:=h i Ar;rw[if_neg Ar,ha] at e1;have e2:=h (xs.length - 1 - i) Ar;rw[if_neg Ar,hb] at e2;by_cases k1:k=xs.length - 1 - i
 ·subst k1;rw[if_pos Ar,List.getElem?_set_self Am,e1];congr 1;omega
 rw[List.getElem?_set_ne (fun e=>k1 e.symm)];by_cases k2:k=i
 ·subst k2;rw[if_pos Ar,List.getElem?_set_self Ar,e2]
 rw[List.getElem?_set_ne (fun e=>k2 e.symm),h k hk];by_cases k3:k<i∨xs.length - 1 - k<i
 ·rw[if_pos k3,if_pos Ar]
 rw[if_neg k3,if_neg Ar]
theorem WZ {xs ys:List Tm}{i:Nat}(h:Um xs ys i) (hi:xs.length - 1 - i≤i):ys=xs.reverse:=by
 obtain⟨hl,h⟩:=h;apply List.ext_getElem?;intro k;by_cases hk:k<xs.length
 ·rw[h k hk,List.getElem?_reverse hk];by_cases k3:k<i∨xs.length - 1 - k<i
  ·rw[if_pos k3]
  rw[if_neg k3];congr 1;omega
 rw[List.getElem?_eq_none Ar,List.getElem?_eq_none Am]
def qB (f:Int) (n i:Nat):List Tm:=(ay f 0 n).take i++List.replicate (n - i) Be
def jL (t:Tm):Bool:=decide ((size t:Int) > 4096)||decide (Ep t > 200)
def qc {σ:Type}(st:σ→Int→Tm→σ) (xs:List Tm):Nat→σ→σ
 | 0,s=>s
 | m+1,s=>qc st xs m (st s m (xs.getD m Be))
def oU (k:Int) (t:Tm) (i:Int) (a:Tm):Tm:= .mk k 0 ⟨#[]⟩ [] [a,t]
end Go.Eu
namespace Go.Abs
def eK (mkv:Nat→AV) (cs:List AV):EG→List BL→Prop
 | .val v,H'=>∃b,v=mkv b∧H'=[.box b cs]
 | .panic _,_=>False
section
variable {P:Program}{ops:Array Oper}{n:Nat}{τ₀ τ:Nat→AV}{D:List EF}{Q:Cu→Bt→Prop}{opn:Nat→Bool}{k:Nat}{H:List BL}{dst:Option Tmp}{ty:TypeId}{pos:String}{aft:Array Edge}{c:Call}{f:Operand}{fid:FuncId}{first caps A:List AV}{mkv:Nat→AV}{cs:List AV}
theorem YH {rd ef effs fx}(fx':List (Nat×Sp)) (ho:ops[k]?=some ⟨dst,.call c,ty,pos,aft,none⟩) (hn:opn k=true)
  (hc:c.callee= .value f) (hf:(ev τ f= .p (.fn fid)∧first=[]∧caps=[])∨ev τ f= .fn (.func fid) first caps) (h:Bu P fid A [] (eK mkv cs)) (hA:first++c.args.toList.map (ev τ)++caps=A∨(first++c.args.toList.map (ev τ)++caps).map norm=A) (haft:El ops k (fx'.map (·.1))=true)
  (next:∀b,KO ops k H (.box b cs::H) rd∧HC k (.eff (mkv b) (.box b cs::H)) fx∧Dr P ops n τ₀ D Q opn (k+1) (put τ dst (mkv b)) (.box b cs::H) rd ((k,H,.box b cs::H)::ef) (true::effs) (fx'++fx)):Dr P ops n τ₀ D Q opn k τ H rd ef effs fx :=
 Mp fx' ho hn (Fj (H:=H) (Hs:=[]) (Hf:=H) hc hf As h hA) haft ⟨_,_,_,⟨0,rfl,rfl⟩,rfl⟩ (fun v H' ⟨_,h,_⟩=>h.elim) (fun v H' ⟨Hs',⟨b,h1,h2⟩,h3⟩=>by subst h1;subst h2;subst h3;exact next b)
theorem gP {r:Option Nat}(ho:ops[k]?=some ⟨dst,.call c,ty,pos,aft,none⟩) (hd:GA dst n=true)
  (hc:c.callee= .value f) (hf:(ev τ f= .p (.fn fid)∧first=[]∧caps=[])∨ev τ f= .fn (.func fid) first caps) (h:Bu P fid A [] (eK mkv cs)) (hA:Fl (first++c.args.toList.map (ev τ)++caps) A)
  (next:∀b,AL P r ops (k+1) ⟨n,put τ dst (mkv b),.box b cs::H,D⟩ Q):AL P r ops k ⟨n,τ,H,D⟩ Q :=
 IL ho hd hc hf (Hs:=[]) (Hf:=H) As (h.args hA) (.inl rfl) (fun v Hs' ⟨b,h1,h2⟩=>by subst h1;subst h2;exact next b) (fun _ _ h=>h.elim)
end
def KQ {α:Type}(mkv:α→AV) (mkp:Int→AV) (C:α→List BL→Prop) (x:Except Int α):EG→List BL→Prop
 | .val v,H'=>∃a,x= .ok a∧v=mkv a∧C a H'
 | .panic v,_=>∃e,x= .error e∧v=mkp e
theorem DH.permR {P:Program}{ρ:Operand→AV}{o:Oper}{H:List BL}{R R':EG→List BL→Prop}(h:DH P o ρ H R) (hp:∀r H1,R r H1→∃H2,H1.Perm H2∧R' r H2):DH P o ρ H R':=by
 intro r F S a w hs hH hρ hd;have:=h r F S a w hs hH hρ hd;refine Ln this ?_ ?_
 ·rintro a' w' ⟨v',H1,F',hR,hs',ht⟩;obtain⟨H2,hp,hR'⟩:=hp _ _ hR;exact⟨v',H2,F',hR',⟨hs'.size,hs'.tmp,hs'.heap.perm hp,hs'.defs⟩,{ ht with keys:=fun o ho=>ht.keys o (hp.mem_iff.2 ho) }⟩
 rintro e a' w' ⟨v',H1,F',u,hR,h1,h2,hs',ht⟩;obtain⟨H2,hp,hR'⟩:=hp _ _ hR;exact⟨v',H2,F',u,hR',h1,h2,⟨hs'.size,hs'.tmp,hs'.heap.perm hp,hs'.defs⟩,{ ht with keys:=fun o ho=>ht.keys o (hp.mem_iff.2 ho) }⟩
section
variable {P:Program}{ops:Array Oper}{n:Nat}{τ₀ τ:Nat→AV}{D:List EF}{Q:Cu→Bt→Prop}{opn:Nat→Bool}{k:Nat}{T:List BL}{dst:Option Tmp}{ty:TypeId}{pos:String}{aft:Array Edge}{c:Call}{f:Operand}{fid:FuncId}{first caps A:List AV}
 {α:Type} {mkv:α→AV} {mkp:Int→AV} {C:α→List BL→Prop} {x:Except Int α}
theorem gy {r:Option Nat}(fr:List BL) (ho:ops[k]?=some ⟨dst,.call c,ty,pos,aft,none⟩) (hd:GA dst n=true)
  (hc:c.callee= .value f) (hf:(ev τ f= .p (.fn fid)∧first=[]∧caps=[])∨ev τ f= .fn (.func fid) first caps) (h:Bu P fid A T (KQ mkv mkp C x)) (hA:Fl (first++c.args.toList.map (ev τ)++caps) A)
  (next:∀a T',x= .ok a→C a T'→AL P r ops (k+1) ⟨n,put τ dst (mkv a),fr++T',D⟩ Q) (pan:∀e T',x= .error e→Q (.panic (mkp e)) ⟨n,τ,T'++fr,D⟩):AL P r ops k ⟨n,τ,fr++T,D⟩ Q :=
 Hg fr ho hd hc hf h hA (fun v T' ⟨a,h1,h2,h3⟩=>by subst h2;exact next a T' h1 h3) (fun v T' ⟨e,h1,h2⟩=>by subst h2;exact pan e T' h1)
theorem nD {rd ef effs fx}(fr:List BL) (ho:ops[k]?=some ⟨dst,.call c,ty,pos,aft,none⟩) (hn:opn k=true)
  (hc:c.callee= .value f) (hf:(ev τ f= .p (.fn fid)∧first=[]∧caps=[])∨ev τ f= .fn (.func fid) first caps) (h:Bu P fid A T (KQ mkv mkp C x)) (hA:Fl (first++c.args.toList.map (ev τ)++caps) A) (haft:El ops k []=true) (chk:NA ops n (true::effs).reverse=true) (hfx:Mi k fx=true) (owe:KO ops k (fr++T) (fr++T) rd)
  (next:∀a T',x= .ok a→C a T'→KO ops k (fr++T) (fr++T') rd∧HC k (.eff (mkv a) (fr++T')) fx∧Dr P ops n τ₀ D Q opn (k+1) (put τ dst (mkv a)) (fr++T') rd ((k,fr++T,fr++T')::ef) (true::effs) fx)
  (pan:∀e,x= .error e→∀τ' T',(∀t,(∀(k:Nat) o,ops[k]?=some o→o.dst≠some t)→τ' t=τ₀ t)→Q (.panic (mkp e)) ⟨n,τ',T'++fr,D⟩):Dr P ops n τ₀ D Q opn k τ (fr++T) rd ef effs fx:=by
 have hop:DH P ⟨dst,.call c,ty,pos,aft,none⟩ (ev τ) (fr++T) (fun r H'=>∃T',KQ mkv mkp C x r T'∧(match r with | .val _=>H'=fr++T' | .panic _=>H'=T'++fr)):=by
  refine DH.permR (Fj (H:=fr++T) (Hs:=T) (Hf:=fr) hc hf List.perm_append_comm (h.args hA) (.inl O)) ?_;rintro r H1 ⟨T',hR,rfl⟩;cases r with
  | val v=>exact⟨fr++T',List.perm_append_comm,T',hR,rfl⟩
  | panic v=>exact⟨T'++fr,List.Perm.refl _,T',hR,rfl⟩
 by_cases hx:∃a T',x= .ok a∧C a T'
 ·obtain⟨a,T',hx,hC⟩:=hx;refine Dr.opn _ [] ho hn Au hop haft ⟨mkv a,_,T',⟨a,hx,O,hC⟩,O⟩ ?_ ?_ ?_ ?_
  ·rintro v H' ⟨T',⟨a',h1,h2,h3⟩,rfl⟩;exact(next a' T' h1 h3).1
  ·rintro v H' ⟨T',⟨a',h1,h2,h3⟩,rfl⟩;subst h2;exact(next a' T' h1 h3).2.1
  ·rintro v H' ⟨T',⟨a',h1,h2,h3⟩,rfl⟩;subst h2;exact(next a' T' h1 h3).2.2
  rintro v H' ⟨T',⟨e,h1,h2⟩,rfl⟩ τ' hτ;subst h2;exact pan e h1 τ' T' hτ
 refine Dr.pan _ ho hn Au hop haft chk hfx ?_ owe ?_
 ·rintro v H' ⟨T',⟨a',h1,h2,h3⟩,rfl⟩;exact hx ⟨a',T',h1,h3⟩
 rintro v H' ⟨T',⟨e,h1,h2⟩,rfl⟩ τ' hτ;subst h2;exact pan e h1 τ' T' hτ
end
section
variable {P:Program}{ops:Array Oper}{n:Nat}{τ₀ τ:Nat→AV}{D:List EF}{Q:Cu→Bt→Prop}{opn:Nat→Bool}{k:Nat}{H Hs:List BL}{dst:Option Tmp}{ty:TypeId}{pos:String}{aft:Array Edge}{c:Call}{f:Operand}{fid:FuncId}{first caps A:List AV}
 {α:Type} {mkv:α→AV} {mkp:Int→AV} {C:α→List BL→Prop} {x:Except Int α}
theorem Dg {r:Option Nat}(is:List Nat) (ho:ops[k]?=some ⟨dst,.call c,ty,pos,aft,none⟩) (hd:GA dst n=true)
  (hc:c.callee= .value f) (hf:(ev τ f= .p (.fn fid)∧first=[]∧caps=[])∨ev τ f= .fn (.func fid) first caps) (h:Bu P fid A Hs (KQ mkv mkp C x)) (hg:FD H is Hs) (hn:is.Nodup) (hA:Fl (first++c.args.toList.map (ev τ)++caps) A)
  (hl:∀a T',C a T'→T'.length=Hs.length)
  (next:∀a T',x= .ok a→C a T'→AL P r ops (k+1) ⟨n,put τ dst (mkv a),Ki H is T',D⟩ Q) (pan:∀e H',x= .error e→Q (.panic (mkp e)) ⟨n,τ,H'++C0 is 0 H,D⟩):AL P r ops k ⟨n,τ,H,D⟩ Q :=
 cJ is ho hd hc hf h hg hn hA (fun v T' ⟨a,h1,h2,h3⟩=>by subst h2;exact⟨hl a T' h3,next a T' h1 h3⟩) (fun v T' ⟨e,h1,h2⟩=>by subst h2;exact pan e T' h1)
theorem OS {rd ef effs fx}(is:List Nat) (ho:ops[k]?=some ⟨dst,.call c,ty,pos,aft,none⟩) (hn:opn k=true)
  (hc:c.callee= .value f) (hf:(ev τ f= .p (.fn fid)∧first=[]∧caps=[])∨ev τ f= .fn (.func fid) first caps) (h:Bu P fid A Hs (KQ mkv mkp C x)) (hg:FD H is Hs) (hnd:is.Nodup) (hA:Fl (first++c.args.toList.map (ev τ)++caps) A)
  (hl:∀a T',C a T'→T'.length=Hs.length) (haft:El ops k []=true) (chk:NA ops n (true::effs).reverse=true) (hfx:Mi k fx=true) (owe:KO ops k H H rd)
  (next:∀a T',x= .ok a→C a T'→KO ops k H (Ki H is T') rd∧HC k (.eff (mkv a) (Ki H is T')) fx∧Dr P ops n τ₀ D Q opn (k+1) (put τ dst (mkv a)) (Ki H is T') rd ((k,H,Ki H is T')::ef) (true::effs) fx)
  (pan:∀e,x= .error e→∀τ' H',(∀t,(∀(k:Nat) o,ops[k]?=some o→o.dst≠some t)→τ' t=τ₀ t)→Q (.panic (mkp e)) ⟨n,τ',H'++C0 is 0 H,D⟩):Dr P ops n τ₀ D Q opn k τ H rd ef effs fx:=by
 have hop:DH P ⟨dst,.call c,ty,pos,aft,none⟩ (ev τ) H (fun r H'=>∃T',KQ mkv mkp C x r T'∧(match r with | .val _=>H'=Ki H is T' | .panic _=>H'=T'++C0 is 0 H)):=by
  refine DH.permR (Fj hc hf (DK hnd hg) (h.args hA) (.inl O)) ?_;rintro r H1 ⟨T',hR,rfl⟩;cases r with
  | val v=>obtain⟨a,h1,h2,h3⟩:=hR;exact⟨_,(LY hnd hg (hl a T' h3)).symm,T',⟨a,h1,h2,h3⟩,rfl⟩
  | panic v=>exact⟨_,List.Perm.refl _,T',hR,rfl⟩
 by_cases hx:∃a T',x= .ok a∧C a T'
 ·obtain⟨a,T',hx,hC⟩:=hx;refine Dr.opn _ [] ho hn Au hop haft ⟨mkv a,_,T',⟨a,hx,O,hC⟩,O⟩ ?_ ?_ ?_ ?_
  ·rintro v H' ⟨T',⟨a',h1,h2,h3⟩,rfl⟩;exact(next a' T' h1 h3).1
  ·rintro v H' ⟨T',⟨a',h1,h2,h3⟩,rfl⟩;subst h2;exact(next a' T' h1 h3).2.1
  ·rintro v H' ⟨T',⟨a',h1,h2,h3⟩,rfl⟩;subst h2;exact(next a' T' h1 h3).2.2
  rintro v H' ⟨T',⟨e,h1,h2⟩,rfl⟩ τ' hτ;subst h2;exact pan e h1 τ' T' hτ
 refine Dr.pan _ ho hn Au hop haft chk hfx ?_ owe ?_
 ·rintro v H' ⟨T',⟨a',h1,h2,h3⟩,rfl⟩;exact hx ⟨a',T',h1,h3⟩
 rintro v H' ⟨T',⟨e,h1,h2⟩,rfl⟩ τ' hτ;subst h2;exact pan e h1 τ' T' hτ
end
theorem DS:∀xs:List AV,Fl xs xs
 | []=>FB
 | x::xs=>aw (we rfl) (DS xs)
def mS (ops:Array Oper) (t:Nat):Bool:=ops.toList.all fun o=>match o.dst with | some u=> !(Nat.beq u t) | none=>true
theorem Q9 {ops:Array Oper}{t:Nat}(h:mS ops t=true) (k:Nat) (o:Oper) (ho:ops[k]?=some o):o.dst≠some t:=by
 intro e;have hm:o∈ops.toList:=by
  rw[←Array.getElem?_toList] at ho;exact List.mem_of_getElem? ho
 have:=List.all_eq_true.1 h o hm;simp[e] at this
theorem Lg {L Hs:List BL}{is:List Nat}(X:List BL) (hn:is.Nodup) (hg:FD L is Hs):(X++L).Perm (Hs++(X++C0 is 0 L)):=by
 have h:=(DK hn hg).append_left X;refine h.trans ?_;rw[←List.append_assoc,←List.append_assoc];exact List.perm_append_comm.append_right _
theorem ES.eq {P:Program}{f:FuncId}{caps:List AV}{m:MD}{H X:List BL}{R:List BL→Prop}(h:ES P f caps m H (fun H'=>H'=X)) (hq:R X):ES P f caps m H R:=by
 refine⟨h.1,fun F w vs u hH hr hm=>?_⟩;refine(h.2 F w vs u hH hr hm).mono ?_;rintro e u' w' ⟨v,H',F',h1,h2,rfl,h3,h4⟩;exact⟨v,_,F',h1,h2,hq,h3,h4⟩
end Go.Abs
namespace Go.Eu
open Go.Abs
mutual
def Vp:Tm→Prop
 | .mk k i _ _ ks=>(k=0→0≤i∧i<1099511627776)∧SU ks
def SU:List Tm→Prop
 | []=>True
 | t::ts=>Vp t∧SU ts
end
theorem Lq:∀{ts:List Tm}{i:Nat}{t:Tm},SU ts→ts[i]?=some t→Vp t
 | [],i,t,_,h=>by simp at h
 | a::ts,0,t,hn,h=>by simp at h;subst h;exact hn.1
 | a::ts,i+1,t,hn,h=>by simp at h;exact Lq hn.2 h
def Ny:Tm→Tm
 | .mk k i n l _=> .mk k i n l []
def H6 (i:Int):Except Int Tm:=if i > 65535 then .error 24 else .ok (PH i)
def Uf (n m:Int):Except Int Int:=if wr (n+m) > 4096 then .error 5 else .ok (wr (n+m))
def Xi (b fr:Int) (t:Tm) (d:Int):Except Int Tm :=
 if t.index - d<fr then .ok (Ny t) else if b<0∧t.index - d<fr - b then .error 24 else H6 (t.index+b)
def MA {α β:Type}(f:α→β):Except Int α→Except Int β
 | .error e=> .error e
 | .ok x=> .ok (f x)
def DZ {α β:Type}(x:Except Int α) (f:α→Except Int β):Except Int β :=
 match x with
 | .error e=> .error e
 | .ok x=>f x
def Jg (rep:Tm→Int→Except Int Tm) (s:Unit) (t:Tm) (d:Int):Except Int ((Tm×Bool)×Unit) :=
 if t.kind=0 then MA (fun x=>((x,true),())) (rep t d) else .ok ((Ny t,false),())
mutual
def Dx {σ:Type}(vis:σ→Tm→Int→Except Int ((Tm×Bool)×σ)):Tm→Int→σ→Except Int (Tm×σ)
 | .mk k i n l ks,d,s=>DZ (vis s (.mk k i n l ks) d) fun r =>
   if r.1.2=true then .ok (r.1.1,r.2) else DZ (Dm vis k 0 ks d r.2) fun q=> .ok (Ky r.1.1 q.1,q.2)
def Dm {σ:Type}(vis:σ→Tm→Int→Except Int ((Tm×Bool)×σ)) (k:Int):Nat→List Tm→Int→σ→Except Int (List Tm×σ)
 | _,[],_,s=> .ok ([],s)
 | j,t::ts,d,s=>DZ (Dx vis t (d+below k j) s) fun r=>DZ (Dm vis k (j+1) ts d r.2) fun q=> .ok (r.1::q.1,q.2)
end
section
variable {σ:Type}{vis:σ→Tm→Int→Except Int ((Tm×Bool)×σ)}
theorem Ft {t:Tm}{d:Int}{s q:σ}{o:Tm}(h:vis s t d= .ok ((o,true),q)):Dx vis t d s= .ok (o,q):=by
 obtain⟨k,i,n,l,ks⟩:=t;simp[Dx,h,DZ]
theorem HT {t:Tm}{d e:Int}{s:σ}(h:vis s t d= .error e):Dx vis t d s= .error e:=by
 obtain⟨k,i,n,l,ks⟩:=t;simp[Dx,h,DZ]
theorem Hl {k i d:Int}{n:ByteArray}{l:List Cf}{ks:List Tm}{s q q':σ}{o:Tm}{ys:List Tm}(h:vis s (.mk k i n l ks) d= .ok ((o,false),q)) (hk:Dm vis k 0 ks d q= .ok (ys,q')):Dx vis (.mk k i n l ks) d s= .ok (Ky o ys,q'):=by
 simp[Dx,h,DZ,hk]
theorem I9 {k i d e:Int}{n:ByteArray}{l:List Cf}{ks:List Tm}{s q:σ}{o:Tm}(h:vis s (.mk k i n l ks) d= .ok ((o,false),q)) (hk:Dm vis k 0 ks d q= .error e):Dx vis (.mk k i n l ks) d s= .error e:=by
 simp[Dx,h,DZ,hk]
def P7 (vis:σ→Tm→Int→Except Int ((Tm×Bool)×σ)) (k:Int) (ts:List Tm) (d:Int) (q0:σ) (i:Nat) (ys:List Tm) (q:σ):Prop :=
 ys.length=i∧Dm vis k 0 ts d q0=DZ (Dm vis k i (ts.drop i) d q) fun r=> .ok (ys++r.1,r.2)
theorem P7.zero (k:Int) (ts:List Tm) (d:Int) (q0:σ):P7 vis k ts d q0 0 [] q0:=by
 refine⟨O,?_⟩;simp only[List.drop_zero,List.nil_append];cases Dm vis k 0 ts d q0<;>rfl
theorem P7.err {k d e:Int}{ts ys:List Tm}{q0 q:σ}{i:Nat}{x:Tm}(h:P7 vis k ts d q0 i ys q) (hx:ts[i]?=some x) (hb:Dx vis x (d+below k i) q= .error e):Dm vis k 0 ts d q0= .error e:=by
 rw[h.2,C2 hx,Dm,hb];rfl
theorem P7.succ {k d:Int}{ts ys:List Tm}{q0 q q':σ}{i:Nat}{x y:Tm}(h:P7 vis k ts d q0 i ys q) (hx:ts[i]?=some x) (hb:Dx vis x (d+below k i) q= .ok (y,q')):P7 vis k ts d q0 (i+1) (ys++[y]) q':=by
 refine⟨by simp[h.1],?_⟩;rw[h.2,C2 hx,Dm,hb];simp only[DZ];cases Dm vis k (i+1) (ts.drop (i+1)) d q'<;>simp
theorem P7.fin {k d:Int}{ts ys:List Tm}{q0 q:σ}{i:Nat}(h:P7 vis k ts d q0 i ys q) (hi:ts.length≤i):Dm vis k 0 ts d q0= .ok (ys,q):=by
 rw[h.2,List.drop_eq_nil_of_le hi,Dm];simp[DZ]
end
theorem da {ys:List Tm}{i m:Nat}{x:Tm}(h:ys.length=i) (hm:0<m):(ys++List.replicate m Be).set i x=(ys++[x])++List.replicate (m - 1) Be:=by
 subst h;cases m with
 | zero=>omega
 | succ m=>simp[List.replicate_succ]
section
variable {b fr d k i:Int}{n:ByteArray}{l:List Cf}{ks:List Tm}
theorem XX (h:i - d<fr):Xi b fr (.mk k i n l ks) d= .ok (.mk k i n l []):=by simp[Xi,Tm.index,Ny,h]
theorem e8 (h:¬i - d<fr) (h2:b<0) (h3:i - d<fr - b):Xi b fr (.mk k i n l ks) d= .error 24:=by unfold Xi;exact(if_neg h).trans (if_pos ⟨h2,h3⟩)
theorem V3 (h:¬i - d<fr) (h2:¬(b<0∧i - d<fr - b)):Xi b fr (.mk k i n l ks) d=H6 (i+b):=by unfold Xi;exact(if_neg h).trans (if_neg h2)
variable {rep:Tm→Int→Except Int Tm}{s:Unit}
theorem NJ {e:Int}(h:k=0) (hr:rep (.mk k i n l ks) d= .error e):Jg rep s (.mk k i n l ks) d= .error e:=by unfold Jg;exact(if_pos h).trans (by rw[hr];rfl)
theorem LX {x:Tm}(h:k=0) (hr:rep (.mk k i n l ks) d= .ok x):Jg rep s (.mk k i n l ks) d= .ok ((x,true),()):=by unfold Jg;exact(if_pos h).trans (by rw[hr];rfl)
theorem No (h:k≠0):Jg rep s (.mk k i n l ks) d= .ok ((.mk k i n l [],false),()):=by unfold Jg;exact(if_neg h).trans rfl
end
def KT (b fr:Int) (t:Tm):Except Int Tm:=MA Prod.fst (Dx (Jg (Xi b fr)) t 0 ())
theorem Pv {α β:Type}{f:α→β}{x:Except Int α}{a:α}(h:x= .ok a):MA f x= .ok (f a):=by rw[h];rfl
theorem ON {α β:Type}{f:α→β}{x:Except Int α}{e:Int}(h:x= .error e):MA f x= .error e:=by rw[h];rfl
def Iq (vs:List Tm) (dp ti d:Int):Int:=if 0≤wr (wr (ti - d) - dp)∧wr (wr (ti - d) - dp)<(vs.length:Int) then wr (wr (ti - d) - dp) else -1
theorem cw {vs:List Tm}{dp ti d:Int}(h1:0≤wr (wr (ti - d) - dp)) (h2:wr (wr (ti - d) - dp)<(vs.length:Int)):Iq vs dp ti d=wr (wr (ti - d) - dp):=if_pos ⟨h1,h2⟩
theorem dx {vs:List Tm}{dp ti d:Int}(h:¬(0≤wr (wr (ti - d) - dp)∧wr (wr (ti - d) - dp)<(vs.length:Int))):Iq vs dp ti d= -1:=if_neg h
theorem TT {vs:List Tm}{dp ti d:Int}(h:0≤Iq vs dp ti d):Iq vs dp ti d<(vs.length:Int):=by
 unfold Iq at *;split<;>omega
def Th (vs:List Tm) (sz:List Int) (dp:Int) (t:Tm) (d:Int):Int :=
 if t.kind=0∧0≤Iq vs dp t.index d then sz.getD (Iq vs dp t.index d).toNat 0 else 1
def Qo (vs:List Tm) (sz:List Int) (dp:Int) (n:Int) (t:Tm) (d:Int):Except Int ((Tm×Bool)×Int) :=
 MA (fun m=>((Be,decide (t.kind=0)),m)) (Uf n (Th vs sz dp t d))
def KP (vs:List Tm) (dp:Int) (t:Tm) (d:Int):Except Int Tm :=
 if 0≤Iq vs dp t.index d then KT (wr (dp+d)) 0 (vs.getD (Iq vs dp t.index d).toNat Be)
 else if wr (t.index - d)<dp then .ok (Ny t) else H6 (wr (t.index - vs.length))
def JU (vs:List Tm) (dp:Int) (t:Tm):Except Int Tm :=
 DZ (Dx (Qo vs (vs.map fun v=>(size v:Int)) dp) t 0 0) fun _=>MA Prod.fst (Dx (Jg (KP vs dp)) t 0 ())
def Fc (t:Tm) (vs:List Tm) (dp:Int):Tm×Int :=
 match JU vs dp t with
 | .error e=>(Be,e)
 | .ok x=>if Ep x > 200 then (Be,7) else (x,0)
section
variable {vs:List Tm}{sz:List Int}{dp n d k i r m e:Int}{nm:ByteArray}{l:List Cf}{ks:List Tm}
theorem Pk (hm:Th vs sz dp (.mk k i nm l ks) d=m) (hz:Uf n m= .ok r):Qo vs sz dp n (.mk k i nm l ks) d= .ok ((Be,decide (k=0)),r):=by
 subst hm;exact Pv hz
theorem NW (hm:Th vs sz dp (.mk k i nm l ks) d=m) (hz:Uf n m= .error e):Qo vs sz dp n (.mk k i nm l ks) d= .error e:=by
 subst hm;exact ON hz
theorem Q1 (h:k=0∧0≤Iq vs dp i d) (hx:sz[(Iq vs dp i d).toNat]?=some m):Th vs sz dp (.mk k i nm l ks) d=m:=by
 unfold Th;refine(if_pos h).trans ?_;rw[List.getD_eq_getElem?_getD];exact(congrArg (fun o=>Option.getD o 0) hx)
theorem Pg (h:¬(k=0∧0≤Iq vs dp i d)):Th vs sz dp (.mk k i nm l ks) d=1:=by
 unfold Th;exact if_neg h
theorem RJ {v:Tm}(h:0≤Iq vs dp i d) (hx:vs[(Iq vs dp i d).toNat]?=some v):KP vs dp (.mk k i nm l ks) d=KT (wr (dp+d)) 0 v:=by
 unfold KP;refine(if_pos h).trans ?_;rw[List.getD_eq_getElem?_getD];exact(congrArg (fun o=>KT (wr (dp+d)) 0 (Option.getD o Be)) hx)
theorem U5 (h:¬0≤Iq vs dp i d) (h2:wr (i - d)<dp):KP vs dp (.mk k i nm l ks) d= .ok (.mk k i nm l []):=by
 unfold KP;exact(if_neg h).trans ((if_pos h2).trans rfl)
theorem UG (h:¬0≤Iq vs dp i d) (h2:¬wr (i - d)<dp):KP vs dp (.mk k i nm l ks) d=H6 (wr (i - vs.length)):=by
 unfold KP;exact(if_neg h).trans (if_neg h2)
end
theorem II {t:Tm}{vs:List Tm}{dp e:Int}(h:JU vs dp t= .error e):Fc t vs dp=(Be,e):=by unfold Fc;rw[h]
theorem Ox {t x:Tm}{vs:List Tm}{dp:Int}(h:JU vs dp t= .ok x) (hd:Ep x > 200):Fc t vs dp=(Be,7):=by unfold Fc;rw[h];exact if_pos hd
theorem SA {t x:Tm}{vs:List Tm}{dp:Int}(h:JU vs dp t= .ok x) (hd:¬Ep x > 200):Fc t vs dp=(x,0):=by unfold Fc;rw[h];exact if_neg hd
theorem Ld {t x:Tm}{vs:List Tm}{dp:Int}{a:Tm×Int}{b:Unit}(h1:Dx (Qo vs (vs.map fun v=>(size v:Int)) dp) t 0 0= .ok a) (h2:Dx (Jg (KP vs dp)) t 0 ()= .ok (x,b)):JU vs dp t= .ok x:=by
 unfold JU;rw[h1];exact Pv h2
theorem Oq {t:Tm}{vs:List Tm}{dp e:Int}(h1:Dx (Qo vs (vs.map fun v=>(size v:Int)) dp) t 0 0= .error e):JU vs dp t= .error e:=by
 unfold JU;rw[h1];rfl
theorem Oz {t:Tm}{vs:List Tm}{dp e:Int}{a:Tm×Int}(h1:Dx (Qo vs (vs.map fun v=>(size v:Int)) dp) t 0 0= .ok a) (h2:Dx (Jg (KP vs dp)) t 0 ()= .error e):JU vs dp t= .error e:=by
 unfold JU;rw[h1];exact ON h2
theorem Wr:∀{ts:List Tm},(∀t∈ts,Nd t)→Mk ts
 | [],_=>trivial
 | t::ts,h=>⟨h t As,Wr fun x hx=>h x (by simp[hx])⟩
section
variable {σ:Type}{vis:σ→Tm→Int→Except Int ((Tm×Bool)×σ)}
mutual
theorem Nu (hv:∀s t d r,Nd t→Vp t→vis s t d= .ok r→Nd r.1.1):∀(t:Tm) (d:Int) (s:σ) (r:Tm×σ),Nd t→Vp t→Dx vis t d s= .ok r→Nd r.1
 | .mk k i n l ks,d,s,r,h1,h2,h=>by
  unfold Dx DZ at h;split at h
  ·cases h
  rename_i r1 hr;have hn:=hv _ _ _ _ h1 h2 hr;simp only at h;split at h
  ·injection h with h;subst h;exact hn
  split at h
  ·cases h
  rename_i q hq;injection h with h;subst h;obtain⟨g1,g2⟩:=RP hv ks k 0 d r1.2 q h1.2.2.2.2.1 h2.2 hq;obtain⟨⟨o,dn⟩,q1⟩:=r1;obtain⟨ok,oi,on,ol,os⟩:=o;exact⟨hn.1,hn.2.1,hn.2.2.1,by rw[g2];exact h1.2.2.2.1,g1,hn.2.2.2.2.2⟩
theorem RP (hv:∀s t d r,Nd t→Vp t→vis s t d= .ok r→Nd r.1.1):∀(ts:List Tm) (k:Int) (j:Nat) (d:Int) (s:σ) (r:List Tm×σ),Mk ts→SU ts→Dm vis k j ts d s= .ok r→Mk r.1∧r.1.length=ts.length
 | [],k,j,d,s,r,h1,h2,h=>by
  unfold Dm at h;injection h with h;subst h;exact⟨trivial,rfl⟩
 | t::ts,k,j,d,s,r,h1,h2,h=>by
  unfold Dm DZ at h;split at h
  ·cases h
  rename_i r1 hr;simp only at h;split at h
  ·cases h
  rename_i q hq;injection h with h;subst h;obtain⟨g1,g2⟩:=RP hv ts k (j+1) d r1.2 q h1.2 h2.2 hq;exact⟨⟨Nu hv t _ _ _ h1.1 h2.1 hr,g1⟩,by simp[g2]⟩
end
end
theorem Py {t:Tm}(h:Nd t):Nd (Ny t):=by
 obtain⟨k,i,n,l,ks⟩:=t;exact⟨h.1,h.2.1,h.2.2.1,by decide,trivial,h.2.2.2.2.2⟩
theorem Uz {i:Int}{x:Tm}(hi: -9223372036854775808≤i) (h:H6 i= .ok x):Nd x:=by
 unfold H6 at h;split at h
 ·cases h
 injection h with h;subst h;exact⟨by decide,by decide,by simp,by decide,trivial,⟨by decide,by decide⟩,⟨hi,by omega⟩⟩
theorem Xu {rep:Tm→Int→Except Int Tm}(hr:∀t d x,Nd t→Vp t→t.kind=0→rep t d= .ok x→Nd x):∀(s:Unit) (t:Tm) (d:Int) (r:(Tm×Bool)×Unit),Nd t→Vp t→Jg rep s t d= .ok r→Nd r.1.1:=by
 intro s t d r h1 h2 h;unfold Jg at h;split at h
 ·rename_i hk;unfold MA at h;split at h
  ·cases h
  rename_i x hx;injection h with h;subst h;exact hr t d x h1 h2 hk hx
 injection h with h;subst h;exact Py h1
theorem Yd {b fr:Int}{t x:Tm}(hb:JJ b) (h1:Nd t) (h2:Vp t) (h:KT b fr t= .ok x):Nd x:=by
 unfold KT MA at h;split at h
 ·cases h
 rename_i r hr;injection h with h;subst h;refine Nu (Xu ?_) t 0 () r h1 h2 hr;intro t d x g1 g2 g3 g;obtain⟨k,i,n,l,ks⟩:=t;have hi:=g2.1 g3;unfold Xi at g;split at g
 ·injection g with g;subst g;exact Py g1
 split at g
 ·cases g
 exact Uz (by have:=hb.1;simp only[Tm.index];omega) g
theorem gA {vs:List Tm}{dp:Int}{t x:Tm}{u:Unit}(hv:Mk vs) (hp:SU vs) (h1:Nd t) (h2:Vp t) (h:Dx (Jg (KP vs dp)) t 0 ()= .ok (x,u)):Nd x:=by
 refine Nu (Xu ?_) t 0 () (x,u) h1 h2 h;intro t d x g1 g2 g3 g;unfold KP at g;split at g
 ·rename_i h0;have hl:=TT h0;obtain⟨v,hx⟩:=BB (l:=vs) (i:=(Iq vs dp t.index d).toNat) Ar;rw[List.getD_eq_getElem?_getD,hx] at g;exact Yd (WE _) (Dy hv hx) (Lq hp hx) g
 split at g
 ·injection g with g;subst g;exact Py g1
 exact Uz (WE _).1 g
theorem jm {vs:List Tm}{i:Nat}{x:Tm}(hx:vs[i]?=some x):(((vs.take i).map fun v=>(size v:Int))++List.replicate (vs.length - i) 0).set i (size x:Int)=((vs.take (i+1)).map fun v=>(size v:Int))++List.replicate (vs.length - (i+1)) 0:=by
 have hi:i<vs.length:=by
  rcases Nat.lt_or_ge i vs.length with h | h
  ·exact h
  rw[List.getElem?_eq_none h] at hx;cases hx
 obtain⟨m,hm⟩:∃m,vs.length - i=m+1:=⟨vs.length - i - 1,by omega⟩;have hl:((vs.take i).map fun v=>(size v:Int)).length=i:=by simp;omega
 rw[List.take_add_one,hx,hm,show vs.length - (i+1)=m by omega,List.replicate_succ,List.set_append_right _ _ Ar,hl];simp
theorem mE {vs:List Tm}{i:Nat}(h:vs.length≤i):((vs.take i).map fun v=>(size v:Int))++List.replicate (vs.length - i) 0=vs.map fun v=>(size v:Int):=by
 rw[List.take_of_length_le h,show vs.length - i=0 by omega];simp
theorem Xq {k i:Int}{n:ByteArray}{l:List Cf}{ks:List Tm}(h:Wt (.mk k i n l ks)) (hk:k=0):ks=[]:=by
 have:=h.1;subst hk;cases ks with
 | nil=>rfl
 | cons a b=>simp[arity] at this;omega
def E6 (x:Tm×Int):Except Int (Tm×Unit):=if x.2=0 then .ok (x.1,()) else .error x.2
def GW (x:List Tm×Int):Except Int (List Tm×Unit):=if x.2=0 then .ok (x.1,()) else .error x.2
theorem UW {er e:Int}(h:er≠0):GI er e=er:=by unfold GI;rw[if_neg h]
theorem XJ {er i:Int}(h:er≠0):NK er i=er:=by unfold NK;split<;>simp[UW h]
mutual
theorem SZ (b fr:Int):∀(t:Tm) (d er:Int),er≠0→(Ce b fr d er t).2=er
 | .mk k i n l ks,d,er,h=>by
  unfold Ce;split
  ·split
   ·rfl
   split
   ·exact UW h
   exact XJ h
  exact KH b fr k ks d 0 er h
theorem KH (b fr k:Int):∀(ts:List Tm) (d:Int) (j:Nat) (er:Int),er≠0→(C9 b fr k d j er ts).2=er
 | [],d,j,er,h=>rfl
 | t::ts,d,j,er,h=>by
  unfold C9;simp only;rw[SZ b fr t _ er h];exact KH b fr k ts d (j+1) er h
end
mutual
theorem Rt (b:Int) (hb:0≤b) (hb2:b<4398046511104):∀(t:Tm) (d:Int),Wt t→Vp t→0≤d→d+size t<2199023255552→Dx (Jg (Xi b 0)) t d ()=E6 (Ce b 0 d 0 t)
 | .mk k i n l ks,d,h1,h2,h3,h4=>by
  by_cases hk:k=0
  ·have hks:=Xq h1 hk;have hi:=h2.1 hk;have e1:wr (0+d)=d:=by rw[Int.zero_add];exact Ej (by unfold JJ;omega)
   have e2:wr (i+b)=i+b:=Ej (by unfold JJ;omega);by_cases hlo:i - d<0
   ·rw[Ft (LX hk (XX hlo))];unfold Ce;rw[if_pos hk,e1,if_pos Ar];subst hks;rfl
   have hsh:Xi b 0 (.mk k i n l ks) d=H6 (i+b):=V3 hlo Ar;unfold Ce;rw[if_pos hk,e1,if_neg Ar,e2,if_neg Ar];by_cases hbig:i+b > 65535
   ·rw[HT (NJ hk (hsh.trans (if_pos hbig)))];unfold E6 NK GI;simp[hbig]
   rw[Ft (LX hk (hsh.trans (if_neg hbig)))];unfold E6 NK;simp[hbig]
  have hs:d+Bg ks<2199023255551:=by simp only[size] at h4;omega
  have hL:=Qp b hb hb2 k ks d 0 h1.2.2 h2.2 h3 hs;unfold Ce;rw[if_neg hk];unfold GW at hL;unfold E6;by_cases he:(C9 b 0 k d 0 0 ks).2=0
  ·rw[if_pos he] at hL;rw[if_pos he];exact Hl (No hk) hL
  rw[if_neg he] at hL;rw[if_neg he];exact I9 (No hk) hL
theorem Qp (b:Int) (hb:0≤b) (hb2:b<4398046511104) (k:Int):∀(ts:List Tm) (d:Int) (j:Nat),Mn ts→SU ts→0≤d→d+Bg ts<2199023255551→Dm (Jg (Xi b 0)) k j ts d ()=GW (C9 b 0 k d j 0 ts)
 | [],d,j,h1,h2,h3,h4=>rfl
 | t::ts,d,j,h1,h2,h3,h4=>by
  have hbl:=DD k j;simp only[Bg] at h4;have hT:=Rt b hb hb2 t (d+below k j) h1.1 h2.1 Ar Ar;have hL:=Qp b hb hb2 k ts d (j+1) h1.2 h2.2 h3 Ar;unfold Dm C9;rw[hT];unfold E6 GW DZ;by_cases he:(Ce b 0 (d+below k j) 0 t).2=0
  ·rw[if_pos he];simp only;rw[hL,he];unfold GW;by_cases hq:(C9 b 0 k d (j+1) 0 ts).2=0
   ·rw[if_pos hq,if_pos hq]
   rw[if_neg hq,if_neg hq]
  rw[if_neg he];simp only;rw[KH b 0 k ts d (j+1) _ he,if_neg he]
end
theorem Yk {b:Int}{v:Tm}(hb:0≤b) (hb2:b<4398046511104) (h1:Wt v) (h2:Vp v) (h3:size v<1099511627776):KT b 0 v=if (Ce b 0 0 0 v).2=0 then .ok (Ce b 0 0 0 v).1 else .error (Ce b 0 0 0 v).2:=by
 unfold KT;rw[Rt b hb hb2 v 0 h1 h2 Ar Ar];unfold E6;split<;>rfl
section
variable {vs:List Tm}{d er nd k i:Int}{n:ByteArray}{l:List Cf}{ks:List Tm}
theorem MH {t:Tm}(h:nd > 4096):CW vs d er nd t=(t,er,nd):=by
 obtain⟨k,i,n,l,ks⟩:=t;unfold CW;rw[if_pos h]
theorem I2 (h:nd > 4096):∀(ts:List Tm) (d:Int) (j:Nat),Cg vs k d j er nd ts=(ts,er,nd)
 | [],d,j=>rfl
 | t::ts,d,j=>by unfold Cg;rw[MH h];simp only;rw[I2 h ts d (j+1)]
theorem Mg {v:Tm}(h:nd≤4096) (hk:k=0) (h1:i≥d) (h2:i - d<(vs.length:Int)) (hv:vs[(i - d).toNat]?=some v):CW vs d er nd (.mk k i n l ks)=((Ce d 0 0 er v).1,(Ce d 0 0 er v).2,wr (nd+Fo v)):=by
 unfold CW;rw[if_neg Ar,if_pos ⟨hk,h1,h2⟩,List.getD_eq_getElem?_getD,hv];rfl
theorem OY (h:nd≤4096) (hk:k=0) (h1:i≥d) (h2:¬i - d<(vs.length:Int)):CW vs d er nd (.mk k i n l ks)=(PH (wr (i - vs.length)),NK er (wr (i - vs.length)),wr (nd+1)):=by
 unfold CW;rw[if_neg Ar,if_neg Ar,if_pos hk,if_pos h1]
theorem Mm (h:nd≤4096) (hk:k=0) (h1:¬i≥d):CW vs d er nd (.mk k i n l ks)=(.mk k i n l ks,er,wr (nd+1)):=by
 unfold CW;rw[if_neg Ar,if_neg Ar,if_pos hk,if_neg h1]
theorem LQ (h:nd≤4096) (hk:k≠0):CW vs d er nd (.mk k i n l ks)=((.mk k i n l (Cg vs k d 0 er (wr (nd+1)) ks).1),(Cg vs k d 0 er (wr (nd+1)) ks).2):=by
 unfold CW;rw[if_neg Ar,if_neg Ar,if_neg hk]
end
mutual
theorem Zk (vs:List Tm):∀(t:Tm) (d er nd:Int),er≠0→(CW vs d er nd t).2.1=er
 | .mk k i n l ks,d,er,nd,h=>by
  unfold CW;split
  ·rfl
  split
  ·exact SZ _ _ _ _ _ h
  split
  ·split
   ·exact XJ h
   rfl
  exact KK vs k ks d 0 er _ h
theorem KK (vs:List Tm) (k:Int):∀(ts:List Tm) (d:Int) (j:Nat) (er nd:Int),er≠0→(Cg vs k d j er nd ts).2.1=er
 | [],d,j,er,nd,h=>rfl
 | t::ts,d,j,er,nd,h=>by
  unfold Cg;simp only;rw[Zk vs t _ er nd h];exact KK vs k ts d (j+1) er _ h
end
structure PL (vs:List Tm) (dp:Int):Prop where
 wt:Mn vs
 vp:SU vs
 sz:∀x∈vs,size x<1099511627776
 len:vs.length<1099511627776
 lo:0≤dp
 hi:dp≤65536
theorem PL.size {vs:List Tm}{dp:Int}(V:PL vs dp):∀x∈vs,(size x:Int)≤1099511627776:=fun x hx=>by have:=V.sz x hx;omega
theorem Xw {vs:List Tm}{dp i d:Int}(V:PL vs dp) (h1:0≤i) (h2:i<1099511627776) (h3:0≤d) (h4:d<2199023255552):Iq vs dp i d=if dp+d≤i∧i - (dp+d)<(vs.length:Int) then i - (dp+d) else -1:=by
 have:=V.lo;have:=V.hi;have e1:wr (i - d)=i - d:=Ej (by unfold JJ;omega);have e2:wr (i - d - dp)=i - (dp+d):=by rw[Ej (by unfold JJ;omega)];omega
 unfold Iq;rw[e1,e2];by_cases h:dp+d≤i∧i - (dp+d)<(vs.length:Int)
 ·rw[if_pos h,if_pos Ar]
 rw[if_neg h,if_neg Ar]
theorem YM {n m:Int}(h1:0≤n) (h2:n≤4096) (h3:0≤m) (h4:m≤1099511627776):Uf n m=if n+m > 4096 then .error 5 else .ok (n+m):=by
 unfold Uf;rw[show wr (n+m)=n+m from Ej (by unfold JJ;omega)]
def jC {α:Type}(x:Except Int (α×Int)) (m:Int):Prop:=(m > 4096→x= .error 5)∧(m≤4096→∃z,x= .ok (z,m))
def jZ (vs:List Tm):List Int:=vs.map fun v=>(size v:Int)
theorem fX {vs:List Tm}{i:Nat}{v:Tm}(h:vs[i]?=some v):(jZ vs)[i]?=some (size v:Int):=by simp[jZ,h]
mutual
theorem Xp {vs:List Tm}{dp:Int}(V:PL vs dp):∀(t:Tm) (d er nd:Int),Wt t→Vp t→0≤d→d+size t<2199023255552→0≤nd→nd≤4096→jC (Dx (Qo vs (jZ vs) dp) t d nd) (CW vs (dp+d) er nd t).2.2
 | .mk k i n l ks,d,er,nd,h1,h2,h3,h4,h5,h6=>by
  have hone:∀m:Int,0≤m→m≤1099511627776→Th vs (jZ vs) dp (.mk k i n l ks) d=m→k=0→jC (Dx (Qo vs (jZ vs) dp) (.mk k i n l ks) d nd) (wr (nd+m)):=by
   intro m g1 g2 g3 hk;have ha:=YM h5 h6 g1 g2;rw[show wr (nd+m)=nd+m from Ej (by unfold JJ;omega)];refine⟨fun h=>?_,fun h=>?_⟩
   ·rw[if_pos h] at ha;exact HT (NW g3 ha)
   rw[if_neg Ar] at ha;refine⟨Be,Ft ?_⟩;rw[Pk g3 ha,hk];rfl
  by_cases hk:k=0
  ·have hi:=h2.1 hk;have hd:d<2199023255552:=by have:=size_pos (Tm.mk k i n l ks);omega
   have hv:=Xw V hi.1 hi.2 h3 hd;by_cases hin:dp+d≤i∧i - (dp+d)<(vs.length:Int)
   ·rw[if_pos hin] at hv;obtain⟨v,hx⟩:=BB (l:=vs) (i:=(i - (dp+d)).toNat) Ar;have hsv:=V.sz v (List.mem_of_getElem? hx);rw[Mg h6 hk hin.1 hin.2 hx,Qb Ar];exact hone _ Ar Ar (Q1 ⟨hk,by omega⟩ (by rw[hv];exact fX hx)) hk
   rw[if_neg hin] at hv;have hc:=hone 1 Ar Ar (Pg Ar) hk;by_cases hge:i≥dp+d
   ·rw[OY h6 hk hge Ar];exact hc
   rw[Mm h6 hk hge];exact hc
  rw[LQ h6 hk];have hs:d+Bg ks<2199023255551:=by simp only[size] at h4;omega
  have e1:wr (nd+1)=nd+1:=Ej (by unfold JJ;omega);have ha:=YM (m:=1) h5 h6 Ar Ar;have hn:Th vs (jZ vs) dp (.mk k i n l ks) d=1:=Pg Ar;have hdec:decide (k=0)=false:=by simp[hk]
  simp only;rw[e1];by_cases hbig:nd+1 > 4096
  ·rw[I2 hbig];rw[if_pos hbig] at ha;exact⟨fun _=>HT (NW hn ha),fun h=>by simp only at h;omega⟩
  rw[if_neg hbig] at ha;have hc:=Pk (l:=l) hn ha;rw[hdec] at hc;obtain⟨g1,g2⟩:=Ud V k ks d 0 er (nd+1) h1.2.2 h2.2 h3 hs Ar Ar;refine⟨fun h=>I9 hc (g1 h),fun h=>?_⟩;obtain⟨z,hz⟩:=g2 h;exact⟨_,Hl hc hz⟩
theorem Ud {vs:List Tm}{dp:Int}(V:PL vs dp) (k:Int):∀(ts:List Tm) (d:Int) (j:Nat) (er nd:Int),Mn ts→SU ts→0≤d→d+Bg ts<2199023255551→0≤nd→nd≤4096→jC (Dm (Qo vs (jZ vs) dp) k j ts d nd) (Cg vs k (dp+d) j er nd ts).2.2
 | [],d,j,er,nd,h1,h2,h3,h4,h5,h6=>⟨fun h=>by simp only[Cg] at h;omega,fun _=>⟨_,rfl⟩⟩
 | t::ts,d,j,er,nd,h1,h2,h3,h4,h5,h6=>by
  have hbl:=DD k j;simp only[Bg] at h4;obtain⟨g1,g2⟩:=Xp V t (d+below k j) er nd h1.1 h2.1 Ar Ar h5 h6;have hm:=(I4 1099511627776 Ar Ar t vs (dp+d+below k j) er nd h1.1 V.wt V.size h5 Ar).1;rw[show dp+(d+below k j)=dp+d+below k j by omega] at g1 g2;unfold Dm Cg;simp only;by_cases hbig:(CW vs (dp+d+below k j) er nd t).2.2 > 4096
  ·rw[g1 hbig,I2 hbig];exact⟨fun _=>O,fun h=>by simp only at h;omega⟩
  obtain⟨z,hz⟩:=g2 Ar;rw[hz];obtain⟨f1,f2⟩:=Ud V k ts d (j+1) (CW vs (dp+d+below k j) er nd t).2.1 (CW vs (dp+d+below k j) er nd t).2.2 h1.2 h2.2 h3 Ar Ar Ar;refine⟨fun h=>?_,fun h=>?_⟩
  ·simp only[DZ];rw[f1 h]
  obtain⟨y,hy⟩:=f2 h;exact⟨z::y,by simp only[DZ];rw[hy]⟩
end
mutual
theorem Xe {vs:List Tm}{dp:Int}(V:PL vs dp):∀(t:Tm) (d nd:Int),Wt t→Vp t→0≤d→d+size t<2199023255552→0≤nd→(CW vs (dp+d) 0 nd t).2.2≤4096→Dx (Jg (KP vs dp)) t d ()=E6 ((CW vs (dp+d) 0 nd t).1,(CW vs (dp+d) 0 nd t).2.1)
 | .mk k i n l ks,d,nd,h1,h2,h3,h4,h5,h6=>by
  have h7:nd≤4096:=by
   rcases Int.lt_or_le 4096 nd with h | h
   ·rw[MH h] at h6;simp only at h6;omega
   exact h
  have:=V.lo;have:=V.hi;have:=V.len;by_cases hk:k=0
  ·have hi:=h2.1 hk;have hks:=Xq h1 hk;have hd:d<2199023255552:=by have:=size_pos (Tm.mk k i n l ks);omega
   have hv:=Xw V hi.1 hi.2 h3 hd;by_cases hin:dp+d≤i∧i - (dp+d)<(vs.length:Int)
   ·rw[if_pos hin] at hv;obtain⟨v,hx⟩:=BB (l:=vs) (i:=(i - (dp+d)).toNat) Ar;have hsv:=V.sz v (List.mem_of_getElem? hx);rw[Mg h7 hk hin.1 hin.2 hx];have hr:KP vs dp (.mk k i n l ks) d=KT (wr (dp+d)) 0 v:=RJ Ar (by rw[hv];exact hx);rw[show wr (dp+d)=dp+d from Ej (by unfold JJ;omega),Yk Ar Ar (Pl V.wt hx) (Lq V.vp hx) hsv] at hr;unfold E6;by_cases he:(Ce (dp+d) 0 0 0 v).2=0
    ·rw[if_pos he] at hr;rw[if_pos he];exact Ft (LX hk hr)
    rw[if_neg he] at hr;rw[if_neg he];exact HT (NJ hk hr)
   rw[if_neg hin] at hv;have e1:wr (i - d)=i - d:=Ej (by unfold JJ;omega);by_cases hge:i≥dp+d
   ·rw[OY h7 hk hge Ar];have hr:KP vs dp (.mk k i n l ks) d=H6 (wr (i - vs.length)):=UG Ar (by rw[e1];omega);unfold H6 at hr;unfold E6 NK GI;by_cases hbig:wr (i - vs.length) > 65535
    ·rw[if_pos hbig] at hr;simp only[hbig,if_true];exact HT (NJ hk hr)
    rw[if_neg hbig] at hr;simp only[hbig,if_false,if_true];exact Ft (LX hk hr)
   rw[Mm h7 hk hge];have hr:KP vs dp (.mk k i n l ks) d= .ok (.mk k i n l []):=U5 Ar (by rw[e1];omega);subst hks;exact Ft (LX hk hr)
  rw[LQ h7 hk] at h6 ⊢;have hs:d+Bg ks<2199023255551:=by simp only[size] at h4;omega
  have e1:wr (nd+1)=nd+1:=Ej (by unfold JJ;omega);simp only at h6 ⊢;rw[e1] at h6 ⊢;have hL:=UP V k ks d 0 (nd+1) h1.2.2 h2.2 h3 hs Ar h6;unfold GW at hL;unfold E6;by_cases he:(Cg vs k (dp+d) 0 0 (nd+1) ks).2.1=0
  ·rw[if_pos he] at hL;rw[if_pos he];exact Hl (No hk) hL
  rw[if_neg he] at hL;rw[if_neg he];exact I9 (No hk) hL
theorem UP {vs:List Tm}{dp:Int}(V:PL vs dp) (k:Int):∀(ts:List Tm) (d:Int) (j:Nat) (nd:Int),Mn ts→SU ts→0≤d→d+Bg ts<2199023255551→0≤nd→(Cg vs k (dp+d) j 0 nd ts).2.2≤4096→Dm (Jg (KP vs dp)) k j ts d ()=GW ((Cg vs k (dp+d) j 0 nd ts).1,(Cg vs k (dp+d) j 0 nd ts).2.1)
 | [],d,j,nd,h1,h2,h3,h4,h5,h6=>rfl
 | t::ts,d,j,nd,h1,h2,h3,h4,h5,h6=>by
  have hbl:=DD k j;simp only[Bg] at h4;have h7:nd≤4096:=by
   rcases Int.lt_or_le 4096 nd with h | h
   ·rw[I2 h] at h6;simp only at h6;omega
   exact h
  have hm:=(I4 1099511627776 Ar Ar t vs (dp+d+below k j) 0 nd h1.1 V.wt V.size h5 Ar);unfold Cg at h6;simp only at h6;have hm2:=(KR 1099511627776 Ar Ar ts vs k (dp+d) (j+1) (CW vs (dp+d+below k j) 0 nd t).2.1 (CW vs (dp+d+below k j) 0 nd t).2.2 h1.2 V.wt V.size Ar hm.2.1).1;have hT:=Xe V t (d+below k j) nd h1.1 h2.1 Ar Ar h5 (by rw[show dp+(d+below k j)=dp+d+below k j by omega];omega);rw[show dp+(d+below k j)=dp+d+below k j by omega] at hT;unfold Dm Cg;rw[hT];simp only;unfold E6 GW DZ;by_cases he:(CW vs (dp+d+below k j) 0 nd t).2.1=0
  ·have hL:=UP V k ts d (j+1) (CW vs (dp+d+below k j) 0 nd t).2.2 h1.2 h2.2 h3 Ar Ar (by rw[he] at h6;exact h6);simp only;rw[if_pos he];simp only;rw[hL,he];unfold GW;by_cases hq:(Cg vs k (dp+d) (j+1) 0 (CW vs (dp+d+below k j) 0 nd t).2.2 ts).2.1=0
   ·simp only[hq,if_true]
   simp only[hq,if_false]
  simp only;rw[if_neg he];simp only;rw[KK vs k ts (dp+d) (j+1) _ _ he,if_neg he]
end
theorem YY {t:Tm}{vs:List Tm}{dp:Int}(V:PL vs dp) (h1:Wt t) (h2:Vp t) (h3:size t<1099511627776):Fc t vs dp=Cv t vs dp:=by
 have:=V.lo;have:=V.hi;have hmin:min dp 65536=dp:=by omega
 obtain⟨g1,g2⟩:=Xp V t 0 0 0 h1 h2 Ar Ar Ar Ar;rw[Int.add_zero] at g1 g2;unfold Cv;rw[hmin];by_cases hbig:(CW vs dp 0 0 t).2.2 > 4096
 ·rw[if_pos hbig];exact II (Oq (g1 hbig))
 rw[if_neg hbig];obtain⟨z,hz⟩:=g2 Ar;have hr:=Xe V t 0 0 h1 h2 Ar Ar Ar (by rw[Int.add_zero];omega);rw[Int.add_zero] at hr;unfold E6 at hr;simp only at hr;by_cases he:(CW vs dp 0 0 t).2.1=0
 ·rw[if_pos he] at hr;rw[if_neg Ar];by_cases hd:Ep (CW vs dp 0 0 t).1 > 200
  ·rw[if_pos hd];exact Ox (Ld hz hr) hd
  rw[if_neg hd];exact SA (Ld hz hr) hd
 rw[if_neg he] at hr;rw[if_pos he];exact II (Oz hz hr)
theorem aC {i:Int}(h0:0≤i) (h1:i≤65535):Vp (PH i):=⟨fun _=>⟨h0,by omega⟩,trivial⟩
theorem TF:Vp Be:=⟨fun _=>⟨by omega,by omega⟩,trivial⟩
mutual
theorem SR (b:Int) (hb:0≤b) (hb2:b<4398046511104):∀(t:Tm) (d:Int),Vp t→0≤d→d+size t<4398046511104→(Ce b 0 d 0 t).2=0→Vp (Ce b 0 d 0 t).1
 | .mk k i n l ks,d,h,hd,hd2,he=>by
  by_cases hk:k=0
  ·have hi:=h.1 hk;have e1:wr (0+d)=d:=by rw[Int.zero_add];exact Ej (by unfold JJ;omega)
   have e2:wr (i+b)=i+b:=Ej (by unfold JJ;omega);unfold Ce at he ⊢;rw[if_pos hk,e1,e2] at he ⊢;by_cases hlo:i<d
   ·rw[if_pos hlo];exact h
   rw[if_neg hlo,if_neg Ar] at he ⊢;unfold NK GI at he;by_cases hbig:i+b > 65535
   ·simp[hbig] at he
   exact aC Ar Ar
  unfold Ce at he ⊢;rw[if_neg hk] at he ⊢;simp only[size] at hd2;exact⟨fun h=>absurd h hk,Q2 b hb hb2 k ks d 0 h.2 hd Ar he⟩
theorem Q2 (b:Int) (hb:0≤b) (hb2:b<4398046511104) (k:Int):∀(ts:List Tm) (d:Int) (j:Nat),SU ts→0≤d→d+Bg ts<4398046511103→(C9 b 0 k d j 0 ts).2=0→SU (C9 b 0 k d j 0 ts).1
 | [],d,j,h,hd,hd2,he=>trivial
 | t::ts,d,j,h,hd,hd2,he=>by
  have hbl:=DD k j;simp only[Bg] at hd2;unfold C9 at he ⊢;simp only at he ⊢;have h0:(Ce b 0 (d+below k j) 0 t).2=0:=by
   rcases Decidable.em ((Ce b 0 (d+below k j) 0 t).2=0) with h | h
   ·exact h
   rw[KH b 0 k ts d (j+1) _ h] at he;exact he
  rw[h0] at he ⊢;exact⟨SR b hb hb2 t _ h.1 Ar Ar h0,Q2 b hb hb2 k ts d (j+1) h.2 hd Ar he⟩
end
mutual
theorem Rm {vs:List Tm}{dp:Int}(V:PL vs dp):∀(t:Tm) (d nd:Int),Vp t→0≤d→d+size t<2199023255552→(CW vs (dp+d) 0 nd t).2.1=0→Vp (CW vs (dp+d) 0 nd t).1
 | .mk k i n l ks,d,nd,h,h3,h4,he=>by
  have:=V.lo;have:=V.hi;have:=V.len;rcases Int.lt_or_le 4096 nd with h7 | h7
  ·rw[MH h7];exact h
  by_cases hk:k=0
  ·have hi:=h.1 hk;by_cases hin:dp+d≤i∧i - (dp+d)<(vs.length:Int)
   ·obtain⟨v,hx⟩:=BB (l:=vs) (i:=(i - (dp+d)).toNat) Ar;have hsv:=V.sz v (List.mem_of_getElem? hx);rw[Mg h7 hk hin.1 hin.2 hx] at he ⊢;exact SR _ Ar Ar v 0 (Lq V.vp hx) Ar Ar he
   by_cases hge:i≥dp+d
   ·rw[OY h7 hk hge Ar] at he ⊢;have e:wr (i - vs.length)=i - vs.length:=Ej (by unfold JJ;omega);simp only[e] at he ⊢;unfold NK GI at he;by_cases hbig:i - (vs.length:Int) > 65535
    ·simp[hbig] at he
    exact aC Ar Ar
   rw[Mm h7 hk hge];exact h
  rw[LQ h7 hk] at he ⊢;simp only[size] at h4;exact⟨fun h=>absurd h hk,RE V k ks d 0 _ h.2 h3 Ar he⟩
theorem RE {vs:List Tm}{dp:Int}(V:PL vs dp) (k:Int):∀(ts:List Tm) (d:Int) (j:Nat) (nd:Int),SU ts→0≤d→d+Bg ts<2199023255551→(Cg vs k (dp+d) j 0 nd ts).2.1=0→SU (Cg vs k (dp+d) j 0 nd ts).1
 | [],d,j,nd,h,h3,h4,he=>trivial
 | t::ts,d,j,nd,h,h3,h4,he=>by
  have hbl:=DD k j;simp only[Bg] at h4;unfold Cg at he ⊢;simp only at he ⊢;have h0:(CW vs (dp+d+below k j) 0 nd t).2.1=0:=by
   rcases Decidable.em ((CW vs (dp+d+below k j) 0 nd t).2.1=0) with h | h
   ·exact h
   rw[KK vs k ts _ (j+1) _ _ h] at he;exact he
  rw[h0] at he ⊢;rw[show dp+d+below k j=dp+(d+below k j) by omega] at he h0 ⊢;exact⟨Rm V t _ nd h.1 Ar Ar h0,RE V k ts d (j+1) _ h.2 h3 Ar he⟩
end
theorem Za {vs:List Tm}{dp:Int}(V:PL vs dp) {t:Tm}(h:Vp t) (hs:size t<1099511627776):Vp (Cv t vs dp).1:=by
 have:=V.lo;have:=V.hi;have hmin:min dp 65536=dp:=by omega
 unfold Cv;rw[hmin];split
 ·exact TF
 split
 ·exact TF
 rename_i hne;split
 ·exact TF
 have:=Rm V t 0 0 h Ar Ar (by rw[Int.add_zero];exact Decidable.not_not.1 hne);rw[Int.add_zero] at this;exact this
structure IS where
 dn:List (Int×Tm)
 op:List Int
 wk:Int
def lC (i:Int):List (Int×Tm)→Option Tm
 | []=>none
 | (j,x)::r=>if j=i then some x else lC i r
def nI (i:Int) (v:Tm):List (Int×Tm)→List (Int×Tm)
 | []=>[(i,v)]
 | (j,x)::r=>if j=i then (j,v)::r else (j,x)::nI i v r
def qx (l:List (Int×Tm)):List (Int×AV):=l.map fun p=>(p.1,TV p.2)
def m8 (x:Tm) (e:Int):Except Int Tm:=if e≠0∨jL x=true then .error 11 else .ok x
def iL:Tm→List Tm→Except Int (Tm×List Tm)
 | v,[]=> .ok (v,[])
 | v,a::l=>if v.kind=5 then DZ (m8 (Fc (v.kids.getD 1 Be) [a] 0).1 (Fc (v.kids.getD 1 Be) [a] 0).2) fun x=>iL x l else .ok (v,a::l)
def IC (F:IS→Tm→Except Int (Tm×IS)):IS→List Tm→Except Int (List Tm×IS)
 | st,[]=> .ok ([],st)
 | st,t::ts=>DZ (F st t) fun r=>DZ (IC F r.2 ts) fun q=> .ok (r.1::q.1,q.2)
def jv (F:IS→Tm→Except Int (Tm×IS)) (ms:List Mv) (st:IS) (i:Int):Except Int (Tm×IS) :=
 match lC i st.dn with
 | some v=> .ok (v,st)
 | none=>if i∈st.op then .error 22 else DZ (F { st with op:=st.op++[i] } (valueOf ms i)) fun r=> .ok (r.1,{ r.2 with dn:=nI i r.1 r.2.dn })
def ma (F:IS→Tm→Except Int (Tm×IS)) (ms:List Mv) (st:IS) (h:Tm):Except Int (Tm×IS) :=
 if known ms h=true then jv F ms st h.index else MA (fun q=>(Ky h q.1,q.2)) (IC F st h.kids)
def dR (ms:List Mv):Nat→IS→Tm→Except Int (Tm×IS)
 | 0,st,t=> .error 11
 | n+1,st,t =>
  if st.wk+1 > 8192000 then .error 11
  else DZ (ma (dR ms n) ms { st with wk:=st.wk+1 } (BD t).1) fun r =>
   DZ (IC (dR ms n) r.2 (BD t).2) fun q =>
   DZ (if known ms (BD t).1=true then iL r.1 q.1 else .ok (r.1,q.1)) fun y =>
   MA (fun z=>(z,q.2)) (m8 (apply y.1 y.2) 0)
structure Ok (S:Nat) (t:Tm):Prop where
 nd:Nd t
 vp:Vp t
 wt:Wt t
 sz:size t≤S
structure po (ms:List Mv) (st:IS):Prop where
 dn:∀p∈st.dn,Ok 4096 p.2
 w0:0≤st.wk
 w1:st.wk≤8192000
abbrev rA (l:List Tm):Prop:=∀x∈l,Ok 4096 x
def nw (st st':IS):Prop:=∀i,i∈st.op→i∈st'.op
def p5 (ms:List Mv) (B:Nat) (F:IS→Tm→Except Int (Tm×IS)):Prop:=∀st t r,Ok B t→po ms st→F st t= .ok r→Ok 4096 r.1∧po ms r.2∧nw st r.2
section
variable {F:IS→Tm→Except Int (Tm×IS)}{ms:List Mv}{st st':IS}{i e:Int}{z:Tm}
end
def TC (F:IS→Tm→Except Int (Tm×IS)) (ts:List Tm) (q0:IS) (i:Nat) (ys:List Tm) (q:IS):Prop :=
 ys.length=i∧IC F q0 ts=DZ (IC F q (ts.drop i)) fun r=> .ok (ys++r.1,r.2)
section
variable {F:IS→Tm→Except Int (Tm×IS)}{ts ys:List Tm}{q0 q q':IS}{i:Nat}{x y:Tm}{e:Int}
theorem TC.zero (F:IS→Tm→Except Int (Tm×IS)) (ts:List Tm) (q0:IS):TC F ts q0 0 [] q0:=by
 refine⟨O,?_⟩;simp only[List.drop_zero,DZ];cases IC F q0 ts<;>simp
theorem TC.err (h:TC F ts q0 i ys q) (hx:ts[i]?=some x) (hb:F q x= .error e):IC F q0 ts= .error e:=by
 rw[h.2,C2 hx,IC,hb];rfl
theorem TC.succ (h:TC F ts q0 i ys q) (hx:ts[i]?=some x) (hb:F q x= .ok (y,q')):TC F ts q0 (i+1) (ys++[y]) q':=by
 refine⟨by simp[h.1],?_⟩;rw[h.2,C2 hx,IC,hb];simp only[DZ];cases IC F q' (ts.drop (i+1))<;>simp
theorem TC.fin (h:TC F ts q0 i ys q) (hi:ts.length≤i):IC F q0 ts= .ok (ys,q):=by
 rw[h.2,List.drop_eq_nil_of_le hi,IC];simp[DZ]
end
section
variable {ms:List Mv}{n:Nat}{dn:List (Int×Tm)}{op:List Int}{wk e:Int}{t v vv z h:Tm}{us ls ks:List Tm}{st1 st2:IS}
end
end Go.Eu
namespace Go.Abs
def fo {β:Type}(mkv:β→AV) (mkH:β→List BL):EG→List BL→Prop
 | .val v,H'=>∃b,v=mkv b∧H'=mkH b
 | .panic _,_=>False
section
variable {P:Program}{ops:Array Oper}{n:Nat}{τ₀ τ:Nat→AV}{D:List EF}{Q:Cu→Bt→Prop}{opn:Nat→Bool}{k:Nat}{H:List BL}{dst:Option Tmp}{ty:TypeId}{pos:String}{aft:Array Edge}{c:Call}{f:Operand}{fid:FuncId}{first caps A:List AV}{β:Type}{mkv:β→AV}{mkH:β→List BL}
theorem YD {r:Option Nat}(ho:ops[k]?=some ⟨dst,.call c,ty,pos,aft,none⟩) (hd:GA dst n=true)
  (hc:c.callee= .value f) (hf:(ev τ f= .p (.fn fid)∧first=[]∧caps=[])∨ev τ f= .fn (.func fid) first caps) (h:Bu P fid A [] (fo mkv mkH)) (hA:Fl (first++c.args.toList.map (ev τ)++caps) A)
  (next:∀b,AL P r ops (k+1) ⟨n,put τ dst (mkv b),mkH b++H,D⟩ Q):AL P r ops k ⟨n,τ,H,D⟩ Q :=
 IL ho hd hc hf (Hs:=[]) (Hf:=H) As (h.args hA) (.inl rfl) (fun v Hs' ⟨b,h1,h2⟩=>by subst h1;subst h2;exact next b) (fun _ _ h=>h.elim)
end
end Go.Abs
namespace Go.Eu
open Go.Abs
def Wz (ms:List Mv) (n:Nat) (t:Tm):Tm×Int :=
 match dR ms n ⟨[],[],0⟩ t with
 | .ok r=>(r.1,0)
 | .error e=>(Be,e)
def qI (ms:List Mv) (n:Nat) (t:Tm):List Int×Int:=if (Wz ms n t).2≠0 then ([],(Wz ms n t).2) else (W7 [] (Wz ms n t).1,0)
mutual
def TP (p:Int→Int→ByteArray→List Cf→Prop):Tm→Prop
 | .mk k i n l ks=>p k i n l∧fJ p ks
def fJ (p:Int→Int→ByteArray→List Cf→Prop):List Tm→Prop
 | []=>True
 | t::ts=>TP p t∧fJ p ts
end
section
variable {p q:Int→Int→ByteArray→List Cf→Prop}
mutual
theorem TP.imp (h:∀k i n l,p k i n l→q k i n l):∀(t:Tm),TP p t→TP q t
 | .mk k i n l ks,ht=>⟨h _ _ _ _ ht.1,fJ.imp h ks ht.2⟩
theorem fJ.imp (h:∀k i n l,p k i n l→q k i n l):∀(ts:List Tm),fJ p ts→fJ q ts
 | [],_=>trivial
 | t::ts,ht=>⟨TP.imp h t ht.1,fJ.imp h ts ht.2⟩
end
end
def p4 (ms:List Mv) (D:List Int) (k i:Int) (n:ByteArray) (l:List Cf):Prop:=known ms (.mk k i n l [])=true→i∈D
abbrev KM (ms:List Mv) (D:List Int):Tm→Prop:=TP (p4 ms D)
abbrev nB (ms:List Mv) (D:List Int):List Tm→Prop:=fJ (p4 ms D)
theorem KM.mono {ms:List Mv}{D D':List Int}(h:∀i∈D,i∈D') {t:Tm}(ht:KM ms D t):KM ms D' t:=TP.imp (fun k i n l g e=>h _ (g e)) t ht
theorem nB.mono {ms:List Mv}{D D':List Int}(h:∀i∈D,i∈D') {t:List Tm}(ht:nB ms D t):nB ms D' t:=fJ.imp (fun k i n l g e=>h _ (g e)) t ht
theorem KM.head {ms:List Mv}{D:List Int}{h:Tm}(hk:known ms h=true) (ht:KM ms D h):h.index∈D:=by
 obtain⟨k,i,n,l,ks⟩:=h;exact ht.1 hk
theorem KM.kids {ms:List Mv}{D:List Int}{h:Tm}(ht:KM ms D h):nB ms D h.kids:=by
 obtain⟨k,i,n,l,ks⟩:=h;exact ht.2
inductive Ord (ms:List Mv):List Int→Prop
 | nil:Ord ms []
 | snoc {D:List Int} {i:Int}:Ord ms D→i ∉ D→KM ms D (valueOf ms i)→Ord ms (D++[i])
theorem Ord.pre {ms:List Mv}{D:List Int}(h:Ord ms D):∀i∈D,∃D',Ord ms D'∧(∀j∈D',j∈D)∧i ∉ D'∧KM ms D' (valueOf ms i):=by
 induction h with
 | nil=>intro i hi;simp at hi
 | @snoc D j h1 h2 h3 ih =>
  intro i hi;rcases List.mem_append.1 hi with hi | hi
  ·obtain⟨D',a,b,c,d⟩:=ih i hi;exact⟨D',a,fun j hj=>List.mem_append_left _ (b j hj),c,d⟩
  simp at hi;subst hi;exact⟨D,h1,fun j hj=>List.mem_append_left _ hj,h2,h3⟩
def nS:Tm→List Tm→Tm×List Tm
 | v,[]=>(v,[])
 | v,a::l=>if v.kind=5 then nS (Cv (v.kids.getD 1 Be) [a] 0).1 l else (v,a::l)
section
variable {F F':Ik→Tm→Tm×Int×Ik}
end
def jV (st:IS):List Int:=st.dn.map Prod.fst
def pR (ms:List Mv) (t v:Tm):Prop:=∃n ab c d,LO ms n ab c t=(v,0,d)∧d.over=false
structure oW (ms:List Mv) (ab:List Int) (st:IS):Prop where
 op:∀i,i∈st.op↔i∈jV st∨i∈ab
 ord:Ord ms (jV st)
 dis:∀i∈jV st,i ∉ ab
 val:∀p∈st.dn,pR ms (valueOf ms p.1) p.2
 ok:∀p∈st.dn,Ok 4096 p.2
 w0:0≤st.wk
def pot (ms:List Mv) (B:Nat) (st:IS):Int:=st.wk+(B*free ms st.op:Nat)
structure Step (ms:List Mv) (B:Nat) (ab:List Int) (st st':IS) (s:Nat):Prop where
 inv:oW ms ab st'
 mono:∀i∈jV st,i∈jV st'
 pot:pot ms B st'≤pot ms B st+s
theorem Step.trans {ms:List Mv}{B:Nat}{ab:List Int}{a b c:IS}{s s':Nat}(h:Step ms B ab a b s) (h':Step ms B ab b c s'):Step ms B ab a c (s+s') :=
 ⟨h'.inv,fun i hi=>h'.mono i (h.mono i hi),by have:=h.pot;have:=h'.pot;omega⟩
theorem Step.le {ms:List Mv}{B:Nat}{ab:List Int}{a b:IS}{s s':Nat}(h:Step ms B ab a b s) (hs:s≤s'):Step ms B ab a b s':=⟨h.inv,h.mono,by have:=h.pot;omega⟩
def qP (ms:List Mv) (B:Nat) (ab:List Int) (t:Tm) (s:Nat) (st:IS) (F:Tm×Int×Ik) (G:Except Int (Tm×IS)):Prop :=
 (F.2.1=0∧∃st',G= .ok (F.1,st')∧Step ms B ab st st' s∧KM ms (jV st') t)∨(F.2.1=22∧F.1=Be∧G= .error 22)
def qT (ms:List Mv) (B:Nat) (ab:List Int) (ts:List Tm) (st:IS) (F:List Tm×Int×Ik) (G:Except Int (List Tm×IS)):Prop :=
 (F.2.1=0∧∃st',G= .ok (F.1,st')∧Step ms B ab st st' (Bg ts)∧nB ms (jV st') ts)∨(F.2.1=22∧G= .error 22)
def qK (m:Nat) (k i:Int) (n:ByteArray) (l:List Cf):Prop:=k=12→0≤i∧i<(m:Int)
def nX (ms:List Mv) (k i:Int) (n:ByteArray) (l:List Cf):Prop:=(k=12→0≤i∧i<(ms.length:Int)∧known ms (.mk k i n l [])=false)∧(k=4→i=0∧n=⟨#[]⟩∧l=[])
def qN (ms:List Mv) (B:Nat) (F:IS→Tm→Except Int (Tm×IS)):Prop:=∀st t r,Ok B t→po ms st→TP (qK ms.length) t→(∀p∈st.dn,TP (nX ms) p.2)→F st t= .ok r→TP (nX ms) r.1∧∀p∈r.2.dn,TP (nX ms) p.2
def qE (ms:List Mv) (F:IS→Tm→Except Int (Tm×IS)):Prop:=∀st t,TP (nX ms) t→F st t= .error 11∨∃st',F st t= .ok (t,st')
def qO (F:IS→Tm→Except Int (Tm×IS)):Prop:=∀st t e,F st t= .error e→e=11∨e=22
abbrev wide:Nat:=9223372036854775808
structure kE (l:Cf):Prop where
 vars:l.vars.length<wide
 c:JJ l.const
 v:∀v∈l.vars,JJ v.index∧JJ v.plus
mutual
def Wd:Tm→Prop
 | .mk k i n ls ks=>n.size<wide∧ls.length<wide∧(∀l∈ls,kE l)∧ks.length<wide∧gS ks∧JJ k∧JJ i
def gS:List Tm→Prop
 | []=>True
 | t::ts=>Wd t∧gS ts
end
theorem PW:∀{ts:List Tm}{i:Nat}{t:Tm},gS ts→ts[i]?=some t→Wd t
 | [],i,t,_,h=>by simp at h
 | a::ts,0,t,hn,h=>by simp at h;subst h;exact hn.1
 | a::ts,i+1,t,hn,h=>by simp at h;exact PW hn.2 h
mutual
def Fw:Tm→Prop
 | .mk k i n ls ks=>n.size≤200∧ls.length≤20∧(∀l∈ls,l.vars.length≤20)∧kR ks
def kR:List Tm→Prop
 | []=>True
 | t::ts=>Fw t∧kR ts
end
theorem bu:∀{ts:List Tm},(∀t∈ts,Fw t)→kR ts
 | [],_=>trivial
 | t::ts,h=>⟨h t As,bu fun x hx=>h x (by simp[hx])⟩
def Zg:Tm→Prop
 | .mk k i n ls ks=>n.size≤200∧ls.length≤20∧(∀l∈ls,l.vars.length≤20)∧Bg ks≤200∧Mk ks∧kR ks
theorem iW {t:Tm}(h:Wd t) (hf:Zg t):Nd t:=by
 obtain⟨k,i,n,ls,ks⟩:=t;obtain⟨h1,h2,h3,h4,h5⟩:=hf;have:=Fx ks;exact⟨by simp only[Dv];omega,by simp only[Dv];omega,fun l hl=>⟨by have:=h3 l hl;simp only[Dv];omega,(h.2.2.1 l hl).c,(h.2.2.1 l hl).v⟩,by simp only[Dv];omega,h5.1,h.2.2.2.2.2⟩
mutual
theorem Nt:∀(t:Tm) (most:Int),-1152921504606846976≤most→most≤1152921504606846976→(size t:Int)≤1152921504606846976→0≤EZ t most∧EZ t most<size t∧(EZ t most≤most→EZ t most+1=size t)
 | .mk k i n l ks,most,h1,h2,h3=>by
  simp only[size] at h3 ⊢;unfold EZ;have:=OR ks most 0 h1 h2 Ar Ar;exact⟨this.1,by omega,fun h=>by have:=this.2.2 h;omega⟩
theorem OR:∀(ts:List Tm) (most n:Int),-1152921504606846976≤most→most≤1152921504606846976→0≤n→n+Bg ts≤1152921504606846976→n≤EL ts most n∧EL ts most n≤n+Bg ts∧(EL ts most n≤most→EL ts most n=n+Bg ts)
 | [],most,n,h1,h2,h3,h4=>by simp[EL,Bg]
 | t::ts,most,n,h1,h2,h3,h4=>by
  simp only[Bg] at h4 ⊢;have hp:=size_pos t;unfold EL;by_cases hm:n > most
  ·rw[if_pos hm];exact⟨by omega,by omega,by omega⟩
  rw[if_neg hm];have e1:wr (most - n)=most - n:=Ej ⟨by omega,by omega⟩;have hT:=Nt t (most - n) Ar Ar Ar;rw[e1];have e2:wr (1+EZ t (most - n))=1+EZ t (most - n):=Ej ⟨by omega,by omega⟩;rw[e2];have e3:wr (n+(1+EZ t (most - n)))=n+(1+EZ t (most - n)):=Ej ⟨by omega,by omega⟩;rw[e3];have hL:=OR ts most (n+(1+EZ t (most - n))) h1 h2 Ar Ar;refine⟨by omega,by omega,fun h=>?_⟩;have:=hL.2.2 h;have:=hT.2.2 Ar;omega
end
theorem ah {t:Tm}(h:Zg t):size t≤201:=by
 obtain⟨k,i,n,ls,ks⟩:=t;have:=h.2.2.2.1;simp only[size];omega
theorem Rs:∀(ts:List Tm) (most n:Int),0≤most→most≤1000→0≤n→n≤3000→(∀t∈ts,size t≤201)→n≤EL ts most n
 | [],most,n,h1,h2,h3,h4,hs=>by simp[EL]
 | t::ts,most,n,h1,h2,h3,h4,hs=>by
  have ht:=hs t As;unfold EL;by_cases hm:n > most
  ·rw[if_pos hm];omega
  rw[if_neg hm];have e1:wr (most - n)=most - n:=Ej ⟨by omega,by omega⟩;have hT:=Nt t (most - n) Ar Ar Ar;rw[e1];have e2:wr (1+EZ t (most - n))=1+EZ t (most - n):=Ej ⟨by omega,by omega⟩;rw[e2];have e3:wr (n+(1+EZ t (most - n)))=n+(1+EZ t (most - n)):=Ej ⟨by omega,by omega⟩;rw[e3];have hge:=Rs ts most (n+(1+EZ t (most - n))) h1 h2 Ar Ar (fun x hx=>hs x (by simp[hx]));omega
theorem Sc:∀(ts:List Tm) (most n:Int),0≤most→most≤1000→0≤n→n≤3000→(∀t∈ts,size t≤201)→EL ts most n≤most→EL ts most n=n+Bg ts
 | [],most,n,h1,h2,h3,h4,hs,h=>by simp[EL,Bg]
 | t::ts,most,n,h1,h2,h3,h4,hs,h=>by
  have ht:=hs t As;simp only[Bg];unfold EL at h ⊢;by_cases hm:n > most
  ·rw[if_pos hm] at h;omega
  rw[if_neg hm] at h ⊢;have e1:wr (most - n)=most - n:=Ej ⟨by omega,by omega⟩;have hT:=Nt t (most - n) Ar Ar Ar;rw[e1] at h ⊢;have e2:wr (1+EZ t (most - n))=1+EZ t (most - n):=Ej ⟨by omega,by omega⟩;rw[e2] at h ⊢;have e3:wr (n+(1+EZ t (most - n)))=n+(1+EZ t (most - n)):=Ej ⟨by omega,by omega⟩;rw[e3] at h ⊢;have hL:=Sc ts most (n+(1+EZ t (most - n))) h1 h2 Ar Ar (fun x hx=>hs x (by simp[hx])) h;have hge:=Rs ts most (n+(1+EZ t (most - n))) h1 h2 Ar Ar (fun x hx=>hs x (by simp[hx]));have:=hT.2.2 Ar;omega
structure Wy (l:List Tm):Prop where
 sz:Bg l≤200
 nd:Mk l
 fw:kR l
theorem ez {l:List Tm}{m:Nat}(hm:l.length≤m) (hw:gS l) (hl:l.length<wide) (h:EL l 200 0≤200) (hc:∀j,j<m→∀t,l[j]?=some t→Zg t):Wy l:=by
 have hf:∀t∈l,Zg t:=fun t ht=>by
  obtain⟨i,hi⟩:=KN ht;exact hc i (by have:=(List.getElem?_eq_some_iff.1 hi).1;omega) t hi
 have:=Sc l 200 0 Ar Ar Ar Ar (fun t ht=>ah (hf t ht)) h;exact⟨by omega,Wr fun t ht=>by
  obtain⟨i,hi⟩:=KN ht;exact iW (PW hw hi) (hf t ht),bu fun t ht=>by
  obtain⟨k,i,n,ls,ks⟩:=t;have h5:=hf _ ht;exact⟨h5.1,h5.2.1,h5.2.2.1,h5.2.2.2.2.2⟩⟩
theorem VL {l:List Tm}{m:Int}(hf:Wy l) (hm:0≤m∧m≤1000) (h:EL l m 0≤m):(Bg l:Int)≤m:=by
 have:=hf.sz;have:=(OR l m 0 Ar Ar Ar Ar).2.2 h;omega
structure l8 (m:Nat) (x:Mv):Prop where
 n1:Nd x.type
 n2:Nd x.value
 sz:size x.type+size x.value≤40
 w1:wf 0 m 0 x.type
 w2:x.known=true→wf 0 m 0 x.value
 w3:x.known=false→x.value=Be
structure p7 (l:List Mv):Prop where
 len:l.length≤8
 all:∀m∈l,l8 l.length m
structure oo (m:Nat) (ctx terms:List Tm):Prop where
 len:ctx.length≤6
 s1:Bg ctx≤60
 s2:Bg terms≤60
 n1:Mk ctx
 n2:Mk terms
 w2:∀t∈terms,wf ctx.length m 0 t
 w1:∀(i:Nat) (t:Tm),ctx[i]?=some t→wf i m 0 t
structure rE (x:Mv):Prop where
 w1:Wd x.type
 w2:Wd x.value
theorem Ok.mono {B B':Nat}{t:Tm}(h:Ok B t) (hb:B≤B'):Ok B' t:=⟨h.nd,h.vp,h.wt,Nat.le_trans h.sz hb⟩
end Go.Eu
