/- Part of the proofs: an abstract program logic, plain models and contracts of functions. -/
import Derived.Test.YtldfmjoncbjldaaGreatPa
import Derived.MapKept
set_option linter.unusedVariables false
set_option linter.unusedSimpArgs false
namespace Go.Abs
section
variable {P:Program}{ops:Array Oper}{n:Nat}{τ₀:Nat→AV}{D:List D4}{Q:Cj→BM→Prop}{opn:Nat→Bool}{k:Nat}{τ:Nat→AV}{H:List A4}{rd:ZW}{ef:Yy}{effs:List Bool}{fx:List (Nat×Sp)}{dst:Option Tmp}{op:Op}{ty:TypeId}{pos:String}{aft:Array Edge}{v:AV}{H':List A4}
theorem Ge {cs:List AV}(fx':List (Nat×Sp)) (ho:ops[k]?=some ⟨dst,op,ty,pos,aft,none⟩) (hn:opn k=true) (h:DL P ⟨dst,op,ty,pos,aft,none⟩ (ev τ) H (J0 cs H)) (haft:E5 ops k (fx'.map (·.1))=true)
  (next:∀b,KJ ops k H (.box b cs::H) rd∧Hp k (.eff (.ptr b 0) (.box b cs::H)) fx∧Dr P ops n τ₀ D Q opn (k+1) (put τ dst (.ptr b 0)) (.box b cs::H) rd ((k,H,.box b cs::H)::ef) (true::effs) (fx'++fx)):Dr P ops n τ₀ D Q opn k τ H rd ef effs fx :=
 Lu fx' ho hn h haft ⟨_,_,0,rfl,rfl⟩ (fun _ _ h=>h.elim) (fun v H' ⟨b,h1,h2⟩=>by subst h1;subst h2;exact next b)
theorem JS {i sz:Nat}{rows:List (List PV)}(fx':List (Nat×Sp)) (ho:ops[k]?=some ⟨dst,op,ty,pos,aft,none⟩) (hn:opn k=true) (h:DL P ⟨dst,op,ty,pos,aft,none⟩ (ev τ) H (PW i sz rows H)) (haft:E5 ops k (fx'.map (·.1))=true)
  (next:∀o c,KJ ops k H (H.set i (.vec o sz rows c)) rd∧Hp k (.eff (.vs o rows.length c) (H.set i (.vec o sz rows c))) fx∧Dr P ops n τ₀ D Q opn (k+1) (put τ dst (.vs o rows.length c)) (H.set i (.vec o sz rows c)) rd ((k,H,H.set i (.vec o sz rows c))::ef) (true::effs) (fx'++fx)):Dr P ops n τ₀ D Q opn k τ H rd ef effs fx :=
 Lu fx' ho hn h haft ⟨_,_,none,0,rfl,rfl⟩ (fun _ _ h=>h.elim) (fun v H' ⟨o,c,h1,h2⟩=>by subst h1;subst h2;exact next o c)
def Gm (v:AV) (H':List A4):EG→List A4→Prop
 | .val v',H''=>v'=v∧H''=H'
 | .panic _,_=>False
theorem pJ {c:Call}{g:Option (Nat×Bool)}{f:Operand}{fid:FuncId}{first caps:List AV}{ρ:Operand→AV}{Hs Hf Hs':List A4}{A:List AV}
  (hc:c.callee= .value f) (hf:(ρ f= .p (.fn fid)∧first=[]∧caps=[])∨ρ f= .fn (.func fid) first caps) (hp:H.Perm (Hs++Hf)) (h:BL P fid A Hs (Gm v Hs')) (hA:first++c.args.toList.map ρ++caps=A∨(first++c.args.toList.map ρ++caps).map norm=A) :
  Dm P ⟨dst,.call c,ty,pos,aft,g⟩ ρ H v (Hs'++Hf):=by
 refine(GA (H:=H) hc hf hp h hA).mono ?_;rintro r H' ⟨Hs',h1,rfl⟩;cases r with
 | val v'=>obtain⟨rfl,rfl⟩:=h1;exact⟨rfl,rfl⟩
 | panic v'=>exact h1
end
def Ku (k:Int):List (Int×AV)→Option AV
 | []=>none
 | (j,x)::r=>if j=k then some x else Ku k r
def OS (k:Int) (v:AV):List (Int×AV)→List (Int×AV)
 | []=>[(k,v)]
 | (j,x)::r=>if j=k then (j,v)::r else (j,x)::OS k v r
def Ek (l:List (Int×AV)):List (PV×AV):=l.map fun p=>(.int .i64 p.1,p.2)
def mapOf (P:Program) (T:TypeId):Option TypeId :=
 match P.underlying T with
 | some (.map k e)=>match P.underlying k with
  | some (.int .i64)=>some e
  | _=>none
 | _=>none
theorem OL {P:Program}{T e:TypeId}(h:mapOf P T=some e):∃k,P.underlying T=some (.map k e)∧P.underlying k=some (.int .i64):=by
 unfold mapOf at h;split at h
 ·rename_i k e' hu;split at h
  ·rename_i hk;injection h with h;subst h;exact⟨k,hu,hk⟩
  cases h
 cases h
section
variable {F:Nat→Prop}{w:World}
theorem Pb {k:Int}:∀{l:List (Int×AV)}{es:List MapEntry}(i:Nat),D5 F w (Ek l) es →
  (Ku k l=none∧Instr.findNow (.int .i64) (.int .i64 k) es i=some none)∨∃j e x,Ku k l=some x∧Instr.findNow (.int .i64) (.int .i64 k) es i=some (some (i+j,e.val))∧es[j]?=some e∧e.key= .int .i64 k∧Bz F w x e.val
 | [],es,i,h=>by simp only[Ek,List.map_nil,D5] at h;subst h;exact .inl ⟨rfl,rfl⟩
 | (j,x)::l,es,i,h=>by
  simp only[Ek,List.map_cons,D5] at h;obtain⟨e,es',rfl,hk,hx,hr⟩:=h;simp only[Br] at hk;by_cases hj:j=k
  ·subst hj;exact .inr ⟨0,e,x,by simp[Ku],by simp[Instr.findNow,hk,Instr.sameNow],rfl,hk,hx⟩
  have hne:(k==j)=false:=by simp[Ne.symm hj]
  rcases Pb (k:=k) (i+1) hr with ⟨h1,h2⟩ | ⟨q,e',x',h1,h2,h3,h4,h5⟩
  ·exact .inl ⟨by simp[Ku,hj,h1],by simp[Instr.findNow,hk,Instr.sameNow,hne,h2]⟩
  exact .inr ⟨q+1,e',x',by simp[Ku,hj,h1],by simp[Instr.findNow,hk,Instr.sameNow,hne,h2];omega,by simpa using h3,h4,h5⟩
theorem Zl {k:Int}:∀{l:List (Int×AV)}{es:List MapEntry},D5 F w (Ek l) es→Ku k l=none→∀x∈es,x.key≠ .int .i64 k
 | [],es,h,_=>by
  simp only[Ek,List.map_nil,D5] at h;subst h;simp
 | (j,v)::l,es,h,hm=>by
  simp only[Ek,List.map_cons,D5] at h;obtain⟨e,es',rfl,hk,hv,hr⟩:=h;simp only[Ku] at hm;split at hm
  ·cases hm
  rename_i q;intro x hx;rcases List.mem_cons.1 hx with rfl | hx
  ·simp only[Br] at hk;rw[hk];intro e;injection e with _ e2;exact q e2
  exact Zl hr hm x hx
theorem ZG {k:Int}{v:AV}{u:Value}{c:Nat}:∀{l:List (Int×AV)}{es:List MapEntry},D5 F w (Ek l) es→Ku k l=none→Bz F w v u→D5 F w (Ek (OS k v l)) (es++[{ key:= .int .i64 k,val:=u,born:=c }])
 | [],es,h,_,hv=>by
  simp only[Ek,List.map_nil,D5] at h;subst h;simp only[OS,Ek,List.map_cons,List.map_nil,List.nil_append,D5];exact⟨_,[],O,by simp[Br],hv,rfl⟩
 | (j,x)::l,es,h,hm,hv=>by
  simp only[Ek,List.map_cons,D5] at h;obtain⟨e,es',rfl,hk,hx,hr⟩:=h;by_cases hj:j=k
  ·simp[Ku,hj] at hm
  simp only[Ku,if_neg hj] at hm;simp only[OS,if_neg hj,Ek,List.map_cons,List.cons_append,D5];exact⟨e,_,O,hk,hx,ZG hr hm hv⟩
theorem dN {k:Int}{v:AV}{u:Value}:∀{l:List (Int×AV)}{es:List MapEntry}{j:Nat}(i:Nat) {y:Value},D5 F w (Ek l) es→Instr.findNow (.int .i64) (.int .i64 k) es i=some (some (i+j,y))→Bz F w v u→D5 F w (Ek (OS k v l)) (es.modify j fun e=>{ e with key:= .int .i64 k,val:=u })
 | [],es,j,i,y,h,hf,_=>by simp only[Ek,List.map_nil,D5] at h;subst h;simp[Instr.findNow] at hf
 | (q,x)::l,es,j,i,y,h,hf,hv=>by
  simp only[Ek,List.map_cons,D5] at h;obtain⟨e,es',rfl,hk,hx,hr⟩:=h;simp only[Br] at hk;by_cases hj:q=k
  ·subst hj;simp[Instr.findNow,hk,Instr.sameNow] at hf;obtain⟨rfl,_⟩:j=0∧True:=⟨by omega,trivial⟩;simp only[OS,if_true,Ek,List.map_cons,D5];exact⟨_,es',O,by simp[Br],hv,hr⟩
  have hne:(k==q)=false:=by simp[Ne.symm hj]
  simp only[Instr.findNow,hk,Instr.sameNow,if_true,hne] at hf;cases j with
  | zero =>
   have:∀(es:List MapEntry) (m:Nat) (y:Value) (r:Nat),Instr.findNow (.int .i64) (.int .i64 k) es m=some (some (r,y))→m≤r:=by
    intro es
    induction es with
    | nil=>intro m y r h;simp[Instr.findNow] at h
    | cons e es ih =>
     intro m y r h;simp only[Instr.findNow] at h;split at h
     ·simp at h;omega
     ·have:=ih _ _ _ h;omega
     cases h
   have:=this _ _ _ _ hf;omega
  | succ j =>
   simp only[OS,if_neg hj,Ek,List.map_cons,List.modify_succ_cons,D5];exact⟨e,_,O,by simpa [Br] using hk,hx,dN (i+1) hr (by rw[show i+1+j=i+(j+1) by omega];exact hf) hv⟩
end
section
variable {P:Program}{dst:Option Tmp}{ty:TypeId}{pos:String}{aft:Array Edge}{g:Option (Nat×Bool)}{ρ:Operand→AV}{H:List A4}{x y z:Operand}{v:AV}
def lI (H:List A4):EG→List A4→Prop
 | .val v,H'=>∃b,v= .map b∧H'= .map b (Ek [])::H
 | .panic _,_=>False
theorem Za {T:TypeId}:DL P ⟨dst,.makeMap T none,ty,pos,aft,g⟩ ρ H (lI H) :=
 G9 fun F w E hH hE=>by
  refine⟨.map (some w.heap.size),World.push w (.map #[] 0),.map w.heap.size,.map w.heap.size (Ek [])::H,_,?_,⟨_,O,O⟩,OW H _ _ (.inl O),P5 hH _ _ O ?_,by simp[Bz]⟩
  ·simp[execOp,Instr.makeMap,Sem.run_bind];rfl
  exact⟨#[],0,NN _,MapKept.stamped_empty _,O⟩
theorem bO {T e : TypeId} {b i : Nat} {l : List (Int × AV)} {k : Int} {zv : Value} {za : AV} (hT : mapOf P T = some e) (hz : zeroOf P e = some zv) (hza : ∀ F w, Bz F w za zv) (hx : ρ x = .map b) (hy : ρ y = .p (.int .i64 k)) (hi : H[i]? = some (.map b (Ek l))) :
  Dm P ⟨dst, .lookup T x y false, ty, pos, aft, g⟩ ρ H ((Ku k l).getD za) H :=
 Bw fun F w E hH hE => by
  obtain ⟨kt, hu, hk⟩ := OL hT
  have h1 := hE x Al
  have h2 := hE y Al
  rw [hx] at h1
  rw [hy] at h2
  simp only [Bz, Br] at h1 h2
  obtain ⟨es, clk, hb, hs0, hr⟩ := hH.obj _ (List.mem_of_getElem? hi)
  have hzv : (zeroValue e).run P w = .ok zv w := by
   unfold zeroOf at hz
   cases hi : P.info? e with
   | none => simp [hi] at hz
   | some i => have hz' : i.zero = some zv := by simpa [hi] using hz
               simp [zeroValue, typeInfo, hi, hz', Sem.run_bind]
  have hkey : MapKept.IsKey (.int .i64) (.int .i64 k) := rfl
  rcases Pb (k := k) 0 hr with ⟨h3, h4⟩ | ⟨j, e', x', h3, h4, h5, h6, h7⟩
  ·refine ⟨zv, ?_, by rw [h3]; exact hza F w⟩
   simp [execOp, Instr.lookup, Sem.run_bind, run_underlying hu, h1, h2, MapKept.run_getObj_map hb, MapKept.run_checkKey hk hkey, MapKept.run_findKey hk h4, hzv]
  refine ⟨e'.val, ?_, by rw [h3]; exact h7⟩
  simp [execOp, Instr.lookup, Sem.run_bind, run_underlying hu, h1, h2, MapKept.run_getObj_map hb, MapKept.run_checkKey hk hkey, MapKept.run_findKey hk h4]
theorem Xv {T e : TypeId} {b i : Nat} {l : List (Int × AV)} {k : Int} {zv : Value} {za : AV} (hT : mapOf P T = some e) (hz : zeroOf P e = some zv) (hza : ∀ F w, Bz F w za zv) (hx : ρ x = .map b) (hy : ρ y = .p (.int .i64 k)) (hi : H[i]? = some (.map b (Ek l))) :
  Dm P ⟨dst, .lookup T x y true, ty, pos, aft, g⟩ ρ H (.tup [(Ku k l).getD za, .p (.bool (Ku k l).isSome)]) H :=
 Bw fun F w E hH hE => by
  obtain ⟨kt, hu, hk⟩ := OL hT
  have h1 := hE x Al
  have h2 := hE y Al
  rw [hx] at h1
  rw [hy] at h2
  simp only [Bz, Br] at h1 h2
  obtain ⟨es, clk, hb, hs0, hr⟩ := hH.obj _ (List.mem_of_getElem? hi)
  have hzv : (zeroValue e).run P w = .ok zv w := by
   unfold zeroOf at hz
   cases hi : P.info? e with
   | none => simp [hi] at hz
   | some i => have hz' : i.zero = some zv := by simpa [hi] using hz
               simp [zeroValue, typeInfo, hi, hz', Sem.run_bind]
  have hkey : MapKept.IsKey (.int .i64) (.int .i64 k) := rfl
  rcases Pb (k := k) 0 hr with ⟨h3, h4⟩ | ⟨j, e', x', h3, h4, h5, h6, h7⟩
  ·refine ⟨.tuple #[zv, .bool false], ?_, ?_⟩
   ·simp [execOp, Instr.lookup, Sem.run_bind, run_underlying hu, h1, h2, MapKept.run_getObj_map hb, MapKept.run_checkKey hk hkey, MapKept.run_findKey hk h4, hzv]
   simp only [h3, Bz, Bf, Br]
   exact ⟨[zv, .bool false], O, _, _, O, hza F w, _, _, O, O, O⟩
  refine ⟨.tuple #[e'.val, .bool true], ?_, ?_⟩
  ·simp [execOp, Instr.lookup, Sem.run_bind, run_underlying hu, h1, h2, MapKept.run_getObj_map hb, MapKept.run_checkKey hk hkey, MapKept.run_findKey hk h4]
  simp only [h3, Bz, Bf, Br]
  exact ⟨[e'.val, .bool true], O, _, _, O, h7, _, _, O, O, O⟩
theorem Uq {T e:TypeId}{b i:Nat}{l:List (Int×AV)}{k:Int}{va:AV}(hT:mapOf P T=some e) (hx:ρ x= .map b) (hy:ρ y= .p (.int .i64 k)) (hz:ρ z=va) (hi:H[i]?=some (.map b (Ek l))) :
  Dm P ⟨dst,.mapUpdate T x y z,ty,pos,aft,g⟩ ρ H (.p .any) (H.set i (.map b (Ek (OS k va l)))) :=
 (I3 (R:=det (.p .any) (H.set i (.map b (Ek (OS k va l))))) fun F w E hH hE=>by
  obtain⟨kt,hu,hk⟩:=OL hT;have h1:=hE x Al;have h2:=hE y Al;have h0:=hE z Al;rw[hx] at h1;rw[hy] at h2;rw[hz] at h0;simp only[Bz,Br] at h1 h2;obtain⟨es,clk,hb,hs0,hr⟩:=hH.obj _ (List.mem_of_getElem? hi);have hFb:F b:=hH.sub _ (List.mem_of_getElem? hi) b rfl;have hlt:=hH.bd b hFb;have hkey:MapKept.IsKey (.int .i64) (.int .i64 k):=rfl;have fin:∀(es':Array MapEntry) (clk':Nat),MapKept.Stamped es' clk'→D5 F w (Ek (OS k va l)) es'.toList→Trans F H w F (H.set i (.map b (Ek (OS k va l)))) { w with heap:=w.heap.setIfInBounds b (.map es' clk') }∧HRel F (H.set i (.map b (Ek (OS k va l)))) { w with heap:=w.heap.setIfInBounds b (.map es' clk') }:=by
   intro es' clk' hs' hr';have hw:Ig b (.map es' clk') w { w with heap:=w.heap.setIfInBounds b (.map es' clk') }:=⟨rfl,rfl,rfl,rfl⟩;have st:=hw.stable hFb;exact⟨hw.trans hi O O,hw.HRel hH hi O O ⟨es',clk',hw.self hlt,hs',D5.mono st _ _ hr'⟩⟩
  rcases Pb (k:=k) 0 hr with ⟨h3,h4⟩ | ⟨j,e',x',h3,h4,h5,h6,h7⟩
  ·have hr':=ZG (c:=clk) hr h3 h0;obtain⟨f1,f2⟩:=fin (es.push { key:= .int .i64 k,val:=E z,born:=clk }) (clk+1) (MapKept.stamped_push hs0 (Zl hr h3)) (by simpa using hr');refine⟨_,_,F,?_,⟨O,O⟩,f1,f2⟩;simp[execOp,Instr.mapUpdate,Sem.run_bind,run_underlying hu,h1,h2,MapKept.run_getObj_map hb,MapKept.run_checkKey hk hkey,MapKept.run_findKey hk h4,MapKept.run_setObj_map _ hb]
  have hr':=dN (v:=va) (u:=E z) 0 hr h4 h0;obtain⟨f1,f2⟩:=fin (es.modify j fun e=>{ e with key:= .int .i64 k,val:=E z }) clk (MapKept.stamped_modify hs0 j _ (fun _ _=>rfl) (fun e _ he=>by rw[show es[j]?=some e' by simpa using h5] at he;cases he;exact h6.symm)) (by simpa using hr');refine⟨_,_,F,?_,⟨O,O⟩,f1,f2⟩;have h5':es[j]?=some e':=by simpa using h5
  simp[execOp,Instr.mapUpdate,Sem.run_bind,run_underlying hu,h1,h2,MapKept.run_getObj_map hb,MapKept.run_checkKey hk hkey,MapKept.run_findKey hk h4,MapKept.run_setObj_map _ hb,h5',h6,Instr.keyThatStays,Instr.sameBits])
theorem HO {T:TypeId}{d:TypeDesc}{a b:Value}{c:Bool}{w:World}(hu:P.underlying T=some d) (h:(match d,a,b with
  | .bool,.bool x,.bool y=>some (x==y)
  | .interface _,.nilIface,.nilIface=>some true
  | .interface _,.iface _ _,.nilIface=>some false
  | .slice _,.slice none _ _,.slice none _ _=>some true
  | .slice _,.slice (some _) _ _,.slice none _ _=>some false
  | _,_,_=>none)=some c):(Op.equal T a b).run P w= .ok c w:=by
 unfold Op.equal;rw[show Op.maxDepth=9999+1 from rfl];unfold Op.equalIn;simp only[Sem.run_bind,run_underlying hu,Result.andThen_ok];split at h<;>simp_all
theorem Tp {a b:Bool}{T U:TypeId}(hu:P.underlying T=some .bool) (hx:ρ x= .p (.bool a)) (hy:ρ y= .p (.bool b)):Dm P ⟨dst,.binOp .eql T x y U,ty,pos,aft,g⟩ ρ H (.p (.bool (a==b))) H :=
 Bw fun F w E hH hE=>by
  have e1:=hE x Al;have e2:=hE y Al;rw[hx] at e1;rw[hy] at e2;simp only[Bz,Br] at e1 e2;refine⟨.bool (a==b),?_,by simp[Bz,Br]⟩;have hg:(eqGuard .eql T x y (.bool a) (.bool b)).run P w= .ok () w:=by unfold eqGuard;rfl
  have hq:(Op.equal T (.bool a) (.bool b)).run P w= .ok (a==b) w:=HO hu rfl;simp[execOp,Sem.run_bind,hg,e1,e2,binOp,hq]
theorem Fb {T U:TypeId}{ms:Array (String×TypeId)}{X:PV}{b:Bool}(hu:P.underlying T=some (.interface ms)) (hx:ρ x= .p X) (hy:ρ (.const .nilIface)= .p .nilIface) (hX:(match X with | .nilIface=>some false | .iface _ _=>some true | _=>none)=some b):Dm P ⟨dst,.binOp .neq T x (.const .nilIface) U,ty,pos,aft,g⟩ ρ H (.p (.bool b)) H :=
 Bw fun F w E hH hE=>by
  have e2:=hE (.const .nilIface) Al;rw[hy] at e2;simp only[Bz,Br] at e2;have e1:=hE x Al;rw[hx] at e1;have hg:∀a,(eqGuard .neq T x (.const .nilIface) a .nilIface).run P w= .ok () w:=by
   intro a;unfold eqGuard;cases a<;>simp<;>rfl
  refine⟨.bool b,?_,by simp[Bz,Br]⟩;cases X with
  | nilIface =>
   simp at hX;subst hX;simp only[Bz,Br] at e1;have hq:(Op.equal T .nilIface .nilIface).run P w= .ok true w:=HO hu rfl;simp[execOp,Sem.run_bind,hg,e1,e2,binOp,hq]
  | iface t c =>
   simp at hX;subst hX;simp only[Bz,Br] at e1;obtain⟨u,e1,_⟩:=e1;have hq:(Op.equal T (.iface t u) .nilIface).run P w= .ok false w:=HO hu rfl;simp[execOp,Sem.run_bind,hg,e1,e2,binOp,hq]
  | _=>simp at hX
theorem Ut {T e:TypeId}{len sz b o:Nat}{k:IntKind}{i:Int}{inf:TypeInfo}(hu:P.underlying T=some (.array len e)) (hj:P.info? e=some inf) (hs:inf.size=sz) (hx:ρ x= .ptr b o) (hy:ρ y= .p (.int k i)) (h0:0≤i) (hn:i<len) :
  Dm P ⟨dst,.indexAddr T x y,ty,pos,aft,g⟩ ρ H (.ptr b (o+i.toNat*sz)) H :=
 Bw fun F w E hH hE=>by
  have h1:=hE x Al;have h2:=hE y Al;rw[hx] at h1;rw[hy] at h2;simp only[Bz,Br] at h1 h2;refine⟨.pointer (some ⟨b,o+i.toNat*sz,none⟩),?_,by simp[Bz]⟩;simp[execOp,Instr.indexAt,Sem.run_bind,run_underlying hu,h1,h2,asIntOf,h0,hn,sizeOf,typeInfo,hj,hs,Addr.add_mid,Instr.sureAddr,asAddr]
theorem U7 {T e:TypeId}{len:Nat}{parts:Array (Nat×Operand)}{z:Value}{cs:List AV}{inf:TypeInfo}(hu:P.underlying T=some (.array len e)) (hj:P.info? e=some inf) (hz:zeroOf P T=some z)
  (hc:GP (fun i=>some (i*inf.size,inf.size)) (z.cells.toList.map HG) (parts.toList.map fun p=>(p.1,ρ p.2))=some cs):Dm P ⟨dst,.build T parts,ty,pos,aft,g⟩ ρ H (.agg cs) H :=
 Bw fun F w E hH hE=>by
  unfold zeroOf at hz;cases hi:P.info? T with
  | none=>simp[hi] at hz
  | some i =>
   have hz':i.zero=some z:=by simpa [hi] using hz
   have hzv:(zeroValue T).run P w= .ok z w:=by simp[zeroValue,typeInfo,hi,hz',Sem.run_bind]
   have hsz:(sizeOf e).run P w= .ok inf.size w:=by simp[sizeOf,typeInfo,hj]
   obtain⟨us,hf,hr⟩:=Jz (F:=F) (w:=w) (place:=(fun i=>some (i*inf.size,inf.size))) _ (parts.toList.map fun p=>(p.1,E p.2)) _ z.cells.toList _ Av (by
    intro j p q h1 h2;simp only[List.getElem?_map] at h1 h2;cases hj:parts.toList[j]? with
    | none=>simp[hj] at h1
    | some t =>
     simp[hj] at h1 h2;subst h1;subst h2;exact⟨O,hE _ (by
      have:=List.mem_of_getElem? hj;simp only[Op.operands];exact List.mem_map.2 ⟨t,this,O⟩)⟩) (H8 _) hc
   refine⟨.agg ⟨us⟩,?_,by simp only[Bz];exact⟨us,rfl,hr⟩⟩;simp only[execOp,Instr.build,Sem.run_bind,hzv,Result.andThen_ok,run_underlying hu,hsz];have hf':Instr.fill (fun i=>some (i*inf.size,inf.size)) z.cells (parts.toList.map fun p=>(p.1,E p.2))=some ⟨us⟩:=hf;simp[hf']
theorem W0 {T U:TypeId}{e:TypeId}{rows:List (List PV)}(hu:P.underlying T=some (.slice e)) (hx:ρ x= .p (.lst rows)) (hy:ρ y= .p .nils):DL P ⟨dst,.binOp .eql T x y U,ty,pos,aft,g⟩ ρ H (fun r H'=>match r with | .val v=>(∃b,v= .p (.bool b)∧(b=true→rows=[]))∧H'=H | .panic _=>False) :=
 G9 fun F w E hH hE=>by
  have e1:=hE x Al;have e2:=hE y Al;rw[hx] at e1;rw[hy] at e2;simp only[Bz,Br] at e1 e2;have hg:∀o n c,(eqGuard .eql T x y (.slice o n c) (.slice none 0 0)).run P w= .ok () w:=by intro o n c;unfold eqGuard;rfl
  have key:∃b,(execOp E ⟨dst,.binOp .eql T x y U,ty,pos,aft,g⟩).run P w= .ok (.value (.bool b)) w∧(b=true→rows=[]):=by
   rcases e1 with ⟨rfl,o,c,h1⟩ | ⟨bb,o,c,sz,h1,_⟩
   ·cases o with
    | none =>
     have hq:(Op.equal T (.slice none 0 c) (.slice none 0 0)).run P w= .ok true w:=HO hu rfl;exact⟨true,by simp[execOp,Sem.run_bind,hg,h1,e2,binOp,hq],fun _=>rfl⟩
    | some a =>
     have hq:(Op.equal T (.slice (some a) 0 c) (.slice none 0 0)).run P w= .ok false w:=HO hu rfl;exact⟨false,by simp[execOp,Sem.run_bind,hg,h1,e2,binOp,hq],fun _=>rfl⟩
   have hq:(Op.equal T (.slice (some ⟨bb,o,none⟩) rows.length c) (.slice none 0 0)).run P w= .ok false w:=HO hu rfl;exact⟨false,by simp[execOp,Sem.run_bind,hg,h1,e2,binOp,hq],fun h=>by cases h⟩
  obtain⟨b,hb,hr⟩:=key;exact⟨_,w,.p (.bool b),H,F,hb,⟨⟨b,O,hr⟩,O⟩,.refl,hH,by simp[Bz,Br]⟩
end
def PF (P:Program) (T:TypeId):Bool :=
 match P.underlying T with
 | some (.struct fs)=>match fs.toList with
  | [f,g]=>f.name != "_" &&g.name != "_" &&Nat.beq f.offset 0&&Nat.beq g.offset 1&&(match P.underlying f.type,P.underlying g.type with | some (.int .i64),some (.int .i64)=>true | _,_=>false)&& !P.stoodInHeld T&& !P.eqGuardType P.depth T
  | _=>false
 | _=>false
theorem cN {P:Program}{T:TypeId}{a b c d:Int}{w:World}(h:PF P T=true):(Op.equal T (.agg #[.int .i64 a,.int .i64 b]) (.agg #[.int .i64 c,.int .i64 d])).run P w= .ok (a==c&&b==d) w:=by
 unfold PF at h;split at h
 ·rename_i fs hu;split at h
  ·rename_i f g hfs;obtain rfl:fs=#[f,g]:=by apply Array.ext';simpa using hfs
   simp only[Bool.and_eq_true,bne_iff_ne,ne_eq,Bool.not_eq_true'] at h;obtain⟨⟨⟨⟨⟨⟨h1,h2⟩,h3⟩,h4⟩,h5⟩,h6⟩,h7⟩:=h;split at h5
   ·rename_i hf hg;have e3:=Nat.eq_of_beq_eq_true h3;have e4:=Nat.eq_of_beq_eq_true h4;have hp:(program).run P w= .ok P w:=rfl;have af:(isAgg f.type).run P w= .ok false w:=QB hf false rfl w;have ag:(isAgg g.type).run P w= .ok false w:=QB hg false rfl w;have pf:∀x y,(part f.type #[.int .i64 x,.int .i64 y] f.offset).run P w= .ok (.int .i64 x) w:=by
     intro x y;unfold part;simp[Sem.run_bind,af,e3]
    have pg:∀x y,(part g.type #[.int .i64 x,.int .i64 y] g.offset).run P w= .ok (.int .i64 y) w:=by
     intro x y;unfold part;simp[Sem.run_bind,ag,e4]
    have qf:∀x y,(Op.equalIn 9999 f.type (.int .i64 x) (.int .i64 y)).run P w= .ok (x==y) w:=by
     intro x y;rw[show (9999:Nat)=9998+1 from rfl];unfold Op.equalIn;simp[Sem.run_bind,run_underlying hf]
    have qg:∀x y,(Op.equalIn 9999 g.type (.int .i64 x) (.int .i64 y)).run P w= .ok (x==y) w:=by
     intro x y;rw[show (9999:Nat)=9998+1 from rfl];unfold Op.equalIn;simp[Sem.run_bind,run_underlying hg]
    unfold Op.equal;rw[show Op.maxDepth=9999+1 from rfl];unfold Op.equalIn;simp only[Sem.run_bind,run_underlying hu,Result.andThen_ok,hp,h6];simp[Sem.run_bind,h1,h2,pf,pg,qf,qg];cases hac:(a==c)<;>cases hbd:(b==d)<;>simp_all [Sem.run_bind,h1,h2,pf,pg,qf,qg]
   cases h5
  cases h
 cases h
section
variable {P:Program}{dst:Option Tmp}{ty:TypeId}{pos:String}{aft:Array Edge}{g:Option (Nat×Bool)}{ρ:Operand→AV}{H:List A4}{x y z:Operand}{v:AV}
theorem VM {T U:TypeId}{a b c d:Int}(h:PF P T=true) (hx:ρ x= .agg [.p (.int .i64 a),.p (.int .i64 b)]) (hy:ρ y= .agg [.p (.int .i64 c),.p (.int .i64 d)]):Dm P ⟨dst,.binOp .neq T x y U,ty,pos,aft,g⟩ ρ H (.p (.bool (!(a==c&&b==d)))) H :=
 Bw fun F w E hH hE=>by
  have e1:=hE x Al;have e2:=hE y Al;rw[hx] at e1;rw[hy] at e2;simp only[Bz,Bf,Br] at e1 e2;obtain⟨vs,e1,u1,us1,rfl,rfl,u2,us2,rfl,rfl,rfl⟩:=e1;obtain⟨vs',e2,v1,vs1,rfl,rfl,v2,vs2,rfl,rfl,rfl⟩:=e2;refine⟨.bool (!(a==c&&b==d)),?_,by simp[Bz,Br]⟩;have hq:=cN (P:=P) (T:=T) (a:=a) (b:=b) (c:=c) (d:=d) (w:=w) h;have h':=h;have hg:(eqGuard .neq T x y (.agg #[.int .i64 a,.int .i64 b]) (.agg #[.int .i64 c,.int .i64 d])).run P w= .ok () w:=by
   unfold PF at h';split at h'
   ·split at h'
    ·simp only[Bool.and_eq_true,Bool.not_eq_true'] at h';have h7:=h'.2;have hp:(program).run P w= .ok P w:=rfl;unfold eqGuard;simp[Sem.run_bind,hp,h7]
    cases h'
   cases h'
  simp[execOp,Sem.run_bind,hg,e1,e2,binOp,hq]
end
theorem Tv {P:Program}{r:Option Nat}{c:Code}{S:BM}{Q:Cj→BM→Prop}(N:Nat) (C:Nat→Prop) (St:Nat→BM) (i₀:Nat) (h₀:i₀≤N) (hC:C i₀) (l:Le S (St i₀))
  (round:∀i,i≤N→C i→IK P r c (St i) (Kj (fun S'=>i<N∧C (i+1)∧Le S' (St (i+1))) Q)):IK P r (.loop c) S Q:=by
 refine SV (fun m S=>∃i,i≤N∧m=N - i∧C i∧S=St i) (m:=N - i₀) l ⟨i₀,h₀,O,hC,O⟩ ?_;rintro m S ⟨i,hi,rfl,hc,rfl⟩;refine(round i hi hc).mono ?_;intro e S' h;cases e with
 | normal =>
  obtain⟨h1,h2,h3⟩:=h;exact⟨N - (i+1),St (i+1),by omega,h3,i+1,by omega,rfl,h2,rfl⟩
 | exit id=>exact h
 | ret=>exact h
 | panic v=>exact h
theorem Er {α:Type}{P:Program}{r:Option Nat}{c:Code}{S:BM}{Q:Cj→BM→Prop}(St:α→BM) (μ:α→Nat) (C:α→Prop) (a₀:α) (hC:C a₀) (l:Le S (St a₀))
  (round:∀a,C a→IK P r c (St a) (Kj (fun S'=>∃a',μ a' < μ a∧C a'∧Le S' (St a')) Q)):IK P r (.loop c) S Q:=by
 refine SV (fun m S=>∃a,m=μ a∧C a∧S=St a) (m:=μ a₀) l ⟨a₀,O,hC,O⟩ ?_;rintro m S ⟨a,rfl,hc,rfl⟩;refine(round a hc).mono ?_;intro e S' h;cases e with
 | normal =>
  obtain⟨a',h1,h2,h3⟩:=h;exact⟨μ a',St a',h1,h3,a',O,h2,O⟩
 | exit id=>exact h
 | ret=>exact h
 | panic v=>exact h
abbrev wr (n:Int):Int:=IntKind.i64.wrap n
section
variable {P:Program}{dst:Option Tmp}{ty:TypeId}{pos:String}{aft:Array Edge}{g:Option (Nat×Bool)}{ρ:Operand→AV}{H:List A4}{x y z:Operand}{v:AV}
theorem Eg {m n:Int}{T U:TypeId}(hx:ρ x= .p (.int .i64 m)) (hy:ρ y= .p (.int .i64 n)):Dm P ⟨dst,.binOp .add T x y U,ty,pos,aft,g⟩ ρ H (.p (.int .i64 (wr (m+n)))) H :=
 Bw fun F w E hH hE=>by
  have e1:=hE x Al;have e2:=hE y Al;rw[hx] at e1;rw[hy] at e2;simp only[Bz,Br] at e1 e2;exact⟨.int .i64 (wr (m+n)),by simp[execOp,Sem.run_bind,JR,e1,e2,binOp,Op.intArith],by simp[Bz,Br]⟩
theorem J4 {m n:Int}{T U:TypeId}(hx:ρ x= .p (.int .i64 m)) (hy:ρ y= .p (.int .i64 n)):Dm P ⟨dst,.binOp .sub T x y U,ty,pos,aft,g⟩ ρ H (.p (.int .i64 (wr (m - n)))) H :=
 Bw fun F w E hH hE=>by
  have e1:=hE x Al;have e2:=hE y Al;rw[hx] at e1;rw[hy] at e2;simp only[Bz,Br] at e1 e2;exact⟨.int .i64 (wr (m - n)),by simp[execOp,Sem.run_bind,JR,e1,e2,binOp,Op.intArith],by simp[Bz,Br]⟩
end
def xp (R:AV→Prop):EG→List A4→Prop
 | .val v,H'=>R v∧H'=[]
 | .panic _,_=>False
abbrev Hd (P:Program) (f:FuncId) (args:List AV) (R:AV→Prop):Prop:=BL P f args [] (xp R)
theorem Hd.of {P:Program}{f:FuncId}{args:List AV}{v:AV}{R:AV→Prop}(h:En P f args v) (hR:R v):Hd P f args R :=
 BL.mono h fun r H hr=>by
  cases r with
  | val v'=>obtain⟨rfl,rfl⟩:=hr;exact⟨hR,rfl⟩
  | panic v'=>exact hr
def RA (R:AV→Prop) (H:List A4):EG→List A4→Prop
 | .val v,H'=>R v∧H'=H
 | .panic _,_=>False
section
variable {P:Program}{r:Option Nat}{ops:Array Oper}{Q:Cj→BM→Prop}{k:Nat}{n:Nat}{τ:Nat→AV}{H H':List A4}{D:List D4}{dst:Option Tmp}{op:Op}{ty:TypeId}{pos:String}{aft:Array Edge}{g:Option (Nat×Bool)}{v:AV}
theorem B7 {c:Call}{f:Operand}{fid:FuncId}{ρ:Operand→AV}{A:List AV}{R:AV→Prop}(hc:c.callee= .value f) (hf:ρ f= .p (.fn fid)) (h:Hd P fid A R) (hA:c.args.toList.map ρ=A∨(c.args.toList.map ρ).map norm=A) :
  DL P ⟨dst,.call c,ty,pos,aft,g⟩ ρ H (RA R H):=by
 refine(GA (H:=H) (Hs:=[]) (Hf:=H) (first:=[]) (caps:=[]) hc (.inl ⟨hf,O,O⟩) (A:=A) Av h (by simpa using hA)).mono ?_;rintro r H' ⟨Hs',h1,rfl⟩;cases r with
 | val v'=>obtain⟨h1,rfl⟩:=h1;exact⟨h1,rfl⟩
 | panic v'=>exact h1
theorem EF {R:AV→Prop}(ho:ops[k]?=some ⟨dst,op,ty,pos,aft,none⟩) (hd:Gj dst n=true) (h:DL P ⟨dst,op,ty,pos,aft,none⟩ (ev τ) H (RA R H))
  (next:∀v,R v→AL P r ops (k+1) ⟨n,put τ dst v,H,D⟩ Q):AL P r ops k ⟨n,τ,H,D⟩ Q :=
 Fm (S:=⟨n,τ,H,D⟩) ho An (He hd) h (fun v H' ⟨h1,h2⟩=>by subst h2;exact next v h1) (fun _ _ h=>h.elim)
theorem I6 {R:AV→Prop}{j d:Nat}{want:Bool}(ho:ops[k]?=some ⟨dst,op,ty,pos,aft,some (j,want)⟩) (hd:Gj dst n=true) (hj:(ops[j]?).bind (·.dst)=some d) (hb:τ d= .p (.bool want)) (h:DL P ⟨dst,op,ty,pos,aft,some (j,want)⟩ (ev τ) H (RA R H))
  (next:∀v,R v→AL P r ops (k+1) ⟨n,put τ dst v,H,D⟩ Q):AL P r ops k ⟨n,τ,H,D⟩ Q :=
 Fm (S:=⟨n,τ,H,D⟩) ho (by simp only[Ep];exact⟨d,hj,hb⟩) (He hd) h (fun v H' ⟨h1,h2⟩=>by subst h2;exact next v h1) (fun _ _ h=>h.elim)
end
section
variable {P:Program}{ops:Array Oper}{n:Nat}{τ₀:Nat→AV}{D:List D4}{Q:Cj→BM→Prop}{opn:Nat→Bool}{k:Nat}{τ:Nat→AV}{H:List A4}{rd:ZW}{ef:Yy}{effs:List Bool}{fx:List (Nat×Sp)}{dst:Option Tmp}{op:Op}{ty:TypeId}{pos:String}{aft:Array Edge}
theorem L9 {R:AV→Prop}(fx':List (Nat×Sp)) (ho:ops[k]?=some ⟨dst,op,ty,pos,aft,none⟩) (hn:opn k=true) (h:DL P ⟨dst,op,ty,pos,aft,none⟩ (ev τ) H (RA R H)) (haft:E5 ops k (fx'.map (·.1))=true) (hne:∃v,R v) (owe:KJ ops k H H rd)
  (next:∀v,R v→Hp k (.eff v H) fx∧Dr P ops n τ₀ D Q opn (k+1) (put τ dst v) H rd ((k,H,H)::ef) (true::effs) (fx'++fx)):Dr P ops n τ₀ D Q opn k τ H rd ef effs fx :=
 Lu fx' ho hn h haft (let ⟨v,hv⟩:=hne;⟨v,H,hv,rfl⟩) (fun _ _ h=>h.elim) (fun v H' ⟨h1,h2⟩=>by subst h2;exact⟨owe,next v h1⟩)
theorem fI {R:AV→Prop}{j d:Nat}{want:Bool}(fx':List (Nat×Sp)) (ho:ops[k]?=some ⟨dst,op,ty,pos,aft,some (j,want)⟩) (hn:opn k=true) (hj:(ops[j]?).bind (·.dst)=some d) (hb:τ d= .p (.bool want)) (h:DL P ⟨dst,op,ty,pos,aft,some (j,want)⟩ (ev τ) H (RA R H)) (haft:E5 ops k (fx'.map (·.1))=true) (hne:∃v,R v) (owe:KJ ops k H H rd)
  (next:∀v,R v→Hp k (.eff v H) fx∧Dr P ops n τ₀ D Q opn (k+1) (put τ dst v) H rd ((k,H,H)::ef) (true::effs) (fx'++fx)):Dr P ops n τ₀ D Q opn k τ H rd ef effs fx :=
 .opn (RA R H) fx' ho hn ⟨d,hj,hb⟩ h haft (let ⟨v,hv⟩:=hne;⟨v,H,hv,rfl⟩) (fun v H' ⟨_,h2⟩=>by subst h2;exact owe) (fun v H' ⟨h1,h2⟩=>by subst h2;exact(next v h1).1) (fun v H' ⟨h1,h2⟩=>by subst h2;exact(next v h1).2) (fun _ _ h=>h.elim)
end
theorem Gq {P:Program}{r:Option Nat}{c:Code}{Q:Cj→BM→Prop}{n:Nat}{τ:Nat→AV}{H:List A4}{D:List D4}(live:List Nat) (d:Nat) (R:AV→Prop) (h:IK P r c ⟨n,τ,H,D⟩ (Kj (fun S'=>S'.n=n∧S'.D=D∧H.Sublist S'.H∧R (S'.τ d)∧jv S'.τ τ live) Q))
  (next:∀x,R x→Q .normal ⟨n,mk ((d,x)::live.map fun t=>(t,τ t)),H,D⟩):IK P r c ⟨n,τ,H,D⟩ Q:=by
 intro F a w hs;refine wpIn_mono (h F a w hs) ?_;rintro e a' w' ⟨e',S',F',hq,he,hs',ht⟩;cases e' with
 | normal =>
  obtain⟨n',τ',H',D'⟩:=S';obtain⟨h1,h3,h2,h4,h5⟩:=hq;simp only at h1 h2 h3 h4 h5;subst h1;subst h3;have l:Le ⟨n',τ',H',D'⟩ ⟨n',mk ((d,τ' d)::live.map fun t=>(t,τ t)),H,D'⟩:=G5 ⟨rfl,RP h5⟩ h2;exact⟨.normal,_,F',next _ h4,he,hs'.le l,ht.sublist h2⟩
 | exit id=>exact⟨.exit id,S',F',hq,he,hs',ht⟩
 | ret=>exact⟨.ret,S',F',hq,he,hs',ht⟩
 | panic v=>exact⟨.panic v,S',F',hq,he,hs',ht⟩
def LP (v:AV):Prop:=∃b:Bool,v= .p (.bool b)
def ec (v:AV):Prop:=∃e:Int,v= .p (.int .i64 e)
end Go.Abs
namespace Go.Eu
open Go.Abs
noncomputable def ML {α:Type}(a b:α):Bool:= @decide (a=b) (Classical.propDecidable _)
theorem FP {α:Type}{a b:α}(h:a=b):ML a b=true:=by simp[ML,h]
theorem FL {α:Type}{a b:α}(h:a≠b):ML a b=false:=by simp[ML,h]
theorem GY {α:Type}{a b:α}:ML a b=true↔a=b:=by simp[ML]
abbrev LV (l:CX):AV:= .agg ((B4 l).map .p)
abbrev xD (ts:List Tm):AV:= .p (.lst (A6 ts))
abbrev w6 (ls:List CX):AV:= .p (.lst (ls.map B4))
theorem DT {ts:List B6}{i:Nat}{t:B6}(h:ts[i]?=some t):(ts.map Ey)[i]?=some (Ey t):=by simp[h]
theorem Pa {ts:List CX}{i:Nat}{t:CX}(h:ts[i]?=some t):(ts.map B4)[i]?=some (B4 t):=by simp[h]
def agree {α:Type}(a b:List α) (i:Nat):Prop:=a.take i=b.take i
theorem OI {α:Type}(a b:List α):agree a b 0:=by simp[agree]
theorem Oc {α:Type}{a b:List α}{i:Nat}{x:α}(h:agree a b i) (ha:a[i]?=some x) (hb:b[i]?=some x):agree a b (i+1):=by
 unfold agree at *;rw[List.take_add_one,List.take_add_one,ha,hb,h]
theorem Qj {α:Type}{a b:List α}{n:Nat}(h:agree a b n) (ha:a.length=n) (hb:b.length=n):a=b:=by
 unfold agree at h
 rwa [List.take_of_length_le Au,List.take_of_length_le Au] at h
theorem A1 {α:Type}{l:List α}{i:Nat}(h:i<l.length):∃x,l[i]?=some x:=⟨_,List.getElem?_eq_getElem h⟩
abbrev Db:Nat:=1099511627776
def JY (n:Int):Prop:= -9223372036854775808≤n∧n≤9223372036854775807
structure OA (l:CX):Prop where
 vars:l.vars.length<Db
 c:JY l.const
 v:∀v∈l.vars,JY v.index∧JY v.plus
mutual
def Nd:Tm→Prop
 | .mk k i n ls ks=>n.size<Db∧ls.length<Db∧(∀l∈ls,OA l)∧ks.length<Db∧M6 ks∧JY k∧JY i
def M6:List Tm→Prop
 | []=>True
 | t::ts=>Nd t∧M6 ts
end
theorem DV:∀{ts:List Tm}{i:Nat}{t:Tm},M6 ts→ts[i]?=some t→Nd t
 | [],i,t,_,h=>by simp at h
 | a::ts,0,t,hn,h=>by simp at h;subst h;exact hn.1
 | a::ts,i+1,t,hn,h=>by simp at h;exact DV hn.2 h
mutual
def depth:Tm→Nat
 | .mk _ _ _ _ ks=>Hx ks+1
def Hx:List Tm→Nat
 | []=>0
 | t::ts=>max (depth t) (Hx ts)
end
theorem aE {ts:List Tm}{i:Nat}{t:Tm}(h:ts[i]?=some t):Hx (ts.take (i+1))=max (Hx (ts.take i)) (depth t):=by
 induction ts generalizing i with
 | nil=>simp at h
 | cons a ts ih =>
  cases i with
  | zero=>simp at h;subst h;simp[Hx]
  | succ i=>simp at h;simp only[List.take_succ_cons,Hx,ih h];omega
mutual
theorem U4:∀t:Tm,depth t≤size t
 | .mk _ _ _ _ ks=>by simp only[depth,size];have:=JZ ks;omega
theorem JZ:∀ts:List Tm,Hx ts≤BB ts
 | []=>by simp[Hx]
 | t::ts=>by simp only[Hx,BB];have:=U4 t;have:=JZ ts;omega
end
theorem Sv {ts:List Tm}(i:Nat):Hx (ts.take i)≤Hx ts:=by
 induction ts generalizing i with
 | nil=>simp[Hx]
 | cons a ts ih =>
  cases i with
  | zero=>simp[Hx]
  | succ i=>simp only[List.take_succ_cons,Hx];have:=ih i;omega
end Go.Eu
namespace Go.Eu
theorem PJ (bs : ByteArray) : ∀ (d i : Nat) (r : List UInt8), bs.size - i = d → ByteArray.toList.loop bs i r = r.reverse ++ bs.data.toList.drop i := by
 intro d
 induction d with
 | zero =>
  intro i r h
  unfold ByteArray.toList.loop
  have : ¬ i < bs.size := by omega
  simp only [this, if_false]
  rw [List.drop_eq_nil_of_le (by have : bs.data.size = bs.size := rfl; simp; omega)]; simp
 | succ d ih =>
  intro i r h
  unfold ByteArray.toList.loop
  have hi : i < bs.size := by omega
  simp only [hi, if_true]
  rw [ih (i + 1) _ Au]
  have hlt : i < bs.data.toList.length := by have : bs.data.size = bs.size := rfl; simp; omega
  rw [List.drop_eq_getElem_cons hlt]
  have : bs.get! i = bs.data.toList[i] := by
   have h2 : i < bs.data.size := by simpa using hlt
   show bs.data[i]! = _
   rw [getElem!_pos bs.data i h2]; simp
  simp [this]
theorem PN (bs:ByteArray):bs.toList=bs.data.toList:=by
 unfold ByteArray.toList;rw[PJ bs _ 0 [] rfl];simp
theorem Gk {a b:ByteArray}(h:a.toList=b.toList):a=b:=by
 rw[PN,PN] at h;cases a;cases b;simp at h;congr
end Go.Eu
namespace Go.Eu
open Go.Abs
mutual
def E8:Tm→Int→Int
 | .mk _ _ _ _ ks,most=>Ew ks most 0
def Ew:List Tm→Int→Int→Int
 | [],_,n=>n
 | t::ts,most,n=>if n > most then n else Ew ts most (wr (n+wr (1+E8 t (wr (most - n)))))
end
theorem WE {l:List Tm}{i:Nat}{t:Tm}{most n:Int}(h:l[i]?=some t):Ew (l.drop i) most n=if n > most then n else Ew (l.drop (i+1)) most (wr (n+wr (1+E8 t (wr (most - n))))):=by
 have hlt:i<l.length:=(List.getElem?_eq_some_iff.1 h).1;rw[List.drop_eq_getElem_cons hlt];have:l[i]=t:=by simpa [List.getElem?_eq_getElem hlt] using h
 rw[this,Ew]
end Go.Eu
namespace Go.Eu
def arity (k:Int):Int:=if k=4∨k=5∨k=6∨k=7 then 2 else if k=8∨k=11 then 3 else if k=9∨k=10 then 1 else 0
def below (k i:Int):Int:=if ((i==1&&(k==5||k==6||k==7))||(i==2&&k==11))=true then 1 else 0
def bS:Tm→Prop
 | .mk kd _ _ _ ks=>0≤kd∧kd<13∧(ks.length:Int)=arity kd
mutual
def wf (vars metas:Int):Int→Tm→Prop
 | d,.mk kd ix _ _ ks=>0≤kd∧kd<13∧(ks.length:Int)=arity kd∧(kd=0→0≤ix∧ix - d<vars)∧(kd=12→0≤ix∧ix<metas)∧oA vars metas kd d 0 ks
def oA (vars metas:Int):Int→Int→Nat→List Tm→Prop
 | _,_,_,[]=>True
 | kd,d,i,t::ts=>wf vars metas (d+below kd i) t∧oA vars metas kd d (i+1) ts
end
theorem Lz {vars metas kd d:Int}:∀{ks:List Tm}{i:Nat},(∀j t,ks[j]?=some t→wf vars metas (d+below kd ((i+j:Nat):Int)) t)→oA vars metas kd d i ks
 | [],i,_=>by simp[oA]
 | t::ts,i,h=>by
  simp only[oA];exact⟨by have:=h 0 t rfl;simpa using this,Lz fun j t' ht=>by have:=h (j+1) t' (by simpa using ht);rw[show i+1+j=i+(j+1) by omega];exact this⟩
theorem Cx (k i:Int):0≤below k i∧below k i≤1:=by unfold below;split<;>omega
theorem Cg {α:Type}{l:List α}{p:Nat→α→Prop}{i:Nat}{x:α}(h:∀j,j<i→∀t,l[j]?=some t→p j t) (hx:l[i]?=some x) (hp:p i x):∀j,j<i+1→∀t,l[j]?=some t→p j t:=by
 intro j hj t ht;rcases Nat.lt_or_ge j i with h' | h'
 ·exact h j h' t ht
 have e:j=i:=by omega
 subst e;rw[hx] at ht;injection ht with ht;subst ht;exact hp
end Go.Eu
namespace Go.Abs
section
variable {α:Type}
def N9 (is:List Nat):Nat→List α→List α
 | _,[]=>[]
 | k,a::l=>bif is.any (Nat.beq k ·) then a::N9 is (k+1) l else N9 is (k+1) l
theorem Qy (is:List Nat):∀(k:Nat) (l:List α),(N9 is k l).Sublist l
 | _,[]=>List.Sublist.refl _
 | k,a::l=>by
  simp only[N9];cases is.any (Nat.beq k ·)
  ·exact(Qy is (k+1) l).cons _
  exact(Qy is (k+1) l).cons_cons _
theorem HB {is:List Nat}{l l':List α}(h:N9 is 0 l=l'):l'.Sublist l:=h▸Qy is 0 l
def GF (H:List α):List Nat→List α→Prop
 | [],xs=>xs=[]
 | i::is,xs=>∃x xs',xs=x::xs'∧H[i]?=some x∧GF H is xs'
def Md (H:List α):List Nat→List α→List α
 | i::is,x::xs=>Md (H.set i x) is xs
 | _,_=>H
def DM (is:List Nat):Nat→List α→List α
 | _,[]=>[]
 | k,a::l=>if k∈is then DM is (k+1) l else a::DM is (k+1) l
theorem RU:∀(k:Nat) (l:List α),DM [] k l=l
 | _,[]=>rfl
 | k,a::l=>by simp[DM,RU (k+1) l]
theorem RZ {is:List Nat}{j:Nat}:∀(k:Nat) (l:List α),j<k→DM (j::is) k l=DM is k l
 | _,[],_=>rfl
 | k,a::l,h=>by
  have:k≠j:=by omega
  have ih:=RZ (is:=is) (j:=j) (k+1) l Au;simp[DM,this,ih]
theorem PU {is:List Nat}{x:α}:∀(l:List α) (k i:Nat),l[i]?=some x→(k+i) ∉ is→(DM is k l).Perm (x::DM ((k+i)::is) k l)
 | [],k,i,h,_=>by simp at h
 | a::l,k,0,h,hn=>by
  simp at h hn;subst h;simp[DM,hn,RZ (k+1) l (Nat.lt_succ_self k)]
 | a::l,k,i+1,h,hn=>by
  simp at h;have ih:=PU l (k+1) i h (by rw[show k+1+i=k+(i+1) by omega];exact hn);rw[show k+1+i=k+(i+1) by omega] at ih;have hk:k≠k+(i+1):=by omega
  simp only[DM,List.mem_cons,hk,false_or];split
  ·exact ih
  exact(ih.cons a).trans (.swap _ _ _)
theorem DP {H:List α}:∀{is:List Nat}{xs:List α},is.Nodup→GF H is xs→H.Perm (xs++DM is 0 H)
 | [],xs,_,h=>by simp only[GF] at h;subst h;simp[RU]
 | i::is,xs,hn,h=>by
  obtain⟨x,xs',rfl,hx,hr⟩:=h;have hn':=List.nodup_cons.1 hn;have ih:=DP hn'.2 hr;have:=PU (is:=is) H 0 i hx (by simpa using hn'.1);simp only[Nat.zero_add] at this;exact ih.trans (((List.Perm.refl xs').append this).trans List.perm_middle)
theorem RI {is:List Nat}{y:α}:∀(l:List α) (k i:Nat),(k+i)∈is→DM is k (l.set i y)=DM is k l
 | [],k,i,_=>by simp
 | a::l,k,0,h=>by simp at h;simp[DM,h]
 | a::l,k,i+1,h=>by
  have:=RI (y:=y) l (k+1) i (by rw[show k+1+i=k+(i+1) by omega];exact h);simp only[List.set_cons_succ,DM,this]
theorem T8 {i:Nat}{y:α}:∀{is:List Nat}{xs H:List α},i ∉ is→GF H is xs→GF (H.set i y) is xs
 | [],xs,H,_,h=>h
 | j::is,xs,H,hn,h=>by
  obtain⟨x,xs',rfl,hx,hr⟩:=h;simp at hn;exact⟨x,xs',O,by rw[List.getElem?_set_ne hn.1];exact hx,T8 hn.2 hr⟩
theorem VQ:∀{is:List Nat}{xs xs' H:List α},is.Nodup→GF H is xs→xs'.length=xs.length→GF (Md H is xs') is xs'∧(∀ks k,(∀i∈is,k+i∈ks)→DM ks k (Md H is xs')=DM ks k H)∧∀j,j ∉ is→(Md H is xs')[j]?=H[j]?
 | [],xs,xs',H,_,h,hl=>by
  simp only[GF] at h;subst h;have:xs'=[]:=by simpa using hl
  subst this;exact⟨O,fun _ _ _=>O,fun _ _=>O⟩
 | i::is,xs,xs',H,hn,h,hl=>by
  obtain⟨x,xr,rfl,hx,hr⟩:=h;have hn':=List.nodup_cons.1 hn;cases xs' with
  | nil=>simp at hl
  | cons y ys =>
   have hlt:i<H.length:=(List.getElem?_eq_some_iff.1 hx).1;obtain⟨h1,h2,h3⟩:=VQ (H:=H.set i y) hn'.2 (T8 hn'.1 hr) (by simpa using hl);refine⟨⟨y,ys,O,by rw[Md,h3 i hn'.1];simp[hlt],h1⟩,fun ks k hk=>?_,fun j hj=>?_⟩
   ·rw[Md,h2 ks k (fun q hq=>hk q (by simp[hq])),RI _ _ _ (hk i Av)]
   simp at hj;rw[Md,h3 j hj.2,List.getElem?_set_ne (fun e=>hj.1 e.symm)]
theorem Nw {is:List Nat}{xs xs' H:List α}(hn:is.Nodup) (h:GF H is xs) (hl:xs'.length=xs.length):(Md H is xs').Perm (xs'++DM is 0 H):=by
 obtain⟨h1,h2,_⟩:=VQ hn h hl;have:=DP hn h1
 rwa [h2 is 0 (fun i hi=>by simpa using hi)] at this
end
def rT (τ:Nat→AV) (x:AV):List Nat→Prop
 | []=>True
 | t::r=>τ t=x∧rT τ x r
theorem DA {τ:Nat→AV}{x:AV}:∀{ts:List Nat},rT τ x ts→∀t∈ts,τ t=x
 | [],_,t,h=>by simp at h
 | a::r,h,t,ht=>by
  rcases List.mem_cons.1 ht with rfl | ht
  ·exact h.1
  exact DA h.2 t ht
section
variable {P:Program}{S:BM}{a T n b i:Nat}{cs:List AV}{v:AV}
theorem DR (hT:EH P T=some (true,n)) (ha:S.τ a= .ptr b 0) (hi:S.H[i]?=some (.box b cs)) (hn:cs.length=n):p9 P S (.cell a T) (.agg cs):=by
 obtain⟨d,h1,h2,h3⟩:=FV hT;exact⟨b,cs,i,ha,hi,.inl ⟨d,h1,h2,by rw[h3,hn],rfl⟩⟩
theorem F9 (hT:EH P T=some (false,n)) (ha:S.τ a= .ptr b 0) (hi:S.H[i]?=some (.box b [v])):p9 P S (.cell a T) v:=by
 obtain⟨d,h1,h2,h3⟩:=FV hT;exact⟨b,[v],i,ha,hi,.inr ⟨d,h1,h2,O⟩⟩
end
section
variable {P:Program}{dst:Option Tmp}{ty:TypeId}{pos:String}{aft:Array Edge}{g:Option (Nat×Bool)}{ρ:Operand→AV}{H Hs Hs':List A4}{x y z:Operand}{v:AV}{c:Call}{f:Operand}{fid:FuncId}{first caps A:List AV}
theorem DL.permD {o:Oper}{H H' H'':List A4}(h:Dm P o ρ H v H') (hp:H'.Perm H''):Dm P o ρ H v H'':=by
 intro r F S a w hs hH hρ hd;have:=h r F S a w hs hH hρ hd;refine I1 this ?_ ?_
 ·rintro a' w' ⟨v',H1,F',⟨rfl,rfl⟩,hs',ht⟩;exact⟨v',H'',F',⟨O,O⟩,⟨hs'.size,hs'.tmp,hs'.heap.perm hp,hs'.defs⟩,{ ht with keys:=fun o ho=>ht.keys o (hp.mem_iff.2 ho) }⟩
 rintro e a' w' ⟨v',H1,F',u,h,_⟩;exact h.elim
theorem Bj (is:List Nat) (hc:c.callee= .value f) (hf:(ρ f= .p (.fn fid)∧first=[]∧caps=[])∨ρ f= .fn (.func fid) first caps) (h:BL P fid A Hs (Gm v Hs')) (hg:GF H is Hs) (hn:is.Nodup) (hl:Hs'.length=Hs.length) (hA:first++c.args.toList.map ρ++caps=A∨(first++c.args.toList.map ρ++caps).map norm=A) :
  Dm P ⟨dst,.call c,ty,pos,aft,g⟩ ρ H v (Md H is Hs') :=
 DL.permD (pJ hc hf (DP hn hg) h hA) (Nw hn hg hl).symm
theorem pE (hc:c.callee= .value f) (hf:ρ f= .fn (.func fid) first caps) (h:En P fid A v) (hA:first++c.args.toList.map ρ++caps=A∨(first++c.args.toList.map ρ++caps).map norm=A) :
  Dm P ⟨dst,.call c,ty,pos,aft,g⟩ ρ H v H:=by
 refine(GA (H:=H) (Hs:=[]) (Hf:=H) hc (.inr hf) (A:=A) Av h hA).mono ?_;rintro r H' ⟨Hs',h1,rfl⟩;cases r with
 | val v'=>obtain⟨rfl,rfl⟩:=h1;exact⟨rfl,rfl⟩
 | panic v'=>exact h1
theorem Bi {T T2 e e2:TypeId}{sz bytes n2 n3 c i n:Nat}{o:Option Nat}{rows rows' rows2:List (List PV)}{zv:Value}(hT:E1 P T=some (e,sz,bytes)) (hT2:E1 P T2=some (e2,n2,n3)) (hz:zeroOf P e=some zv) (hzs:zv.cells.size=sz) (hb0:(Nat.blt 0 sz&&Nat.blt 0 bytes)=true)
  (hx:ρ x= .vs o n c) (hn:n=rows.length) (hi:H[i]?=some (.vec o sz rows c)) (hy:norm (ρ y)= .p (.lst rows')) (hsol:∀r∈rows',Ej sz r) (hroom:2*(rows.length+rows'.length)*bytes≤281474976710656) (h2:rows++rows'=rows2) :
  DL P ⟨dst,.call { callee:= .builtin .append,args:=#[x,y],argTypes:=#[T,T2] },ty,pos,aft,g⟩ ρ H (PW i sz rows2 H):=by
 subst h2;exact Tz hT hT2 hz hzs hb0 hx hn hi hy hsol hroom
theorem Xp {F:Nat→Prop}{w:World}{u:Value}(h:Bz F w (.p .nils) u):Bz F w (.vs none 0 0) u:=by
 simp only[Bz,Br] at *;exact⟨Aw,Aw,none,h⟩
theorem aX {α : Type} : ∀ {us cs : List α}, us.length = cs.length → splice cs 0 us = us := by
 have key : ∀ (us : List α) (pre cs : List α), us.length = cs.length → splice (pre ++ cs) pre.length us = pre ++ us := by
  intro us
  induction us with
  | nil => intro pre cs h; have : cs = [] := by simpa using h.symm
           subst this; simp [splice]
  | cons u us ih =>
   intro pre cs h
   cases cs with
   | nil => simp at h
   | cons c cs =>
    simp only [splice]
    have := ih (pre ++ [u]) cs (by simpa using h)
    have e : (pre ++ c :: cs).set pre.length u = pre ++ [u] ++ cs := by simp
    rw [e]
    simpa using this
 intro us cs h
 exact key us [] cs h
theorem DX {T:TypeId}{bl:Bool}{n b i:Nat}{cs us:List AV}(hT:EH P T=some (bl,n+1)) (hx:ρ x= .ptr b 0) (hi:H[i]?=some (.box b cs)) (hy:E0 (ρ y)=some us) (hn:us.length=n+1)
  (ho:cs.length=n+1) (h1:us.all one=true):Dm P ⟨dst,.store T x y,ty,pos,aft,g⟩ ρ H (.p .any) (H.set i (.box b us)):=by
 have:=Hq (P:=P) (dst:=dst) (ty:=ty) (pos:=pos) (aft:=aft) (g:=g) hT hx hi hy hn (by rw[ho];simp) h1
 rwa [aX (by rw[hn,ho])] at this
theorem C7 {T:TypeId}{bl:Bool}{b i j sz c:Nat}{rows rows2:List (List PV)}{us:List AV}{r:List PV}(hT:EH P T=some (bl,sz)) (hpos:Nat.blt 0 sz=true) (hx:ρ x= .ptr b (j*sz)) (hi:H[i]?=some (.vec (some b) sz rows c)) (hj:j<rows.length) (hy:E0 (ρ y)=some us) (hp:Hc (us.map dn)=some r) (hrl:r.length=sz) (h1:us.all one=true) (h2:rows.set j r=rows2) :
  Dm P ⟨dst,.store T x y,ty,pos,aft,g⟩ ρ H (.p .any) (H.set i (.vec (some b) sz rows2 c)):=by
 subst h2;exact Uz hT hpos hx hi hj hy hp hrl h1
theorem KR {T e:TypeId}{sz bytes:Nat}{m:Int}{zs:List Value}{zv:Value}{zr:List PV}{rows2:List (List PV)}(hT:E1 P T=some (e,sz,bytes)) (hz:zeroOf P e=some zv) (hzs:zv.cells=⟨zs⟩) (hsz:zs.length=sz) (hpos:0<sz) (hp:Hc ((zs.map HG).map dn)=some zr)
  (hx:ρ x= .p (.int .i64 m)) (hy:ρ y= .p (.int .i64 m)) (h0:0≤m) (hm:bytes*m≤281474976710656) (hm2:m≤9223372036854775807) (h2:List.replicate m.toNat zr=rows2) :
  DL P ⟨dst,.makeSlice T x y,ty,pos,aft,g⟩ ρ H (Lc sz rows2 H):=by
 subst h2;exact Um hT hz hzs hsz hpos hp hx hy h0 hm hm2
theorem Cn {T e:TypeId}{sz bytes lo hi:Nat}{rows rows2:List (List PV)}{l h:Option Operand}(hT:E1 P T=some (e,sz,bytes)) (hx:ρ x= .p (.lst rows)) (hr:∀r∈rows,r.length=sz)
  (hl:match l with | none=>lo=0 | some y=>∃k,ρ y= .p (.int k lo)) (hh:match h with | none=>hi=rows.length | some y=>∃k,ρ y= .p (.int k hi)) (h1:lo≤hi) (h2:hi≤rows.length) (h3:(rows.take hi).drop lo=rows2) :
  Dm P ⟨dst,.slice T x l h none,ty,pos,aft,g⟩ ρ H (.p (.lst rows2)) H:=by
 subst h3;exact fq hT hx hr hl hh h1 h2
end
section
variable {P:Program}{r:Option Nat}{ops:Array Oper}{Q:Cj→BM→Prop}{k:Nat}{n:Nat}{τ:Nat→AV}{H H':List A4}{D:List D4}{dst:Option Tmp}{op:Op}{ty:TypeId}{pos:String}{aft:Array Edge}{v:AV}
theorem uF (ho:ops[k]?=some ⟨dst,op,ty,pos,aft,none⟩) (hd:Gj dst n=true) (h:DL P ⟨dst,op,ty,pos,aft,none⟩ (ev τ) H (lI H))
  (next:∀b,AL P r ops (k+1) ⟨n,put τ dst (.map b),.map b (Ek [])::H,D⟩ Q):AL P r ops k ⟨n,τ,H,D⟩ Q :=
 Fm (S:=⟨n,τ,H,D⟩) ho An (He hd) h (fun v H' ⟨b,h1,h2⟩=>by subst h1;subst h2;exact next b) (fun _ _ h=>h.elim)
end
theorem leH {is:List Nat}{H H1 H':List A4}(h:N9 is 0 H=H1) (w:F3 H1 H'):nw H H':=⟨H1,HB h,w⟩
theorem FW {x y:AV}(h:norm x=y):LU x y:=fun _ _ _ hr=>h▸hr.norm
theorem Ih:F3 [] []:=rfl
theorem wl {o o':A4}{l l':List A4}(h:NQ o o') (r:F3 l l'):F3 (o::l) (o'::l'):=⟨o',l',rfl,h,r⟩
theorem on {b:Nat}{cs cs':List AV}(h:cs.map dn=cs'):NQ (.box b cs) (.box b cs'):=⟨rfl,fun F w hr=>by
 obtain⟨vs,T,h1,h2⟩:=hr;exact⟨vs,T,h1,h▸LO h2⟩⟩
theorem BE {n:Nat}{τ:Nat→AV}{H:List A4}{D:List D4}{i b:Nat}{cs:List AV}(hi:H[i]?=some (.box b cs)):Ia ⟨n,τ,H,D⟩ ⟨n,τ,H.set i (.box b (cs.map dn)),D⟩:=by
 intro F a w hs;refine⟨F,⟨hs.size,hs.tmp,?_,hs.defs⟩,?_⟩
 ·have hk:=G1 (x':= .box b (cs.map dn)) hi rfl;refine⟨fun o ho c hc=>?_,by show List.Nodup _;rw[hk];exact hs.heap.nodup,fun o ho=>?_,hs.heap.bd⟩
  ·rcases D2 ho with rfl | ⟨j,_,hj⟩
   ·exact hs.heap.sub _ (List.mem_of_getElem? hi) c hc
   exact hs.heap.sub _ (List.mem_of_getElem? hj) c hc
  rcases D2 ho with rfl | ⟨j,_,hj⟩
  ·exact(on O).2 F w (hs.heap.obj _ (List.mem_of_getElem? hi))
  exact hs.heap.obj _ (List.mem_of_getElem? hj)
 refine { Trans.refl (F:=F) (H:=H) (w:=w) with keys:=fun o ho c hc=>?_ };rcases D2 ho with rfl | ⟨j,_,hj⟩
 ·exact .inl ⟨_,List.mem_of_getElem? hi,hc⟩
 exact .inl ⟨_,List.mem_of_getElem? hj,hc⟩
theorem Fg {n:Nat}{τ:Nat→AV}{H:List A4}{D:List D4}(t:Nat):Ia ⟨n,τ,H,D⟩ ⟨n,put τ (some t) (norm (τ t)),H,D⟩:=Ob fun _ _ _ h=>h.norm
theorem ob {b:Nat}{cs cs':List AV}(h:cs=cs'):NQ (.box b cs) (.box b cs'):=oe (by rw[h])
theorem om {b:Nat}{l l':List (PV×AV)}(h:l=l'):NQ (.map b l) (.map b l'):=oe (by rw[h])
def Zf (mkv:AV→AV) (sz:Nat) (rows:List (List PV)):EG→List A4→Prop
 | .val v,H'=>∃o c,v=mkv (.vs o rows.length c)∧H'=[.vec o sz rows c]
 | .panic _,_=>False
section
variable {P:Program}{r:Option Nat}{ops:Array Oper}{Q:Cj→BM→Prop}{k:Nat}{n:Nat}{τ:Nat→AV}{H H':List A4}{D:List D4}{dst:Option Tmp}{op:Op}{ty:TypeId}{pos:String}{aft:Array Edge}{v:AV}
theorem Mj {c:Call}{f:Operand}{fid:FuncId}{first caps:List AV}{A:List AV}{mkv:AV→AV}{sz:Nat}{rows:List (List PV)}
  (ho:ops[k]?=some ⟨dst,.call c,ty,pos,aft,none⟩) (hd:Gj dst n=true)
  (hc:c.callee= .value f) (hf:(ev τ f= .p (.fn fid)∧first=[]∧caps=[])∨ev τ f= .fn (.func fid) first caps) (h:BL P fid A [] (Zf mkv sz rows)) (hA:first++c.args.toList.map (ev τ)++caps=A∨(first++c.args.toList.map (ev τ)++caps).map norm=A)
  (next:∀o cp,AL P r ops (k+1) ⟨n,put τ dst (mkv (.vs o rows.length cp)),.vec o sz rows cp::H,D⟩ Q):AL P r ops k ⟨n,τ,H,D⟩ Q :=
 Jj ho hd hc hf (Hs:=[]) (Hf:=H) Av h hA (fun v H' ⟨o,cp,h1,h2⟩=>by subst h1;subst h2;exact next o cp) (fun _ _ h=>h.elim)
end
theorem aa {P:Program}{f:FuncId}{args:List AV}{pre post:List AV}{sz:Nat}{rows:List (List PV)}(h:BL P f args [] (Zf (fun v=> .tup (pre++v::post)) sz rows)) (hb:∀x∈pre++post,∀F F' w v,Dq F w F' w→Bz F w x v→Bz F' w x v) :
  En P f args (.tup (pre++ .p (.lst rows)::post)):=by
 refine⟨h.1,fun F w vs hH ha=>(h.2 F w vs hH ha).mono ?_⟩;rintro e w' ⟨r,H',F',hR,he,hH',ht⟩;cases r with
 | panic v=>exact hR.elim
 | val v =>
  obtain⟨o,c,rfl,rfl⟩:=hR;obtain⟨u,rfl,hu⟩:=he;have hbd:∀b,o=some b→b<w'.heap.size:=fun b hb=>hH'.bd b (hH'.sub _ (List.mem_cons_self ..) b (by rw[←hb];rfl));have st:Dq F' w' (fun b=>F' b∧o≠some b) w':=⟨Nat.le_refl _,fun _ _ _=>rfl,fun _ h _ h'=>h h'.1⟩;have hob:=hH'.obj _ (List.mem_cons_self ..);refine⟨.val (.tup (pre++ .p (.lst rows)::post)),[],fun b=>F' b∧o≠some b,⟨O,O⟩,⟨u,O,?_⟩,?_,?_⟩
  ·simp only[Bz] at hu ⊢;obtain⟨us,hus,hr⟩:=hu;refine⟨us,hus,?_⟩;have key:∀(pre:List AV) (us:List Value),(∀x∈pre++post,∀F F' w v,Dq F w F' w→Bz F w x v→Bz F' w x v)→Bf F' w' (pre++ .vs o rows.length c::post) us→Bf (fun b=>F' b∧o≠some b) w' (pre++ .p (.lst rows)::post) us:=by
    intro pre
    induction pre with
    | nil =>
     intro us hb hr;simp only[List.nil_append,Bf] at hr ⊢;obtain⟨u,us',rfl,h1,h2⟩:=hr;refine⟨u,us',O,L5 hbd hob h1 _ st (fun b hb h=>h.2 hb),?_⟩;exact Bf.mono st _ _ h2
    | cons x pre ih =>
     intro us hb hr;simp only[List.cons_append,Bf] at hr ⊢;obtain⟨u,us',rfl,h1,h2⟩:=hr;exact⟨u,us',rfl,hb x Av _ _ _ _ st h1,ih us' (fun y hy=>hb y (by simp at hy ⊢;rcases hy with h | h<;>simp[h])) h2⟩
   exact key pre us hb hr
  ·exact⟨fun _ h=>by simp at h,by simp,fun _ h=>by simp at h,fun b hb=>hH'.bd b hb.1⟩
  refine⟨ht.size,fun b hb hn=>ht.same b hb hn,fun b hb hn=>⟨ht.keep b hb hn,?_⟩,fun b hb=>ht.fresh b hb.1,fun _ h=>by simp at h,ht.os,ht.out,ht.tape⟩;intro ho;subst ho;have:=hH.bd b hb;rcases ht.keys _ (List.mem_cons_self ..) b rfl with ⟨o',ho',_⟩ | h
  ·simp at ho'
  omega
theorem YO (c:AV) (F F':Nat→Prop) (w:World) (v:Value) (st:Dq F w F' w) (h:Bz F w c v):Bz F' w c v:=Bz.mono st _ _ h
def Fc:List AV→List AV→Prop
 | [],ys=>ys=[]
 | x::xs,ys=>∃y ys',ys=y::ys'∧LU x y∧Fc xs ys'
theorem HT:Fc [] []:=rfl
theorem aw {x y:AV}{xs ys:List AV}(h:LU x y) (r:Fc xs ys):Fc (x::xs) (y::ys):=⟨y,ys,rfl,h,r⟩
theorem Nu {F:Nat→Prop}{w:World}:∀{xs ys:List AV}{vs:List Value},Fc xs ys→Bf F w xs vs→Bf F w ys vs
 | [],ys,vs,h,hr=>by simp only[Fc] at h;subst h;exact hr
 | x::xs,ys,vs,h,hr=>by
  obtain⟨y,ys',rfl,h1,h2⟩:=h;simp only[Bf] at hr ⊢;obtain⟨u,us,rfl,r1,r2⟩:=hr;exact⟨u,us,O,h1 F w u r1,Nu h2 r2⟩
theorem Iv:LU (.p .nils) (.vs none 0 0):=fun _ _ _ h=>Xp h
theorem BL.args {P:Program}{f:FuncId}{args A:List AV}{H:List A4}{R:EG→List A4→Prop}(h:BL P f A H R) (hA:Fc args A):BL P f args H R :=
 ⟨h.1,fun F w vs hH ha=>h.2 F w vs hH (Nu hA ha)⟩
section
variable {P:Program}{r:Option Nat}{ops:Array Oper}{Q:Cj→BM→Prop}{k:Nat}{n:Nat}{τ:Nat→AV}{H Hs:List A4}{D:List D4}{dst:Option Tmp}{op:Op}{ty:TypeId}{pos:String}{aft:Array Edge}{v:AV}{c:Call}{f:Operand}{fid:FuncId}{first caps A:List AV}{R:EG→List A4→Prop}
theorem QM {S:BM}{H':List A4}(hp:S.H.Perm H'):Ia S ⟨S.n,S.τ,H',S.D⟩:=fun F a w hs =>
 ⟨F,⟨hs.size,hs.tmp,hs.heap.perm hp,hs.defs⟩,{ Trans.refl (F:=F) (H:=S.H) (w:=w) with keys:=fun o ho b hb=> .inl ⟨o,hp.mem_iff.2 ho,hb⟩ }⟩
theorem j4 (is:List Nat) (ho:ops[k]?=some ⟨dst,.call c,ty,pos,aft,none⟩) (hd:Gj dst n=true)
  (hc:c.callee= .value f) (hf:(ev τ f= .p (.fn fid)∧first=[]∧caps=[])∨ev τ f= .fn (.func fid) first caps) (h:BL P fid A Hs R) (hg:GF H is Hs) (hn:is.Nodup) (hA:Fc (first++c.args.toList.map (ev τ)++caps) A)
  (next:∀v Hs',R (.val v) Hs'→Hs'.length=Hs.length∧AL P r ops (k+1) ⟨n,put τ dst v,Md H is Hs',D⟩ Q) (pan:∀v Hs',R (.panic v) Hs'→Q (.panic v) ⟨n,τ,Hs'++DM is 0 H,D⟩):AL P r ops k ⟨n,τ,H,D⟩ Q :=
 Jj ho hd hc hf (DP hn hg) (h.args hA) (.inl rfl) (fun v H' hR=>by
  obtain⟨hl,hn'⟩:=next v H' hR;exact BH (QM (S:=⟨n,put τ dst v,H'++DM is 0 H,D⟩) (Nw hn hg hl).symm) hn') pan
theorem jz (is:List Nat) (ho:ops[k]?=some ⟨dst,.call c,ty,pos,aft,none⟩) (hd:Gj dst n=true)
  (hc:c.callee= .value f) (hf:(ev τ f= .p (.fn fid)∧first=[]∧caps=[])∨ev τ f= .fn (.func fid) first caps) (h:BL P fid A Hs R) (hg:GF H is Hs) (hn:is.Nodup) (hA:Fc (first++c.args.toList.map (ev τ)++caps) A)
  (next:∀v Hs',R (.val v) Hs'→AL P r ops (k+1) ⟨n,put τ dst v,Hs'++DM is 0 H,D⟩ Q) (pan:∀v Hs',R (.panic v) Hs'→Q (.panic v) ⟨n,τ,Hs'++DM is 0 H,D⟩):AL P r ops k ⟨n,τ,H,D⟩ Q :=
 Jj ho hd hc hf (DP hn hg) (h.args hA) (.inl rfl) next pan
theorem H6 {sz:Nat}:Ia ⟨n,τ,H,D⟩ ⟨n,τ,.vec none sz [] 0::H,D⟩:=by
 intro F a w hs;have hH:HRel F (.vec none sz [] 0::H) w:=⟨fun o ho b hb=>by
   rcases List.mem_cons.1 ho with rfl | ho
   ·cases hb
   ·exact hs.heap.sub o ho b hb,by simpa [List.filterMap_cons,A4.key] using hs.heap.nodup,fun o ho=>by
   rcases List.mem_cons.1 ho with rfl | ho
   ·exact⟨O,O⟩
   exact hs.heap.obj o ho,hs.heap.bd⟩
 exact⟨F,⟨hs.size,hs.tmp,hH,hs.defs⟩,⟨Nat.le_refl _,fun _ _ _=>O,fun _ h _=>h,fun _ h=> .inl h,fun o ho b hb=>by
   rcases List.mem_cons.1 ho with rfl | ho
   ·cases hb
   exact .inl ⟨o,ho,hb⟩,O,O,O⟩⟩
end
section
variable {P:Program}{r:Option Nat}{ops:Array Oper}{Q:Cj→BM→Prop}{k:Nat}{n:Nat}{τ:Nat→AV}{H:List A4}{D:List D4}{o:Option Nat}{sz cp i:Nat}{rows:List (List PV)}
theorem Yi {F:Nat→Prop}{w:World}{a:Act}(hs:GI F ⟨n,τ,H,D⟩ a w) (hi:H[i]?=some (.vec o sz rows cp)) (hne:0<rows.length):∃b,o=some b:=by
 have:=hs.heap.obj _ (List.mem_of_getElem? hi);cases o with
 | none=>obtain⟨h,_⟩:=this;simp[h] at hne
 | some b=>exact⟨b,rfl⟩
theorem I4 (hi:H[i]?=some (.vec o sz rows cp)) (hne:0<rows.length) (next:∀b,o=some b→AL P r ops k ⟨n,τ,H,D⟩ Q):AL P r ops k ⟨n,τ,H,D⟩ Q:=fun F a w hs=>by
 obtain⟨b,hb⟩:=Yi hs hi hne;exact next b hb F a w hs
theorem JI {c:Code}(hi:H[i]?=some (.vec o sz rows cp)) (hne:0<rows.length) (next:∀b,o=some b→IK P r c ⟨n,τ,H,D⟩ Q):IK P r c ⟨n,τ,H,D⟩ Q:=fun F a w hs=>by
 obtain⟨b,hb⟩:=Yi hs hi hne;exact next b hb F a w hs
end
section
variable {P:Program}{dst:Option Tmp}{ty:TypeId}{pos:String}{aft:Array Edge}{g:Option (Nat×Bool)}{ρ:Operand→AV}{H:List A4}
theorem Ct {a:Operand}{T e:TypeId}{n n1 n2:Nat}{rows:List (List PV)}(hT:E1 P T=some (e,n1,n2)) (hx:ρ a= .p (.lst rows)) (hn:rows.length=n) :
  Dm P ⟨dst,.call { callee:= .builtin .len,args:=#[a],argTypes:=#[T] },ty,pos,aft,g⟩ ρ H (.p (.int .i64 n)) H:=L6 hT (.inl ⟨rows,hx,hn⟩)
theorem JO {a:Operand}{T e:TypeId}{m n n1 n2 c:Nat}{o:Option Nat}(hT:E1 P T=some (e,n1,n2)) (hx:ρ a= .vs o m c) (hn:m=n) :
  Dm P ⟨dst,.call { callee:= .builtin .len,args:=#[a],argTypes:=#[T] },ty,pos,aft,g⟩ ρ H (.p (.int .i64 n)) H:=L6 hT (.inr (.inl ⟨o,c,by rw[hx,hn]⟩))
end
section
variable {P:Program}{dst:Option Tmp}{ty:TypeId}{pos:String}{aft:Array Edge}{g:Option (Nat×Bool)}{ρ:Operand→AV}{H:List A4}{x y:Operand}
theorem YU {m n:Int}{T U:TypeId}(hx:ρ x= .p (.int .i64 m)) (hy:ρ y= .p (.int .i64 n)):Dm P ⟨dst,.binOp .mul T x y U,ty,pos,aft,g⟩ ρ H (.p (.int .i64 (wr (m*n)))) H :=
 Bw fun F w E hH hE=>by
  have e1:=hE x Al;have e2:=hE y Al;rw[hx] at e1;rw[hy] at e2;simp only[Bz,Br] at e1 e2;exact⟨.int .i64 (wr (m*n)),by simp[execOp,Sem.run_bind,JR,e1,e2,binOp,Op.intArith],by simp[Bz,Br]⟩
end
section
variable {P:Program}{ops:Array Oper}{n:Nat}{τ₀:Nat→AV}{D:List D4}{Q:Cj→BM→Prop}{opn:Nat→Bool}{k:Nat}{τ:Nat→AV}{H:List A4}{rd:ZW}{ef:Yy}{effs:List Bool}{fx:List (Nat×Sp)}{dst:Option Tmp}{ty:TypeId}{pos:String}{aft:Array Edge}{c:Call}{f:Operand}{fid:FuncId}{first caps A:List AV}{mkv:AV→AV}{sz:Nat}{rows:List (List PV)}
theorem sl (fx':List (Nat×Sp)) (ho:ops[k]?=some ⟨dst,.call c,ty,pos,aft,none⟩) (hn:opn k=true)
  (hc:c.callee= .value f) (hf:(ev τ f= .p (.fn fid)∧first=[]∧caps=[])∨ev τ f= .fn (.func fid) first caps) (h:BL P fid A [] (Zf mkv sz rows)) (hA:first++c.args.toList.map (ev τ)++caps=A∨(first++c.args.toList.map (ev τ)++caps).map norm=A) (haft:E5 ops k (fx'.map (·.1))=true)
  (next:∀o cp,KJ ops k H (.vec o sz rows cp::H) rd∧Hp k (.eff (mkv (.vs o rows.length cp)) (.vec o sz rows cp::H)) fx∧Dr P ops n τ₀ D Q opn (k+1) (put τ dst (mkv (.vs o rows.length cp))) (.vec o sz rows cp::H) rd ((k,H,.vec o sz rows cp::H)::ef) (true::effs) (fx'++fx)):Dr P ops n τ₀ D Q opn k τ H rd ef effs fx :=
 Lu fx' ho hn (GA (H:=H) (Hs:=[]) (Hf:=H) hc hf Av h hA) haft ⟨_,_,_,⟨none,0,rfl,rfl⟩,rfl⟩ (fun v H' ⟨_,h,_⟩=>h.elim) (fun v H' ⟨Hs',⟨o,cp,h1,h2⟩,h3⟩=>by subst h1;subst h2;subst h3;exact next o cp)
end
section
variable {P:Program}{dst:Option Tmp}{ty:TypeId}{pos:String}{aft:Array Edge}{g:Option (Nat×Bool)}{ρ:Operand→AV}{H Hs Hs':List A4}{v:AV}{c:Call}{f:Operand}{fid:FuncId}{first caps A:List AV}
theorem IW (hc:c.callee= .value f) (hf:ρ f= .p (.fn fid)) (h:En P fid A v) (hA:Fc (c.args.toList.map ρ) A):Dm P ⟨dst,.call c,ty,pos,aft,g⟩ ρ H v H:=BF hc hf (h.args hA) rfl
end
end Go.Abs
namespace Go.Eu
open Go.Abs
structure Mv where
 type:Tm
 known:Bool
 value:Tm
 cls:Bool
 deriving Inhabited
def Fz (n:Int):List PV:=[I n]
def Ib (s:ByteArray):List PV:=[.str s]
theorem K4 {ts:List Int}{i:Nat}{t:Int}(h:ts[i]?=some t):(ts.map Fz)[i]?=some (Fz t):=by simp[h]
theorem Zh {ts:List ByteArray}{i:Nat}{t:ByteArray}(h:ts[i]?=some t):(ts.map Ib)[i]?=some (Ib t):=by simp[h]
theorem IG {α:Type}{sz:Nat}{f:α→List PV}(h:∀a,Ej sz (f a)) (l:List α):∀r∈l.map f,Ej sz r:=by
 intro r hr;obtain⟨a,_,rfl⟩:=List.mem_map.1 hr;exact h a
theorem MH (t:Tm):Ej 5 (BD t):=by
 obtain⟨k,i,n,l,s⟩:=t;refine⟨O,?_⟩;intro c hc;simp[BD] at hc;rcases hc with rfl | rfl | rfl | rfl | rfl<;>simp
theorem Bd (l:List Tm):∀r∈A6 l,Ej 5 r:=by rw[EY];exact IG MH l
theorem Jq (l:List Int):∀r∈l.map Fz,Ej 1 r:=IG (f:=Fz) (fun a=>⟨rfl,by simp[Fz]⟩) l
theorem LN (l:List ByteArray):∀r∈l.map Ib,Ej 1 r:=IG (f:=Ib) (fun a=>⟨rfl,by simp[Ib]⟩) l
theorem G6 (l:List B6):∀r∈l.map Ey,Ej 2 r:=IG (f:=Ey) (fun a=>⟨rfl,by simp[Ey]⟩) l
theorem Nl (l:List CX):∀r∈l.map B4,Ej 2 r:=IG (f:=B4) (fun a=>⟨rfl,by simp[B4]⟩) l
theorem CW {sz:Nat}{rows:List (List PV)}(h:∀r∈rows,Ej sz r):∀r∈rows,r.length=sz:=fun r hr=>(h r hr).1
theorem Hj (a b:List Tm):A6 a++A6 b=A6 (a++b):=by simp[EY]
theorem Fx {α:Type}{f:α→List PV}(a b:List α):a.map f++b.map f=(a++b).map f:=by simp
theorem MP (l:List Tm) (j:Nat) (x:Tm):(A6 l).set j (BD x)=A6 (l.set j x):=by simp[EY,List.map_set]
theorem lG {α:Type}{f:α→List PV}(l:List α) (j:Nat) (x:α):(l.map f).set j (f x)=(l.set j x).map f:=by simp[List.map_set]
theorem rH (n:Nat) (x:Tm):List.replicate n (BD x)=A6 (List.replicate n x):=by simp[EY]
theorem tK {α:Type}{f:α→List PV}(n:Nat) (x:α):List.replicate n (f x)=(List.replicate n x).map f:=by simp
theorem V4 (l:List Tm) (hi:Nat):((A6 l).take hi).drop 0=A6 (l.take hi):=by simp[EY,List.map_take]
theorem bL {α:Type}{f:α→List PV}(l:List α) (hi:Nat):((l.map f).take hi).drop 0=(l.take hi).map f:=by simp[List.map_take]
theorem MR (l:List Tm) (lo:Nat):((A6 l).take (A6 l).length).drop lo=A6 (l.drop lo):=by rw[List.take_length];simp[EY,List.map_drop]
theorem l7 {α:Type}{f:α→List PV}(l:List α) (lo:Nat):((l.map f).take (l.map f).length).drop lo=(l.drop lo).map f:=by rw[List.take_length,List.map_drop]
theorem nP (l:List Tm) (lo hi:Nat):((A6 l).take hi).drop lo=A6 ((l.take hi).drop lo):=by simp[EY,List.map_take,List.map_drop]
theorem IF {sz:Nat}{r:List PV}(h:Ej sz r):(r.map AV.p).all one=true:=by
 simp only[List.all_eq_true];intro x hx;obtain⟨c,hc,rfl⟩:=List.mem_map.1 hx;have:=h.2 c hc;cases c<;>simp_all [one]
theorem Gd (t:Tm):((BD t).map AV.p).all one=true:=IF (MH t)
theorem kS {r:List PV}(h:∀c∈r,c≠ .nils):(r.map AV.p).map dn=r.map .p:=by
 induction r with
 | nil=>rfl
 | cons c r ih =>
  simp only[List.map_cons];rw[ih fun d hd=>h d (by simp[hd])];have:=h c Av;cases c<;>simp_all [dn]
theorem Ho (t:Tm):Hc (((BD t).map AV.p).map dn)=some (BD t):=by obtain⟨k,i,n,l,s⟩:=t;rfl
end Go.Eu
namespace Go.Eu
def GJ (f a:Tm):Tm:= .mk 4 0 ⟨#[]⟩ [] [f,a]
def apply (f:Tm) (xs:List Tm):Tm:=xs.foldl GJ f
theorem TR {f:Tm}{xs:List Tm}{i:Nat}{x:Tm}(h:xs[i]?=some x):apply f (xs.take (i+1))=GJ (apply f (xs.take i)) x:=by
 simp[apply,List.take_add_one,h]
def Ay:Tm→Tm×List Tm
 | .mk k i n l [f,a]=>if k=4 then ((Ay f).1,(Ay f).2++[a]) else (.mk k i n l [f,a],[])
 | t=>(t,[])
theorem OK {k i:Int}{n:ByteArray}{l:List CX}{ts:List Tm}(h:k≠4∨((ts.length:Nat):Int)≠2):Ay (.mk k i n l ts)=(.mk k i n l ts,[]):=by
 unfold Ay;split
 ·rename_i k' i' n' l' f a e;injection e with e1 e2 e3 e4 e5;subst e1 e2 e3 e4 e5;simp at h;rw[if_neg h]
 rfl
theorem VV {k i:Int}{n:ByteArray}{l:List CX}{ts:List Tm}{x y:Tm}(h:k=4∧((ts.length:Nat):Int)=2) (hx:ts[0]?=some x) (hy:ts[1]?=some y):Ay (.mk k i n l ts)=((Ay x).1,(Ay x).2++[y]):=by
 obtain⟨rfl,h2⟩:=h
 match ts,h2,hx,hy with
 | [a,b],_,hx,hy =>
  simp at hx hy;subst hx hy;simp[Ay]
theorem lh {ts:List Tm}{x y:Tm}(h:((ts.length:Nat):Int)=2) (hx:ts[0]?=some x) (hy:ts[1]?=some y):ts=[x,y]:=by
 match ts,h,hx,hy with
 | [a,b],_,hx,hy =>
  simp at hx hy;subst hx hy;rfl
theorem JU:∀(t:Tm),size (Ay t).1+BB (Ay t).2+(Ay t).2.length=size t
 | .mk k i n l [f,a]=>by
  unfold Ay;split
  ·have:=JU f;simp[size,BB] at this ⊢;have e:∀(xs:List Tm) (y:Tm),BB (xs++[y])=BB xs+size y:=by
    intro xs y
    induction xs with
    | nil=>simp[BB]
    | cons z zs ih=>simp[BB,ih];omega
   rw[e];omega
  ·simp[BB]
 | .mk k i n l []=>by simp[Ay,BB]
 | .mk k i n l [_]=>by simp[Ay,BB]
 | .mk k i n l (_::_::_::_)=>by simp[Ay,BB]
theorem P6 (t:Tm):(Ay t).2.length<size t:=by
 have:=JU t;have:=size_pos (Ay t).1;omega
theorem sd:(∀(p:Prop) [Decidable p],(decide p=true)=p)∧(∀{p:Prop} [Decidable p],decide p=false↔¬p)∧(∀{α:Type} [BEq α] [LawfulBEq α] {a b:α},(a==b)=true↔a=b)∧(∀{α:Type} [BEq α] [LawfulBEq α] {a b:α},(a !=b)=true↔a≠b)∧(∀{α:Type} [BEq α] [LawfulBEq α] {a b:α},(a==b)=false↔a≠b)∧(∀{α:Type} [BEq α] [LawfulBEq α] {a b:α},(a !=b)=false↔a=b)∧(∀{α:Type}(a b:α),(a≠b)=¬(a=b))∧(∀{α:Type} [LT α] {x y:α},x > y↔y<x)∧(∀{α:Type} [LE α] {x y:α},x≥y↔y≤x)∧(∀(b:Bool),(¬(b=true))=(b=false))∧(∀(b:Bool),(¬(b=false))=(b=true))∧(∀(b:Bool),((!b)=true)=(b=false))∧(∀(b:Bool),((!b)=false)=(b=true))∧(∀{a b:Int},¬a<b↔b≤a)∧(∀{a b:Int},¬a≤b↔b<a) :=
 ⟨fun _=>decide_eq_true_eq,decide_eq_false_iff_not,beq_iff_eq,bne_iff_ne,beq_eq_false_iff_ne,bne_eq_false_iff_eq,ne_eq,gt_iff_lt,ge_iff_le,Bool.not_eq_true,Bool.not_eq_false,fun b=>by cases b<;>simp,fun b=>by cases b<;>simp,Int.not_lt,Int.not_le⟩
theorem se:(∀(ts:List Tm),(A6 ts).length=ts.length)∧(∀{α β:Type}{ays:List α}{f:α→β},(ays.map f).length=ays.length)∧(∀{α:Type}{n:Nat}{a:α},(List.replicate n a).length=n)∧(∀(a b:Bool),((a||b)=true)=(a=true∨b=true))∧(∀(a b:Bool),((a&&b)=true)=(a=true∧b=true))∧(∀{x y:Bool},(x||y)=false↔x=false∧y=false)∧(∀{x y:Bool},(x&&y)=false↔x=true→y=false) :=
 ⟨A8,List.length_map _,List.length_replicate,Bool.or_eq_true,Bool.and_eq_true,Bool.or_eq_false_iff,Bool.and_eq_false_imp⟩
end Go.Eu
namespace Go.Eu
open Go.Abs
def Cs (i:Int):Tm:= .mk 0 i ⟨#[]⟩ [] []
def BN:Tm:= .mk 0 0 ⟨#[]⟩ [] []
def Gi (er e:Int):Int:=if er=0 then e else er
def MZ (er i:Int):Int:=if i > 65535 then Gi er 24 else er
mutual
def FG:Tm→Int
 | .mk _ _ _ _ ks=>Ly 1 ks
def Ly:Int→List Tm→Int
 | n,[]=>n
 | n,t::ts=>Ly (wr (n+FG t)) ts
end
mutual
def FU:Tm→Int
 | .mk _ _ _ _ ks=>wr (Kg 0 ks+1)
def Kg:Int→List Tm→Int
 | n,[]=>n
 | n,t::ts=>Kg (max n (FU t)) ts
end
mutual
def CS (b fr:Int):Int→Int→Tm→Tm×Int
 | d,er,.mk k i n l ks =>
  if k=0 then
   (if i<wr (fr+d) then (.mk k i n l ks,er)
    else if wr (i+b)<wr (fr+d) then (.mk k i n l ks,Gi er 24)
    else (Cs (wr (i+b)),MZ er (wr (i+b))))
  else ((.mk k i n l (Cq b fr k d 0 er ks).1),(Cq b fr k d 0 er ks).2)
def Cq (b fr k:Int):Int→Nat→Int→List Tm→List Tm×Int
 | d,j,er,[]=>([],er)
 | d,j,er,t::ts=>((CS b fr (d+below k j) er t).1::(Cq b fr k d (j+1) (CS b fr (d+below k j) er t).2 ts).1,(Cq b fr k d (j+1) (CS b fr (d+below k j) er t).2 ts).2)
end
mutual
def B2 (vs:List Tm):Int→Int→Int→Tm→Tm×Int×Int
 | d,er,nd,.mk k i n l ks =>
  if nd > 4096 then (.mk k i n l ks,er,nd)
  else if k=0∧i≥d∧i - d<(vs.length:Int) then
   ((CS d 0 0 er (vs.getD (i - d).toNat BN)).1,(CS d 0 0 er (vs.getD (i - d).toNat BN)).2,wr (nd+FG (vs.getD (i - d).toNat BN)))
  else if k=0 then
   (if i≥d then (Cs (wr (i - vs.length)),MZ er (wr (i - vs.length)),wr (nd+1)) else (.mk k i n l ks,er,wr (nd+1)))
  else ((.mk k i n l (Cc vs k d 0 er (wr (nd+1)) ks).1),(Cc vs k d 0 er (wr (nd+1)) ks).2)
def Cc (vs:List Tm) (k:Int):Int→Nat→Int→Int→List Tm→List Tm×Int×Int
 | d,j,er,nd,[]=>([],er,nd)
 | d,j,er,nd,t::ts=>((B2 vs (d+below k j) er nd t).1::(Cc vs k d (j+1) (B2 vs (d+below k j) er nd t).2.1 (B2 vs (d+below k j) er nd t).2.2 ts).1,
   (Cc vs k d (j+1) (B2 vs (d+below k j) er nd t).2.1 (B2 vs (d+below k j) er nd t).2.2 ts).2)
end
def B9 (t:Tm) (vs:List Tm) (d:Int):Tm×Int :=
 if (B2 vs (min d 65536) 0 0 t).2.2 > 4096 then (BN,5)
 else if (B2 vs (min d 65536) 0 0 t).2.1≠0 then (BN,(B2 vs (min d 65536) 0 0 t).2.1)
 else if FU (B2 vs (min d 65536) 0 0 t).1 > 200 then (BN,7)
 else ((B2 vs (min d 65536) 0 0 t).1,0)
structure Dn where
 steps:Int
 nodes:Int
 forms:Int
 limit:Int
 over:Bool
 deriving Inhabited
def HX (c:Dn):List PV:=[I c.steps,I c.nodes,I c.forms,I c.limit,.bool c.over]
def Dn.form (c:Dn) (t:Tm) (e:Int):Dn :=
 { c with forms:=wr (c.forms+FG t),over:=c.over||(e !=0||decide (c.steps > c.limit)||decide (c.nodes > wr (2*c.limit))||decide (wr (c.forms+FG t) > wr (40*c.limit))||decide (FG t > 2000)||decide (FU t > 95)) }
def Dn.sized (c:Dn) (t:Tm):Dn:={ c with over:=c.over||(decide (FG t > 2000)||decide (FU t > 95)) }
def G0:Dn:=⟨0,0,0,1000,false⟩
end Go.Eu
namespace Go.Eu
theorem Cd {α:Type}{l:List α}{i:Nat}{x:α}(h:l[i]?=some x):l.drop i=x::l.drop (i+1):=by
 have hlt:=(List.getElem?_eq_some_iff.1 h).1;have e:l[i]=x:=(List.getElem?_eq_some_iff.1 h).2;rw[List.drop_eq_getElem_cons hlt,e]
theorem Oy {α:Type}{l:List α}{i:Nat}{x d:α}(h:l[i]?=some x):l.getD i d=x:=by simp[List.getD,h]
end Go.Eu
namespace Go.Eu
open Go.Abs
theorem dD (n:Int):JY (wr n):=by
 unfold JY wr IntKind.wrap;have:IntKind.i64.min= -9223372036854775808:=rfl;have:IntKind.i64.max=9223372036854775807:=rfl;simp[IntKind.signed,IntKind.bits];omega
theorem m8 (i:Int):Nd (Cs (wr i)):=by
 have:=dD i;exact⟨by decide,by decide,by simp,by decide,trivial,⟨by decide,by decide⟩,this⟩
theorem PD:Nd BN:=⟨by decide,by decide,by simp,by decide,trivial,⟨by decide,by decide⟩,⟨by decide,by decide⟩⟩
mutual
theorem Qv (b fr:Int):∀(t:Tm) (d er:Int),Nd t→Nd (CS b fr d er t).1
 | .mk k i n l ks,d,er,h=>by
  unfold CS;split
  ·split
   ·exact h
   split
   ·exact h
   exact m8 _
  simp only[Nd] at h ⊢;obtain⟨h1,h2,h3,h4,h5,h6⟩:=h;obtain⟨e1,e2⟩:=Sg b fr k ks d 0 er h5;exact⟨h1,h2,h3,by rw[e1];exact h4,e2,h6⟩
theorem Sg (b fr k:Int):∀(ts:List Tm) (d:Int) (j:Nat) (er:Int),M6 ts→(Cq b fr k d j er ts).1.length=ts.length∧M6 (Cq b fr k d j er ts).1
 | [],d,j,er,h=>by simp[Cq,M6]
 | t::ts,d,j,er,h=>by
  simp only[Cq,M6,List.length_cons] at *;have:=Qv b fr t (d+below k j) er h.1;obtain⟨e1,e2⟩:=Sg b fr k ts d (j+1) (CS b fr (d+below k j) er t).2 h.2;exact⟨by rw[e1],this,e2⟩
end
theorem jx {vs:List Tm}(h:M6 vs) (i:Nat):Nd (vs.getD i BN):=by
 cases e:vs[i]? with
 | none=>simp[List.getD,e];exact PD
 | some x=>rw[Oy e];exact DV h e
mutual
theorem QZ:∀(t:Tm) (vs:List Tm) (d er nd:Int),Nd t→M6 vs→Nd (B2 vs d er nd t).1
 | .mk k i n l ks,vs,d,er,nd,h,hv=>by
  unfold B2;split
  ·exact h
  split
  ·exact Qv _ _ _ _ _ (jx hv _)
  split
  ·split
   ·exact m8 _
   exact h
  simp only[Nd] at h ⊢;obtain⟨h1,h2,h3,h4,h5,h6⟩:=h;obtain⟨e1,e2⟩:=Ub ks vs k d 0 er (wr (nd+1)) h5 hv;exact⟨h1,h2,h3,by rw[e1];exact h4,e2,h6⟩
theorem Ub:∀(ts:List Tm) (vs:List Tm) (k d:Int) (j:Nat) (er nd:Int),M6 ts→M6 vs→(Cc vs k d j er nd ts).1.length=ts.length∧M6 (Cc vs k d j er nd ts).1
 | [],vs,k,d,j,er,nd,h,hv=>by simp[Cc,M6]
 | t::ts,vs,k,d,j,er,nd,h,hv=>by
  simp only[Cc,M6,List.length_cons] at *;have:=QZ t vs (d+below k j) er nd h.1 hv;obtain⟨e1,e2⟩:=Ub ts vs k d (j+1) (B2 vs (d+below k j) er nd t).2.1 (B2 vs (d+below k j) er nd t).2.2 h.2 hv;exact⟨by rw[e1],this,e2⟩
end
theorem iy (t:Tm) (vs:List Tm) (d:Int) (h:Nd t) (hv:M6 vs):Nd (B9 t vs d).1:=by
 unfold B9;split
 ·exact PD
 split
 ·exact PD
 split
 ·exact PD
 exact QZ t vs _ _ _ h hv
theorem H9 {o:Option Nat}{c:Nat}(l:List Tm) {l':List Tm}(h:l=l'):AV.vs o (A6 l).length c= .vs o (A6 l').length c:=by rw[h]
theorem FQ {α:Type}{f:α→List PV}{o:Option Nat}{c:Nat}(l:List α) {l':List α}(h:l=l'):AV.vs o (l.map f).length c= .vs o (l'.map f).length c:=by rw[h]
theorem Gw {o:Option Nat}{sz c:Nat}(l:List Tm) {l':List Tm}(h:l=l'):NQ (.vec o sz (A6 l) c) (.vec o sz (A6 l') c):=oe (by rw[h])
theorem Eo {α:Type}{f:α→List PV}{o:Option Nat}{sz c:Nat}(l:List α) {l':List α}(h:l=l'):NQ (.vec o sz (l.map f) c) (.vec o sz (l'.map f) c):=oe (by rw[h])
theorem CZ {o:Option Nat}{c:Nat}(l:List Tm) {l':List Tm}(h:l.length=l'.length):AV.vs o (A6 l).length c= .vs o (A6 l').length c:=by rw[A8,A8,h]
theorem Vo {α:Type}{f:α→List PV}{o:Option Nat}{c:Nat}(l:List α) {l':List α}(h:l.length=l'.length):AV.vs o (l.map f).length c= .vs o (l'.map f).length c:=by rw[List.length_map,List.length_map,h]
end Go.Eu
namespace Go.Eu
end Go.Eu
namespace Go.Eu
open Go.Abs
theorem ES {n:Int}(h:JY n):wr n=n:=SD (k:= .i64) h.1 h.2
mutual
theorem Vy (B:Int) (hB:B≤4611686018427387904):∀(t:Tm),(size t:Int)<B→FG t=size t
 | .mk k i n l ks,h=>by
  have h':(1:Int)+BB ks<B:=by rw[size] at h;omega
  show Ly 1 ks=_;rw[Si B hB ks 1 Au h',size];omega
theorem Si (B:Int) (hB:B≤4611686018427387904):∀(ts:List Tm) (n:Int),0≤n→n+BB ts<B→Ly n ts=n+BB ts
 | [],n,_,_=>by simp[Ly,BB]
 | t::ts,n,h0,h=>by
  simp only[BB,Ly] at *;rw[Vy B hB t (by have:=size_pos t;omega),ES ⟨by omega,by omega⟩,Si B hB ts (n+size t) Au Au];omega
end
theorem Pv {t:Tm}(h:(size t:Int)<4611686018427387904):FG t=size t:=Vy _ (Int.le_refl _) t h
mutual
def Wt:Tm→Prop
 | .mk k i _ _ ks=>(ks.length:Int)=arity k∧(k=12→0≤i)∧MY ks
def MY:List Tm→Prop
 | []=>True
 | t::ts=>Wt t∧MY ts
end
theorem O6:∀{ts:List Tm}{i:Nat}{t:Tm},MY ts→ts[i]?=some t→Wt t
 | [],i,t,_,h=>by simp at h
 | a::ts,0,t,hn,h=>by simp at h;subst h;exact hn.1
 | a::ts,i+1,t,hn,h=>by simp at h;exact O6 hn.2 h
theorem IV (a b:List Tm):BB (a++b)=BB a+BB b:=by
 induction a with
 | nil=>simp[BB]
 | cons x a ih=>simp[BB,ih];omega
mutual
theorem rR {vars metas:Int}:∀(t:Tm) (d:Int),wf vars metas d t→Wt t
 | .mk k i n l ks,d,h=>by
  simp only[wf,Wt] at *;exact⟨h.2.2.1,fun e=>(h.2.2.2.2.1 e).1,lU ks k d 0 h.2.2.2.2.2⟩
theorem lU {vars metas:Int}:∀(ts:List Tm) (k d:Int) (j:Nat),oA vars metas k d j ts→MY ts
 | [],k,d,j,h=>trivial
 | t::ts,k,d,j,h=>by
  simp only[oA,MY] at *;exact⟨rR t _ h.1,lU ts k d (j+1) h.2⟩
end
theorem jn (i:Int):Wt (Cs i):=⟨by simp[arity],by simp,trivial⟩
theorem Ru:Wt BN:=⟨by simp[arity],by simp,trivial⟩
mutual
theorem QJ (b fr:Int):∀(t:Tm) (d er:Int),Wt t→Wt (CS b fr d er t).1
 | .mk k i n l ks,d,er,h=>by
  unfold CS;split
  ·split
   ·exact h
   split
   ·exact h
   exact jn _
  simp only[Wt] at h ⊢;obtain⟨e1,e2⟩:=Ty b fr k ks d 0 er h.2.2;exact⟨by rw[e1];exact h.1,h.2.1,e2⟩
theorem Ty (b fr k:Int):∀(ts:List Tm) (d:Int) (j:Nat) (er:Int),MY ts→(Cq b fr k d j er ts).1.length=ts.length∧MY (Cq b fr k d j er ts).1
 | [],d,j,er,h=>by simp[Cq,MY]
 | t::ts,d,j,er,h=>by
  simp only[Cq,MY,List.length_cons] at *;have:=QJ b fr t (d+below k j) er h.1;obtain⟨e1,e2⟩:=Ty b fr k ts d (j+1) (CS b fr (d+below k j) er t).2 h.2;exact⟨by rw[e1],this,e2⟩
end
theorem lr {vs:List Tm}(h:MY vs) (i:Nat):Wt (vs.getD i BN):=by
 cases e:vs[i]? with
 | none=>simp[List.getD,e];exact Ru
 | some x=>rw[Oy e];exact O6 h e
mutual
theorem V6:∀(t:Tm) (vs:List Tm) (d er nd:Int),Wt t→MY vs→Wt (B2 vs d er nd t).1
 | .mk k i n l ks,vs,d,er,nd,h,hv=>by
  unfold B2;split
  ·exact h
  split
  ·exact QJ _ _ _ _ _ (lr hv _)
  split
  ·split
   ·exact jn _
   exact h
  simp only[Wt] at h ⊢;obtain⟨e1,e2⟩:=UP ks vs k d 0 er (wr (nd+1)) h.2.2 hv;exact⟨by rw[e1];exact h.1,h.2.1,e2⟩
theorem UP:∀(ts:List Tm) (vs:List Tm) (k d:Int) (j:Nat) (er nd:Int),MY ts→MY vs→(Cc vs k d j er nd ts).1.length=ts.length∧MY (Cc vs k d j er nd ts).1
 | [],vs,k,d,j,er,nd,h,hv=>by simp[Cc,MY]
 | t::ts,vs,k,d,j,er,nd,h,hv=>by
  simp only[Cc,MY,List.length_cons] at *;have:=V6 t vs (d+below k j) er nd h.1 hv;obtain⟨e1,e2⟩:=UP ts vs k d (j+1) (B2 vs (d+below k j) er nd t).2.1 (B2 vs (d+below k j) er nd t).2.2 h.2 hv;exact⟨by rw[e1],this,e2⟩
end
theorem gQ (t:Tm) (vs:List Tm) (d:Int) (h:Wt t) (hv:MY vs):Wt (B9 t vs d).1:=by
 unfold B9;split
 ·exact Ru
 split
 ·exact Ru
 split
 ·exact Ru
 exact V6 t vs _ _ _ h hv
mutual
theorem Mm (b fr:Int):∀(t:Tm) (d er:Int),t.kind=0∧t.kids=[]∨Wt t→size (CS b fr d er t).1=size t
 | .mk k i n l ks,d,er,h=>by
  unfold CS;split
  ·rename_i hk;split
   ·rfl
   split
   ·rfl
   have:ks=[]:=by
    rcases h with h | h
    ·exact h.2
    have:=h.1;subst hk;simp[arity] at this;exact this
   subst this;simp[Cs,size,BB]
  rename_i hk;have hw:MY ks:=by
   rcases h with h | h
   ·exact absurd h.1 hk
   exact h.2.2
  simp only[size];rw[PT b fr k ks d 0 er hw]
theorem PT (b fr k:Int):∀(ts:List Tm) (d:Int) (j:Nat) (er:Int),MY ts→BB (Cq b fr k d j er ts).1=BB ts
 | [],d,j,er,h=>by simp[Cq]
 | t::ts,d,j,er,h=>by
  simp only[Cq,BB];rw[Mm b fr t _ _ (.inr h.1),PT b fr k ts _ _ _ h.2]
end
mutual
theorem Kq (V:Int) (hV:1≤V) (hV2:V≤2305843009213693952):∀(t:Tm) (vs:List Tm) (d er nd:Int),Wt t→MY vs→(∀x∈vs,(size x:Int)≤V)→0≤nd→nd≤4096+V →
  nd≤(B2 vs d er nd t).2.2∧(B2 vs d er nd t).2.2≤4096+V∧((B2 vs d er nd t).2.2≤4096→(size (B2 vs d er nd t).1:Int)=(B2 vs d er nd t).2.2 - nd)
 | .mk k i n l ks,vs,d,er,nd,h,hv,hs,h0,h1=>by
  have hk0:k=0→ks=[]:=by
   intro e;have:=h.1;subst e;simp[arity] at this;exact this
  unfold B2;split
  ·exact⟨by simp,h1,by simp;omega⟩
  split
  ·rename_i hc;have hlt:(i - d).toNat<vs.length:=by omega
   obtain⟨x,hx⟩:=A1 hlt;have hxs:=hs x (List.mem_of_getElem? hx);rw[Oy hx,Mm _ _ _ _ _ (.inr (O6 hv hx)),Pv Au,ES ⟨by omega,by omega⟩];simp only;exact⟨by omega,by omega,by omega⟩
  split
  ·rename_i hk;have hk:=hk0 hk;subst hk;split
   ·simp only[Cs,size,BB];rw[ES ⟨by omega,by omega⟩];exact⟨by omega,by omega,by omega⟩
   simp only[size,BB];rw[ES ⟨by omega,by omega⟩];exact⟨by omega,by omega,by omega⟩
  rw[ES (n:=nd+1) ⟨by omega,by omega⟩];obtain⟨e1,e2,e3⟩:=Lv V hV hV2 ks vs k d 0 er (nd+1) h.2.2 hv hs Au Au;simp only[size];exact⟨by omega,e2,fun q=>by have:=e3 q;omega⟩
theorem Lv (V:Int) (hV:1≤V) (hV2:V≤2305843009213693952):∀(ts:List Tm) (vs:List Tm) (k d:Int) (j:Nat) (er nd:Int),MY ts→MY vs→(∀x∈vs,(size x:Int)≤V)→0≤nd→nd≤4096+V →
  nd≤(Cc vs k d j er nd ts).2.2∧(Cc vs k d j er nd ts).2.2≤4096+V∧((Cc vs k d j er nd ts).2.2≤4096→(BB (Cc vs k d j er nd ts).1:Int)=(Cc vs k d j er nd ts).2.2 - nd)
 | [],vs,k,d,j,er,nd,h,hv,hs,h0,h1=>by simp only[Cc,BB];exact⟨by omega,h1,by omega⟩
 | t::ts,vs,k,d,j,er,nd,h,hv,hs,h0,h1=>by
  obtain⟨e1,e2,e3⟩:=Kq V hV hV2 t vs (d+below k j) er nd h.1 hv hs h0 h1;obtain⟨f1,f2,f3⟩:=Lv V hV hV2 ts vs k d (j+1) (B2 vs (d+below k j) er nd t).2.1 (B2 vs (d+below k j) er nd t).2.2 h.2 hv hs Au e2;simp only[Cc,BB];exact⟨by omega,f2,fun q=>by have:=f3 q;have:=e3 Au;omega⟩
end
theorem ZV (t:Tm) (vs:List Tm) (d:Int) (h:Wt t) (hv:MY vs) (hs:∀x∈vs,(size x:Int)≤2305843009213693952):size (B9 t vs d).1≤4096:=by
 have hz:size BN≤4096:=by simp[BN,size,BB]
 obtain⟨e1,e2,e3⟩:=Kq 2305843009213693952 Au Au t vs (min d 65536) 0 0 h hv hs Au Au;unfold B9;split
 ·exact hz
 rename_i hn;have:=e3 Au;split
 ·exact hz
 split
 ·exact hz
 simp only;omega
def known (ms:List Mv) (t:Tm):Bool :=
 match t with
 | .mk k i _ _ _=>k==12&&(decide (i<ms.length)&&(match ms[i.toNat]? with | some m=>m.known | none=>false))
def valueOf (ms:List Mv) (i:Int):Tm:=match ms[i.toNat]? with | some m=>m.value | none=>BN
def Ra (F:Dn→Tm→Tm×Int×Dn):Dn→List Tm→List Tm×Int×Dn
 | c,[]=>([],0,c)
 | c,t::ts=>if (F c t).2.1≠0 then ([],(F c t).2.1,(F c t).2.2)
  else if (Ra F (F c t).2.2 ts).2.1≠0 then ([],(Ra F (F c t).2.2 ts).2.1,(Ra F (F c t).2.2 ts).2.2)
  else ((F c t).1::(Ra F (F c t).2.2 ts).1,0,(Ra F (F c t).2.2 ts).2.2)
def r8:Dn→Tm→List Tm→Dn×Tm×List Tm
 | c,v,[]=>(c,v,[])
 | c,v,a::l=>if v.kind=5∧c.over=false then r8 (c.form (B9 (v.kids.getD 1 BN) [a] 0).1 (B9 (v.kids.getD 1 BN) [a] 0).2) (B9 (v.kids.getD 1 BN) [a] 0).1 l else (c,v,a::l)
def Ow:Tm→List Tm→Tm
 | .mk k i n l _,ks=> .mk k i n l ks
def Y9 (ms:List Mv):Nat→List Int→Dn→Tm→Tm×Int×Dn
 | 0,ab,c,t=>(BN,11,c)
 | n+1,ab,c,t =>
  if c.over=true then (BN,11,c)
  else if known ms (Ay t).1=false then
   (let q:=Ra (Y9 ms n ab) c (Ay t).1.kids
    if q.2.1≠0 then (BN,q.2.1,q.2.2)
    else
     (let r:=Ra (Y9 ms n ab) q.2.2 (Ay t).2
      if r.2.1≠0 then (BN,r.2.1,r.2.2)
      else (apply (Ow (Ay t).1 q.1) r.1,0,r.2.2.sized (apply (Ow (Ay t).1 q.1) r.1))))
  else if (Ay t).1.index∈ab then (BN,22,c)
  else
   (let v:=Y9 ms n (ab++[(Ay t).1.index]) c (valueOf ms (Ay t).1.index)
    if v.2.1≠0 then (BN,v.2.1,v.2.2)
    else
     (let r:=Ra (Y9 ms n ab) (v.2.2.form v.1 0) (Ay t).2
      if r.2.1≠0 then (BN,r.2.1,r.2.2)
      else
       (let b:=r8 r.2.2 v.1 r.1
        (apply b.2.1 b.2.2,0,b.1.form (apply b.2.1 b.2.2) 0))))
def free (ms:List Mv) (ab:List Int):Nat:=((List.range ms.length).filter fun i:Nat=> !decide ((i:Int)∈ab)).length
theorem MF {α:Type}{l:List α}{x:α}(h:x∈l):∃i:Nat,l[i]?=some x:=by
 obtain⟨i,hi,he⟩:=List.mem_iff_getElem.1 h;exact⟨i,by rw[List.getElem?_eq_getElem hi,he]⟩
section
variable {ms:List Mv}{n:Nat}{ab:List Int}{c:Dn}{t:Tm}{zk zi:Int}{zn:ByteArray}{zl:List CX}{zs:List Tm}
end
end Go.Eu
namespace Go.Eu
theorem FI {l:List Tm}{x:Tm}(h:x∈l):size x≤BB l:=by
 obtain⟨i,hi⟩:=MF h;exact CU hi
end Go.Eu
namespace Go.Abs
section
variable {P:Program}{r:Option Nat}{ops:Array Oper}{Q:Cj→BM→Prop}{k:Nat}{n:Nat}{τ:Nat→AV}{T:List A4}{D:List D4}{dst:Option Tmp}{op:Op}{ty:TypeId}{pos:String}{aft:Array Edge}{v:AV}{c:Call}{f:Operand}{fid:FuncId}{first caps A:List AV}{R:EG→List A4→Prop}
theorem IZ {H H':List A4}(hp:H.Perm H') (h:AL P r ops k ⟨n,τ,H',D⟩ Q):AL P r ops k ⟨n,τ,H,D⟩ Q:=BH (QM (S:=⟨n,τ,H,D⟩) hp) h
theorem Na {c:Code}{H H':List A4}(hp:H.Perm H') (h:IK P r c ⟨n,τ,H',D⟩ Q):IK P r c ⟨n,τ,H,D⟩ Q:=A5 (QM (S:=⟨n,τ,H,D⟩) hp) h
theorem Ju (fr:List A4) {l:Nat}(ho:ops[k]?=some ⟨dst,.call c,ty,pos,aft,none⟩) (hd:Gj dst n=true)
  (hc:c.callee= .value f) (hf:ev τ f= .fn (.yield l) [] []) (h:Mn P l A T R) (hA:c.args.toList.map (ev τ)=A)
  (next:∀v T',R (.val v) T'→AL P r ops (k+1) ⟨n,put τ dst v,fr++T',D⟩ Q) (pan:∀v T',R (.panic v) T'→Q (.panic v) ⟨n,τ,T'++fr,D⟩):AL P r ops k ⟨n,τ,fr++T,D⟩ Q :=
 Fm (S:=⟨n,τ,fr++T,D⟩) ho An (He hd) (jF hc hf List.perm_append_comm h hA) (fun v H' ⟨Hs',h1,h2⟩=>by subst h2;exact IZ List.perm_append_comm (next v Hs' h1)) (fun v H' ⟨Hs',h1,h2⟩=>by subst h2;exact pan v Hs' h1)
theorem JE (fr:List A4) (ho:ops[k]?=some ⟨dst,.call c,ty,pos,aft,none⟩) (hd:Gj dst n=true)
  (hc:c.callee= .value f) (hf:(ev τ f= .p (.fn fid)∧first=[]∧caps=[])∨ev τ f= .fn (.func fid) first caps) (h:BL P fid A T R) (hA:Fc (first++c.args.toList.map (ev τ)++caps) A)
  (next:∀v T',R (.val v) T'→AL P r ops (k+1) ⟨n,put τ dst v,fr++T',D⟩ Q) (pan:∀v T',R (.panic v) T'→Q (.panic v) ⟨n,τ,T'++fr,D⟩):AL P r ops k ⟨n,τ,fr++T,D⟩ Q :=
 Jj ho hd hc hf List.perm_append_comm (h.args hA) (.inl rfl) (fun v H' h1=>IZ List.perm_append_comm (next v H' h1)) pan
end
theorem F3.append:∀{l l':List A4}{T:List A4},F3 l l'→F3 (l++T) (l'++T)
 | [],l',T,h=>by simp only[F3] at h;subst h;exact F3.refl T
 | o::l,l',T,h=>by
  obtain⟨o',r',rfl,h1,h2⟩:=h;exact⟨o',r'++T,O,h1,F3.append h2⟩
theorem Uf (is:List Nat) (l:List A4) {l1 l' T:List A4}(h:N9 is 0 l=l1) (w:F3 l1 l'):nw (l++T) (l'++T):=⟨l1++T,(HB h).append_right T,w.append⟩
theorem Et (is:List Nat) (l:List A4) {l1 T:List A4}(h:N9 is 0 l=l1):(l1++T).Sublist (l++T):=(HB h).append_right T
theorem CV {n:Nat}{τ:Nat→AV}{H:List A4}{D:List D4}{t:Nat}{x:AV}(h:τ t=x):Ia ⟨n,τ,H,D⟩ ⟨n,put τ (some t) x,H,D⟩:=Ob fun _ _ _ hr=>h▸hr
section
variable {P:Program}{dst:Option Tmp}{ty:TypeId}{pos:String}{aft:Array Edge}{g:Option (Nat×Bool)}{ρ:Operand→AV}{H:List A4}{x y:Operand}
theorem dm {e:TypeId}{bl:Bool}{sz:Nat}(ht:EH P e=some (bl,sz)):∃inf,P.info? e=some inf∧inf.size=sz:=by
 obtain⟨d,_,_,h⟩:=FV ht;cases hi:P.info? e with
 | none=>simp[hi] at h
 | some inf=>simp[hi] at h;exact⟨inf,rfl,h⟩
theorem T3 {T e:TypeId}{bl:Bool}{len sz b o:Nat}{k:IntKind}{i:Int}(hu:P.underlying T=some (.array len e)) (ht:EH P e=some (bl,sz)) (hx:ρ x= .ptr b o) (hy:ρ y= .p (.int k i)) (h0:0≤i) (hn:i<len) :
  Dm P ⟨dst,.indexAddr T x y,ty,pos,aft,g⟩ ρ H (.ptr b (o+i.toNat*sz)) H:=by
 obtain⟨inf,h1,h2⟩:=dm ht;exact Ut hu h1 h2 hx hy h0 hn
theorem Tc {T e:TypeId}{bl:Bool}{len sz:Nat}{parts:Array (Nat×Operand)}{z:Value}{cs:List AV}(hu:P.underlying T=some (.array len e)) (ht:EH P e=some (bl,sz)) (hz:zeroOf P T=some z)
  (hc:GP (fun i=>some (i*sz,sz)) (z.cells.toList.map HG) (parts.toList.map fun p=>(p.1,ρ p.2))=some cs):Dm P ⟨dst,.build T parts,ty,pos,aft,g⟩ ρ H (.agg cs) H:=by
 obtain⟨inf,h1,h2⟩:=dm ht;subst h2;exact U7 hu h1 hz hc
end
theorem SU {P:Program}{g:Operand}{ps:Array Tmp}{assign body:Code}{S:BM}{Q:Cj→BM→Prop}{fid:FuncId}{first caps:List AV}
  (hg:(ev S.τ g= .p (.fn fid)∧first=[]∧caps=[])∨ev S.τ g= .fn (.func fid) first caps)
  (h:∀d l (L:Po),L=⟨.ready,none,S.n,S.τ,ps,assign,body⟩→∃Hs Hf,(A4.loop l L:: .dfr d::S.H).Perm (Hs++Hf) ∧
   BL P fid (first++[.fn (.yield l) [] []]++caps) Hs (fun r H'=>Ws P l d S Q r (H'++Hf))) :
  IK P none (.rangeFunc g ps assign body) S Q:=jD hg fun d l=>h d l _ rfl
def ZX (v:AV) (C:List A4→Prop):EG→List A4→Prop
 | .val v',H'=>v'=v∧C H'
 | .panic _,_=>False
section
variable {P:Program}{n:Nat}{τ:Nat→AV}{H:List A4}{D:List D4}
theorem Ux {b:Nat}{cs cs':List AV}(h:Fc cs cs'):NQ (.box b cs) (.box b cs'):=⟨rfl,fun F w hr=>by
 obtain⟨vs,T,h1,h2⟩:=hr;exact⟨vs,T,h1,Nu h h2⟩⟩
theorem EV {i:Nat}{o o':A4}(hi:H[i]?=some o) (hw:NQ o o'):Ia ⟨n,τ,H,D⟩ ⟨n,τ,H.set i o',D⟩:=by
 intro F a w hs;refine⟨F,⟨hs.size,hs.tmp,?_,hs.defs⟩,?_⟩
 ·have hk:=G1 (x':=o') hi hw.1;refine⟨fun x hx c hc=>?_,by show List.Nodup _;rw[hk];exact hs.heap.nodup,fun x hx=>?_,hs.heap.bd⟩
  ·rcases D2 hx with rfl | ⟨j,_,hj⟩
   ·exact hs.heap.sub _ (List.mem_of_getElem? hi) c (by rw[←hw.1];exact hc)
   exact hs.heap.sub _ (List.mem_of_getElem? hj) c hc
  rcases D2 hx with rfl | ⟨j,_,hj⟩
  ·exact hw.2 F w (hs.heap.obj _ (List.mem_of_getElem? hi))
  exact hs.heap.obj _ (List.mem_of_getElem? hj)
 refine { Trans.refl (F:=F) (H:=H) (w:=w) with keys:=fun x hx c hc=>?_ };rcases D2 hx with rfl | ⟨j,_,hj⟩
 ·exact .inl ⟨_,List.mem_of_getElem? hi,by rw[←hw.1];exact hc⟩
 exact .inl ⟨_,List.mem_of_getElem? hj,hc⟩
end
section
variable {P:Program}{dst:Option Tmp}{ty:TypeId}{pos:String}{aft:Array Edge}{g:Option (Nat×Bool)}{ρ:Operand→AV}{H:List A4}{x y:Operand}
theorem YK {T e:TypeId}{b i:Nat}{l:List (Int×AV)}{k:Int}{zv:Value}{za v:AV}(hT:mapOf P T=some e) (hz:zeroOf P e=some zv) (hza:∀F w,Bz F w za zv) (hx:ρ x= .map b) (hy:ρ y= .p (.int .i64 k)) (hi:H[i]?=some (.map b (Ek l))) (hv:(Ku k l).getD za=v) :
  Dm P ⟨dst,.lookup T x y false,ty,pos,aft,g⟩ ρ H v H:=by subst hv;exact bO hT hz hza hx hy hi
theorem Us {T e:TypeId}{b i:Nat}{l:List (Int×AV)}{k:Int}{zv:Value}{za v:AV}{ok:Bool}(hT:mapOf P T=some e) (hz:zeroOf P e=some zv) (hza:∀F w,Bz F w za zv) (hx:ρ x= .map b) (hy:ρ y= .p (.int .i64 k)) (hi:H[i]?=some (.map b (Ek l))) (hv:(Ku k l).getD za=v) (hok:(Ku k l).isSome=ok) :
  Dm P ⟨dst,.lookup T x y true,ty,pos,aft,g⟩ ρ H (.tup [v,.p (.bool ok)]) H:=by subst hv;subst hok;exact Xv hT hz hza hx hy hi
end
section
variable {P:Program}{dst:Option Tmp}{ty:TypeId}{pos:String}{aft:Array Edge}{g:Option (Nat×Bool)}{ρ:Operand→AV}{H:List A4}{x y:Operand}
theorem MO {T e:TypeId}{sz bytes:Nat}(hT:E1 P T=some (e,sz,bytes)) :
  DL P ⟨dst,.buildSlice T 0 #[],ty,pos,aft,g⟩ ρ H (Lc sz [] H) :=
 G9 fun F w E hH hE=>by
  obtain⟨hu,i,hi,hs,hby⟩:=Dy hT;obtain⟨v,H',F',h1,h2,h3,h4⟩:=LA (F:=F) (w:=w) (sz:=sz) (c:=0) (rows:=[]) (vs:=[]) (T:=e) (H:=H) hH Av (by simp[Bf]) Av Av;refine⟨_,_,v,H',F',?_,h1,h2,h3,h4⟩;have hszr:(sizeOf e).run P w= .ok sz w:=by simp[sizeOf,typeInfo,hi,hs]
  simp only[execOp,Instr.buildSlice,Sem.run_bind,run_underlying hu,Result.andThen_ok,hszr];rw[if_neg Au];simp only[Sem.run_pure,Result.andThen_ok,Sem.run_bind,pure_bind,Nat.zero_mul,if_true];have e0:(Array.map (fun x=>(#[]:Array Value)[x % (#[]:Array Value).size]!) (Array.range 0))=(⟨[]⟩:Array Value):=by simp
  rw[e0];simp only[Array.map_empty,Instr.fill,newRow,newObj,Sem.run_bind,Sem.run,Result.andThen,Sem.run_pure];rfl
end
section
variable {P:Program}{dst:Option Tmp}{ty:TypeId}{pos:String}{aft:Array Edge}{g:Option (Nat×Bool)}{ρ:Operand→AV}{H:List A4}{x y:Operand}
theorem OB {T U e:TypeId}{n1 n2:Nat}{rows:List (List PV)}(hT:E1 P T=some (e,n1,n2)) (hx:ρ x= .p (.lst rows)) (hy:ρ y= .p .nils):DL P ⟨dst,.binOp .eql T x y U,ty,pos,aft,g⟩ ρ H (RA (fun v=>∃b:Bool,v= .p (.bool b)∧(b=true→rows=[])) H) :=
 (W0 (Dy hT).1 hx hy).mono fun r H' h=>by cases r<;>exact h
end
section
variable {P:Program}{r:Option Nat}{ops:Array Oper}{Q:Cj→BM→Prop}{k:Nat}{n:Nat}{τ:Nat→AV}{H:List A4}{D:List D4}{dst:Option Tmp}{ty:TypeId}{pos:String}{aft:Array Edge}{v:AV}{c:Call}{f:Operand}{fid:FuncId}{first caps A:List AV}
theorem Pz (ho:ops[k]?=some ⟨dst,.call c,ty,pos,aft,none⟩) (hd:Gj dst n=true) (hc:c.callee= .value f) (hf:(ev τ f= .p (.fn fid)∧first=[]∧caps=[])∨ev τ f= .fn (.func fid) first caps) (h:BL P fid A [] (Ww v [])) (hA:Fc (first++c.args.toList.map (ev τ)++caps) A) (pan:Q (.panic v) ⟨n,τ,H,D⟩):AL P r ops k ⟨n,τ,H,D⟩ Q :=
 Jj ho hd hc hf (Hs:=[]) (Hf:=H) Av (h.args hA) (.inl rfl) (fun _ _ h=>h.elim) (fun v' H' ⟨h1,h2⟩=>by subst h1;subst h2;exact pan)
end
end Go.Abs
namespace Go.Eu
open Go.Abs
def Ke (k:Int):Int:=if k=5∨k=6∨k=7 then 1 else if k=11 then 2 else -1
theorem Y3 {k:Int}{i:Int}(h:i=Ke k) (hi:0≤i):below k i=1:=by
 unfold Ke at h;unfold below;split at h
 ·rename_i hk;subst h;rcases hk with rfl | rfl | rfl<;>simp
 split at h
 ·rename_i hk;subst h;subst hk;simp
 omega
theorem WK {k:Int}{i:Int}(h:i≠Ke k):below k i=0:=by
 unfold Ke at h;unfold below;rw[if_neg];simp only[Bool.or_eq_true,Bool.and_eq_true,beq_iff_eq];intro hc;apply h;rcases hc with ⟨h1,h2⟩ | ⟨h1,h2⟩
 ·rw[if_pos (by rcases h2 with (h | h) | h<;>simp[h]),h1]
 rw[if_neg Au,if_pos h2,h1]
theorem YD {k:Int}(h:¬(0≤k∧k<13)):Ke k= -1:=by
 unfold Ke;rw[if_neg Au,if_neg Au]
section
variable {σ:Type}
mutual
def E6 (st:σ→Int→Tm→σ×Bool):Tm→Int→σ→σ×Bool
 | .mk k i n l ks,d,s=>if (st s d (.mk k i n l ks)).2=false then ((st s d (.mk k i n l ks)).1,false) else FA st k d 0 (st s d (.mk k i n l ks)).1 ks
def FA (st:σ→Int→Tm→σ×Bool) (k d:Int):Nat→σ→List Tm→σ×Bool
 | _,s,[]=>(s,true)
 | j,s,t::ts=>if (E6 st t (d+below k j) s).2=false then ((E6 st t (d+below k j) s).1,false) else FA st k d (j+1) (E6 st t (d+below k j) s).1 ts
end
end
def Qe (ix nm:Bool) (lv ks bl:Int):List AV:=[.p (.bool ix),.p (.bool nm),.p (I lv),.p (I ks),.p (I bl)]
def Qd:List AV:=[Qe true false 0 0 (-1),Qe false false 0 0 (-1),Qe false false 1 0 (-1),Qe false true (-1) 0 (-1),Qe false false 0 2 (-1),Qe false false 0 2 1,Qe false false 0 2 1,Qe false false 0 2 1,Qe false false 0 3 (-1),Qe false false 0 1 (-1),Qe false false 0 1 (-1),Qe false false 0 3 2,Qe true false 0 0 (-1)].flatten
theorem lY {k:Int}(h:0≤k∧k<13):Qd[0+k.toNat*5+4]?=some (.p (I (Ke k))):=by
 have:k=0∨k=1∨k=2∨k=3∨k=4∨k=5∨k=6∨k=7∨k=8∨k=9∨k=10∨k=11∨k=12:=by omega
 rcases this with rfl | rfl | rfl | rfl | rfl | rfl | rfl | rfl | rfl | rfl | rfl | rfl | rfl<;>rfl
section
variable {σ:Type}{st:σ→Int→Tm→σ×Bool}{Inv:Nat→σ→Prop}
theorem Yd {t:Tm}{d:Int}{s:σ}(h:(st s d t).2=false):E6 st t d s=((st s d t).1,false):=by
 obtain⟨k,i,n,l,ks⟩:=t;rw[E6,if_pos h]
theorem Io {k i:Int}{n:ByteArray}{l:List CX}{ks:List Tm}{d:Int}{s:σ}(h:(st s d (.mk k i n l ks)).2=true):E6 st (.mk k i n l ks) d s=FA st k d 0 (st s d (.mk k i n l ks)).1 ks:=by
 rw[E6,if_neg (by simp[h])]
theorem Jh {k d:Int}{ts:List Tm}{i:Nat}{x:Tm}{s:σ}(hx:ts[i]?=some x) (h:(E6 st x (d+below k i) s).2=false):FA st k d i s (ts.drop i)=((E6 st x (d+below k i) s).1,false):=by
 rw[Cd hx,FA,if_pos h]
theorem Li {k d:Int}{ts:List Tm}{i:Nat}{x:Tm}{s:σ}(hx:ts[i]?=some x) (h:(E6 st x (d+below k i) s).2=true):FA st k d i s (ts.drop i)=FA st k d (i+1) (E6 st x (d+below k i) s).1 (ts.drop (i+1)):=by
 rw[Cd hx,FA,if_neg (by simp[h])]
mutual
theorem J9 (hI:∀m s d t,Inv (m+1) s→Inv m (st s d t).1):∀(t:Tm) (d:Int) (s:σ) (m:Nat),Inv (m+size t) s→(E6 st t d s).2=true→Inv m (E6 st t d s).1
 | .mk k i n l ks,d,s,m,h,hv=>by
  rw[size,show m+(1+BB ks)=(m+BB ks)+1 by omega] at h;have h1:=hI _ _ d (.mk k i n l ks) h;rw[E6] at hv ⊢;split at hv
  ·cases hv
  rename_i hc;rw[if_neg hc];exact RS hI ks k d 0 _ m h1 hv
theorem RS (hI:∀m s d t,Inv (m+1) s→Inv m (st s d t).1):∀(ts:List Tm) (k d:Int) (j:Nat) (s:σ) (m:Nat),Inv (m+BB ts) s→(FA st k d j s ts).2=true→Inv m (FA st k d j s ts).1
 | [],k,d,j,s,m,h,hv=>by simpa [FA,BB] using h
 | t::ts,k,d,j,s,m,h,hv=>by
  rw[BB,show m+(size t+BB ts)=(m+BB ts)+size t by omega] at h;rw[FA] at hv ⊢;split at hv
  ·cases hv
  rename_i hc;rw[if_neg hc];have:=J9 hI t (d+below k j) s _ h (by simpa using hc);exact RS hI ts k d (j+1) _ m this hv
end
end
def bp (s:Int) (d:Int) (t:Tm):Int×Bool:=(wr (s+1),true)
mutual
theorem X7 (B:Int) (hB:B≤4611686018427387904):∀(t:Tm) (d s:Int),0≤s→s+size t<B→E6 bp t d s=(s+size t,true)
 | .mk k i n l ks,d,s,h0,h=>by
  rw[size] at h ⊢;rw[Io rfl];simp only[bp];rw[ES ⟨by omega,by omega⟩,VS B hB ks k d 0 (s+1) Au Au];congr 1;omega
theorem VS (B:Int) (hB:B≤4611686018427387904):∀(ts:List Tm) (k d:Int) (j:Nat) (s:Int),0≤s→s+BB ts<B→FA bp k d j s ts=(s+BB ts,true)
 | [],k,d,j,s,h0,h=>by simp[FA,BB]
 | t::ts,k,d,j,s,h0,h=>by
  rw[BB] at h ⊢;rw[FA,X7 B hB t _ s h0 Au];simp only;rw[if_neg Av,VS B hB ts k d (j+1) (s+size t) Au Au];congr 1;omega
end
def ZR (xs ys:List Tm) (i:Nat):Prop:=ys.length=xs.length∧∀k,k<xs.length→ys[k]?=if k<i∨xs.length - 1 - k<i then xs[xs.length - 1 - k]? else xs[k]?
theorem bh (xs:List Tm):ZR xs xs 0:=⟨rfl,fun k hk=>by rw[if_neg Au]⟩
theorem bB {xs ys:List Tm}{i:Nat}{a b:Tm}(h:ZR xs ys i) (hi:i<xs.length - 1 - i) (ha:ys[i]?=some a) (hb:ys[xs.length - 1 - i]?=some b):ZR xs ((ys.set i b).set (xs.length - 1 - i) a) (i+1):=by
 obtain⟨hl,h⟩:=h;refine⟨by simp[hl],fun k hk=>?_⟩;have e1:=h i Au;rw[if_neg Au,ha] at e1;have e2:=h (xs.length - 1 - i) Au;rw[if_neg Au,hb] at e2;by_cases k1:k=xs.length - 1 - i
 ·subst k1;rw[if_pos Au,List.getElem?_set_self Ao,e1];congr 1;omega
 rw[List.getElem?_set_ne (fun e=>k1 e.symm)];by_cases k2:k=i
 ·subst k2;rw[if_pos Au,List.getElem?_set_self Au,e2]
 rw[List.getElem?_set_ne (fun e=>k2 e.symm),h k hk];by_cases k3:k<i∨xs.length - 1 - k<i
 ·rw[if_pos k3,if_pos Au]
 rw[if_neg k3,if_neg Au]
theorem ck {xs ys:List Tm}{i:Nat}(h:ZR xs ys i) (hi:xs.length - 1 - i≤i):ys=xs.reverse:=by
 obtain⟨hl,h⟩:=h;apply List.ext_getElem?;intro k;by_cases hk:k<xs.length
 ·rw[h k hk,List.getElem?_reverse hk];by_cases k3:k<i∨xs.length - 1 - k<i
  ·rw[if_pos k3]
  rw[if_neg k3];congr 1;omega
 rw[List.getElem?_eq_none Au,List.getElem?_eq_none Ao]
end Go.Eu
namespace Go.Abs
def W2 (mkv:Nat→AV) (cs:List AV):EG→List A4→Prop
 | .val v,H'=>∃b,v=mkv b∧H'=[.box b cs]
 | .panic _,_=>False
section
variable {P:Program}{ops:Array Oper}{n:Nat}{τ₀ τ:Nat→AV}{D:List D4}{Q:Cj→BM→Prop}{opn:Nat→Bool}{k:Nat}{H:List A4}{dst:Option Tmp}{ty:TypeId}{pos:String}{aft:Array Edge}{c:Call}{f:Operand}{fid:FuncId}{first caps A:List AV}{mkv:Nat→AV}{cs:List AV}
theorem PK {rd ef effs fx}(fx':List (Nat×Sp)) (ho:ops[k]?=some ⟨dst,.call c,ty,pos,aft,none⟩) (hn:opn k=true)
  (hc:c.callee= .value f) (hf:(ev τ f= .p (.fn fid)∧first=[]∧caps=[])∨ev τ f= .fn (.func fid) first caps) (h:BL P fid A [] (W2 mkv cs)) (hA:first++c.args.toList.map (ev τ)++caps=A∨(first++c.args.toList.map (ev τ)++caps).map norm=A) (haft:E5 ops k (fx'.map (·.1))=true)
  (next:∀b,KJ ops k H (.box b cs::H) rd∧Hp k (.eff (mkv b) (.box b cs::H)) fx∧Dr P ops n τ₀ D Q opn (k+1) (put τ dst (mkv b)) (.box b cs::H) rd ((k,H,.box b cs::H)::ef) (true::effs) (fx'++fx)):Dr P ops n τ₀ D Q opn k τ H rd ef effs fx :=
 Lu fx' ho hn (GA (H:=H) (Hs:=[]) (Hf:=H) hc hf Av h hA) haft ⟨_,_,_,⟨0,rfl,rfl⟩,rfl⟩ (fun v H' ⟨_,h,_⟩=>h.elim) (fun v H' ⟨Hs',⟨b,h1,h2⟩,h3⟩=>by subst h1;subst h2;subst h3;exact next b)
theorem PY {r:Option Nat}(ho:ops[k]?=some ⟨dst,.call c,ty,pos,aft,none⟩) (hd:Gj dst n=true)
  (hc:c.callee= .value f) (hf:(ev τ f= .p (.fn fid)∧first=[]∧caps=[])∨ev τ f= .fn (.func fid) first caps) (h:BL P fid A [] (W2 mkv cs)) (hA:Fc (first++c.args.toList.map (ev τ)++caps) A)
  (next:∀b,AL P r ops (k+1) ⟨n,put τ dst (mkv b),.box b cs::H,D⟩ Q):AL P r ops k ⟨n,τ,H,D⟩ Q :=
 Jj ho hd hc hf (Hs:=[]) (Hf:=H) Av (h.args hA) (.inl rfl) (fun v Hs' ⟨b,h1,h2⟩=>by subst h1;subst h2;exact next b) (fun _ _ h=>h.elim)
end
def OP {α:Type}(mkv:α→AV) (mkp:Int→AV) (C:α→List A4→Prop) (x:Except Int α):EG→List A4→Prop
 | .val v,H'=>∃a,x= .ok a∧v=mkv a∧C a H'
 | .panic v,_=>∃e,x= .error e∧v=mkp e
theorem DL.permR {P:Program}{ρ:Operand→AV}{o:Oper}{H:List A4}{R R':EG→List A4→Prop}(h:DL P o ρ H R) (hp:∀r H1,R r H1→∃H2,H1.Perm H2∧R' r H2):DL P o ρ H R':=by
 intro r F S a w hs hH hρ hd;have:=h r F S a w hs hH hρ hd;refine I1 this ?_ ?_
 ·rintro a' w' ⟨v',H1,F',hR,hs',ht⟩;obtain⟨H2,hp,hR'⟩:=hp _ _ hR;exact⟨v',H2,F',hR',⟨hs'.size,hs'.tmp,hs'.heap.perm hp,hs'.defs⟩,{ ht with keys:=fun o ho=>ht.keys o (hp.mem_iff.2 ho) }⟩
 rintro e a' w' ⟨v',H1,F',u,hR,h1,h2,hs',ht⟩;obtain⟨H2,hp,hR'⟩:=hp _ _ hR;exact⟨v',H2,F',u,hR',h1,h2,⟨hs'.size,hs'.tmp,hs'.heap.perm hp,hs'.defs⟩,{ ht with keys:=fun o ho=>ht.keys o (hp.mem_iff.2 ho) }⟩
section
variable {P:Program}{ops:Array Oper}{n:Nat}{τ₀ τ:Nat→AV}{D:List D4}{Q:Cj→BM→Prop}{opn:Nat→Bool}{k:Nat}{T:List A4}{dst:Option Tmp}{ty:TypeId}{pos:String}{aft:Array Edge}{c:Call}{f:Operand}{fid:FuncId}{first caps A:List AV}
 {α:Type} {mkv:α→AV} {mkp:Int→AV} {C:α→List A4→Prop} {x:Except Int α}
theorem rU {r:Option Nat}(fr:List A4) (ho:ops[k]?=some ⟨dst,.call c,ty,pos,aft,none⟩) (hd:Gj dst n=true)
  (hc:c.callee= .value f) (hf:(ev τ f= .p (.fn fid)∧first=[]∧caps=[])∨ev τ f= .fn (.func fid) first caps) (h:BL P fid A T (OP mkv mkp C x)) (hA:Fc (first++c.args.toList.map (ev τ)++caps) A)
  (next:∀a T',x= .ok a→C a T'→AL P r ops (k+1) ⟨n,put τ dst (mkv a),fr++T',D⟩ Q) (pan:∀e T',x= .error e→Q (.panic (mkp e)) ⟨n,τ,T'++fr,D⟩):AL P r ops k ⟨n,τ,fr++T,D⟩ Q :=
 JE fr ho hd hc hf h hA (fun v T' ⟨a,h1,h2,h3⟩=>by subst h2;exact next a T' h1 h3) (fun v T' ⟨e,h1,h2⟩=>by subst h2;exact pan e T' h1)
theorem wR {rd ef effs fx}(fr:List A4) (ho:ops[k]?=some ⟨dst,.call c,ty,pos,aft,none⟩) (hn:opn k=true)
  (hc:c.callee= .value f) (hf:(ev τ f= .p (.fn fid)∧first=[]∧caps=[])∨ev τ f= .fn (.func fid) first caps) (h:BL P fid A T (OP mkv mkp C x)) (hA:Fc (first++c.args.toList.map (ev τ)++caps) A) (haft:E5 ops k []=true) (chk:Me ops n (true::effs).reverse=true) (hfx:OT k fx=true) (owe:KJ ops k (fr++T) (fr++T) rd)
  (next:∀a T',x= .ok a→C a T'→KJ ops k (fr++T) (fr++T') rd∧Hp k (.eff (mkv a) (fr++T')) fx∧Dr P ops n τ₀ D Q opn (k+1) (put τ dst (mkv a)) (fr++T') rd ((k,fr++T,fr++T')::ef) (true::effs) fx)
  (pan:∀e,x= .error e→∀τ' T',(∀t,(∀(k:Nat) o,ops[k]?=some o→o.dst≠some t)→τ' t=τ₀ t)→Q (.panic (mkp e)) ⟨n,τ',T'++fr,D⟩):Dr P ops n τ₀ D Q opn k τ (fr++T) rd ef effs fx:=by
 have hop:DL P ⟨dst,.call c,ty,pos,aft,none⟩ (ev τ) (fr++T) (fun r H'=>∃T',OP mkv mkp C x r T'∧(match r with | .val _=>H'=fr++T' | .panic _=>H'=T'++fr)):=by
  refine DL.permR (GA (H:=fr++T) (Hs:=T) (Hf:=fr) hc hf List.perm_append_comm (h.args hA) (.inl O)) ?_;rintro r H1 ⟨T',hR,rfl⟩;cases r with
  | val v=>exact⟨fr++T',List.perm_append_comm,T',hR,rfl⟩
  | panic v=>exact⟨T'++fr,List.Perm.refl _,T',hR,rfl⟩
 by_cases hx:∃a T',x= .ok a∧C a T'
 ·obtain⟨a,T',hx,hC⟩:=hx;refine Dr.opn _ [] ho hn Aw hop haft ⟨mkv a,_,T',⟨a,hx,O,hC⟩,O⟩ ?_ ?_ ?_ ?_
  ·rintro v H' ⟨T',⟨a',h1,h2,h3⟩,rfl⟩;exact(next a' T' h1 h3).1
  ·rintro v H' ⟨T',⟨a',h1,h2,h3⟩,rfl⟩;subst h2;exact(next a' T' h1 h3).2.1
  ·rintro v H' ⟨T',⟨a',h1,h2,h3⟩,rfl⟩;subst h2;exact(next a' T' h1 h3).2.2
  rintro v H' ⟨T',⟨e,h1,h2⟩,rfl⟩ τ' hτ;subst h2;exact pan e h1 τ' T' hτ
 refine Dr.pan _ ho hn Aw hop haft chk hfx ?_ owe ?_
 ·rintro v H' ⟨T',⟨a',h1,h2,h3⟩,rfl⟩;exact hx ⟨a',T',h1,h3⟩
 rintro v H' ⟨T',⟨e,h1,h2⟩,rfl⟩ τ' hτ;subst h2;exact pan e h1 τ' T' hτ
end
section
variable {P:Program}{ops:Array Oper}{n:Nat}{τ₀ τ:Nat→AV}{D:List D4}{Q:Cj→BM→Prop}{opn:Nat→Bool}{k:Nat}{H Hs:List A4}{dst:Option Tmp}{ty:TypeId}{pos:String}{aft:Array Edge}{c:Call}{f:Operand}{fid:FuncId}{first caps A:List AV}
 {α:Type} {mkv:α→AV} {mkp:Int→AV} {C:α→List A4→Prop} {x:Except Int α}
theorem GZ {r:Option Nat}(is:List Nat) (ho:ops[k]?=some ⟨dst,.call c,ty,pos,aft,none⟩) (hd:Gj dst n=true)
  (hc:c.callee= .value f) (hf:(ev τ f= .p (.fn fid)∧first=[]∧caps=[])∨ev τ f= .fn (.func fid) first caps) (h:BL P fid A Hs (OP mkv mkp C x)) (hg:GF H is Hs) (hn:is.Nodup) (hA:Fc (first++c.args.toList.map (ev τ)++caps) A)
  (hl:∀a T',C a T'→T'.length=Hs.length)
  (next:∀a T',x= .ok a→C a T'→AL P r ops (k+1) ⟨n,put τ dst (mkv a),Md H is T',D⟩ Q) (pan:∀e H',x= .error e→Q (.panic (mkp e)) ⟨n,τ,H'++DM is 0 H,D⟩):AL P r ops k ⟨n,τ,H,D⟩ Q :=
 j4 is ho hd hc hf h hg hn hA (fun v T' ⟨a,h1,h2,h3⟩=>by subst h2;exact⟨hl a T' h3,next a T' h1 h3⟩) (fun v T' ⟨e,h1,h2⟩=>by subst h2;exact pan e T' h1)
theorem XD {rd ef effs fx}(is:List Nat) (ho:ops[k]?=some ⟨dst,.call c,ty,pos,aft,none⟩) (hn:opn k=true)
  (hc:c.callee= .value f) (hf:(ev τ f= .p (.fn fid)∧first=[]∧caps=[])∨ev τ f= .fn (.func fid) first caps) (h:BL P fid A Hs (OP mkv mkp C x)) (hg:GF H is Hs) (hnd:is.Nodup) (hA:Fc (first++c.args.toList.map (ev τ)++caps) A)
  (hl:∀a T',C a T'→T'.length=Hs.length) (haft:E5 ops k []=true) (chk:Me ops n (true::effs).reverse=true) (hfx:OT k fx=true) (owe:KJ ops k H H rd)
  (next:∀a T',x= .ok a→C a T'→KJ ops k H (Md H is T') rd∧Hp k (.eff (mkv a) (Md H is T')) fx∧Dr P ops n τ₀ D Q opn (k+1) (put τ dst (mkv a)) (Md H is T') rd ((k,H,Md H is T')::ef) (true::effs) fx)
  (pan:∀e,x= .error e→∀τ' H',(∀t,(∀(k:Nat) o,ops[k]?=some o→o.dst≠some t)→τ' t=τ₀ t)→Q (.panic (mkp e)) ⟨n,τ',H'++DM is 0 H,D⟩):Dr P ops n τ₀ D Q opn k τ H rd ef effs fx:=by
 have hop:DL P ⟨dst,.call c,ty,pos,aft,none⟩ (ev τ) H (fun r H'=>∃T',OP mkv mkp C x r T'∧(match r with | .val _=>H'=Md H is T' | .panic _=>H'=T'++DM is 0 H)):=by
  refine DL.permR (GA hc hf (DP hnd hg) (h.args hA) (.inl O)) ?_;rintro r H1 ⟨T',hR,rfl⟩;cases r with
  | val v=>obtain⟨a,h1,h2,h3⟩:=hR;exact⟨_,(Nw hnd hg (hl a T' h3)).symm,T',⟨a,h1,h2,h3⟩,rfl⟩
  | panic v=>exact⟨_,List.Perm.refl _,T',hR,rfl⟩
 by_cases hx:∃a T',x= .ok a∧C a T'
 ·obtain⟨a,T',hx,hC⟩:=hx;refine Dr.opn _ [] ho hn Aw hop haft ⟨mkv a,_,T',⟨a,hx,O,hC⟩,O⟩ ?_ ?_ ?_ ?_
  ·rintro v H' ⟨T',⟨a',h1,h2,h3⟩,rfl⟩;exact(next a' T' h1 h3).1
  ·rintro v H' ⟨T',⟨a',h1,h2,h3⟩,rfl⟩;subst h2;exact(next a' T' h1 h3).2.1
  ·rintro v H' ⟨T',⟨a',h1,h2,h3⟩,rfl⟩;subst h2;exact(next a' T' h1 h3).2.2
  rintro v H' ⟨T',⟨e,h1,h2⟩,rfl⟩ τ' hτ;subst h2;exact pan e h1 τ' T' hτ
 refine Dr.pan _ ho hn Aw hop haft chk hfx ?_ owe ?_
 ·rintro v H' ⟨T',⟨a',h1,h2,h3⟩,rfl⟩;exact hx ⟨a',T',h1,h3⟩
 rintro v H' ⟨T',⟨e,h1,h2⟩,rfl⟩ τ' hτ;subst h2;exact pan e h1 τ' T' hτ
end
theorem Dt:∀xs:List AV,Fc xs xs
 | []=>HT
 | x::xs=>aw (we rfl) (Dt xs)
def uu (ops:Array Oper) (t:Nat):Bool:=ops.toList.all fun o=>match o.dst with | some u=> !(Nat.beq u t) | none=>true
theorem Sw {ops:Array Oper}{t:Nat}(h:uu ops t=true) (k:Nat) (o:Oper) (ho:ops[k]?=some o):o.dst≠some t:=by
 intro e;have hm:o∈ops.toList:=by
  rw[←Array.getElem?_toList] at ho;exact List.mem_of_getElem? ho
 have:=List.all_eq_true.1 h o hm;simp[e] at this
theorem K6 {L Hs:List A4}{is:List Nat}(X:List A4) (hn:is.Nodup) (hg:GF L is Hs):(X++L).Perm (Hs++(X++DM is 0 L)):=by
 have h:=(DP hn hg).append_left X;refine h.trans ?_;rw[←List.append_assoc,←List.append_assoc];exact List.perm_append_comm.append_right _
theorem D8.eq {P:Program}{f:FuncId}{caps:List AV}{m:OG}{H X:List A4}{R:List A4→Prop}(h:D8 P f caps m H (fun H'=>H'=X)) (hq:R X):D8 P f caps m H R:=by
 refine⟨h.1,fun F w vs u hH hr hm=>?_⟩;refine(h.2 F w vs u hH hr hm).mono ?_;rintro e u' w' ⟨v,H',F',h1,h2,rfl,h3,h4⟩;exact⟨v,_,F',h1,h2,hq,h3,h4⟩
end Go.Abs
namespace Go.Eu
open Go.Abs
mutual
def Vp:Tm→Prop
 | .mk k i _ _ ks=>(k=0→0≤i∧i<1099511627776)∧Uh ks
def Uh:List Tm→Prop
 | []=>True
 | t::ts=>Vp t∧Uh ts
end
theorem Nt:∀{ts:List Tm}{i:Nat}{t:Tm},Uh ts→ts[i]?=some t→Vp t
 | [],i,t,_,h=>by simp at h
 | a::ts,0,t,hn,h=>by simp at h;subst h;exact hn.1
 | a::ts,i+1,t,hn,h=>by simp at h;exact Nt hn.2 h
def QS:Tm→Tm
 | .mk k i n l _=> .mk k i n l []
def Il (i:Int):Except Int Tm:=if i > 65535 then .error 24 else .ok (Cs i)
def ZM (n m:Int):Except Int Int:=if wr (n+m) > 4096 then .error 5 else .ok (wr (n+m))
def Yj (b fr:Int) (t:Tm) (d:Int):Except Int Tm :=
 if t.index - d<fr then .ok (QS t) else if b<0∧t.index - d<fr - b then .error 24 else Il (t.index+b)
def RR {α β:Type}(f:α→β):Except Int α→Except Int β
 | .error e=> .error e
 | .ok x=> .ok (f x)
def Ea {α β:Type}(x:Except Int α) (f:α→Except Int β):Except Int β :=
 match x with
 | .error e=> .error e
 | .ok x=>f x
def KW (rep:Tm→Int→Except Int Tm) (s:Unit) (t:Tm) (d:Int):Except Int ((Tm×Bool)×Unit) :=
 if t.kind=0 then RR (fun x=>((x,true),())) (rep t d) else .ok ((QS t,false),())
mutual
def EE {σ:Type}(vis:σ→Tm→Int→Except Int ((Tm×Bool)×σ)):Tm→Int→σ→Except Int (Tm×σ)
 | .mk k i n l ks,d,s=>Ea (vis s (.mk k i n l ks) d) fun r =>
   if r.1.2=true then .ok (r.1.1,r.2) else Ea (Dw vis k 0 ks d r.2) fun q=> .ok (Ow r.1.1 q.1,q.2)
def Dw {σ:Type}(vis:σ→Tm→Int→Except Int ((Tm×Bool)×σ)) (k:Int):Nat→List Tm→Int→σ→Except Int (List Tm×σ)
 | _,[],_,s=> .ok ([],s)
 | j,t::ts,d,s=>Ea (EE vis t (d+below k j) s) fun r=>Ea (Dw vis k (j+1) ts d r.2) fun q=> .ok (r.1::q.1,q.2)
end
section
variable {σ:Type}{vis:σ→Tm→Int→Except Int ((Tm×Bool)×σ)}
theorem Fj {t:Tm}{d:Int}{s q:σ}{o:Tm}(h:vis s t d= .ok ((o,true),q)):EE vis t d s= .ok (o,q):=by
 obtain⟨k,i,n,l,ks⟩:=t;simp[EE,h,Ea]
theorem HD {t:Tm}{d e:Int}{s:σ}(h:vis s t d= .error e):EE vis t d s= .error e:=by
 obtain⟨k,i,n,l,ks⟩:=t;simp[EE,h,Ea]
theorem IC {k i d:Int}{n:ByteArray}{l:List CX}{ks:List Tm}{s q q':σ}{o:Tm}{ys:List Tm}(h:vis s (.mk k i n l ks) d= .ok ((o,false),q)) (hk:Dw vis k 0 ks d q= .ok (ys,q')):EE vis (.mk k i n l ks) d s= .ok (Ow o ys,q'):=by
 simp[EE,h,Ea,hk]
theorem JP {k i d e:Int}{n:ByteArray}{l:List CX}{ks:List Tm}{s q:σ}{o:Tm}(h:vis s (.mk k i n l ks) d= .ok ((o,false),q)) (hk:Dw vis k 0 ks d q= .error e):EE vis (.mk k i n l ks) d s= .error e:=by
 simp[EE,h,Ea,hk]
def TU (vis:σ→Tm→Int→Except Int ((Tm×Bool)×σ)) (k:Int) (ts:List Tm) (d:Int) (q0:σ) (i:Nat) (ys:List Tm) (q:σ):Prop :=
 ys.length=i∧Dw vis k 0 ts d q0=Ea (Dw vis k i (ts.drop i) d q) fun r=> .ok (ys++r.1,r.2)
theorem TU.zero (k:Int) (ts:List Tm) (d:Int) (q0:σ):TU vis k ts d q0 0 [] q0:=by
 refine⟨O,?_⟩;simp only[List.drop_zero,List.nil_append];cases Dw vis k 0 ts d q0<;>rfl
theorem TU.err {k d e:Int}{ts ys:List Tm}{q0 q:σ}{i:Nat}{x:Tm}(h:TU vis k ts d q0 i ys q) (hx:ts[i]?=some x) (hb:EE vis x (d+below k i) q= .error e):Dw vis k 0 ts d q0= .error e:=by
 rw[h.2,Cd hx,Dw,hb];rfl
theorem TU.succ {k d:Int}{ts ys:List Tm}{q0 q q':σ}{i:Nat}{x y:Tm}(h:TU vis k ts d q0 i ys q) (hx:ts[i]?=some x) (hb:EE vis x (d+below k i) q= .ok (y,q')):TU vis k ts d q0 (i+1) (ys++[y]) q':=by
 refine⟨by simp[h.1],?_⟩;rw[h.2,Cd hx,Dw,hb];simp only[Ea];cases Dw vis k (i+1) (ts.drop (i+1)) d q'<;>simp
theorem TU.fin {k d:Int}{ts ys:List Tm}{q0 q:σ}{i:Nat}(h:TU vis k ts d q0 i ys q) (hi:ts.length≤i):Dw vis k 0 ts d q0= .ok (ys,q):=by
 rw[h.2,List.drop_eq_nil_of_le hi,Dw];simp[Ea]
end
theorem Y2 {ys:List Tm}{i m:Nat}{x:Tm}(h:ys.length=i) (hm:0<m):(ys++List.replicate m BN).set i x=(ys++[x])++List.replicate (m - 1) BN:=by
 subst h;cases m with
 | zero=>omega
 | succ m=>simp[List.replicate_succ]
section
variable {b fr d k i:Int}{n:ByteArray}{l:List CX}{ks:List Tm}
theorem Wf (h:i - d<fr):Yj b fr (.mk k i n l ks) d= .ok (.mk k i n l []):=by simp[Yj,Tm.index,QS,h]
theorem dL (h:¬i - d<fr) (h2:b<0) (h3:i - d<fr - b):Yj b fr (.mk k i n l ks) d= .error 24:=by unfold Yj;exact(if_neg h).trans (if_pos ⟨h2,h3⟩)
theorem Wr (h:¬i - d<fr) (h2:¬(b<0∧i - d<fr - b)):Yj b fr (.mk k i n l ks) d=Il (i+b):=by unfold Yj;exact(if_neg h).trans (if_neg h2)
variable {rep:Tm→Int→Except Int Tm}{s:Unit}
theorem K3 {e:Int}(h:k=0) (hr:rep (.mk k i n l ks) d= .error e):KW rep s (.mk k i n l ks) d= .error e:=by unfold KW;exact(if_pos h).trans (by rw[hr];rfl)
theorem Kl {x:Tm}(h:k=0) (hr:rep (.mk k i n l ks) d= .ok x):KW rep s (.mk k i n l ks) d= .ok ((x,true),()):=by unfold KW;exact(if_pos h).trans (by rw[hr];rfl)
theorem Lk (h:k≠0):KW rep s (.mk k i n l ks) d= .ok ((.mk k i n l [],false),()):=by unfold KW;exact(if_neg h).trans rfl
end
def Iy (b fr:Int) (t:Tm):Except Int Tm:=RR Prod.fst (EE (KW (Yj b fr)) t 0 ())
theorem SR {α β:Type}{f:α→β}{x:Except Int α}{a:α}(h:x= .ok a):RR f x= .ok (f a):=by rw[h];rfl
theorem Qo {α β:Type}{f:α→β}{x:Except Int α}{e:Int}(h:x= .error e):RR f x= .error e:=by rw[h];rfl
def KN (vs:List Tm) (dp ti d:Int):Int:=if 0≤wr (wr (ti - d) - dp)∧wr (wr (ti - d) - dp)<(vs.length:Int) then wr (wr (ti - d) - dp) else -1
theorem nV {vs:List Tm}{dp ti d:Int}(h1:0≤wr (wr (ti - d) - dp)) (h2:wr (wr (ti - d) - dp)<(vs.length:Int)):KN vs dp ti d=wr (wr (ti - d) - dp):=if_pos ⟨h1,h2⟩
theorem qK {vs:List Tm}{dp ti d:Int}(h:¬(0≤wr (wr (ti - d) - dp)∧wr (wr (ti - d) - dp)<(vs.length:Int))):KN vs dp ti d= -1:=if_neg h
theorem Wj {vs:List Tm}{dp ti d:Int}(h:0≤KN vs dp ti d):KN vs dp ti d<(vs.length:Int):=by
 unfold KN at *;split<;>omega
def W3 (vs:List Tm) (sz:List Int) (dp:Int) (t:Tm) (d:Int):Int :=
 if t.kind=0∧0≤KN vs dp t.index d then sz.getD (KN vs dp t.index d).toNat 0 else 1
def TS (vs:List Tm) (sz:List Int) (dp:Int) (n:Int) (t:Tm) (d:Int):Except Int ((Tm×Bool)×Int) :=
 RR (fun m=>((BN,decide (t.kind=0)),m)) (ZM n (W3 vs sz dp t d))
def ME (vs:List Tm) (dp:Int) (t:Tm) (d:Int):Except Int Tm :=
 if 0≤KN vs dp t.index d then Iy (wr (dp+d)) 0 (vs.getD (KN vs dp t.index d).toNat BN)
 else if wr (t.index - d)<dp then .ok (QS t) else Il (wr (t.index - vs.length))
def Kx (vs:List Tm) (dp:Int) (t:Tm):Except Int Tm :=
 Ea (EE (TS vs (vs.map fun v=>(size v:Int)) dp) t 0 0) fun _=>RR Prod.fst (EE (KW (ME vs dp)) t 0 ())
def Hh (t:Tm) (vs:List Tm) (dp:Int):Tm×Int :=
 match Kx vs dp t with
 | .error e=>(BN,e)
 | .ok x=>if FU x > 200 then (BN,7) else (x,0)
section
variable {vs:List Tm}{sz:List Int}{dp n d k i r m e:Int}{nm:ByteArray}{l:List CX}{ks:List Tm}
theorem Rs (hm:W3 vs sz dp (.mk k i nm l ks) d=m) (hz:ZM n m= .ok r):TS vs sz dp n (.mk k i nm l ks) d= .ok ((BN,decide (k=0)),r):=by
 subst hm;exact SR hz
theorem O4 (hm:W3 vs sz dp (.mk k i nm l ks) d=m) (hz:ZM n m= .error e):TS vs sz dp n (.mk k i nm l ks) d= .error e:=by
 subst hm;exact Qo hz
theorem Tk (h:k=0∧0≤KN vs dp i d) (hx:sz[(KN vs dp i d).toNat]?=some m):W3 vs sz dp (.mk k i nm l ks) d=m:=by
 unfold W3;refine(if_pos h).trans ?_;rw[List.getD_eq_getElem?_getD];exact(congrArg (fun o=>Option.getD o 0) hx)
theorem R7 (h:¬(k=0∧0≤KN vs dp i d)):W3 vs sz dp (.mk k i nm l ks) d=1:=by
 unfold W3;exact if_neg h
theorem TG {v:Tm}(h:0≤KN vs dp i d) (hx:vs[(KN vs dp i d).toNat]?=some v):ME vs dp (.mk k i nm l ks) d=Iy (wr (dp+d)) 0 v:=by
 unfold ME;refine(if_pos h).trans ?_;rw[List.getD_eq_getElem?_getD];exact(congrArg (fun o=>Iy (wr (dp+d)) 0 (Option.getD o BN)) hx)
theorem Zt (h:¬0≤KN vs dp i d) (h2:wr (i - d)<dp):ME vs dp (.mk k i nm l ks) d= .ok (.mk k i nm l []):=by
 unfold ME;exact(if_neg h).trans ((if_pos h2).trans rfl)
theorem XR (h:¬0≤KN vs dp i d) (h2:¬wr (i - d)<dp):ME vs dp (.mk k i nm l ks) d=Il (wr (i - vs.length)):=by
 unfold ME;exact(if_neg h).trans (if_neg h2)
end
theorem Jn {t:Tm}{vs:List Tm}{dp e:Int}(h:Kx vs dp t= .error e):Hh t vs dp=(BN,e):=by unfold Hh;rw[h]
theorem Q6 {t x:Tm}{vs:List Tm}{dp:Int}(h:Kx vs dp t= .ok x) (hd:FU x > 200):Hh t vs dp=(BN,7):=by unfold Hh;rw[h];exact if_pos hd
theorem Vu {t x:Tm}{vs:List Tm}{dp:Int}(h:Kx vs dp t= .ok x) (hd:¬FU x > 200):Hh t vs dp=(x,0):=by unfold Hh;rw[h];exact if_neg hd
theorem NW {t x:Tm}{vs:List Tm}{dp:Int}{a:Tm×Int}{b:Unit}(h1:EE (TS vs (vs.map fun v=>(size v:Int)) dp) t 0 0= .ok a) (h2:EE (KW (ME vs dp)) t 0 ()= .ok (x,b)):Kx vs dp t= .ok x:=by
 unfold Kx;rw[h1];exact SR h2
theorem RX {t:Tm}{vs:List Tm}{dp e:Int}(h1:EE (TS vs (vs.map fun v=>(size v:Int)) dp) t 0 0= .error e):Kx vs dp t= .error e:=by
 unfold Kx;rw[h1];rfl
theorem RG {t:Tm}{vs:List Tm}{dp e:Int}{a:Tm×Int}(h1:EE (TS vs (vs.map fun v=>(size v:Int)) dp) t 0 0= .ok a) (h2:EE (KW (ME vs dp)) t 0 ()= .error e):Kx vs dp t= .error e:=by
 unfold Kx;rw[h1];exact Qo h2
theorem cU:∀{ts:List Tm},(∀t∈ts,Nd t)→M6 ts
 | [],_=>trivial
 | t::ts,h=>⟨h t Av,cU fun x hx=>h x (by simp[hx])⟩
section
variable {σ:Type}{vis:σ→Tm→Int→Except Int ((Tm×Bool)×σ)}
mutual
theorem Qq (hv:∀s t d r,Nd t→Vp t→vis s t d= .ok r→Nd r.1.1):∀(t:Tm) (d:Int) (s:σ) (r:Tm×σ),Nd t→Vp t→EE vis t d s= .ok r→Nd r.1
 | .mk k i n l ks,d,s,r,h1,h2,h=>by
  unfold EE Ea at h;split at h
  ·cases h
  rename_i r1 hr;have hn:=hv _ _ _ _ h1 h2 hr;simp only at h;split at h
  ·injection h with h;subst h;exact hn
  split at h
  ·cases h
  rename_i q hq;injection h with h;subst h;obtain⟨g1,g2⟩:=T5 hv ks k 0 d r1.2 q h1.2.2.2.2.1 h2.2 hq;obtain⟨⟨o,dn⟩,q1⟩:=r1;obtain⟨ok,oi,on,ol,os⟩:=o;exact⟨hn.1,hn.2.1,hn.2.2.1,by rw[g2];exact h1.2.2.2.1,g1,hn.2.2.2.2.2⟩
theorem T5 (hv:∀s t d r,Nd t→Vp t→vis s t d= .ok r→Nd r.1.1):∀(ts:List Tm) (k:Int) (j:Nat) (d:Int) (s:σ) (r:List Tm×σ),M6 ts→Uh ts→Dw vis k j ts d s= .ok r→M6 r.1∧r.1.length=ts.length
 | [],k,j,d,s,r,h1,h2,h=>by
  unfold Dw at h;injection h with h;subst h;exact⟨trivial,rfl⟩
 | t::ts,k,j,d,s,r,h1,h2,h=>by
  unfold Dw Ea at h;split at h
  ·cases h
  rename_i r1 hr;simp only at h;split at h
  ·cases h
  rename_i q hq;injection h with h;subst h;obtain⟨g1,g2⟩:=T5 hv ts k (j+1) d r1.2 q h1.2 h2.2 hq;exact⟨⟨Qq hv t _ _ _ h1.1 h2.1 hr,g1⟩,by simp[g2]⟩
end
end
theorem UO {t:Tm}(h:Nd t):Nd (QS t):=by
 obtain⟨k,i,n,l,ks⟩:=t;exact⟨h.1,h.2.1,h.2.2.1,by decide,trivial,h.2.2.2.2.2⟩
theorem ZE {i:Int}{x:Tm}(hi: -9223372036854775808≤i) (h:Il i= .ok x):Nd x:=by
 unfold Il at h;split at h
 ·cases h
 injection h with h;subst h;exact⟨by decide,by decide,by simp,by decide,trivial,⟨by decide,by decide⟩,⟨hi,by omega⟩⟩
theorem eo {rep:Tm→Int→Except Int Tm}(hr:∀t d x,Nd t→Vp t→t.kind=0→rep t d= .ok x→Nd x):∀(s:Unit) (t:Tm) (d:Int) (r:(Tm×Bool)×Unit),Nd t→Vp t→KW rep s t d= .ok r→Nd r.1.1:=by
 intro s t d r h1 h2 h;unfold KW at h;split at h
 ·rename_i hk;unfold RR at h;split at h
  ·cases h
  rename_i x hx;injection h with h;subst h;exact hr t d x h1 h2 hk hx
 injection h with h;subst h;exact UO h1
theorem gW {b fr:Int}{t x:Tm}(hb:JY b) (h1:Nd t) (h2:Vp t) (h:Iy b fr t= .ok x):Nd x:=by
 unfold Iy RR at h;split at h
 ·cases h
 rename_i r hr;injection h with h;subst h;refine Qq (eo ?_) t 0 () r h1 h2 hr;intro t d x g1 g2 g3 g;obtain⟨k,i,n,l,ks⟩:=t;have hi:=g2.1 g3;unfold Yj at g;split at g
 ·injection g with g;subst g;exact UO g1
 split at g
 ·cases g
 exact ZE (by have:=hb.1;simp only[Tm.index];omega) g
theorem oX {vs:List Tm}{dp:Int}{t x:Tm}{u:Unit}(hv:M6 vs) (hp:Uh vs) (h1:Nd t) (h2:Vp t) (h:EE (KW (ME vs dp)) t 0 ()= .ok (x,u)):Nd x:=by
 refine Qq (eo ?_) t 0 () (x,u) h1 h2 h;intro t d x g1 g2 g3 g;unfold ME at g;split at g
 ·rename_i h0;have hl:=Wj h0;obtain⟨v,hx⟩:=A1 (l:=vs) (i:=(KN vs dp t.index d).toNat) Au;rw[List.getD_eq_getElem?_getD,hx] at g;exact gW (dD _) (DV hv hx) (Nt hp hx) g
 split at g
 ·injection g with g;subst g;exact UO g1
 exact ZE (dD _).1 g
theorem tO {vs:List Tm}{i:Nat}{x:Tm}(hx:vs[i]?=some x):(((vs.take i).map fun v=>(size v:Int))++List.replicate (vs.length - i) 0).set i (size x:Int)=((vs.take (i+1)).map fun v=>(size v:Int))++List.replicate (vs.length - (i+1)) 0:=by
 have hi:i<vs.length:=by
  rcases Nat.lt_or_ge i vs.length with h | h
  ·exact h
  rw[List.getElem?_eq_none h] at hx;cases hx
 obtain⟨m,hm⟩:∃m,vs.length - i=m+1:=⟨vs.length - i - 1,by omega⟩;have hl:((vs.take i).map fun v=>(size v:Int)).length=i:=by simp;omega
 rw[List.take_add_one,hx,hm,show vs.length - (i+1)=m by omega,List.replicate_succ,List.set_append_right _ _ Au,hl];simp
theorem vd {vs:List Tm}{i:Nat}(h:vs.length≤i):((vs.take i).map fun v=>(size v:Int))++List.replicate (vs.length - i) 0=vs.map fun v=>(size v:Int):=by
 rw[List.take_of_length_le h,show vs.length - i=0 by omega];simp
theorem SH {k i:Int}{n:ByteArray}{l:List CX}{ks:List Tm}(h:Wt (.mk k i n l ks)) (hk:k=0):ks=[]:=by
 have:=h.1;subst hk;cases ks with
 | nil=>rfl
 | cons a b=>simp[arity] at this;omega
def El (x:Tm×Int):Except Int (Tm×Unit):=if x.2=0 then .ok (x.1,()) else .error x.2
def F8 (x:List Tm×Int):Except Int (List Tm×Unit):=if x.2=0 then .ok (x.1,()) else .error x.2
theorem Ze {er e:Int}(h:er≠0):Gi er e=er:=by unfold Gi;rw[if_neg h]
theorem dP {er i:Int}(h:er≠0):MZ er i=er:=by unfold MZ;split<;>simp[Ze h]
mutual
theorem Vm (b fr:Int):∀(t:Tm) (d er:Int),er≠0→(CS b fr d er t).2=er
 | .mk k i n l ks,d,er,h=>by
  unfold CS;split
  ·split
   ·rfl
   split
   ·exact Ze h
   exact dP h
  exact Ii b fr k ks d 0 er h
theorem Ii (b fr k:Int):∀(ts:List Tm) (d:Int) (j:Nat) (er:Int),er≠0→(Cq b fr k d j er ts).2=er
 | [],d,j,er,h=>rfl
 | t::ts,d,j,er,h=>by
  unfold Cq;simp only;rw[Vm b fr t _ er h];exact Ii b fr k ts d (j+1) er h
end
mutual
theorem WD (b:Int) (hb:0≤b) (hb2:b<4398046511104):∀(t:Tm) (d:Int),Wt t→Vp t→0≤d→d+size t<2199023255552→EE (KW (Yj b 0)) t d ()=El (CS b 0 d 0 t)
 | .mk k i n l ks,d,h1,h2,h3,h4=>by
  by_cases hk:k=0
  ·have hks:=SH h1 hk;have hi:=h2.1 hk;have e1:wr (0+d)=d:=by rw[Int.zero_add];exact ES (by unfold JY;omega)
   have e2:wr (i+b)=i+b:=ES (by unfold JY;omega);by_cases hlo:i - d<0
   ·rw[Fj (Kl hk (Wf hlo))];unfold CS;rw[if_pos hk,e1,if_pos Au];subst hks;rfl
   have hsh:Yj b 0 (.mk k i n l ks) d=Il (i+b):=Wr hlo Au;unfold CS;rw[if_pos hk,e1,if_neg Au,e2,if_neg Au];by_cases hbig:i+b > 65535
   ·rw[HD (K3 hk (hsh.trans (if_pos hbig)))];unfold El MZ Gi;simp[hbig]
   rw[Fj (Kl hk (hsh.trans (if_neg hbig)))];unfold El MZ;simp[hbig]
  have hs:d+BB ks<2199023255551:=by simp only[size] at h4;omega
  have hL:=Tt b hb hb2 k ks d 0 h1.2.2 h2.2 h3 hs;unfold CS;rw[if_neg hk];unfold F8 at hL;unfold El;by_cases he:(Cq b 0 k d 0 0 ks).2=0
  ·rw[if_pos he] at hL;rw[if_pos he];exact IC (Lk hk) hL
  rw[if_neg he] at hL;rw[if_neg he];exact JP (Lk hk) hL
theorem Tt (b:Int) (hb:0≤b) (hb2:b<4398046511104) (k:Int):∀(ts:List Tm) (d:Int) (j:Nat),MY ts→Uh ts→0≤d→d+BB ts<2199023255551→Dw (KW (Yj b 0)) k j ts d ()=F8 (Cq b 0 k d j 0 ts)
 | [],d,j,h1,h2,h3,h4=>rfl
 | t::ts,d,j,h1,h2,h3,h4=>by
  have hbl:=Cx k j;simp only[BB] at h4;have hT:=WD b hb hb2 t (d+below k j) h1.1 h2.1 Au Au;have hL:=Tt b hb hb2 k ts d (j+1) h1.2 h2.2 h3 Au;unfold Dw Cq;rw[hT];unfold El F8 Ea;by_cases he:(CS b 0 (d+below k j) 0 t).2=0
  ·rw[if_pos he];simp only;rw[hL,he];unfold F8;by_cases hq:(Cq b 0 k d (j+1) 0 ts).2=0
   ·rw[if_pos hq,if_pos hq]
   rw[if_neg hq,if_neg hq]
  rw[if_neg he];simp only;rw[Ii b 0 k ts d (j+1) _ he,if_neg he]
end
theorem gO {b:Int}{v:Tm}(hb:0≤b) (hb2:b<4398046511104) (h1:Wt v) (h2:Vp v) (h3:size v<1099511627776):Iy b 0 v=if (CS b 0 0 0 v).2=0 then .ok (CS b 0 0 0 v).1 else .error (CS b 0 0 0 v).2:=by
 unfold Iy;rw[WD b hb hb2 v 0 h1 h2 Au Au];unfold El;split<;>rfl
section
variable {vs:List Tm}{d er nd k i:Int}{n:ByteArray}{l:List CX}{ks:List Tm}
theorem OR {t:Tm}(h:nd > 4096):B2 vs d er nd t=(t,er,nd):=by
 obtain⟨k,i,n,l,ks⟩:=t;unfold B2;rw[if_pos h]
theorem Kb (h:nd > 4096):∀(ts:List Tm) (d:Int) (j:Nat),Cc vs k d j er nd ts=(ts,er,nd)
 | [],d,j=>rfl
 | t::ts,d,j=>by unfold Cc;rw[OR h];simp only;rw[Kb h ts d (j+1)]
theorem ON {v:Tm}(h:nd≤4096) (hk:k=0) (h1:i≥d) (h2:i - d<(vs.length:Int)) (hv:vs[(i - d).toNat]?=some v):B2 vs d er nd (.mk k i n l ks)=((CS d 0 0 er v).1,(CS d 0 0 er v).2,wr (nd+FG v)):=by
 unfold B2;rw[if_neg Au,if_pos ⟨hk,h1,h2⟩,List.getD_eq_getElem?_getD,hv];rfl
theorem P9 (h:nd≤4096) (hk:k=0) (h1:i≥d) (h2:¬i - d<(vs.length:Int)):B2 vs d er nd (.mk k i n l ks)=(Cs (wr (i - vs.length)),MZ er (wr (i - vs.length)),wr (nd+1)):=by
 unfold B2;rw[if_neg Au,if_neg Au,if_pos hk,if_pos h1]
theorem OQ (h:nd≤4096) (hk:k=0) (h1:¬i≥d):B2 vs d er nd (.mk k i n l ks)=(.mk k i n l ks,er,wr (nd+1)):=by
 unfold B2;rw[if_neg Au,if_neg Au,if_pos hk,if_neg h1]
theorem M5 (h:nd≤4096) (hk:k≠0):B2 vs d er nd (.mk k i n l ks)=((.mk k i n l (Cc vs k d 0 er (wr (nd+1)) ks).1),(Cc vs k d 0 er (wr (nd+1)) ks).2):=by
 unfold B2;rw[if_neg Au,if_neg Au,if_neg hk]
end
mutual
theorem gZ (vs:List Tm):∀(t:Tm) (d er nd:Int),er≠0→(B2 vs d er nd t).2.1=er
 | .mk k i n l ks,d,er,nd,h=>by
  unfold B2;split
  ·rfl
  split
  ·exact Vm _ _ _ _ _ h
  split
  ·split
   ·exact dP h
   rfl
  exact La vs k ks d 0 er _ h
theorem La (vs:List Tm) (k:Int):∀(ts:List Tm) (d:Int) (j:Nat) (er nd:Int),er≠0→(Cc vs k d j er nd ts).2.1=er
 | [],d,j,er,nd,h=>rfl
 | t::ts,d,j,er,nd,h=>by
  unfold Cc;simp only;rw[gZ vs t _ er nd h];exact La vs k ts d (j+1) er _ h
end
structure Rf (vs:List Tm) (dp:Int):Prop where
 wt:MY vs
 vp:Uh vs
 sz:∀x∈vs,size x<1099511627776
 len:vs.length<1099511627776
 lo:0≤dp
 hi:dp≤65536
theorem Rf.size {vs:List Tm}{dp:Int}(V:Rf vs dp):∀x∈vs,(size x:Int)≤1099511627776:=fun x hx=>by have:=V.sz x hx;omega
theorem fU {vs:List Tm}{dp i d:Int}(V:Rf vs dp) (h1:0≤i) (h2:i<1099511627776) (h3:0≤d) (h4:d<2199023255552):KN vs dp i d=if dp+d≤i∧i - (dp+d)<(vs.length:Int) then i - (dp+d) else -1:=by
 have:=V.lo;have:=V.hi;have e1:wr (i - d)=i - d:=ES (by unfold JY;omega);have e2:wr (i - d - dp)=i - (dp+d):=by rw[ES (by unfold JY;omega)];omega
 unfold KN;rw[e1,e2];by_cases h:dp+d≤i∧i - (dp+d)<(vs.length:Int)
 ·rw[if_pos h,if_pos Au]
 rw[if_neg h,if_neg Au]
theorem eF {n m:Int}(h1:0≤n) (h2:n≤4096) (h3:0≤m) (h4:m≤1099511627776):ZM n m=if n+m > 4096 then .error 5 else .ok (n+m):=by
 unfold ZM;rw[show wr (n+m)=n+m from ES (by unfold JY;omega)]
def uN {α:Type}(x:Except Int (α×Int)) (m:Int):Prop:=(m > 4096→x= .error 5)∧(m≤4096→∃z,x= .ok (z,m))
def tU (vs:List Tm):List Int:=vs.map fun v=>(size v:Int)
theorem ow {vs:List Tm}{i:Nat}{v:Tm}(h:vs[i]?=some v):(tU vs)[i]?=some (size v:Int):=by simp[tU,h]
mutual
theorem eR {vs:List Tm}{dp:Int}(V:Rf vs dp):∀(t:Tm) (d er nd:Int),Wt t→Vp t→0≤d→d+size t<2199023255552→0≤nd→nd≤4096→uN (EE (TS vs (tU vs) dp) t d nd) (B2 vs (dp+d) er nd t).2.2
 | .mk k i n l ks,d,er,nd,h1,h2,h3,h4,h5,h6=>by
  have hone:∀m:Int,0≤m→m≤1099511627776→W3 vs (tU vs) dp (.mk k i n l ks) d=m→k=0→uN (EE (TS vs (tU vs) dp) (.mk k i n l ks) d nd) (wr (nd+m)):=by
   intro m g1 g2 g3 hk;have ha:=eF h5 h6 g1 g2;rw[show wr (nd+m)=nd+m from ES (by unfold JY;omega)];refine⟨fun h=>?_,fun h=>?_⟩
   ·rw[if_pos h] at ha;exact HD (O4 g3 ha)
   rw[if_neg Au] at ha;refine⟨BN,Fj ?_⟩;rw[Rs g3 ha,hk];rfl
  by_cases hk:k=0
  ·have hi:=h2.1 hk;have hd:d<2199023255552:=by have:=size_pos (Tm.mk k i n l ks);omega
   have hv:=fU V hi.1 hi.2 h3 hd;by_cases hin:dp+d≤i∧i - (dp+d)<(vs.length:Int)
   ·rw[if_pos hin] at hv;obtain⟨v,hx⟩:=A1 (l:=vs) (i:=(i - (dp+d)).toNat) Au;have hsv:=V.sz v (List.mem_of_getElem? hx);rw[ON h6 hk hin.1 hin.2 hx,Pv Au];exact hone _ Au Au (Tk ⟨hk,by omega⟩ (by rw[hv];exact ow hx)) hk
   rw[if_neg hin] at hv;have hc:=hone 1 Au Au (R7 Au) hk;by_cases hge:i≥dp+d
   ·rw[P9 h6 hk hge Au];exact hc
   rw[OQ h6 hk hge];exact hc
  rw[M5 h6 hk];have hs:d+BB ks<2199023255551:=by simp only[size] at h4;omega
  have e1:wr (nd+1)=nd+1:=ES (by unfold JY;omega);have ha:=eF (m:=1) h5 h6 Au Au;have hn:W3 vs (tU vs) dp (.mk k i n l ks) d=1:=R7 Au;have hdec:decide (k=0)=false:=by simp[hk]
  simp only;rw[e1];by_cases hbig:nd+1 > 4096
  ·rw[Kb hbig];rw[if_pos hbig] at ha;exact⟨fun _=>HD (O4 hn ha),fun h=>by simp only at h;omega⟩
  rw[if_neg hbig] at ha;have hc:=Rs (l:=l) hn ha;rw[hdec] at hc;obtain⟨g1,g2⟩:=Zd V k ks d 0 er (nd+1) h1.2.2 h2.2 h3 hs Au Au;refine⟨fun h=>JP hc (g1 h),fun h=>?_⟩;obtain⟨z,hz⟩:=g2 h;exact⟨_,IC hc hz⟩
theorem Zd {vs:List Tm}{dp:Int}(V:Rf vs dp) (k:Int):∀(ts:List Tm) (d:Int) (j:Nat) (er nd:Int),MY ts→Uh ts→0≤d→d+BB ts<2199023255551→0≤nd→nd≤4096→uN (Dw (TS vs (tU vs) dp) k j ts d nd) (Cc vs k (dp+d) j er nd ts).2.2
 | [],d,j,er,nd,h1,h2,h3,h4,h5,h6=>⟨fun h=>by simp only[Cc] at h;omega,fun _=>⟨_,rfl⟩⟩
 | t::ts,d,j,er,nd,h1,h2,h3,h4,h5,h6=>by
  have hbl:=Cx k j;simp only[BB] at h4;obtain⟨g1,g2⟩:=eR V t (d+below k j) er nd h1.1 h2.1 Au Au h5 h6;have hm:=(Kq 1099511627776 Au Au t vs (dp+d+below k j) er nd h1.1 V.wt V.size h5 Au).1;rw[show dp+(d+below k j)=dp+d+below k j by omega] at g1 g2;unfold Dw Cc;simp only;by_cases hbig:(B2 vs (dp+d+below k j) er nd t).2.2 > 4096
  ·rw[g1 hbig,Kb hbig];exact⟨fun _=>O,fun h=>by simp only at h;omega⟩
  obtain⟨z,hz⟩:=g2 Au;rw[hz];obtain⟨f1,f2⟩:=Zd V k ts d (j+1) (B2 vs (dp+d+below k j) er nd t).2.1 (B2 vs (dp+d+below k j) er nd t).2.2 h1.2 h2.2 h3 Au Au Au;refine⟨fun h=>?_,fun h=>?_⟩
  ·simp only[Ea];rw[f1 h]
  obtain⟨y,hy⟩:=f2 h;exact⟨z::y,by simp only[Ea];rw[hy]⟩
end
mutual
theorem dO {vs:List Tm}{dp:Int}(V:Rf vs dp):∀(t:Tm) (d nd:Int),Wt t→Vp t→0≤d→d+size t<2199023255552→0≤nd→(B2 vs (dp+d) 0 nd t).2.2≤4096→EE (KW (ME vs dp)) t d ()=El ((B2 vs (dp+d) 0 nd t).1,(B2 vs (dp+d) 0 nd t).2.1)
 | .mk k i n l ks,d,nd,h1,h2,h3,h4,h5,h6=>by
  have h7:nd≤4096:=by
   rcases Int.lt_or_le 4096 nd with h | h
   ·rw[OR h] at h6;simp only at h6;omega
   exact h
  have:=V.lo;have:=V.hi;have:=V.len;by_cases hk:k=0
  ·have hi:=h2.1 hk;have hks:=SH h1 hk;have hd:d<2199023255552:=by have:=size_pos (Tm.mk k i n l ks);omega
   have hv:=fU V hi.1 hi.2 h3 hd;by_cases hin:dp+d≤i∧i - (dp+d)<(vs.length:Int)
   ·rw[if_pos hin] at hv;obtain⟨v,hx⟩:=A1 (l:=vs) (i:=(i - (dp+d)).toNat) Au;have hsv:=V.sz v (List.mem_of_getElem? hx);rw[ON h7 hk hin.1 hin.2 hx];have hr:ME vs dp (.mk k i n l ks) d=Iy (wr (dp+d)) 0 v:=TG Au (by rw[hv];exact hx);rw[show wr (dp+d)=dp+d from ES (by unfold JY;omega),gO Au Au (O6 V.wt hx) (Nt V.vp hx) hsv] at hr;unfold El;by_cases he:(CS (dp+d) 0 0 0 v).2=0
    ·rw[if_pos he] at hr;rw[if_pos he];exact Fj (Kl hk hr)
    rw[if_neg he] at hr;rw[if_neg he];exact HD (K3 hk hr)
   rw[if_neg hin] at hv;have e1:wr (i - d)=i - d:=ES (by unfold JY;omega);by_cases hge:i≥dp+d
   ·rw[P9 h7 hk hge Au];have hr:ME vs dp (.mk k i n l ks) d=Il (wr (i - vs.length)):=XR Au (by rw[e1];omega);unfold Il at hr;unfold El MZ Gi;by_cases hbig:wr (i - vs.length) > 65535
    ·rw[if_pos hbig] at hr;simp only[hbig,if_true];exact HD (K3 hk hr)
    rw[if_neg hbig] at hr;simp only[hbig,if_false,if_true];exact Fj (Kl hk hr)
   rw[OQ h7 hk hge];have hr:ME vs dp (.mk k i n l ks) d= .ok (.mk k i n l []):=Zt Au (by rw[e1];omega);subst hks;exact Fj (Kl hk hr)
  rw[M5 h7 hk] at h6 ⊢;have hs:d+BB ks<2199023255551:=by simp only[size] at h4;omega
  have e1:wr (nd+1)=nd+1:=ES (by unfold JY;omega);simp only at h6 ⊢;rw[e1] at h6 ⊢;have hL:=aC V k ks d 0 (nd+1) h1.2.2 h2.2 h3 hs Au h6;unfold F8 at hL;unfold El;by_cases he:(Cc vs k (dp+d) 0 0 (nd+1) ks).2.1=0
  ·rw[if_pos he] at hL;rw[if_pos he];exact IC (Lk hk) hL
  rw[if_neg he] at hL;rw[if_neg he];exact JP (Lk hk) hL
theorem aC {vs:List Tm}{dp:Int}(V:Rf vs dp) (k:Int):∀(ts:List Tm) (d:Int) (j:Nat) (nd:Int),MY ts→Uh ts→0≤d→d+BB ts<2199023255551→0≤nd→(Cc vs k (dp+d) j 0 nd ts).2.2≤4096→Dw (KW (ME vs dp)) k j ts d ()=F8 ((Cc vs k (dp+d) j 0 nd ts).1,(Cc vs k (dp+d) j 0 nd ts).2.1)
 | [],d,j,nd,h1,h2,h3,h4,h5,h6=>rfl
 | t::ts,d,j,nd,h1,h2,h3,h4,h5,h6=>by
  have hbl:=Cx k j;simp only[BB] at h4;have h7:nd≤4096:=by
   rcases Int.lt_or_le 4096 nd with h | h
   ·rw[Kb h] at h6;simp only at h6;omega
   exact h
  have hm:=(Kq 1099511627776 Au Au t vs (dp+d+below k j) 0 nd h1.1 V.wt V.size h5 Au);unfold Cc at h6;simp only at h6;have hm2:=(Lv 1099511627776 Au Au ts vs k (dp+d) (j+1) (B2 vs (dp+d+below k j) 0 nd t).2.1 (B2 vs (dp+d+below k j) 0 nd t).2.2 h1.2 V.wt V.size Au hm.2.1).1;have hT:=dO V t (d+below k j) nd h1.1 h2.1 Au Au h5 (by rw[show dp+(d+below k j)=dp+d+below k j by omega];omega);rw[show dp+(d+below k j)=dp+d+below k j by omega] at hT;unfold Dw Cc;rw[hT];simp only;unfold El F8 Ea;by_cases he:(B2 vs (dp+d+below k j) 0 nd t).2.1=0
  ·have hL:=aC V k ts d (j+1) (B2 vs (dp+d+below k j) 0 nd t).2.2 h1.2 h2.2 h3 Au Au (by rw[he] at h6;exact h6);simp only;rw[if_pos he];simp only;rw[hL,he];unfold F8;by_cases hq:(Cc vs k (dp+d) (j+1) 0 (B2 vs (dp+d+below k j) 0 nd t).2.2 ts).2.1=0
   ·simp only[hq,if_true]
   simp only[hq,if_false]
  simp only;rw[if_neg he];simp only;rw[La vs k ts (dp+d) (j+1) _ _ he,if_neg he]
end
theorem iX {t:Tm}{vs:List Tm}{dp:Int}(V:Rf vs dp) (h1:Wt t) (h2:Vp t) (h3:size t<1099511627776):Hh t vs dp=B9 t vs dp:=by
 have:=V.lo;have:=V.hi;have hmin:min dp 65536=dp:=by omega
 obtain⟨g1,g2⟩:=eR V t 0 0 0 h1 h2 Au Au Au Au;rw[Int.add_zero] at g1 g2;unfold B9;rw[hmin];by_cases hbig:(B2 vs dp 0 0 t).2.2 > 4096
 ·rw[if_pos hbig];exact Jn (RX (g1 hbig))
 rw[if_neg hbig];obtain⟨z,hz⟩:=g2 Au;have hr:=dO V t 0 0 h1 h2 Au Au Au (by rw[Int.add_zero];omega);rw[Int.add_zero] at hr;unfold El at hr;simp only at hr;by_cases he:(B2 vs dp 0 0 t).2.1=0
 ·rw[if_pos he] at hr;rw[if_neg Au];by_cases hd:FU (B2 vs dp 0 0 t).1 > 200
  ·rw[if_pos hd];exact Q6 (NW hz hr) hd
  rw[if_neg hd];exact Vu (NW hz hr) hd
 rw[if_neg he] at hr;rw[if_pos he];exact Jn (RG hz hr)
theorem lP {i:Int}(h0:0≤i) (h1:i≤65535):Vp (Cs i):=⟨fun _=>⟨h0,by omega⟩,trivial⟩
theorem XP:Vp BN:=⟨fun _=>⟨by omega,by omega⟩,trivial⟩
mutual
theorem Wc (b:Int) (hb:0≤b) (hb2:b<4398046511104):∀(t:Tm) (d:Int),Vp t→0≤d→d+size t<4398046511104→(CS b 0 d 0 t).2=0→Vp (CS b 0 d 0 t).1
 | .mk k i n l ks,d,h,hd,hd2,he=>by
  by_cases hk:k=0
  ·have hi:=h.1 hk;have e1:wr (0+d)=d:=by rw[Int.zero_add];exact ES (by unfold JY;omega)
   have e2:wr (i+b)=i+b:=ES (by unfold JY;omega);unfold CS at he ⊢;rw[if_pos hk,e1,e2] at he ⊢;by_cases hlo:i<d
   ·rw[if_pos hlo];exact h
   rw[if_neg hlo,if_neg Au] at he ⊢;unfold MZ Gi at he;by_cases hbig:i+b > 65535
   ·simp[hbig] at he
   exact lP Au Au
  unfold CS at he ⊢;rw[if_neg hk] at he ⊢;simp only[size] at hd2;exact⟨fun h=>absurd h hk,SM b hb hb2 k ks d 0 h.2 hd Au he⟩
theorem SM (b:Int) (hb:0≤b) (hb2:b<4398046511104) (k:Int):∀(ts:List Tm) (d:Int) (j:Nat),Uh ts→0≤d→d+BB ts<4398046511103→(Cq b 0 k d j 0 ts).2=0→Uh (Cq b 0 k d j 0 ts).1
 | [],d,j,h,hd,hd2,he=>trivial
 | t::ts,d,j,h,hd,hd2,he=>by
  have hbl:=Cx k j;simp only[BB] at hd2;unfold Cq at he ⊢;simp only at he ⊢;have h0:(CS b 0 (d+below k j) 0 t).2=0:=by
   rcases Decidable.em ((CS b 0 (d+below k j) 0 t).2=0) with h | h
   ·exact h
   rw[Ii b 0 k ts d (j+1) _ h] at he;exact he
  rw[h0] at he ⊢;exact⟨Wc b hb hb2 t _ h.1 Au Au h0,SM b hb hb2 k ts d (j+1) h.2 hd Au he⟩
end
mutual
theorem V3 {vs:List Tm}{dp:Int}(V:Rf vs dp):∀(t:Tm) (d nd:Int),Vp t→0≤d→d+size t<2199023255552→(B2 vs (dp+d) 0 nd t).2.1=0→Vp (B2 vs (dp+d) 0 nd t).1
 | .mk k i n l ks,d,nd,h,h3,h4,he=>by
  have:=V.lo;have:=V.hi;have:=V.len;rcases Int.lt_or_le 4096 nd with h7 | h7
  ·rw[OR h7];exact h
  by_cases hk:k=0
  ·have hi:=h.1 hk;by_cases hin:dp+d≤i∧i - (dp+d)<(vs.length:Int)
   ·obtain⟨v,hx⟩:=A1 (l:=vs) (i:=(i - (dp+d)).toNat) Au;have hsv:=V.sz v (List.mem_of_getElem? hx);rw[ON h7 hk hin.1 hin.2 hx] at he ⊢;exact Wc _ Au Au v 0 (Nt V.vp hx) Au Au he
   by_cases hge:i≥dp+d
   ·rw[P9 h7 hk hge Au] at he ⊢;have e:wr (i - vs.length)=i - vs.length:=ES (by unfold JY;omega);simp only[e] at he ⊢;unfold MZ Gi at he;by_cases hbig:i - (vs.length:Int) > 65535
    ·simp[hbig] at he
    exact lP Au Au
   rw[OQ h7 hk hge];exact h
  rw[M5 h7 hk] at he ⊢;simp only[size] at h4;exact⟨fun h=>absurd h hk,UF V k ks d 0 _ h.2 h3 Au he⟩
theorem UF {vs:List Tm}{dp:Int}(V:Rf vs dp) (k:Int):∀(ts:List Tm) (d:Int) (j:Nat) (nd:Int),Uh ts→0≤d→d+BB ts<2199023255551→(Cc vs k (dp+d) j 0 nd ts).2.1=0→Uh (Cc vs k (dp+d) j 0 nd ts).1
 | [],d,j,nd,h,h3,h4,he=>trivial
 | t::ts,d,j,nd,h,h3,h4,he=>by
  have hbl:=Cx k j;simp only[BB] at h4;unfold Cc at he ⊢;simp only at he ⊢;have h0:(B2 vs (dp+d+below k j) 0 nd t).2.1=0:=by
   rcases Decidable.em ((B2 vs (dp+d+below k j) 0 nd t).2.1=0) with h | h
   ·exact h
   rw[La vs k ts _ (j+1) _ _ h] at he;exact he
  rw[h0] at he ⊢;rw[show dp+d+below k j=dp+(d+below k j) by omega] at he h0 ⊢;exact⟨V3 V t _ nd h.1 Au Au h0,UF V k ts d (j+1) _ h.2 h3 Au he⟩
end
theorem ib {vs:List Tm}{dp:Int}(V:Rf vs dp) {t:Tm}(h:Vp t) (hs:size t<1099511627776):Vp (B9 t vs dp).1:=by
 have:=V.lo;have:=V.hi;have hmin:min dp 65536=dp:=by omega
 unfold B9;rw[hmin];split
 ·exact XP
 split
 ·exact XP
 rename_i hne;split
 ·exact XP
 have:=V3 V t 0 0 h Au Au (by rw[Int.add_zero];exact Decidable.not_not.1 hne);rw[Int.add_zero] at this;exact this
structure SA where
 dn:List (Int×Tm)
 op:List Int
 wk:Int
def Kv (F:SA→Tm→Except Int (Tm×SA)):SA→List Tm→Except Int (List Tm×SA)
 | st,[]=> .ok ([],st)
 | st,t::ts=>Ea (F st t) fun r=>Ea (Kv F r.2 ts) fun q=> .ok (r.1::q.1,q.2)
structure Ok (S:Nat) (t:Tm):Prop where
 nd:Nd t
 vp:Vp t
 wt:Wt t
 sz:size t≤S
section
variable {F:SA→Tm→Except Int (Tm×SA)}{ms:List Mv}{st st':SA}{i e:Int}{z:Tm}
end
def Xk (F:SA→Tm→Except Int (Tm×SA)) (ts:List Tm) (q0:SA) (i:Nat) (ys:List Tm) (q:SA):Prop :=
 ys.length=i∧Kv F q0 ts=Ea (Kv F q (ts.drop i)) fun r=> .ok (ys++r.1,r.2)
section
variable {F:SA→Tm→Except Int (Tm×SA)}{ts ys:List Tm}{q0 q q':SA}{i:Nat}{x y:Tm}{e:Int}
theorem Xk.zero (F:SA→Tm→Except Int (Tm×SA)) (ts:List Tm) (q0:SA):Xk F ts q0 0 [] q0:=by
 refine⟨O,?_⟩;simp only[List.drop_zero,Ea];cases Kv F q0 ts<;>simp
theorem Xk.err (h:Xk F ts q0 i ys q) (hx:ts[i]?=some x) (hb:F q x= .error e):Kv F q0 ts= .error e:=by
 rw[h.2,Cd hx,Kv,hb];rfl
theorem Xk.succ (h:Xk F ts q0 i ys q) (hx:ts[i]?=some x) (hb:F q x= .ok (y,q')):Xk F ts q0 (i+1) (ys++[y]) q':=by
 refine⟨by simp[h.1],?_⟩;rw[h.2,Cd hx,Kv,hb];simp only[Ea];cases Kv F q' (ts.drop (i+1))<;>simp
theorem Xk.fin (h:Xk F ts q0 i ys q) (hi:ts.length≤i):Kv F q0 ts= .ok (ys,q):=by
 rw[h.2,List.drop_eq_nil_of_le hi,Kv];simp[Ea]
end
section
variable {ms:List Mv}{n:Nat}{dn:List (Int×Tm)}{op:List Int}{wk e:Int}{t v vv z h:Tm}{us ls ks:List Tm}{st1 st2:SA}
end
end Go.Eu
namespace Go.Abs
def pq {β:Type}(mkv:β→AV) (mkH:β→List A4):EG→List A4→Prop
 | .val v,H'=>∃b,v=mkv b∧H'=mkH b
 | .panic _,_=>False
section
variable {P:Program}{ops:Array Oper}{n:Nat}{τ₀ τ:Nat→AV}{D:List D4}{Q:Cj→BM→Prop}{opn:Nat→Bool}{k:Nat}{H:List A4}{dst:Option Tmp}{ty:TypeId}{pos:String}{aft:Array Edge}{c:Call}{f:Operand}{fid:FuncId}{first caps A:List AV}{β:Type}{mkv:β→AV}{mkH:β→List A4}
theorem dv {r:Option Nat}(ho:ops[k]?=some ⟨dst,.call c,ty,pos,aft,none⟩) (hd:Gj dst n=true)
  (hc:c.callee= .value f) (hf:(ev τ f= .p (.fn fid)∧first=[]∧caps=[])∨ev τ f= .fn (.func fid) first caps) (h:BL P fid A [] (pq mkv mkH)) (hA:Fc (first++c.args.toList.map (ev τ)++caps) A)
  (next:∀b,AL P r ops (k+1) ⟨n,put τ dst (mkv b),mkH b++H,D⟩ Q):AL P r ops k ⟨n,τ,H,D⟩ Q :=
 Jj ho hd hc hf (Hs:=[]) (Hf:=H) Av (h.args hA) (.inl rfl) (fun v Hs' ⟨b,h1,h2⟩=>by subst h1;subst h2;exact next b) (fun _ _ h=>h.elim)
end
end Go.Abs
namespace Go.Eu
open Go.Abs
mutual
def TP (p:Int→Int→ByteArray→List CX→Prop):Tm→Prop
 | .mk k i n l ks=>p k i n l∧qR p ks
def qR (p:Int→Int→ByteArray→List CX→Prop):List Tm→Prop
 | []=>True
 | t::ts=>TP p t∧qR p ts
end
section
variable {p q:Int→Int→ByteArray→List CX→Prop}
mutual
theorem TP.imp (h:∀k i n l,p k i n l→q k i n l):∀(t:Tm),TP p t→TP q t
 | .mk k i n l ks,ht=>⟨h _ _ _ _ ht.1,qR.imp h ks ht.2⟩
theorem qR.imp (h:∀k i n l,p k i n l→q k i n l):∀(ts:List Tm),qR p ts→qR q ts
 | [],_=>trivial
 | t::ts,ht=>⟨TP.imp h t ht.1,qR.imp h ts ht.2⟩
end
end
def yL (ms:List Mv) (D:List Int) (k i:Int) (n:ByteArray) (l:List CX):Prop:=known ms (.mk k i n l [])=true→i∈D
abbrev KM (ms:List Mv) (D:List Int):Tm→Prop:=TP (yL ms D)
abbrev wy (ms:List Mv) (D:List Int):List Tm→Prop:=qR (yL ms D)
theorem KM.mono {ms:List Mv}{D D':List Int}(h:∀i∈D,i∈D') {t:Tm}(ht:KM ms D t):KM ms D' t:=TP.imp (fun k i n l g e=>h _ (g e)) t ht
theorem wy.mono {ms:List Mv}{D D':List Int}(h:∀i∈D,i∈D') {t:List Tm}(ht:wy ms D t):wy ms D' t:=qR.imp (fun k i n l g e=>h _ (g e)) t ht
theorem KM.head {ms:List Mv}{D:List Int}{h:Tm}(hk:known ms h=true) (ht:KM ms D h):h.index∈D:=by
 obtain⟨k,i,n,l,ks⟩:=h;exact ht.1 hk
theorem KM.kids {ms:List Mv}{D:List Int}{h:Tm}(ht:KM ms D h):wy ms D h.kids:=by
 obtain⟨k,i,n,l,ks⟩:=h;exact ht.2
inductive Ord (ms:List Mv):List Int→Prop
 | nil:Ord ms []
 | snoc {D:List Int} {i:Int}:Ord ms D→i ∉ D→KM ms D (valueOf ms i)→Ord ms (D++[i])
theorem Ord.pre {ms:List Mv}{D:List Int}(h:Ord ms D):∀i∈D,∃D',Ord ms D'∧(∀j∈D',j∈D)∧i ∉ D'∧KM ms D' (valueOf ms i):=by
 induction h with
 | nil=>intro i hi;simp at hi
 | @snoc D j h1 h2 h3 ih =>
  intro i hi;rcases List.mem_append.1 hi with hi | hi
  ·obtain⟨D',a,b,c,d⟩:=ih i hi;exact⟨D',a,fun j hj=>List.mem_append_left _ (b j hj),c,d⟩
  simp at hi;subst hi;exact⟨D,h1,fun j hj=>List.mem_append_left _ hj,h2,h3⟩
section
variable {F F':Dn→Tm→Tm×Int×Dn}
end
def wj (st:SA):List Int:=st.dn.map Prod.fst
def xS (ms:List Mv) (t v:Tm):Prop:=∃n ab c d,Y9 ms n ab c t=(v,0,d)∧d.over=false
structure xz (ms:List Mv) (ab:List Int) (st:SA):Prop where
 op:∀i,i∈st.op↔i∈wj st∨i∈ab
 ord:Ord ms (wj st)
 dis:∀i∈wj st,i ∉ ab
 val:∀p∈st.dn,xS ms (valueOf ms p.1) p.2
 ok:∀p∈st.dn,Ok 4096 p.2
 w0:0≤st.wk
def pot (ms:List Mv) (B:Nat) (st:SA):Int:=st.wk+(B*free ms st.op:Nat)
structure Step (ms:List Mv) (B:Nat) (ab:List Int) (st st':SA) (s:Nat):Prop where
 inv:xz ms ab st'
 mono:∀i∈wj st,i∈wj st'
 pot:pot ms B st'≤pot ms B st+s
theorem Step.trans {ms:List Mv}{B:Nat}{ab:List Int}{a b c:SA}{s s':Nat}(h:Step ms B ab a b s) (h':Step ms B ab b c s'):Step ms B ab a c (s+s') :=
 ⟨h'.inv,fun i hi=>h'.mono i (h.mono i hi),by have:=h.pot;have:=h'.pot;omega⟩
theorem Step.le {ms:List Mv}{B:Nat}{ab:List Int}{a b:SA}{s s':Nat}(h:Step ms B ab a b s) (hs:s≤s'):Step ms B ab a b s':=⟨h.inv,h.mono,by have:=h.pot;omega⟩
abbrev wide:Nat:=9223372036854775808
structure ud (l:CX):Prop where
 vars:l.vars.length<wide
 c:JY l.const
 v:∀v∈l.vars,JY v.index∧JY v.plus
mutual
def Wd:Tm→Prop
 | .mk k i n ls ks=>n.size<wide∧ls.length<wide∧(∀l∈ls,ud l)∧ks.length<wide∧nc ks∧JY k∧JY i
def nc:List Tm→Prop
 | []=>True
 | t::ts=>Wd t∧nc ts
end
theorem Rw:∀{ts:List Tm}{i:Nat}{t:Tm},nc ts→ts[i]?=some t→Wd t
 | [],i,t,_,h=>by simp at h
 | a::ts,0,t,hn,h=>by simp at h;subst h;exact hn.1
 | a::ts,i+1,t,hn,h=>by simp at h;exact Rw hn.2 h
mutual
def Fw:Tm→Prop
 | .mk k i n ls ks=>n.size≤200∧ls.length≤20∧(∀l∈ls,l.vars.length≤20)∧wW ks
def wW:List Tm→Prop
 | []=>True
 | t::ts=>Fw t∧wW ts
end
theorem j8:∀{ts:List Tm},(∀t∈ts,Fw t)→wW ts
 | [],_=>trivial
 | t::ts,h=>⟨h t Av,j8 fun x hx=>h x (by simp[hx])⟩
def ie:Tm→Prop
 | .mk k i n ls ks=>n.size≤200∧ls.length≤20∧(∀l∈ls,l.vars.length≤20)∧BB ks≤200∧M6 ks∧wW ks
theorem uZ {t:Tm}(h:Wd t) (hf:ie t):Nd t:=by
 obtain⟨k,i,n,ls,ks⟩:=t;obtain⟨h1,h2,h3,h4,h5⟩:=hf;have:=Fl ks;exact⟨by simp only[Db];omega,by simp only[Db];omega,fun l hl=>⟨by have:=h3 l hl;simp only[Db];omega,(h.2.2.1 l hl).c,(h.2.2.1 l hl).v⟩,by simp only[Db];omega,h5.1,h.2.2.2.2.2⟩
mutual
theorem Qx:∀(t:Tm) (most:Int),-1152921504606846976≤most→most≤1152921504606846976→(size t:Int)≤1152921504606846976→0≤E8 t most∧E8 t most<size t∧(E8 t most≤most→E8 t most+1=size t)
 | .mk k i n l ks,most,h1,h2,h3=>by
  simp only[size] at h3 ⊢;unfold E8;have:=Qr ks most 0 h1 h2 Au Au;exact⟨this.1,by omega,fun h=>by have:=this.2.2 h;omega⟩
theorem Qr:∀(ts:List Tm) (most n:Int),-1152921504606846976≤most→most≤1152921504606846976→0≤n→n+BB ts≤1152921504606846976→n≤Ew ts most n∧Ew ts most n≤n+BB ts∧(Ew ts most n≤most→Ew ts most n=n+BB ts)
 | [],most,n,h1,h2,h3,h4=>by simp[Ew,BB]
 | t::ts,most,n,h1,h2,h3,h4=>by
  simp only[BB] at h4 ⊢;have hp:=size_pos t;unfold Ew;by_cases hm:n > most
  ·rw[if_pos hm];exact⟨by omega,by omega,by omega⟩
  rw[if_neg hm];have e1:wr (most - n)=most - n:=ES ⟨by omega,by omega⟩;have hT:=Qx t (most - n) Au Au Au;rw[e1];have e2:wr (1+E8 t (most - n))=1+E8 t (most - n):=ES ⟨by omega,by omega⟩;rw[e2];have e3:wr (n+(1+E8 t (most - n)))=n+(1+E8 t (most - n)):=ES ⟨by omega,by omega⟩;rw[e3];have hL:=Qr ts most (n+(1+E8 t (most - n))) h1 h2 Au Au;refine⟨by omega,by omega,fun h=>?_⟩;have:=hL.2.2 h;have:=hT.2.2 Au;omega
end
theorem jZ {t:Tm}(h:ie t):size t≤201:=by
 obtain⟨k,i,n,ls,ks⟩:=t;have:=h.2.2.2.1;simp only[size];omega
theorem VN:∀(ts:List Tm) (most n:Int),0≤most→most≤1000→0≤n→n≤3000→(∀t∈ts,size t≤201)→n≤Ew ts most n
 | [],most,n,h1,h2,h3,h4,hs=>by simp[Ew]
 | t::ts,most,n,h1,h2,h3,h4,hs=>by
  have ht:=hs t Av;unfold Ew;by_cases hm:n > most
  ·rw[if_pos hm];omega
  rw[if_neg hm];have e1:wr (most - n)=most - n:=ES ⟨by omega,by omega⟩;have hT:=Qx t (most - n) Au Au Au;rw[e1];have e2:wr (1+E8 t (most - n))=1+E8 t (most - n):=ES ⟨by omega,by omega⟩;rw[e2];have e3:wr (n+(1+E8 t (most - n)))=n+(1+E8 t (most - n)):=ES ⟨by omega,by omega⟩;rw[e3];have hge:=VN ts most (n+(1+E8 t (most - n))) h1 h2 Au Au (fun x hx=>hs x (by simp[hx]));omega
theorem Vj:∀(ts:List Tm) (most n:Int),0≤most→most≤1000→0≤n→n≤3000→(∀t∈ts,size t≤201)→Ew ts most n≤most→Ew ts most n=n+BB ts
 | [],most,n,h1,h2,h3,h4,hs,h=>by simp[Ew,BB]
 | t::ts,most,n,h1,h2,h3,h4,hs,h=>by
  have ht:=hs t Av;simp only[BB];unfold Ew at h ⊢;by_cases hm:n > most
  ·rw[if_pos hm] at h;omega
  rw[if_neg hm] at h ⊢;have e1:wr (most - n)=most - n:=ES ⟨by omega,by omega⟩;have hT:=Qx t (most - n) Au Au Au;rw[e1] at h ⊢;have e2:wr (1+E8 t (most - n))=1+E8 t (most - n):=ES ⟨by omega,by omega⟩;rw[e2] at h ⊢;have e3:wr (n+(1+E8 t (most - n)))=n+(1+E8 t (most - n)):=ES ⟨by omega,by omega⟩;rw[e3] at h ⊢;have hL:=Vj ts most (n+(1+E8 t (most - n))) h1 h2 Au Au (fun x hx=>hs x (by simp[hx])) h;have hge:=VN ts most (n+(1+E8 t (most - n))) h1 h2 Au Au (fun x hx=>hs x (by simp[hx]));have:=hT.2.2 Au;omega
structure dC (l:List Tm):Prop where
 sz:BB l≤200
 nd:M6 l
 fw:wW l
theorem q9 {l:List Tm}{m:Nat}(hm:l.length≤m) (hw:nc l) (hl:l.length<wide) (h:Ew l 200 0≤200) (hc:∀j,j<m→∀t,l[j]?=some t→ie t):dC l:=by
 have hf:∀t∈l,ie t:=fun t ht=>by
  obtain⟨i,hi⟩:=MF ht;exact hc i (by have:=(List.getElem?_eq_some_iff.1 hi).1;omega) t hi
 have:=Vj l 200 0 Au Au Au Au (fun t ht=>jZ (hf t ht)) h;exact⟨by omega,cU fun t ht=>by
  obtain⟨i,hi⟩:=MF ht;exact uZ (Rw hw hi) (hf t ht),j8 fun t ht=>by
  obtain⟨k,i,n,ls,ks⟩:=t;have h5:=hf _ ht;exact⟨h5.1,h5.2.1,h5.2.2.1,h5.2.2.2.2.2⟩⟩
theorem YV {l:List Tm}{m:Int}(hf:dC l) (hm:0≤m∧m≤1000) (h:Ew l m 0≤m):(BB l:Int)≤m:=by
 have:=hf.sz;have:=(Qr l m 0 Au Au Au Au).2.2 h;omega
theorem Ok.mono {B B':Nat}{t:Tm}(h:Ok B t) (hb:B≤B'):Ok B' t:=⟨h.nd,h.vp,h.wt,Nat.le_trans h.sz hb⟩
end Go.Eu
