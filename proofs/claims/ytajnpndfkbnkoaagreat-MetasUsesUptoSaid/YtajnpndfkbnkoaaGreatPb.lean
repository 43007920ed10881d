/- Part of the proofs: an abstract program logic, plain models and contracts of functions. -/
import Derived.Test.YtajnpndfkbnkoaaGreatPa
import Derived.MapKept
import Derived.ProofKit
set_option linter.unusedVariables false
set_option linter.unusedSimpArgs false
namespace Go.Abs
section
variable {P:Program}{ops:Array Oper}{n:Nat}{τ₀:Nat→AV}{D:List Cb}{Q:Bd→As→Prop}{opn:Nat→Bool}{k:Nat}{τ:Nat→AV}{H:List Aj}{rd:Ot}{ef:O7}{effs:List Bool}{fx:List (Nat×Sp)}{dst:Option Tmp}{op:Op}{ty:TypeId}{pos:String}{aft:Array Edge}{v:AV}{H':List Aj}
theorem Nk {cs:List AV}(fx':List (Nat×Sp)) (ho:ops[k]?=some ⟨dst,op,ty,pos,aft,none⟩) (hn:opn k=true) (h:CL P ⟨dst,op,ty,pos,aft,none⟩ (ev τ) H (Hl cs H)) (haft:Ct ops k (fx'.map (·.1))=true)
  (next:∀b,GJ ops k H (.box b cs::H) rd∧D6 k (.eff (.ptr b 0) (.box b cs::H)) fx∧Dr P ops n τ₀ D Q opn (k+1) (put τ dst (.ptr b 0)) (.box b cs::H) rd ((k,H,.box b cs::H)::ef) (true::effs) (fx'++fx)):Dr P ops n τ₀ D Q opn k τ H rd ef effs fx :=
 Jh fx' ho hn h haft ⟨_,_,0,rfl,rfl⟩ (fun _ _ h=>h.elim) (fun v H' ⟨b,h1,h2⟩=>by subst h1;subst h2;exact next b)
theorem Y7 {i sz:Nat}{rows:List (List PV)}(fx':List (Nat×Sp)) (ho:ops[k]?=some ⟨dst,op,ty,pos,aft,none⟩) (hn:opn k=true) (h:CL P ⟨dst,op,ty,pos,aft,none⟩ (ev τ) H (Kq i sz rows H)) (haft:Ct ops k (fx'.map (·.1))=true)
  (next:∀o c,GJ ops k H (H.set i (.vec o sz rows c)) rd∧D6 k (.eff (.vs o rows.length c) (H.set i (.vec o sz rows c))) fx∧Dr P ops n τ₀ D Q opn (k+1) (put τ dst (.vs o rows.length c)) (H.set i (.vec o sz rows c)) rd ((k,H,H.set i (.vec o sz rows c))::ef) (true::effs) (fx'++fx)):Dr P ops n τ₀ D Q opn k τ H rd ef effs fx :=
 Jh fx' ho hn h haft ⟨_,_,none,0,rfl,rfl⟩ (fun _ _ h=>h.elim) (fun v H' ⟨o,c,h1,h2⟩=>by subst h1;subst h2;exact next o c)
def Pa (v:AV) (H':List Aj):DL→List Aj→Prop
 | .val v',H''=>v'=v∧H''=H'
 | .panic _,_=>False
theorem aT {c:Call}{g:Option (Nat×Bool)}{f:Operand}{fid:FuncId}{first caps:List AV}{ρ:Operand→AV}{Hs Hf Hs':List Aj}{A:List AV}
  (hc:c.callee= .value f) (hf:(ρ f= .p (.fn fid)∧first=[]∧caps=[])∨ρ f= .fn (.func fid) first caps) (hp:H.Perm (Hs++Hf)) (h:BO P fid A Hs (Pa v Hs')) (hA:first++c.args.toList.map ρ++caps=A∨(first++c.args.toList.map ρ++caps).map norm=A) :
  Ce P ⟨dst,.call c,ty,pos,aft,g⟩ ρ H v (Hs'++Hf):=by
 refine(FQ (H:=H) hc hf hp h hA).mono ?_;rintro r H' ⟨Hs',h1,rfl⟩;cases r with
 | val v'=>obtain⟨rfl,rfl⟩:=h1;exact⟨rfl,rfl⟩
 | panic v'=>exact h1
end
def GQ (k:Int):List (Int×AV)→Option AV
 | []=>none
 | (j,x)::r=>if j=k then some x else GQ k r
def JU (k:Int) (v:AV):List (Int×AV)→List (Int×AV)
 | []=>[(k,v)]
 | (j,x)::r=>if j=k then (j,v)::r else (j,x)::JU k v r
def B8 (l:List (Int×AV)):List (PV×AV):=l.map fun p=>(.int .i64 p.1,p.2)
def mapOf (P:Program) (T:TypeId):Option TypeId :=
 match P.underlying T with
 | some (.map k e)=>match P.underlying k with
  | some (.int .i64)=>some e
  | _=>none
 | _=>none
theorem KH {P:Program}{T e:TypeId}(h:mapOf P T=some e):∃k,P.underlying T=some (.map k e)∧P.underlying k=some (.int .i64):=by grind [mapOf]
section
variable {F:Nat→Prop}{w:World}
theorem Ki {k:Int}:∀{l:List (Int×AV)}{es:List MapEntry}(i:Nat),Cg F w (B8 l) es →
  (GQ k l=none∧Instr.findNow (.int .i64) (.int .i64 k) es i=some none)∨∃j e x,GQ k l=some x∧Instr.findNow (.int .i64) (.int .i64 k) es i=some (some (i+j,e.val))∧es[j]?=some e∧e.key= .int .i64 k∧BP F w x e.val
 | [],es,i,h=>by simp only[B8,List.map_nil,Cg] at h;subst h;exact .inl ⟨rfl,rfl⟩
 | (j,x)::l,es,i,h=>by
  simp only[B8,List.map_cons,Cg] at h;obtain⟨e,es',rfl,hk,hx,hr⟩:=h;simp only[BN] at hk;by_cases hj:j=k
  ·subst hj;exact .inr ⟨0,e,x,by simp[GQ],by simp[Instr.findNow,hk,Instr.sameNow],rfl,hk,hx⟩
  have hne:(k==j)=false:=by simp[Ne.symm hj]
  rcases Ki (k:=k) (i+1) hr with ⟨h1,h2⟩ | ⟨q,e',x',h1,h2,h3,h4,h5⟩
  ·exact .inl ⟨by simp[GQ,hj,h1],by simp[Instr.findNow,hk,Instr.sameNow,hne,h2]⟩
  exact .inr ⟨q+1,e',x',by simp[GQ,hj,h1],by simp[Instr.findNow,hk,Instr.sameNow,hne,h2];omega,by simpa using h3,h4,h5⟩
theorem TM {k:Int}:∀{l:List (Int×AV)}{es:List MapEntry},Cg F w (B8 l) es→GQ k l=none→∀x∈es,x.key≠ .int .i64 k
 | [],es,h,_=>by
  simp only[B8,List.map_nil,Cg] at h;subst h;simp
 | (j,v)::l,es,h,hm=>by
  simp only[B8,List.map_cons,Cg] at h;obtain⟨e,es',rfl,hk,hv,hr⟩:=h;simp only[GQ] at hm;split at hm
  ·cases hm
  rename_i q;intro x hx;rcases List.mem_cons.1 hx with rfl | hx
  ·simp only[BN] at hk;rw[hk];intro e;injection e with _ e2;exact q e2
  exact TM hr hm x hx
theorem Sb {k:Int}{v:AV}{u:Value}{c:Nat}:∀{l:List (Int×AV)}{es:List MapEntry},Cg F w (B8 l) es→GQ k l=none→BP F w v u→Cg F w (B8 (JU k v l)) (es++[{ key:= .int .i64 k,val:=u,born:=c }])
 | [],es,h,_,hv=>by
  simp only[B8,List.map_nil,Cg] at h;subst h;simp only[JU,B8,List.map_cons,List.map_nil,List.nil_append,Cg];exact⟨_,[],O,by simp[BN],hv,rfl⟩
 | (j,x)::l,es,h,hm,hv=>by
  simp only[B8,List.map_cons,Cg] at h;obtain⟨e,es',rfl,hk,hx,hr⟩:=h;by_cases hj:j=k
  ·simp[GQ,hj] at hm
  simp only[GQ,if_neg hj] at hm;simp only[JU,if_neg hj,B8,List.map_cons,List.cons_append,Cg];exact⟨e,_,O,hk,hx,Sb hr hm hv⟩
theorem VK {k:Int}{v:AV}{u:Value}:∀{l:List (Int×AV)}{es:List MapEntry}{j:Nat}(i:Nat) {y:Value},Cg F w (B8 l) es→Instr.findNow (.int .i64) (.int .i64 k) es i=some (some (i+j,y))→BP F w v u→Cg F w (B8 (JU k v l)) (es.modify j fun e=>{ e with key:= .int .i64 k,val:=u })
 | [],es,j,i,y,h,hf,_=>by simp only[B8,List.map_nil,Cg] at h;subst h;simp[Instr.findNow] at hf
 | (q,x)::l,es,j,i,y,h,hf,hv=>by
  simp only[B8,List.map_cons,Cg] at h;obtain⟨e,es',rfl,hk,hx,hr⟩:=h;simp only[BN] at hk;by_cases hj:q=k
  ·subst hj;simp[Instr.findNow,hk,Instr.sameNow] at hf;obtain⟨rfl,_⟩:j=0∧True:=⟨by omega,trivial⟩;simp only[JU,if_true,B8,List.map_cons,Cg];exact⟨_,es',O,by simp[BN],hv,hr⟩
  have hne:(k==q)=false:=by simp[Ne.symm hj]
  simp only[Instr.findNow,hk,Instr.sameNow,if_true,hne] at hf;cases j with
  | zero =>
   have:∀(es:List MapEntry) (m:Nat) (y:Value) (r:Nat),Instr.findNow (.int .i64) (.int .i64 k) es m=some (some (r,y))→m≤r:=by
    intro es
    induction es with
    | nil=>intro m y r h;simp[Instr.findNow] at h
    | cons e es ih =>
     intro m y r h;simp only[Instr.findNow] at h;split at h
     ·simp at h;omega
     ·have:=ih _ _ _ h;omega
     cases h
   have:=this _ _ _ _ hf;omega
  | succ j =>
   simp only[JU,if_neg hj,B8,List.map_cons,List.modify_succ_cons,Cg];exact⟨e,_,O,by simpa [BN] using hk,hx,VK (i+1) hr (by rw[show i+1+j=i+(j+1) by omega];exact hf) hv⟩
end
section
variable {P:Program}{dst:Option Tmp}{ty:TypeId}{pos:String}{aft:Array Edge}{g:Option (Nat×Bool)}{ρ:Operand→AV}{H:List Aj}{x y z:Operand}{v:AV}
def Xd (H:List Aj):DL→List Aj→Prop
 | .val v,H'=>∃b,v= .map b∧H'= .map b (B8 [])::H
 | .panic _,_=>False
theorem Iv {T:TypeId}:CL P ⟨dst,.makeMap T none,ty,pos,aft,g⟩ ρ H (Xd H) :=
 FN fun F w E hH hE=>by
  refine⟨.map (some w.heap.size),World.push w (.map #[] 0),.map w.heap.size,.map w.heap.size (B8 [])::H,_,?_,⟨_,O,O⟩,KT H _ _ (.inl O),MD hH _ _ O ?_,by simp[BP]⟩
  ·simp[execOp,Instr.makeMap,Sem.run_bind];rfl
  exact⟨#[],0,Ix _,MapKept.stamped_empty _,O⟩
theorem UR {T e : TypeId} {b i : Nat} {l : List (Int × AV)} {k : Int} {zv : Value} {za : AV} (hT : mapOf P T = some e) (hz : zeroOf P e = some zv) (hza : ∀ F w, BP F w za zv) (hx : ρ x = .map b) (hy : ρ y = .p (.int .i64 k)) (hi : H[i]? = some (.map b (B8 l))) :
  Ce P ⟨dst, .lookup T x y false, ty, pos, aft, g⟩ ρ H ((GQ k l).getD za) H :=
 BX fun F w E hH hE => by
  obtain ⟨kt, hu, hk⟩ := KH hT
  have h1 := hE x AW
  have h2 := hE y AW
  rw [hx] at h1
  rw [hy] at h2
  simp only [BP, BN] at h1 h2
  obtain ⟨es, clk, hb, hs0, hr⟩ := hH.obj _ (List.mem_of_getElem? hi)
  have hzv : (zeroValue e).run P w = .ok zv w := by
   unfold zeroOf at hz
   cases hi : P.info? e with
   | none => simp [hi] at hz
   | some i => have hz' : i.zero = some zv := by simpa [hi] using hz
               simp [zeroValue, typeInfo, hi, hz', Sem.run_bind]
  have hkey : MapKept.IsKey (.int .i64) (.int .i64 k) := rfl
  rcases Ki (k := k) 0 hr with ⟨h3, h4⟩ | ⟨j, e', x', h3, h4, h5, h6, h7⟩
  ·refine ⟨zv, ?_, by rw [h3]; exact hza F w⟩
   simp [execOp, Instr.lookup, Sem.run_bind, run_underlying hu, h1, h2, MapKept.run_getObj_map hb, MapKept.run_checkKey hk hkey, MapKept.run_findKey hk h4, hzv]
  refine ⟨e'.val, ?_, by rw [h3]; exact h7⟩
  simp [execOp, Instr.lookup, Sem.run_bind, run_underlying hu, h1, h2, MapKept.run_getObj_map hb, MapKept.run_checkKey hk hkey, MapKept.run_findKey hk h4]
theorem Q7 {T e : TypeId} {b i : Nat} {l : List (Int × AV)} {k : Int} {zv : Value} {za : AV} (hT : mapOf P T = some e) (hz : zeroOf P e = some zv) (hza : ∀ F w, BP F w za zv) (hx : ρ x = .map b) (hy : ρ y = .p (.int .i64 k)) (hi : H[i]? = some (.map b (B8 l))) :
  Ce P ⟨dst, .lookup T x y true, ty, pos, aft, g⟩ ρ H (.tup [(GQ k l).getD za, .p (.bool (GQ k l).isSome)]) H :=
 BX fun F w E hH hE => by
  obtain ⟨kt, hu, hk⟩ := KH hT
  have h1 := hE x AW
  have h2 := hE y AW
  rw [hx] at h1
  rw [hy] at h2
  simp only [BP, BN] at h1 h2
  obtain ⟨es, clk, hb, hs0, hr⟩ := hH.obj _ (List.mem_of_getElem? hi)
  have hzv : (zeroValue e).run P w = .ok zv w := by
   unfold zeroOf at hz
   cases hi : P.info? e with
   | none => simp [hi] at hz
   | some i => have hz' : i.zero = some zv := by simpa [hi] using hz
               simp [zeroValue, typeInfo, hi, hz', Sem.run_bind]
  have hkey : MapKept.IsKey (.int .i64) (.int .i64 k) := rfl
  rcases Ki (k := k) 0 hr with ⟨h3, h4⟩ | ⟨j, e', x', h3, h4, h5, h6, h7⟩
  ·refine ⟨.tuple #[zv, .bool false], ?_, ?_⟩
   ·simp [execOp, Instr.lookup, Sem.run_bind, run_underlying hu, h1, h2, MapKept.run_getObj_map hb, MapKept.run_checkKey hk hkey, MapKept.run_findKey hk h4, hzv]
   grind [BP, A6, BN]
  refine ⟨.tuple #[e'.val, .bool true], ?_, ?_⟩
  ·simp [execOp, Instr.lookup, Sem.run_bind, run_underlying hu, h1, h2, MapKept.run_getObj_map hb, MapKept.run_checkKey hk hkey, MapKept.run_findKey hk h4]
  grind [BP, A6, BN]
theorem He {T e:TypeId}{b i:Nat}{l:List (Int×AV)}{k:Int}{va:AV}(hT:mapOf P T=some e) (hx:ρ x= .map b) (hy:ρ y= .p (.int .i64 k)) (hz:ρ z=va) (hi:H[i]?=some (.map b (B8 l))) :
  Ce P ⟨dst,.mapUpdate T x y z,ty,pos,aft,g⟩ ρ H (.p .any) (H.set i (.map b (B8 (JU k va l)))) :=
 (Hj (R:=iB (.p .any) (H.set i (.map b (B8 (JU k va l))))) fun F w E hH hE=>by
  have ⟨kt,hu,hk⟩:=KH hT;have h1:=hE x AW;have h2:=hE y AW;have h0:=hE z AW;rw[hx] at h1;rw[hy] at h2;rw[hz] at h0;simp only[BP,BN] at h1 h2;have ⟨es,clk,hb,hs0,hr⟩:=hH.obj _ (List.mem_of_getElem? hi);have hFb:F b:=hH.sub _ (List.mem_of_getElem? hi) b rfl;have hlt:=hH.bd b hFb;have hkey:MapKept.IsKey (.int .i64) (.int .i64 k):=rfl;have fin:∀(es':Array MapEntry) (clk':Nat),MapKept.Stamped es' clk'→Cg F w (B8 (JU k va l)) es'.toList→Trans F H w F (H.set i (.map b (B8 (JU k va l)))) { w with heap:=w.heap.setIfInBounds b (.map es' clk') }∧HRel F (H.set i (.map b (B8 (JU k va l)))) { w with heap:=w.heap.setIfInBounds b (.map es' clk') }:=by
   intro es' clk' hs' hr';have hw:FZ b (.map es' clk') w { w with heap:=w.heap.setIfInBounds b (.map es' clk') }:=⟨rfl,rfl,rfl,rfl⟩;have st:=hw.stable hFb;exact⟨hw.trans hi O O,hw.HRel hH hi O O ⟨es',clk',hw.self hlt,hs',Cg.mono st _ _ hr'⟩⟩
  rcases Ki (k:=k) 0 hr with ⟨h3,h4⟩ | ⟨j,e',x',h3,h4,h5,h6,h7⟩
  ·have hr':=Sb (c:=clk) hr h3 h0;have ⟨f1,f2⟩:=fin (es.push { key:= .int .i64 k,val:=E z,born:=clk }) (clk+1) (MapKept.stamped_push hs0 (TM hr h3)) (by simpa using hr');refine⟨_,_,F,?_,⟨O,O⟩,f1,f2⟩;simp[execOp,Instr.mapUpdate,Sem.run_bind,run_underlying hu,h1,h2,MapKept.run_getObj_map hb,MapKept.run_checkKey hk hkey,MapKept.run_findKey hk h4,MapKept.run_setObj_map _ hb]
  have hr':=VK (v:=va) (u:=E z) 0 hr h4 h0;have ⟨f1,f2⟩:=fin (es.modify j fun e=>{ e with key:= .int .i64 k,val:=E z }) clk (MapKept.stamped_modify hs0 j _ (fun _ _=>rfl) (fun e _ he=>by rw[show es[j]?=some e' by simpa using h5] at he;cases he;exact h6.symm)) (by simpa using hr');refine⟨_,_,F,?_,⟨O,O⟩,f1,f2⟩;have h5':es[j]?=some e':=by simpa using h5
  simp[execOp,Instr.mapUpdate,Sem.run_bind,run_underlying hu,h1,h2,MapKept.run_getObj_map hb,MapKept.run_checkKey hk hkey,MapKept.run_findKey hk h4,MapKept.run_setObj_map _ hb,h5',h6,Instr.keyThatStays,Instr.sameBits])
theorem Fl {T:TypeId}{d:TypeDesc}{a b:Value}{c:Bool}{w:World}(hu:P.underlying T=some d) (h:(match d,a,b with
  | .bool,.bool x,.bool y=>some (x==y)
  | .interface _,.nilIface,.nilIface=>some true
  | .interface _,.iface _ _,.nilIface=>some false
  | .slice _,.slice none _ _,.slice none _ _=>some true
  | .slice _,.slice (some _) _ _,.slice none _ _=>some false
  | _,_,_=>none)=some c):(Op.equal T a b).run P w= .ok c w:=by
 unfold Op.equal;rw[show Op.maxDepth=9999+1 from rfl];unfold Op.equalIn;simp only[Sem.run_bind,run_underlying hu,Result.andThen_ok];split at h<;>simp_all
theorem OZ {a b:Bool}{T U:TypeId}(hu:P.underlying T=some .bool) (hx:ρ x= .p (.bool a)) (hy:ρ y= .p (.bool b)):Ce P ⟨dst,.binOp .eql T x y U,ty,pos,aft,g⟩ ρ H (.p (.bool (a==b))) H :=
 BX fun F w E hH hE=>by
  have e1:=hE x AW;have e2:=hE y AW;rw[hx] at e1;rw[hy] at e2;simp only[BP,BN] at e1 e2;refine⟨.bool (a==b),?_,by simp[BP,BN]⟩;have hg:(eqGuard .eql T x y (.bool a) (.bool b)).run P w= .ok () w:=by unfold eqGuard;rfl
  have hq:(Op.equal T (.bool a) (.bool b)).run P w= .ok (a==b) w:=Fl hu rfl;simp[execOp,Sem.run_bind,hg,e1,e2,binOp,hq]
theorem Ea {T U:TypeId}{ms:Array (String×TypeId)}{X:PV}{b:Bool}(hu:P.underlying T=some (.interface ms)) (hx:ρ x= .p X) (hy:ρ (.const .nilIface)= .p .nilIface) (hX:(match X with | .nilIface=>some false | .iface _ _=>some true | _=>none)=some b):Ce P ⟨dst,.binOp .neq T x (.const .nilIface) U,ty,pos,aft,g⟩ ρ H (.p (.bool b)) H :=
 BX fun F w E hH hE=>by
  have e2:=hE (.const .nilIface) AW;rw[hy] at e2;simp only[BP,BN] at e2;have e1:=hE x AW;rw[hx] at e1;have hg:∀a,(eqGuard .neq T x (.const .nilIface) a .nilIface).run P w= .ok () w:=by
   intro a;unfold eqGuard;cases a<;>simp<;>rfl
  refine⟨.bool b,?_,by simp[BP,BN]⟩;cases X with
  | nilIface =>
   simp at hX;subst hX;simp only[BP,BN] at e1;have hq:(Op.equal T .nilIface .nilIface).run P w= .ok true w:=Fl hu rfl;simp[execOp,Sem.run_bind,hg,e1,e2,binOp,hq]
  | iface t c =>
   simp at hX;subst hX;simp only[BP,BN] at e1;obtain⟨u,e1,_⟩:=e1;have hq:(Op.equal T (.iface t u) .nilIface).run P w= .ok false w:=Fl hu rfl;simp[execOp,Sem.run_bind,hg,e1,e2,binOp,hq]
  | _=>simp at hX
theorem PL {T e:TypeId}{len sz b o:Nat}{k:IntKind}{i:Int}{inf:TypeInfo}(hu:P.underlying T=some (.array len e)) (hj:P.info? e=some inf) (hs:inf.size=sz) (hx:ρ x= .ptr b o) (hy:ρ y= .p (.int k i)) (h0:0≤i) (hn:i<len) :
  Ce P ⟨dst,.indexAddr T x y,ty,pos,aft,g⟩ ρ H (.ptr b (o+i.toNat*sz)) H :=
 BX fun F w E hH hE=>by
  have h1:=hE x AW;have h2:=hE y AW;rw[hx] at h1;rw[hy] at h2;simp only[BP,BN] at h1 h2;refine⟨.pointer (some ⟨b,o+i.toNat*sz,none⟩),?_,by simp[BP]⟩;simp[execOp,Instr.indexAt,Sem.run_bind,run_underlying hu,h1,h2,asIntOf,h0,hn,sizeOf,typeInfo,hj,hs,Addr.add_mid,Instr.sureAddr,asAddr]
theorem PX {T e:TypeId}{len:Nat}{parts:Array (Nat×Operand)}{z:Value}{cs:List AV}{inf:TypeInfo}(hu:P.underlying T=some (.array len e)) (hj:P.info? e=some inf) (hz:zeroOf P T=some z)
  (hc:D2 (fun i=>some (i*inf.size,inf.size)) (z.cells.toList.map EZ) (parts.toList.map fun p=>(p.1,ρ p.2))=some cs):Ce P ⟨dst,.build T parts,ty,pos,aft,g⟩ ρ H (.agg cs) H :=
 BX fun F w E hH hE=>by
  unfold zeroOf at hz;cases hi:P.info? T with
  | none=>simp[hi] at hz
  | some i =>
   have hz':i.zero=some z:=by simpa [hi] using hz
   have hzv:(zeroValue T).run P w= .ok z w:=by simp[zeroValue,typeInfo,hi,hz',Sem.run_bind]
   have hsz:(sizeOf e).run P w= .ok inf.size w:=by simp[sizeOf,typeInfo,hj]
   have ⟨us,hf,hr⟩:=Gx (F:=F) (w:=w) (place:=(fun i=>some (i*inf.size,inf.size))) _ (parts.toList.map fun p=>(p.1,E p.2)) _ z.cells.toList _ Ag (by
    intro j p q h1 h2;simp only[List.getElem?_map] at h1 h2;cases hj:parts.toList[j]? with
    | none=>simp[hj] at h1
    | some t =>
     simp[hj] at h1 h2;subst h1;subst h2;exact⟨O,hE _ (by
      have:=List.mem_of_getElem? hj;simp only[Op.operands];exact List.mem_map.2 ⟨t,this,O⟩)⟩) (E7 _) hc
   refine⟨.agg ⟨us⟩,?_,by simp only[BP];exact⟨us,rfl,hr⟩⟩;simp only[execOp,Instr.build,Sem.run_bind,hzv,Result.andThen_ok,run_underlying hu,hsz];have hf':Instr.fill (fun i=>some (i*inf.size,inf.size)) z.cells (parts.toList.map fun p=>(p.1,E p.2))=some ⟨us⟩:=hf;simp[hf']
theorem Q9 {T U:TypeId}{e:TypeId}{rows:List (List PV)}(hu:P.underlying T=some (.slice e)) (hx:ρ x= .p (.lst rows)) (hy:ρ y= .p .nils):CL P ⟨dst,.binOp .eql T x y U,ty,pos,aft,g⟩ ρ H (fun r H'=>match r with | .val v=>(∃b,v= .p (.bool b)∧(b=true→rows=[]))∧H'=H | .panic _=>False) :=
 FN fun F w E hH hE=>by
  have e1:=hE x AW;have e2:=hE y AW;rw[hx] at e1;rw[hy] at e2;simp only[BP,BN] at e1 e2;have hg:∀o n c,(eqGuard .eql T x y (.slice o n c) (.slice none 0 0)).run P w= .ok () w:=by intro o n c;unfold eqGuard;rfl
  have key:∃b,(execOp E ⟨dst,.binOp .eql T x y U,ty,pos,aft,g⟩).run P w= .ok (.value (.bool b)) w∧(b=true→rows=[]):=by
   rcases e1 with ⟨rfl,o,c,h1⟩ | ⟨bb,o,c,sz,h1,_⟩
   ·cases o with
    | none =>
     have hq:(Op.equal T (.slice none 0 c) (.slice none 0 0)).run P w= .ok true w:=Fl hu rfl;exact⟨true,by simp[execOp,Sem.run_bind,hg,h1,e2,binOp,hq],fun _=>rfl⟩
    | some a =>
     have hq:(Op.equal T (.slice (some a) 0 c) (.slice none 0 0)).run P w= .ok false w:=Fl hu rfl;exact⟨false,by simp[execOp,Sem.run_bind,hg,h1,e2,binOp,hq],fun _=>rfl⟩
   have hq:(Op.equal T (.slice (some ⟨bb,o,none⟩) rows.length c) (.slice none 0 0)).run P w= .ok false w:=Fl hu rfl;exact⟨false,by simp[execOp,Sem.run_bind,hg,h1,e2,binOp,hq],fun h=>by cases h⟩
  obtain⟨b,hb,hr⟩:=key;exact⟨_,w,.p (.bool b),H,F,hb,⟨⟨b,O,hr⟩,O⟩,.refl,hH,by simp[BP,BN]⟩
end
def K0 (P:Program) (T:TypeId):Bool :=
 match P.underlying T with
 | some (.struct fs)=>match fs.toList with
  | [f,g]=>f.name != "_" &&g.name != "_" &&Nat.beq f.offset 0&&Nat.beq g.offset 1&&(match P.underlying f.type,P.underlying g.type with | some (.int .i64),some (.int .i64)=>true | _,_=>false)&& !P.stoodInHeld T&& !P.eqGuardType P.depth T
  | _=>false
 | _=>false
theorem Tw {P:Program}{T:TypeId}{a b c d:Int}{w:World}(h:K0 P T=true):(Op.equal T (.agg #[.int .i64 a,.int .i64 b]) (.agg #[.int .i64 c,.int .i64 d])).run P w= .ok (a==c&&b==d) w:=by
 unfold K0 at h;split at h
 ·rename_i fs hu;split at h
  ·rename_i f g hfs;obtain rfl:fs=#[f,g]:=by apply Array.ext';simpa using hfs
   simp only[Bool.and_eq_true,bne_iff_ne,ne_eq,Bool.not_eq_true'] at h;have ⟨⟨⟨⟨⟨⟨h1,h2⟩,h3⟩,h4⟩,h5⟩,h6⟩,h7⟩:=h;split at h5
   ·rename_i hf hg;have e3:=Nat.eq_of_beq_eq_true h3;have e4:=Nat.eq_of_beq_eq_true h4;have hp:(program).run P w= .ok P w:=rfl;have af:(isAgg f.type).run P w= .ok false w:=Lt hf false rfl w;have ag:(isAgg g.type).run P w= .ok false w:=Lt hg false rfl w;have pf:∀x y,(part f.type #[.int .i64 x,.int .i64 y] f.offset).run P w= .ok (.int .i64 x) w:=by
     intro x y;unfold part;simp[Sem.run_bind,af,e3]
    have pg:∀x y,(part g.type #[.int .i64 x,.int .i64 y] g.offset).run P w= .ok (.int .i64 y) w:=by
     intro x y;unfold part;simp[Sem.run_bind,ag,e4]
    have qf:∀x y,(Op.equalIn 9999 f.type (.int .i64 x) (.int .i64 y)).run P w= .ok (x==y) w:=by
     intro x y;rw[show (9999:Nat)=9998+1 from rfl];unfold Op.equalIn;simp[Sem.run_bind,run_underlying hf]
    have qg:∀x y,(Op.equalIn 9999 g.type (.int .i64 x) (.int .i64 y)).run P w= .ok (x==y) w:=by
     intro x y;rw[show (9999:Nat)=9998+1 from rfl];unfold Op.equalIn;simp[Sem.run_bind,run_underlying hg]
    unfold Op.equal;rw[show Op.maxDepth=9999+1 from rfl];unfold Op.equalIn;simp only[Sem.run_bind,run_underlying hu,Result.andThen_ok,hp,h6];simp[Sem.run_bind,h1,h2,pf,pg,qf,qg];cases hac:(a==c)<;>cases hbd:(b==d)<;>simp_all [Sem.run_bind,h1,h2,pf,pg,qf,qg]
   cases h5
  cases h
 cases h
section
variable {P:Program}{dst:Option Tmp}{ty:TypeId}{pos:String}{aft:Array Edge}{g:Option (Nat×Bool)}{ρ:Operand→AV}{H:List Aj}{x y z:Operand}{v:AV}
theorem WJ {T U:TypeId}{a b c d:Int}(h:K0 P T=true) (hx:ρ x= .agg [.p (.int .i64 a),.p (.int .i64 b)]) (hy:ρ y= .agg [.p (.int .i64 c),.p (.int .i64 d)]):Ce P ⟨dst,.binOp .neq T x y U,ty,pos,aft,g⟩ ρ H (.p (.bool (!(a==c&&b==d)))) H :=
 BX fun F w E hH hE=>by
  have e1:=hE x AW;have e2:=hE y AW;rw[hx] at e1;rw[hy] at e2;simp only[BP,A6,BN] at e1 e2;obtain⟨vs,e1,u1,us1,rfl,rfl,u2,us2,rfl,rfl,rfl⟩:=e1;obtain⟨vs',e2,v1,vs1,rfl,rfl,v2,vs2,rfl,rfl,rfl⟩:=e2;refine⟨.bool (!(a==c&&b==d)),?_,by simp[BP,BN]⟩;have hq:=Tw (P:=P) (T:=T) (a:=a) (b:=b) (c:=c) (d:=d) (w:=w) h;have h':=h;have hg:(eqGuard .neq T x y (.agg #[.int .i64 a,.int .i64 b]) (.agg #[.int .i64 c,.int .i64 d])).run P w= .ok () w:=by
   unfold K0 at h';split at h'
   ·split at h'
    ·simp only[Bool.and_eq_true,Bool.not_eq_true'] at h';have h7:=h'.2;have hp:(program).run P w= .ok P w:=rfl;unfold eqGuard;simp[Sem.run_bind,hp,h7]
    cases h'
   cases h'
  simp[execOp,Sem.run_bind,hg,e1,e2,binOp,hq]
end
theorem Oe {P:Program}{r:Option Nat}{c:Code}{S:As}{Q:Bd→As→Prop}(N:Nat) (C:Nat→Prop) (St:Nat→As) (i₀:Nat) (h₀:i₀≤N) (hC:C i₀) (l:Le S (St i₀))
  (round:∀i,i≤N→C i→GF P r c (St i) (HU (fun S'=>i<N∧C (i+1)∧Le S' (St (i+1))) Q)):GF P r (.loop c) S Q:=by
 refine PC (fun m S=>∃i,i≤N∧m=N - i∧C i∧S=St i) (m:=N - i₀) l ⟨i₀,h₀,O,hC,O⟩ ?_;rintro m S ⟨i,hi,rfl,hc,rfl⟩;refine(round i hi hc).mono ?_;intro e S' h;cases e with
 | normal =>
  have ⟨h1,h2,h3⟩:=h;exact⟨N - (i+1),St (i+1),by omega,h3,i+1,by omega,rfl,h2,rfl⟩
 | exit id=>exact h
 | ret=>exact h
 | panic v=>exact h
theorem C4 {α:Type}{P:Program}{r:Option Nat}{c:Code}{S:As}{Q:Bd→As→Prop}(St:α→As) (μ:α→Nat) (C:α→Prop) (a₀:α) (hC:C a₀) (l:Le S (St a₀))
  (round:∀a,C a→GF P r c (St a) (HU (fun S'=>∃a',μ a' < μ a∧C a'∧Le S' (St a')) Q)):GF P r (.loop c) S Q:=by
 refine PC (fun m S=>∃a,m=μ a∧C a∧S=St a) (m:=μ a₀) l ⟨a₀,O,hC,O⟩ ?_
 grind
abbrev wr (n:Int):Int:=IntKind.i64.wrap n
section
variable {P:Program}{dst:Option Tmp}{ty:TypeId}{pos:String}{aft:Array Edge}{g:Option (Nat×Bool)}{ρ:Operand→AV}{H:List Aj}{x y z:Operand}{v:AV}
theorem EO {m n:Int}{T U:TypeId}(hx:ρ x= .p (.int .i64 m)) (hy:ρ y= .p (.int .i64 n)):Ce P ⟨dst,.binOp .add T x y U,ty,pos,aft,g⟩ ρ H (.p (.int .i64 (wr (m+n)))) H :=
 BX fun F w E hH hE=>by
  have e1:=hE x AW;have e2:=hE y AW;rw[hx] at e1;rw[hy] at e2;simp only[BP,BN] at e1 e2;exact⟨.int .i64 (wr (m+n)),by simp[execOp,Sem.run_bind,HT,e1,e2,binOp,Op.intArith],by simp[BP,BN]⟩
theorem Gw {m n:Int}{T U:TypeId}(hx:ρ x= .p (.int .i64 m)) (hy:ρ y= .p (.int .i64 n)):Ce P ⟨dst,.binOp .sub T x y U,ty,pos,aft,g⟩ ρ H (.p (.int .i64 (wr (m - n)))) H :=
 BX fun F w E hH hE=>by
  have e1:=hE x AW;have e2:=hE y AW;rw[hx] at e1;rw[hy] at e2;simp only[BP,BN] at e1 e2;exact⟨.int .i64 (wr (m - n)),by simp[execOp,Sem.run_bind,HT,e1,e2,binOp,Op.intArith],by simp[BP,BN]⟩
end
def gw (R:AV→Prop):DL→List Aj→Prop
 | .val v,H'=>R v∧H'=[]
 | .panic _,_=>False
abbrev EM (P:Program) (f:FuncId) (args:List AV) (R:AV→Prop):Prop:=BO P f args [] (gw R)
theorem EM.of {P:Program}{f:FuncId}{args:List AV}{v:AV}{R:AV→Prop}(h:EE P f args v) (hR:R v):EM P f args R :=
 BO.mono h fun r H hr=>by
  cases r with
  | val v'=>obtain⟨rfl,rfl⟩:=hr;exact⟨hR,rfl⟩
  | panic v'=>exact hr
def Mm (R:AV→Prop) (H:List Aj):DL→List Aj→Prop
 | .val v,H'=>R v∧H'=H
 | .panic _,_=>False
section
variable {P:Program}{r:Option Nat}{ops:Array Oper}{Q:Bd→As→Prop}{k:Nat}{n:Nat}{τ:Nat→AV}{H H':List Aj}{D:List Cb}{dst:Option Tmp}{op:Op}{ty:TypeId}{pos:String}{aft:Array Edge}{g:Option (Nat×Bool)}{v:AV}
theorem BC {c:Call}{f:Operand}{fid:FuncId}{ρ:Operand→AV}{A:List AV}{R:AV→Prop}(hc:c.callee= .value f) (hf:ρ f= .p (.fn fid)) (h:EM P fid A R) (hA:c.args.toList.map ρ=A∨(c.args.toList.map ρ).map norm=A) :
  CL P ⟨dst,.call c,ty,pos,aft,g⟩ ρ H (Mm R H):=by
 refine(FQ (H:=H) (Hs:=[]) (Hf:=H) (first:=[]) (caps:=[]) hc (.inl ⟨hf,O,O⟩) (A:=A) Ag h (by simpa using hA)).mono ?_;rintro r H' ⟨Hs',h1,rfl⟩;cases r with
 | val v'=>obtain⟨h1,rfl⟩:=h1;exact⟨h1,rfl⟩
 | panic v'=>exact h1
theorem Ci {R:AV→Prop}(ho:ops[k]?=some ⟨dst,op,ty,pos,aft,none⟩) (hd:D9 dst n=true) (h:CL P ⟨dst,op,ty,pos,aft,none⟩ (ev τ) H (Mm R H))
  (next:∀v,R v→AL P r ops (k+1) ⟨n,put τ dst v,H,D⟩ Q):AL P r ops k ⟨n,τ,H,D⟩ Q :=
 EC (S:=⟨n,τ,H,D⟩) ho AZ (FK hd) h (fun v H' ⟨h1,h2⟩=>by subst h2;exact next v h1) (fun _ _ h=>h.elim)
theorem EJ {R:AV→Prop}{j d:Nat}{want:Bool}(ho:ops[k]?=some ⟨dst,op,ty,pos,aft,some (j,want)⟩) (hd:D9 dst n=true) (hj:(ops[j]?).bind (·.dst)=some d) (hb:τ d= .p (.bool want)) (h:CL P ⟨dst,op,ty,pos,aft,some (j,want)⟩ (ev τ) H (Mm R H))
  (next:∀v,R v→AL P r ops (k+1) ⟨n,put τ dst v,H,D⟩ Q):AL P r ops k ⟨n,τ,H,D⟩ Q :=
 EC (S:=⟨n,τ,H,D⟩) ho (by simp only[DI];exact⟨d,hj,hb⟩) (FK hd) h (fun v H' ⟨h1,h2⟩=>by subst h2;exact next v h1) (fun _ _ h=>h.elim)
end
section
variable {P:Program}{ops:Array Oper}{n:Nat}{τ₀:Nat→AV}{D:List Cb}{Q:Bd→As→Prop}{opn:Nat→Bool}{k:Nat}{τ:Nat→AV}{H:List Aj}{rd:Ot}{ef:O7}{effs:List Bool}{fx:List (Nat×Sp)}{dst:Option Tmp}{op:Op}{ty:TypeId}{pos:String}{aft:Array Edge}
theorem G8 {R:AV→Prop}(fx':List (Nat×Sp)) (ho:ops[k]?=some ⟨dst,op,ty,pos,aft,none⟩) (hn:opn k=true) (h:CL P ⟨dst,op,ty,pos,aft,none⟩ (ev τ) H (Mm R H)) (haft:Ct ops k (fx'.map (·.1))=true) (hne:∃v,R v) (owe:GJ ops k H H rd)
  (next:∀v,R v→D6 k (.eff v H) fx∧Dr P ops n τ₀ D Q opn (k+1) (put τ dst v) H rd ((k,H,H)::ef) (true::effs) (fx'++fx)):Dr P ops n τ₀ D Q opn k τ H rd ef effs fx :=
 Jh fx' ho hn h haft (let ⟨v,hv⟩:=hne;⟨v,H,hv,rfl⟩) (fun _ _ h=>h.elim) (fun v H' ⟨h1,h2⟩=>by subst h2;exact⟨owe,next v h1⟩)
theorem U2 {R:AV→Prop}{j d:Nat}{want:Bool}(fx':List (Nat×Sp)) (ho:ops[k]?=some ⟨dst,op,ty,pos,aft,some (j,want)⟩) (hn:opn k=true) (hj:(ops[j]?).bind (·.dst)=some d) (hb:τ d= .p (.bool want)) (h:CL P ⟨dst,op,ty,pos,aft,some (j,want)⟩ (ev τ) H (Mm R H)) (haft:Ct ops k (fx'.map (·.1))=true) (hne:∃v,R v) (owe:GJ ops k H H rd)
  (next:∀v,R v→D6 k (.eff v H) fx∧Dr P ops n τ₀ D Q opn (k+1) (put τ dst v) H rd ((k,H,H)::ef) (true::effs) (fx'++fx)):Dr P ops n τ₀ D Q opn k τ H rd ef effs fx :=
 .opn (Mm R H) fx' ho hn ⟨d,hj,hb⟩ h haft (let ⟨v,hv⟩:=hne;⟨v,H,hv,rfl⟩) (fun v H' ⟨_,h2⟩=>by subst h2;exact owe) (fun v H' ⟨h1,h2⟩=>by subst h2;exact(next v h1).1) (fun v H' ⟨h1,h2⟩=>by subst h2;exact(next v h1).2) (fun _ _ h=>h.elim)
end
theorem DV {P:Program}{r:Option Nat}{c:Code}{Q:Bd→As→Prop}{n:Nat}{τ:Nat→AV}{H:List Aj}{D:List Cb}(live:List Nat) (d:Nat) (R:AV→Prop) (h:GF P r c ⟨n,τ,H,D⟩ (HU (fun S'=>S'.n=n∧S'.D=D∧H.Sublist S'.H∧R (S'.τ d)∧X6 S'.τ τ live) Q))
  (next:∀x,R x→Q .normal ⟨n,mk ((d,x)::live.map fun t=>(t,τ t)),H,D⟩):GF P r c ⟨n,τ,H,D⟩ Q:=by
 intro F a w hs;refine wpIn_mono (h F a w hs) ?_;rintro e a' w' ⟨e',S',F',hq,he,hs',ht⟩;cases e' with
 | normal =>
  have ⟨n',τ',H',D'⟩:=S';have ⟨h1,h3,h2,h4,h5⟩:=hq;simp only at h1 h2 h3 h4 h5;subst h1;subst h3;have l:Le ⟨n',τ',H',D'⟩ ⟨n',mk ((d,τ' d)::live.map fun t=>(t,τ t)),H,D'⟩:=Ds ⟨rfl,Me h5⟩ h2;exact⟨.normal,_,F',next _ h4,he,hs'.le l,ht.sublist h2⟩
 | exit id=>exact⟨.exit id,S',F',hq,he,hs',ht⟩
 | ret=>exact⟨.ret,S',F',hq,he,hs',ht⟩
 | panic v=>exact⟨.panic v,S',F',hq,he,hs',ht⟩
def C5 (v:AV):Prop:=∃b:Bool,v= .p (.bool b)
def J0 (v:AV):Prop:=∃e:Int,v= .p (.int .i64 e)
end Go.Abs
namespace Go.Eu
open Go.Abs
noncomputable def PO {α:Type}(a b:α):Bool:= @decide (a=b) (Classical.propDecidable _)
theorem A2 {α:Type}{a b:α}(h:a=b):PO a b=true:=by simp[PO,h]
theorem ED {α:Type}{a b:α}(h:a≠b):PO a b=false:=by simp[PO,h]
theorem Ga {α:Type}{a b:α}:PO a b=true↔a=b:=by simp[PO]
abbrev LV (l:DK):AV:= .agg ((Dd l).map .p)
abbrev ZX (ts:List Tm):AV:= .p (.lst (A0 ts))
abbrev gU (ls:List DK):AV:= .p (.lst (ls.map Dd))
theorem Sf {ts:List CN}{i:Nat}{t:CN}(h:ts[i]?=some t):(ts.map Mu)[i]?=some (Mu t):=by simp[h]
theorem Rv {ts:List DK}{i:Nat}{t:DK}(h:ts[i]?=some t):(ts.map Dd)[i]?=some (Dd t):=by simp[h]
def agree {α:Type}(a b:List α) (i:Nat):Prop:=a.take i=b.take i
theorem Gy {α:Type}(a b:List α):agree a b 0:=by simp[agree]
theorem HB {α:Type}{a b:List α}{i:Nat}{x:α}(h:agree a b i) (ha:a[i]?=some x) (hb:b[i]?=some x):agree a b (i+1):=by grind [agree,List.take_add_one]
theorem H9 {α:Type}{a b:List α}{n:Nat}(h:agree a b n) (ha:a.length=n) (hb:b.length=n):a=b:=by grind [agree,List.take_of_length_le]
theorem Ap {α:Type}{l:List α}{i:Nat}(h:i<l.length):∃x,l[i]?=some x:=⟨_,List.getElem?_eq_getElem h⟩
abbrev C7:Nat:=1099511627776
def Hx (n:Int):Prop:= -9223372036854775808≤n∧n≤9223372036854775807
structure dc (l:DK):Prop where
 vars:l.vars.length<C7
 c:Hx l.const
 v:∀v∈l.vars,Hx v.index∧Hx v.plus
mutual
def Nd:Tm→Prop
 | .mk k i n ls ks=>n.size<C7∧ls.length<C7∧(∀l∈ls,dc l)∧ks.length<C7∧G3 ks∧Hx k∧Hx i
def G3:List Tm→Prop
 | []=>True
 | t::ts=>Nd t∧G3 ts
end
theorem CE:∀{ts:List Tm}{i:Nat}{t:Tm},G3 ts→ts[i]?=some t→Nd t
 | [],i,t,_,h=>by simp at h
 | a::ts,0,t,hn,h=>by simp at h;subst h;exact hn.1
 | a::ts,i+1,t,hn,h=>by simp at h;exact CE hn.2 h
mutual
def depth:Tm→Nat
 | .mk _ _ _ _ ks=>Dz ks+1
def Dz:List Tm→Nat
 | []=>0
 | t::ts=>max (depth t) (Dz ts)
end
theorem R4 {ts:List Tm}{i:Nat}{t:Tm}(h:ts[i]?=some t):Dz (ts.take (i+1))=max (Dz (ts.take i)) (depth t):=by
 induction ts generalizing i with
 | nil=>simp at h
 | cons a ts ih =>
  cases i with
  | zero=>simp at h;subst h;simp[Dz]
  | succ i=>simp at h;simp only[List.take_succ_cons,Dz,ih h];omega
mutual
theorem Fu:∀t:Tm,depth t≤size t
 | .mk _ _ _ _ ks=>by simp only[depth,size];have:=GN ks;omega
theorem GN:∀ts:List Tm,Dz ts≤Aq ts
 | []=>by simp[Dz]
 | t::ts=>by simp only[Dz,Aq];have:=Fu t;have:=GN ts;omega
end
theorem OY {ts:List Tm}(i:Nat):Dz (ts.take i)≤Dz ts:=by
 induction ts generalizing i with
 | nil=>simp[Dz]
 | cons a ts ih =>
  cases i with
  | zero=>simp[Dz]
  | succ i=>simp only[List.take_succ_cons,Dz];have:=ih i;omega
end Go.Eu
namespace Go.Eu
theorem Kb (bs : ByteArray) : ∀ (d i : Nat) (r : List UInt8), bs.size - i = d → ByteArray.toList.loop bs i r = r.reverse ++ bs.data.toList.drop i := by
 intro d
 induction d with
 | zero =>
  intro i r h
  unfold ByteArray.toList.loop
  have : ¬ i < bs.size := by omega
  simp only [this, if_false]
  rw [List.drop_eq_nil_of_le (by have : bs.data.size = bs.size := rfl; simp; omega)]; simp
 | succ d ih =>
  intro i r h
  unfold ByteArray.toList.loop
  have hi : i < bs.size := by omega
  simp only [hi, if_true]
  rw [ih (i + 1) _ Af]
  have hlt : i < bs.data.toList.length := by have : bs.data.size = bs.size := rfl; simp; omega
  rw [List.drop_eq_getElem_cons hlt]
  have : bs.get! i = bs.data.toList[i] := by
   have h2 : i < bs.data.size := by simpa using hlt
   show bs.data[i]! = _
   grind
  simp [this]
theorem K2 (bs:ByteArray):bs.toList=bs.data.toList:=by
 unfold ByteArray.toList;rw[Kb bs _ 0 [] rfl];simp
theorem Gv {a b:ByteArray}(h:a.toList=b.toList):a=b:=by
 rw[K2,K2] at h;cases a;cases b;simp at h;congr
end Go.Eu
namespace Go.Eu
open Go.Abs
mutual
def DP:Tm→Int→Int
 | .mk _ _ _ _ ks,most=>Ck ks most 0
def Ck:List Tm→Int→Int→Int
 | [],_,n=>n
 | t::ts,most,n=>if n > most then n else Ck ts most (wr (n+wr (1+DP t (wr (most - n)))))
end
theorem Pk {l:List Tm}{i:Nat}{t:Tm}{most n:Int}(h:l[i]?=some t):Ck (l.drop i) most n=if n > most then n else Ck (l.drop (i+1)) most (wr (n+wr (1+DP t (wr (most - n))))):=by grind [List.getElem?_eq_some_iff.1,List.drop_eq_getElem_cons,List.getElem?_eq_getElem,Ck]
end Go.Eu
namespace Go.Eu
def arity (k:Int):Int:=if k=4∨k=5∨k=6∨k=7 then 2 else if k=8∨k=11 then 3 else if k=9∨k=10 then 1 else 0
def below (k i:Int):Int:=if ((i==1&&(k==5||k==6||k==7))||(i==2&&k==11))=true then 1 else 0
def Tz:Tm→Prop
 | .mk kd _ _ _ ks=>0≤kd∧kd<13∧(ks.length:Int)=arity kd
mutual
def wf (vars metas:Int):Int→Tm→Prop
 | d,.mk kd ix _ _ ks=>0≤kd∧kd<13∧(ks.length:Int)=arity kd∧(kd=0→0≤ix∧ix - d<vars)∧(kd=12→0≤ix∧ix<metas)∧UW vars metas kd d 0 ks
def UW (vars metas:Int):Int→Int→Nat→List Tm→Prop
 | _,_,_,[]=>True
 | kd,d,i,t::ts=>wf vars metas (d+below kd i) t∧UW vars metas kd d (i+1) ts
end
theorem IV {vars metas kd d:Int}:∀{ks:List Tm}{i:Nat},(∀j t,ks[j]?=some t→wf vars metas (d+below kd ((i+j:Nat):Int)) t)→UW vars metas kd d i ks
 | [],i,_=>by simp[UW]
 | t::ts,i,h=>by
  simp only[UW];exact⟨by have:=h 0 t rfl;simpa using this,IV fun j t' ht=>by have:=h (j+1) t' (by simpa using ht);rw[show i+1+j=i+(j+1) by omega];exact this⟩
theorem CK (k i:Int):0≤below k i∧below k i≤1:=by grind [below]
theorem Dg {α:Type}{l:List α}{p:Nat→α→Prop}{i:Nat}{x:α}(h:∀j,j<i→∀t,l[j]?=some t→p j t) (hx:l[i]?=some x) (hp:p i x):∀j,j<i+1→∀t,l[j]?=some t→p j t:=by
 grind
end Go.Eu
namespace Go.Abs
section
variable {α:Type}
def Jv (is:List Nat):Nat→List α→List α
 | _,[]=>[]
 | k,a::l=>bif is.any (Nat.beq k ·) then a::Jv is (k+1) l else Jv is (k+1) l
theorem L1 (is:List Nat):∀(k:Nat) (l:List α),(Jv is k l).Sublist l
 | _,[]=>List.Sublist.refl _
 | k,a::l=>by
  simp only[Jv];cases is.any (Nat.beq k ·)
  ·exact(L1 is (k+1) l).cons _
  exact(L1 is (k+1) l).cons_cons _
theorem Fe {is:List Nat}{l l':List α}(h:Jv is 0 l=l'):l'.Sublist l:=h▸L1 is 0 l
def E8 (H:List α):List Nat→List α→Prop
 | [],xs=>xs=[]
 | i::is,xs=>∃x xs',xs=x::xs'∧H[i]?=some x∧E8 H is xs'
def Jn (H:List α):List Nat→List α→List α
 | i::is,x::xs=>Jn (H.set i x) is xs
 | _,_=>H
def CM (is:List Nat):Nat→List α→List α
 | _,[]=>[]
 | k,a::l=>if k∈is then CM is (k+1) l else a::CM is (k+1) l
theorem MJ:∀(k:Nat) (l:List α),CM [] k l=l
 | _,[]=>rfl
 | k,a::l=>by simp[CM,MJ (k+1) l]
theorem MX {is:List Nat}{j:Nat}:∀(k:Nat) (l:List α),j<k→CM (j::is) k l=CM is k l
 | _,[],_=>rfl
 | k,a::l,h=>by
  have:k≠j:=by omega
  have ih:=MX (is:=is) (j:=j) (k+1) l Af;simp[CM,this,ih]
theorem Kr {is:List Nat}{x:α}:∀(l:List α) (k i:Nat),l[i]?=some x→(k+i) ∉ is→(CM is k l).Perm (x::CM ((k+i)::is) k l)
 | [],k,i,h,_=>by simp at h
 | a::l,k,0,h,hn=>by
  simp at h hn;subst h;simp[CM,hn,MX (k+1) l (Nat.lt_succ_self k)]
 | a::l,k,i+1,h,hn=>by
  simp at h;have ih:=Kr l (k+1) i h (by rw[show k+1+i=k+(i+1) by omega];exact hn);rw[show k+1+i=k+(i+1) by omega] at ih;have hk:k≠k+(i+1):=by omega
  simp only[CM,List.mem_cons,hk,false_or];split
  ·exact ih
  exact(ih.cons a).trans (.swap _ _ _)
theorem CR {H:List α}:∀{is:List Nat}{xs:List α},is.Nodup→E8 H is xs→H.Perm (xs++CM is 0 H)
 | [],xs,_,h=>by simp only[E8] at h;subst h;simp[MJ]
 | i::is,xs,hn,h=>by
  obtain⟨x,xs',rfl,hx,hr⟩:=h;have hn':=List.nodup_cons.1 hn;have ih:=CR hn'.2 hr;have:=Kr (is:=is) H 0 i hx (by simpa using hn'.1);simp only[Nat.zero_add] at this;exact ih.trans (((List.Perm.refl xs').append this).trans List.perm_middle)
theorem MR {is:List Nat}{y:α}:∀(l:List α) (k i:Nat),(k+i)∈is→CM is k (l.set i y)=CM is k l
 | [],k,i,_=>by simp
 | a::l,k,0,h=>by simp at h;simp[CM,h]
 | a::l,k,i+1,h=>by
  have:=MR (y:=y) l (k+1) i (by rw[show k+1+i=k+(i+1) by omega];exact h);simp only[List.set_cons_succ,CM,this]
theorem Nz {i:Nat}{y:α}:∀{is:List Nat}{xs H:List α},i ∉ is→E8 H is xs→E8 (H.set i y) is xs
 | [],xs,H,_,h=>h
 | j::is,xs,H,hn,h=>by
  obtain⟨x,xs',rfl,hx,hr⟩:=h;simp at hn;exact⟨x,xs',O,by rw[List.getElem?_set_ne hn.1];exact hx,Nz hn.2 hr⟩
theorem Ph:∀{is:List Nat}{xs xs' H:List α},is.Nodup→E8 H is xs→xs'.length=xs.length→E8 (Jn H is xs') is xs'∧(∀ks k,(∀i∈is,k+i∈ks)→CM ks k (Jn H is xs')=CM ks k H)∧∀j,j ∉ is→(Jn H is xs')[j]?=H[j]?
 | [],xs,xs',H,_,h,hl=>by
  simp only[E8] at h;subst h;have:xs'=[]:=by simpa using hl
  subst this;exact⟨O,fun _ _ _=>O,fun _ _=>O⟩
 | i::is,xs,xs',H,hn,h,hl=>by
  obtain⟨x,xr,rfl,hx,hr⟩:=h;have hn':=List.nodup_cons.1 hn;cases xs' with
  | nil=>simp at hl
  | cons y ys =>
   have hlt:i<H.length:=(List.getElem?_eq_some_iff.1 hx).1;have ⟨h1,h2,h3⟩:=Ph (xs':=ys) (H:=H.set i y) hn'.2 (Nz hn'.1 hr) (by simpa using hl);refine⟨⟨y,ys,O,by rw[Jn,h3 i hn'.1];simp[hlt],h1⟩,fun ks k hk=>?_,fun j hj=>?_⟩
   ·rw[Jn,h2 ks k (fun q hq=>hk q (by simp[hq])),MR _ _ _ (hk i Ag)]
   simp at hj;rw[Jn,h3 j hj.2,List.getElem?_set_ne (fun e=>hj.1 e.symm)]
theorem La {is:List Nat}{xs xs' H:List α}(hn:is.Nodup) (h:E8 H is xs) (hl:xs'.length=xs.length):(Jn H is xs').Perm (xs'++CM is 0 H):=by grind [Ph,CR]
end
def bW (τ:Nat→AV) (x:AV):List Nat→Prop
 | []=>True
 | t::r=>τ t=x∧bW τ x r
theorem ES {τ:Nat→AV}{x:AV}:∀{ts:List Nat},bW τ x ts→∀t∈ts,τ t=x
 | [],_,t,h=>by simp at h
 | a::r,h,t,ht=>by
  rcases List.mem_cons.1 ht with rfl | ht
  ·exact h.1
  exact ES h.2 t ht
section
variable {P:Program}{S:As}{a T n b i:Nat}{cs:List AV}{v:AV}
theorem CT (hT:DO P T=some (true,n)) (ha:S.τ a= .ptr b 0) (hi:S.H[i]?=some (.box b cs)) (hn:cs.length=n):ao P S (.cell a T) (.agg cs):=by
 have ⟨d,h1,h2,h3⟩:=Df hT;exact⟨b,cs,i,ha,hi,.inl ⟨d,h1,h2,by rw[h3,hn],rfl⟩⟩
theorem Er (hT:DO P T=some (false,n)) (ha:S.τ a= .ptr b 0) (hi:S.H[i]?=some (.box b [v])):ao P S (.cell a T) v:=by
 have ⟨d,h1,h2,h3⟩:=Df hT;exact⟨b,[v],i,ha,hi,.inr ⟨d,h1,h2,O⟩⟩
end
section
variable {P:Program}{dst:Option Tmp}{ty:TypeId}{pos:String}{aft:Array Edge}{g:Option (Nat×Bool)}{ρ:Operand→AV}{H Hs Hs':List Aj}{x y z:Operand}{v:AV}{c:Call}{f:Operand}{fid:FuncId}{first caps A:List AV}
theorem CL.permD {o:Oper}{H H' H'':List Aj}(h:Ce P o ρ H v H') (hp:H'.Perm H''):Ce P o ρ H v H'':=by
 intro r F S a w hs hH hρ hd;have:=h r F S a w hs hH hρ hd;refine Ff this ?_ ?_
 ·rintro a' w' ⟨v',H1,F',⟨rfl,rfl⟩,hs',ht⟩;exact⟨v',H'',F',⟨O,O⟩,⟨hs'.size,hs'.tmp,hs'.heap.perm hp,hs'.defs⟩,{ ht with keys:=fun o ho=>ht.keys o (hp.mem_iff.2 ho) }⟩
 rintro e a' w' ⟨v',H1,F',u,h,_⟩;exact h.elim
theorem Gp (is:List Nat) (hc:c.callee= .value f) (hf:(ρ f= .p (.fn fid)∧first=[]∧caps=[])∨ρ f= .fn (.func fid) first caps) (h:BO P fid A Hs (Pa v Hs')) (hg:E8 H is Hs) (hn:is.Nodup) (hl:Hs'.length=Hs.length) (hA:first++c.args.toList.map ρ++caps=A∨(first++c.args.toList.map ρ++caps).map norm=A) :
  Ce P ⟨dst,.call c,ty,pos,aft,g⟩ ρ H v (Jn H is Hs') :=
 CL.permD (aT hc hf (CR hn hg) h hA) (La hn hg hl).symm
theorem C9 {T T2 e e2:TypeId}{sz bytes n2 n3 c i n:Nat}{o:Option Nat}{rows rows' rows2:List (List PV)}{zv:Value}(hT:D0 P T=some (e,sz,bytes)) (hT2:D0 P T2=some (e2,n2,n3)) (hz:zeroOf P e=some zv) (hzs:zv.cells.size=sz) (hb0:(Nat.blt 0 sz&&Nat.blt 0 bytes)=true)
  (hx:ρ x= .vs o n c) (hn:n=rows.length) (hi:H[i]?=some (.vec o sz rows c)) (hy:norm (ρ y)= .p (.lst rows')) (hsol:∀r∈rows',DJ sz r) (hroom:2*(rows.length+rows'.length)*bytes≤281474976710656) (h2:rows++rows'=rows2) :
  CL P ⟨dst,.call { callee:= .builtin .append,args:=#[x,y],argTypes:=#[T,T2] },ty,pos,aft,g⟩ ρ H (Kq i sz rows2 H):=by grind [OX]
theorem Uu {F:Nat→Prop}{w:World}{u:Value}(h:BP F w (.p .nils) u):BP F w (.vs none 0 0) u:=by grind [BP,BN]
theorem UC {α : Type} : ∀ {us cs : List α}, us.length = cs.length → splice cs 0 us = us := by
 have key : ∀ (us : List α) (pre cs : List α), us.length = cs.length → splice (pre ++ cs) pre.length us = pre ++ us := by
  intro us
  induction us with
  | nil => intro pre cs h; have : cs = [] := by simpa using h.symm
           subst this; simp [splice]
  | cons u us ih =>
   intro pre cs h
   cases cs with
   | nil => simp at h
   | cons c cs =>
    simp only [splice]
    have := ih (pre ++ [u]) cs (by simpa using h)
    grind
 intro us cs h
 exact key us [] cs h
theorem Cm {T:TypeId}{bl:Bool}{n b i:Nat}{cs us:List AV}(hT:DO P T=some (bl,n+1)) (hx:ρ x= .ptr b 0) (hi:H[i]?=some (.box b cs)) (hy:DA (ρ y)=some us) (hn:us.length=n+1)
  (ho:cs.length=n+1) (h1:us.all one=true):Ce P ⟨dst,.store T x y,ty,pos,aft,g⟩ ρ H (.p .any) (H.set i (.box b us)):=by
 have:=Ho (P:=P) (dst:=dst) (ty:=ty) (pos:=pos) (aft:=aft) (g:=g) hT hx hi hy hn (by rw[ho];simp) h1
 rwa [UC (by rw[hn,ho])] at this
theorem Cj {T:TypeId}{bl:Bool}{b i j sz c:Nat}{rows rows2:List (List PV)}{us:List AV}{r:List PV}(hT:DO P T=some (bl,sz)) (hpos:Nat.blt 0 sz=true) (hx:ρ x= .ptr b (j*sz)) (hi:H[i]?=some (.vec (some b) sz rows c)) (hj:j<rows.length) (hy:DA (ρ y)=some us) (hp:Ep (us.map dn)=some r) (hrl:r.length=sz) (h1:us.all one=true) (h2:rows.set j r=rows2) :
  Ce P ⟨dst,.store T x y,ty,pos,aft,g⟩ ρ H (.p .any) (H.set i (.vec (some b) sz rows2 c)):=by grind [Pb]
theorem DY {T e:TypeId}{sz bytes:Nat}{m:Int}{zs:List Value}{zv:Value}{zr:List PV}{rows2:List (List PV)}(hT:D0 P T=some (e,sz,bytes)) (hz:zeroOf P e=some zv) (hzs:zv.cells=⟨zs⟩) (hsz:zs.length=sz) (hpos:0<sz) (hp:Ep ((zs.map EZ).map dn)=some zr)
  (hx:ρ x= .p (.int .i64 m)) (hy:ρ y= .p (.int .i64 m)) (h0:0≤m) (hm:bytes*m≤281474976710656) (hm2:m≤9223372036854775807) (h2:List.replicate m.toNat zr=rows2) :
  CL P ⟨dst,.makeSlice T x y,ty,pos,aft,g⟩ ρ H (HZ sz rows2 H):=by grind [Pd]
theorem E5 {T e:TypeId}{sz bytes lo hi:Nat}{rows rows2:List (List PV)}{l h:Option Operand}(hT:D0 P T=some (e,sz,bytes)) (hx:ρ x= .p (.lst rows)) (hr:∀r∈rows,r.length=sz)
  (hl:match l with | none=>lo=0 | some y=>∃k,ρ y= .p (.int k lo)) (hh:match h with | none=>hi=rows.length | some y=>∃k,ρ y= .p (.int k hi)) (h1:lo≤hi) (h2:hi≤rows.length) (h3:(rows.take hi).drop lo=rows2) :
  Ce P ⟨dst,.slice T x l h none,ty,pos,aft,g⟩ ρ H (.p (.lst rows2)) H:=by grind [Wb]
end
section
variable {P:Program}{r:Option Nat}{ops:Array Oper}{Q:Bd→As→Prop}{k:Nat}{n:Nat}{τ:Nat→AV}{H H':List Aj}{D:List Cb}{dst:Option Tmp}{op:Op}{ty:TypeId}{pos:String}{aft:Array Edge}{v:AV}
theorem Th (ho:ops[k]?=some ⟨dst,op,ty,pos,aft,none⟩) (hd:D9 dst n=true) (h:CL P ⟨dst,op,ty,pos,aft,none⟩ (ev τ) H (Xd H))
  (next:∀b,AL P r ops (k+1) ⟨n,put τ dst (.map b),.map b (B8 [])::H,D⟩ Q):AL P r ops k ⟨n,τ,H,D⟩ Q :=
 EC (S:=⟨n,τ,H,D⟩) ho AZ (FK hd) h (fun v H' ⟨b,h1,h2⟩=>by subst h1;subst h2;exact next b) (fun _ _ h=>h.elim)
end
theorem leH {is:List Nat}{H H1 H':List Aj}(h:Jv is 0 H=H1) (w:Dq H1 H'):aU H H':=⟨H1,Fe h,w⟩
theorem E9 {x y:AV}(h:norm x=y):Mq x y:=fun _ _ _ hr=>h▸hr.norm
theorem Js:Dq [] []:=rfl
theorem wl {o o':Aj}{l l':List Aj}(h:JA o o') (r:Dq l l'):Dq (o::l) (o'::l'):=⟨o',l',rfl,h,r⟩
theorem on {b:Nat}{cs cs':List AV}(h:cs.map dn=cs'):JA (.box b cs) (.box b cs'):=⟨rfl,fun F w hr=>by
 have ⟨vs,T,h1,h2⟩:=hr;exact⟨vs,T,h1,h▸IG h2⟩⟩
theorem CI {n:Nat}{τ:Nat→AV}{H:List Aj}{D:List Cb}{i b:Nat}{cs:List AV}(hi:H[i]?=some (.box b cs)):GX ⟨n,τ,H,D⟩ ⟨n,τ,H.set i (.box b (cs.map dn)),D⟩:=by
 intro F a w hs;refine⟨F,⟨hs.size,hs.tmp,?_,hs.defs⟩,?_⟩
 ·have hk:=EI (x':= .box b (cs.map dn)) hi rfl;refine⟨fun o ho c hc=>?_,by show List.Nodup _;rw[hk];exact hs.heap.nodup,fun o ho=>?_,hs.heap.bd⟩
  ·rcases Cd ho with rfl | ⟨j,_,hj⟩
   ·exact hs.heap.sub _ (List.mem_of_getElem? hi) c hc
   exact hs.heap.sub _ (List.mem_of_getElem? hj) c hc
  rcases Cd ho with rfl | ⟨j,_,hj⟩
  ·exact(on O).2 F w (hs.heap.obj _ (List.mem_of_getElem? hi))
  exact hs.heap.obj _ (List.mem_of_getElem? hj)
 refine { Trans.refl (F:=F) (H:=H) (w:=w) with keys:=fun o ho c hc=>?_ };rcases Cd ho with rfl | ⟨j,_,hj⟩
 ·exact .inl ⟨_,List.mem_of_getElem? hi,hc⟩
 grind
theorem Di {n:Nat}{τ:Nat→AV}{H:List Aj}{D:List Cb}(t:Nat):GX ⟨n,τ,H,D⟩ ⟨n,put τ (some t) (norm (τ t)),H,D⟩:=OC fun _ _ _ h=>h.norm
theorem ob {b:Nat}{cs cs':List AV}(h:cs=cs'):JA (.box b cs) (.box b cs'):=oe (by rw[h])
theorem om {b:Nat}{l l':List (PV×AV)}(h:l=l'):JA (.map b l) (.map b l'):=oe (by rw[h])
def aS (mkv:AV→AV) (sz:Nat) (rows:List (List PV)):DL→List Aj→Prop
 | .val v,H'=>∃o c,v=mkv (.vs o rows.length c)∧H'=[.vec o sz rows c]
 | .panic _,_=>False
section
variable {P:Program}{r:Option Nat}{ops:Array Oper}{Q:Bd→As→Prop}{k:Nat}{n:Nat}{τ:Nat→AV}{H H':List Aj}{D:List Cb}{dst:Option Tmp}{op:Op}{ty:TypeId}{pos:String}{aft:Array Edge}{v:AV}
end
def FB:List AV→List AV→Prop
 | [],ys=>ys=[]
 | x::xs,ys=>∃y ys',ys=y::ys'∧Mq x y∧FB xs ys'
theorem HY:FB [] []:=rfl
theorem aw {x y:AV}{xs ys:List AV}(h:Mq x y) (r:FB xs ys):FB (x::xs) (y::ys):=⟨y,ys,rfl,h,r⟩
theorem LW {F:Nat→Prop}{w:World}:∀{xs ys:List AV}{vs:List Value},FB xs ys→A6 F w xs vs→A6 F w ys vs
 | [],ys,vs,h,hr=>by simp only[FB] at h;subst h;exact hr
 | x::xs,ys,vs,h,hr=>by
  obtain⟨y,ys',rfl,h1,h2⟩:=h;simp only[A6] at hr ⊢;obtain⟨u,us,rfl,r1,r2⟩:=hr;exact⟨u,us,O,h1 F w u r1,LW h2 r2⟩
theorem L6:Mq (.p .nils) (.vs none 0 0):=fun _ _ _ h=>Uu h
theorem BO.args {P:Program}{f:FuncId}{args A:List AV}{H:List Aj}{R:DL→List Aj→Prop}(h:BO P f A H R) (hA:FB args A):BO P f args H R :=
 ⟨h.1,fun F w vs hH ha=>h.2 F w vs hH (LW hA ha)⟩
section
variable {P:Program}{r:Option Nat}{ops:Array Oper}{Q:Bd→As→Prop}{k:Nat}{n:Nat}{τ:Nat→AV}{H Hs:List Aj}{D:List Cb}{dst:Option Tmp}{op:Op}{ty:TypeId}{pos:String}{aft:Array Edge}{v:AV}{c:Call}{f:Operand}{fid:FuncId}{first caps A:List AV}{R:DL→List Aj→Prop}
theorem Qd {S:As}{H':List Aj}(hp:S.H.Perm H'):GX S ⟨S.n,S.τ,H',S.D⟩:=fun F a w hs =>
 ⟨F,⟨hs.size,hs.tmp,hs.heap.perm hp,hs.defs⟩,{ Trans.refl (F:=F) (H:=S.H) (w:=w) with keys:=fun o ho b hb=> .inl ⟨o,hp.mem_iff.2 ho,hb⟩ }⟩
theorem TN (is:List Nat) (ho:ops[k]?=some ⟨dst,.call c,ty,pos,aft,none⟩) (hd:D9 dst n=true)
  (hc:c.callee= .value f) (hf:(ev τ f= .p (.fn fid)∧first=[]∧caps=[])∨ev τ f= .fn (.func fid) first caps) (h:BO P fid A Hs R) (hg:E8 H is Hs) (hn:is.Nodup) (hA:FB (first++c.args.toList.map (ev τ)++caps) A)
  (next:∀v Hs',R (.val v) Hs'→Hs'.length=Hs.length∧AL P r ops (k+1) ⟨n,put τ dst v,Jn H is Hs',D⟩ Q) (pan:∀v Hs',R (.panic v) Hs'→Q (.panic v) ⟨n,τ,Hs'++CM is 0 H,D⟩):AL P r ops k ⟨n,τ,H,D⟩ Q :=
 LR ho hd hc hf (CR hn hg) (h.args hA) (.inl rfl) (fun v H' hR=>by
  have ⟨hl,hn'⟩:=next v H' hR;exact CZ (Qd (S:=⟨n,put τ dst v,H'++CM is 0 H,D⟩) (La hn hg hl).symm) hn') pan
theorem Ou (is:List Nat) (ho:ops[k]?=some ⟨dst,.call c,ty,pos,aft,none⟩) (hd:D9 dst n=true)
  (hc:c.callee= .value f) (hf:(ev τ f= .p (.fn fid)∧first=[]∧caps=[])∨ev τ f= .fn (.func fid) first caps) (h:BO P fid A Hs R) (hg:E8 H is Hs) (hn:is.Nodup) (hA:FB (first++c.args.toList.map (ev τ)++caps) A)
  (next:∀v Hs',R (.val v) Hs'→AL P r ops (k+1) ⟨n,put τ dst v,Hs'++CM is 0 H,D⟩ Q) (pan:∀v Hs',R (.panic v) Hs'→Q (.panic v) ⟨n,τ,Hs'++CM is 0 H,D⟩):AL P r ops k ⟨n,τ,H,D⟩ Q :=
 LR ho hd hc hf (CR hn hg) (h.args hA) (.inl rfl) next pan
theorem RI (i:Nat) {o:Option Nat}{sz0 c0:Nat}{rows0:List (List PV)}{mkv:AV→AV}{sz:Nat}{rows:List (List PV)}(ho:ops[k]?=some ⟨dst,.call c,ty,pos,aft,none⟩) (hd:D9 dst n=true)
  (hc:c.callee= .value f) (hf:(ev τ f= .p (.fn fid)∧first=[]∧caps=[])∨ev τ f= .fn (.func fid) first caps) (h:BO P fid A [.vec o sz0 rows0 c0] (aS mkv sz rows)) (hi:H[i]?=some (.vec o sz0 rows0 c0)) (hA:FB (first++c.args.toList.map (ev τ)++caps) A)
  (next:∀o cp,AL P r ops (k+1) ⟨n,put τ dst (mkv (.vs o rows.length cp)),H.set i (.vec o sz rows cp),D⟩ Q):AL P r ops k ⟨n,τ,H,D⟩ Q :=
 TN [i] ho hd hc hf h ⟨_,_,rfl,hi,rfl⟩ Ag hA (fun v Hs' ⟨o,cp,h1,h2⟩=>by subst h1;subst h2;exact⟨rfl,next o cp⟩) (fun _ _ h=>h.elim)
theorem KG {sz:Nat}:GX ⟨n,τ,H,D⟩ ⟨n,τ,.vec none sz [] 0::H,D⟩:=by
 intro F a w hs;have hH:HRel F (.vec none sz [] 0::H) w:=⟨fun o ho b hb=>by
   rcases List.mem_cons.1 ho with rfl | ho
   ·cases hb
   ·exact hs.heap.sub o ho b hb,by simpa [List.filterMap_cons,Aj.key] using hs.heap.nodup,fun o ho=>by
   rcases List.mem_cons.1 ho with rfl | ho
   ·exact⟨O,O⟩
   exact hs.heap.obj o ho,hs.heap.bd⟩
 exact⟨F,⟨hs.size,hs.tmp,hH,hs.defs⟩,⟨Nat.le_refl _,fun _ _ _=>O,fun _ h _=>h,fun _ h=> .inl h,fun o ho b hb=>by
   rcases List.mem_cons.1 ho with rfl | ho
   ·cases hb
   exact .inl ⟨o,ho,hb⟩,O,O,O⟩⟩
end
section
variable {P:Program}{r:Option Nat}{ops:Array Oper}{Q:Bd→As→Prop}{k:Nat}{n:Nat}{τ:Nat→AV}{H:List Aj}{D:List Cb}{o:Option Nat}{sz cp i:Nat}{rows:List (List PV)}
theorem TO {F:Nat→Prop}{w:World}{a:Act}(hs:D1 F ⟨n,τ,H,D⟩ a w) (hi:H[i]?=some (.vec o sz rows cp)) (hne:0<rows.length):∃b,o=some b:=by
 have:=hs.heap.obj _ (List.mem_of_getElem? hi);cases o with
 | none=>obtain⟨h,_⟩:=this;simp[h] at hne
 | some b=>exact⟨b,rfl⟩
theorem Kg (hi:H[i]?=some (.vec o sz rows cp)) (hne:0<rows.length) (next:∀b,o=some b→AL P r ops k ⟨n,τ,H,D⟩ Q):AL P r ops k ⟨n,τ,H,D⟩ Q:=fun F a w hs=>by
 have ⟨b,hb⟩:=TO hs hi hne;exact next b hb F a w hs
theorem Ku {c:Code}(hi:H[i]?=some (.vec o sz rows cp)) (hne:0<rows.length) (next:∀b,o=some b→GF P r c ⟨n,τ,H,D⟩ Q):GF P r c ⟨n,τ,H,D⟩ Q:=fun F a w hs=>by
 have ⟨b,hb⟩:=TO hs hi hne;exact next b hb F a w hs
end
section
variable {P:Program}{dst:Option Tmp}{ty:TypeId}{pos:String}{aft:Array Edge}{g:Option (Nat×Bool)}{ρ:Operand→AV}{H:List Aj}
theorem Bp {a:Operand}{T e:TypeId}{n n1 n2:Nat}{rows:List (List PV)}(hT:D0 P T=some (e,n1,n2)) (hx:ρ a= .p (.lst rows)) (hn:rows.length=n) :
  Ce P ⟨dst,.call { callee:= .builtin .len,args:=#[a],argTypes:=#[T] },ty,pos,aft,g⟩ ρ H (.p (.int .i64 n)) H:=by grind [KN]
theorem O6 {a:Operand}{T e:TypeId}{m n n1 n2 c:Nat}{o:Option Nat}(hT:D0 P T=some (e,n1,n2)) (hx:ρ a= .vs o m c) (hn:m=n) :
  Ce P ⟨dst,.call { callee:= .builtin .len,args:=#[a],argTypes:=#[T] },ty,pos,aft,g⟩ ρ H (.p (.int .i64 n)) H:=by grind [KN]
end
section
variable {P:Program}{dst:Option Tmp}{ty:TypeId}{pos:String}{aft:Array Edge}{g:Option (Nat×Bool)}{ρ:Operand→AV}{H:List Aj}{x y:Operand}
end
section
variable {P:Program}{ops:Array Oper}{n:Nat}{τ₀:Nat→AV}{D:List Cb}{Q:Bd→As→Prop}{opn:Nat→Bool}{k:Nat}{τ:Nat→AV}{H:List Aj}{rd:Ot}{ef:O7}{effs:List Bool}{fx:List (Nat×Sp)}{dst:Option Tmp}{ty:TypeId}{pos:String}{aft:Array Edge}{c:Call}{f:Operand}{fid:FuncId}{first caps A:List AV}{mkv:AV→AV}{sz:Nat}{rows:List (List PV)}
theorem dk (fx':List (Nat×Sp)) (ho:ops[k]?=some ⟨dst,.call c,ty,pos,aft,none⟩) (hn:opn k=true)
  (hc:c.callee= .value f) (hf:(ev τ f= .p (.fn fid)∧first=[]∧caps=[])∨ev τ f= .fn (.func fid) first caps) (h:BO P fid A [] (aS mkv sz rows)) (hA:first++c.args.toList.map (ev τ)++caps=A∨(first++c.args.toList.map (ev τ)++caps).map norm=A) (haft:Ct ops k (fx'.map (·.1))=true)
  (next:∀o cp,GJ ops k H (.vec o sz rows cp::H) rd∧D6 k (.eff (mkv (.vs o rows.length cp)) (.vec o sz rows cp::H)) fx∧Dr P ops n τ₀ D Q opn (k+1) (put τ dst (mkv (.vs o rows.length cp))) (.vec o sz rows cp::H) rd ((k,H,.vec o sz rows cp::H)::ef) (true::effs) (fx'++fx)):Dr P ops n τ₀ D Q opn k τ H rd ef effs fx :=
 Jh fx' ho hn (FQ (H:=H) (Hs:=[]) (Hf:=H) hc hf Ag h hA) haft ⟨_,_,_,⟨none,0,rfl,rfl⟩,rfl⟩ (fun v H' ⟨_,h,_⟩=>h.elim) (fun v H' ⟨Hs',⟨o,cp,h1,h2⟩,h3⟩=>by subst h1;subst h2;subst h3;exact next o cp)
end
section
variable {P:Program}{dst:Option Tmp}{ty:TypeId}{pos:String}{aft:Array Edge}{g:Option (Nat×Bool)}{ρ:Operand→AV}{H Hs Hs':List Aj}{v:AV}{c:Call}{f:Operand}{fid:FuncId}{first caps A:List AV}
theorem Hz (hc:c.callee= .value f) (hf:ρ f= .p (.fn fid)) (h:EE P fid A v) (hA:FB (c.args.toList.map ρ) A):Ce P ⟨dst,.call c,ty,pos,aft,g⟩ ρ H v H:=BM hc hf (h.args hA) rfl
end
end Go.Abs
namespace Go.Eu
open Go.Abs
structure Mv where
 type:Tm
 known:Bool
 value:Tm
 cls:Bool
 deriving Inhabited
def CX (n:Int):List PV:=[I n]
def FX (s:ByteArray):List PV:=[.str s]
def B5 (m:Mv):List PV:=BB m.type++(.bool m.known::(BB m.value++[.bool m.cls]))
theorem DH (m:Mv):(B5 m).length=12:=by simp[B5,An]
theorem LI {ts:List Int}{i:Nat}{t:Int}(h:ts[i]?=some t):(ts.map CX)[i]?=some (CX t):=by simp[h]
theorem R6 {ts:List ByteArray}{i:Nat}{t:ByteArray}(h:ts[i]?=some t):(ts.map FX)[i]?=some (FX t):=by simp[h]
theorem Kt {ts:List Mv}{i:Nat}{t:Mv}(h:ts[i]?=some t):(ts.map B5)[i]?=some (B5 t):=by simp[h]
abbrev gP (l:List Mv):AV:= .p (.lst (l.map B5))
abbrev cf (l:List Int):AV:= .p (.lst (l.map CX))
theorem Fb {α:Type}{sz:Nat}{f:α→List PV}(h:∀a,DJ sz (f a)) (l:List α):∀r∈l.map f,DJ sz r:=by
 grind
theorem Gt (t:Tm):DJ 5 (BB t):=by
 obtain⟨k,i,n,l,s⟩:=t;refine⟨O,?_⟩
 grind [BB]
theorem Wm (m:Mv):DJ 12 (B5 m):=by
 refine⟨DH m,?_⟩;intro c hc;simp[B5] at hc;rcases hc with hc | rfl | hc | rfl
 ·exact(Gt _).2 c hc
 ·simp
 ·exact(Gt _).2 c hc
 simp
theorem G1 (l:List Tm):∀r∈A0 l,DJ 5 r:=by rw[Cl];exact Fb Gt l
theorem Nv (l:List Mv):∀r∈l.map B5,DJ 12 r:=Fb Wm l
theorem LX (l:List Int):∀r∈l.map CX,DJ 1 r:=Fb (f:=CX) (fun a=>⟨rfl,by simp[CX]⟩) l
theorem H4 (l:List ByteArray):∀r∈l.map FX,DJ 1 r:=Fb (f:=FX) (fun a=>⟨rfl,by simp[FX]⟩) l
theorem Uc (l:List CN):∀r∈l.map Mu,DJ 2 r:=Fb (f:=Mu) (fun a=>⟨rfl,by simp[Mu]⟩) l
theorem Vv (l:List DK):∀r∈l.map Dd,DJ 2 r:=Fb (f:=Dd) (fun a=>⟨rfl,by simp[Dd]⟩) l
theorem HQ {sz:Nat}{rows:List (List PV)}(h:∀r∈rows,DJ sz r):∀r∈rows,r.length=sz:=fun r hr=>(h r hr).1
theorem XT (a b:List Tm):A0 a++A0 b=A0 (a++b):=by simp[Cl]
theorem IY {α:Type}{f:α→List PV}(a b:List α):a.map f++b.map f=(a++b).map f:=by simp
theorem MZ (l:List Tm) (j:Nat) (x:Tm):(A0 l).set j (BB x)=A0 (l.set j x):=by simp[Cl,List.map_set]
theorem dO {α:Type}{f:α→List PV}(l:List α) (j:Nat) (x:α):(l.map f).set j (f x)=(l.set j x).map f:=by simp[List.map_set]
theorem P2 (n:Nat) (x:Tm):List.replicate n (BB x)=A0 (List.replicate n x):=by simp[Cl]
theorem cN {α:Type}{f:α→List PV}(n:Nat) (x:α):List.replicate n (f x)=(List.replicate n x).map f:=by simp
theorem gM (l:List Tm) (hi:Nat):((A0 l).take hi).drop 0=A0 (l.take hi):=by simp[Cl,List.map_take]
theorem RW {α:Type}{f:α→List PV}(l:List α) (hi:Nat):((l.map f).take hi).drop 0=(l.take hi).map f:=by simp[List.map_take]
theorem ew (l:List Tm) (lo:Nat):((A0 l).take (A0 l).length).drop lo=A0 (l.drop lo):=by rw[List.take_length];simp[Cl,List.map_drop]
theorem dG (l:List Tm) (lo hi:Nat):((A0 l).take hi).drop lo=A0 ((l.take hi).drop lo):=by simp[Cl,List.map_take,List.map_drop]
theorem Eg {sz:Nat}{r:List PV}(h:DJ sz r):(r.map AV.p).all one=true:=by
 simp only[List.all_eq_true];intro x hx;obtain⟨c,hc,rfl⟩:=List.mem_map.1 hx;have:=h.2 c hc;cases c<;>simp_all [one]
theorem Hd (t:Tm):((BB t).map AV.p).all one=true:=Eg (Gt t)
theorem Qz (m:Mv):((B5 m).map AV.p).all one=true:=Eg (Wm m)
theorem Xx {r:List PV}(h:∀c∈r,c≠ .nils):(r.map AV.p).map dn=r.map .p:=by
 induction r with
 | nil=>rfl
 | cons c r ih =>
  simp only[List.map_cons];rw[ih fun d hd=>h d (by simp[hd])];have:=h c Ag;cases c<;>simp_all [dn]
theorem Gn (t:Tm):Ep (((BB t).map AV.p).map dn)=some (BB t):=by obtain⟨k,i,n,l,s⟩:=t;rfl
end Go.Eu
namespace Go.Eu
def K7 (f a:Tm):Tm:= .mk 4 0 ⟨#[]⟩ [] [f,a]
def apply (f:Tm) (xs:List Tm):Tm:=xs.foldl K7 f
theorem Oh {f:Tm}{xs:List Tm}{i:Nat}{x:Tm}(h:xs[i]?=some x):apply f (xs.take (i+1))=K7 (apply f (xs.take i)) x:=by
 simp[apply,List.take_add_one,h]
def Al:Tm→Tm×List Tm
 | .mk k i n l [f,a]=>if k=4 then ((Al f).1,(Al f).2++[a]) else (.mk k i n l [f,a],[])
 | t=>(t,[])
theorem Ow {k i:Int}{n:ByteArray}{l:List DK}{ts:List Tm}(h:k≠4∨((ts.length:Nat):Int)≠2):Al (.mk k i n l ts)=(.mk k i n l ts,[]):=by
 unfold Al
 grind
theorem VT {k i:Int}{n:ByteArray}{l:List DK}{ts:List Tm}{x y:Tm}(h:k=4∧((ts.length:Nat):Int)=2) (hx:ts[0]?=some x) (hy:ts[1]?=some y):Al (.mk k i n l ts)=((Al x).1,(Al x).2++[y]):=by
 obtain⟨rfl,h2⟩:=h
 match ts,h2,hx,hy with
 | [a,b],_,hx,hy =>
  grind [Al]
theorem EB:∀(t:Tm),size (Al t).1+Aq (Al t).2+(Al t).2.length=size t
 | .mk k i n l [f,a]=>by
  unfold Al;split
  ·have:=EB f;simp[size,Aq] at this ⊢;have e:∀(xs:List Tm) (y:Tm),Aq (xs++[y])=Aq xs+size y:=by
    intro xs y
    induction xs with
    | nil=>simp[Aq]
    | cons z zs ih=>simp[Aq,ih];omega
   rw[e];omega
  ·simp[Aq]
 | .mk k i n l []=>by simp[Al,Aq]
 | .mk k i n l [_]=>by simp[Al,Aq]
 | .mk k i n l (_::_::_::_)=>by simp[Al,Aq]
theorem Vx (t:Tm):(Al t).2.length<size t:=by grind [EB,size_pos,Al]
def Bi (k:Int) (xs:List Tm) (t:Tm):Tm:=xs.foldr (fun a t=> .mk k 0 ⟨#[]⟩ [] [a,t]) t
theorem sd:(∀(p:Prop) [Decidable p],(decide p=true)=p)∧(∀{p:Prop} [Decidable p],decide p=false↔¬p)∧(∀{α:Type} [BEq α] [LawfulBEq α] {a b:α},(a==b)=true↔a=b)∧(∀{α:Type} [BEq α] [LawfulBEq α] {a b:α},(a !=b)=true↔a≠b)∧(∀{α:Type} [BEq α] [LawfulBEq α] {a b:α},(a==b)=false↔a≠b)∧(∀{α:Type} [BEq α] [LawfulBEq α] {a b:α},(a !=b)=false↔a=b)∧(∀{α:Type}(a b:α),(a≠b)=¬(a=b))∧(∀{α:Type} [LT α] {x y:α},x > y↔y<x)∧(∀{α:Type} [LE α] {x y:α},x≥y↔y≤x)∧(∀(b:Bool),(¬(b=true))=(b=false))∧(∀(b:Bool),(¬(b=false))=(b=true))∧(∀(b:Bool),((!b)=true)=(b=false))∧(∀(b:Bool),((!b)=false)=(b=true))∧(∀{a b:Int},¬a<b↔b≤a)∧(∀{a b:Int},¬a≤b↔b<a) :=
 ⟨fun _=>decide_eq_true_eq,decide_eq_false_iff_not,beq_iff_eq,bne_iff_ne,beq_eq_false_iff_ne,bne_eq_false_iff_eq,ne_eq,gt_iff_lt,ge_iff_le,Bool.not_eq_true,Bool.not_eq_false,fun b=>by cases b<;>simp,fun b=>by cases b<;>simp,Int.not_lt,Int.not_le⟩
theorem se:(∀(ts:List Tm),(A0 ts).length=ts.length)∧(∀{α β:Type}{ays:List α}{f:α→β},(ays.map f).length=ays.length)∧(∀{α:Type}{n:Nat}{a:α},(List.replicate n a).length=n)∧(∀(a b:Bool),((a||b)=true)=(a=true∨b=true))∧(∀(a b:Bool),((a&&b)=true)=(a=true∧b=true))∧(∀{x y:Bool},(x||y)=false↔x=false∧y=false)∧(∀{x y:Bool},(x&&y)=false↔x=true→y=false) :=
 ⟨Av,List.length_map _,List.length_replicate,Bool.or_eq_true,Bool.and_eq_true,Bool.or_eq_false_iff,Bool.and_eq_false_imp⟩
end Go.Eu
namespace Go.Eu
open Go.Abs
def Dc (i:Int):Tm:= .mk 0 i ⟨#[]⟩ [] []
def A3:Tm:= .mk 0 0 ⟨#[]⟩ [] []
def J3 (er e:Int):Int:=if er=0 then e else er
def Lp (er i:Int):Int:=if i > 65535 then J3 er 24 else er
mutual
def Ei:Tm→Int
 | .mk _ _ _ _ ks=>Hc 1 ks
def Hc:Int→List Tm→Int
 | n,[]=>n
 | n,t::ts=>Hc (wr (n+Ei t)) ts
end
mutual
def DZ:Tm→Int
 | .mk _ _ _ _ ks=>wr (E0 0 ks+1)
def E0:Int→List Tm→Int
 | n,[]=>n
 | n,t::ts=>E0 (max n (DZ t)) ts
end
mutual
def BU (b fr:Int):Int→Int→Tm→Tm×Int
 | d,er,.mk k i n l ks =>
  if k=0 then
   (if i<wr (fr+d) then (.mk k i n l ks,er)
    else if wr (i+b)<wr (fr+d) then (.mk k i n l ks,J3 er 24)
    else (Dc (wr (i+b)),Lp er (wr (i+b))))
  else ((.mk k i n l (Bj b fr k d 0 er ks).1),(Bj b fr k d 0 er ks).2)
def Bj (b fr k:Int):Int→Nat→Int→List Tm→List Tm×Int
 | d,j,er,[]=>([],er)
 | d,j,er,t::ts=>((BU b fr (d+below k j) er t).1::(Bj b fr k d (j+1) (BU b fr (d+below k j) er t).2 ts).1,(Bj b fr k d (j+1) (BU b fr (d+below k j) er t).2 ts).2)
end
mutual
def BR (vs:List Tm):Int→Int→Int→Tm→Tm×Int×Int
 | d,er,nd,.mk k i n l ks =>
  if nd > 4096 then (.mk k i n l ks,er,nd)
  else if k=0∧i≥d∧i - d<(vs.length:Int) then
   ((BU d 0 0 er (vs.getD (i - d).toNat A3)).1,(BU d 0 0 er (vs.getD (i - d).toNat A3)).2,wr (nd+Ei (vs.getD (i - d).toNat A3)))
  else if k=0 then
   (if i≥d then (Dc (wr (i - vs.length)),Lp er (wr (i - vs.length)),wr (nd+1)) else (.mk k i n l ks,er,wr (nd+1)))
  else ((.mk k i n l (Bg vs k d 0 er (wr (nd+1)) ks).1),(Bg vs k d 0 er (wr (nd+1)) ks).2)
def Bg (vs:List Tm) (k:Int):Int→Nat→Int→Int→List Tm→List Tm×Int×Int
 | d,j,er,nd,[]=>([],er,nd)
 | d,j,er,nd,t::ts=>((BR vs (d+below k j) er nd t).1::(Bg vs k d (j+1) (BR vs (d+below k j) er nd t).2.1 (BR vs (d+below k j) er nd t).2.2 ts).1,
   (Bg vs k d (j+1) (BR vs (d+below k j) er nd t).2.1 (BR vs (d+below k j) er nd t).2.2 ts).2)
end
def EY (t:Tm) (vs:List Tm) (d:Int):Tm×Int :=
 if (BR vs (min d 65536) 0 0 t).2.2 > 4096 then (A3,5)
 else if (BR vs (min d 65536) 0 0 t).2.1≠0 then (A3,(BR vs (min d 65536) 0 0 t).2.1)
 else if DZ (BR vs (min d 65536) 0 0 t).1 > 200 then (A3,7)
 else ((BR vs (min d 65536) 0 0 t).1,0)
structure PI where
 steps:Int
 nodes:Int
 forms:Int
 limit:Int
 over:Bool
 deriving Inhabited
def PI.form (c:PI) (t:Tm) (e:Int):PI :=
 { c with forms:=wr (c.forms+Ei t),over:=c.over||(e !=0||decide (c.steps > c.limit)||decide (c.nodes > wr (2*c.limit))||decide (wr (c.forms+Ei t) > wr (40*c.limit))||decide (Ei t > 2000)||decide (DZ t > 95)) }
def PI.sized (c:PI) (t:Tm):PI:={ c with over:=c.over||(decide (Ei t > 2000)||decide (DZ t > 95)) }
end Go.Eu
namespace Go.Eu
theorem CG {α:Type}{l:List α}{i:Nat}{x:α}(h:l[i]?=some x):l.drop i=x::l.drop (i+1):=by grind [List.getElem?_eq_some_iff.1,List.drop_eq_getElem_cons]
theorem K9 {α:Type}{l:List α}{i:Nat}{x d:α}(h:l[i]?=some x):l.getD i d=x:=by simp[List.getD,h]
end Go.Eu
namespace Go.Eu
open Go.Abs
theorem TY (n:Int):Hx (wr n):=by
 unfold Hx wr IntKind.wrap;have:IntKind.i64.min= -9223372036854775808:=rfl;have:IntKind.i64.max=9223372036854775807:=rfl;simp[IntKind.signed,IntKind.bits];omega
theorem Wy (i:Int):Nd (Dc (wr i)):=by
 have:=TY i;exact⟨by decide,by decide,by simp,by decide,trivial,⟨by decide,by decide⟩,this⟩
theorem KX:Nd A3:=⟨by decide,by decide,by simp,by decide,trivial,⟨by decide,by decide⟩,⟨by decide,by decide⟩⟩
mutual
theorem L4 (b fr:Int):∀(t:Tm) (d er:Int),Nd t→Nd (BU b fr d er t).1
 | .mk k i n l ks,d,er,h=>by
  unfold BU;split
  ·split
   ·exact h
   split
   ·exact h
   exact Wy _
  simp only[Nd] at h ⊢;have ⟨h1,h2,h3,h4,h5,h6⟩:=h;have ⟨e1,e2⟩:=Om b fr k ks d 0 er h5;exact⟨h1,h2,h3,by rw[e1];exact h4,e2,h6⟩
theorem Om (b fr k:Int):∀(ts:List Tm) (d:Int) (j:Nat) (er:Int),G3 ts→(Bj b fr k d j er ts).1.length=ts.length∧G3 (Bj b fr k d j er ts).1
 | [],d,j,er,h=>by simp[Bj,G3]
 | t::ts,d,j,er,h=>by
  simp only[Bj,G3,List.length_cons] at *;have:=L4 b fr t (d+below k j) er h.1;have ⟨e1,e2⟩:=Om b fr k ts d (j+1) (BU b fr (d+below k j) er t).2 h.2;exact⟨by rw[e1],this,e2⟩
end
theorem Wq {vs:List Tm}(h:G3 vs) (i:Nat):Nd (vs.getD i A3):=by grind [List.getD,KX,K9,CE]
mutual
theorem Qu:∀(t:Tm) (vs:List Tm) (d er nd:Int),Nd t→G3 vs→Nd (BR vs d er nd t).1
 | .mk k i n l ks,vs,d,er,nd,h,hv=>by
  unfold BR;split
  ·exact h
  split
  ·exact L4 _ _ _ _ _ (Wq hv _)
  split
  ·split
   ·exact Wy _
   exact h
  simp only[Nd] at h ⊢;have ⟨h1,h2,h3,h4,h5,h6⟩:=h;have ⟨e1,e2⟩:=OK ks vs k d 0 er (wr (nd+1)) h5 hv;exact⟨h1,h2,h3,by rw[e1];exact h4,e2,h6⟩
theorem OK:∀(ts:List Tm) (vs:List Tm) (k d:Int) (j:Nat) (er nd:Int),G3 ts→G3 vs→(Bg vs k d j er nd ts).1.length=ts.length∧G3 (Bg vs k d j er nd ts).1
 | [],vs,k,d,j,er,nd,h,hv=>by simp[Bg,G3]
 | t::ts,vs,k,d,j,er,nd,h,hv=>by
  simp only[Bg,G3,List.length_cons] at *;have:=Qu t vs (d+below k j) er nd h.1 hv;have ⟨e1,e2⟩:=OK ts vs k d (j+1) (BR vs (d+below k j) er nd t).2.1 (BR vs (d+below k j) er nd t).2.2 h.2 hv;exact⟨by rw[e1],this,e2⟩
end
theorem Vm (t:Tm) (vs:List Tm) (d:Int) (h:Nd t) (hv:G3 vs):Nd (EY t vs d).1:=by grind [EY,KX,Qu]
theorem NX {o:Option Nat}{c:Nat}(l:List Tm) {l':List Tm}(h:l=l'):AV.vs o (A0 l).length c= .vs o (A0 l').length c:=by rw[h]
theorem NM {α:Type}{f:α→List PV}{o:Option Nat}{c:Nat}(l:List α) {l':List α}(h:l=l'):AV.vs o (l.map f).length c= .vs o (l'.map f).length c:=by rw[h]
theorem GP {o:Option Nat}{sz c:Nat}(l:List Tm) {l':List Tm}(h:l=l'):JA (.vec o sz (A0 l) c) (.vec o sz (A0 l') c):=oe (by rw[h])
theorem KW {α:Type}{f:α→List PV}{o:Option Nat}{sz c:Nat}(l:List α) {l':List α}(h:l=l'):JA (.vec o sz (l.map f) c) (.vec o sz (l'.map f) c):=oe (by rw[h])
theorem EU {o:Option Nat}{c:Nat}(l:List Tm) {l':List Tm}(h:l.length=l'.length):AV.vs o (A0 l).length c= .vs o (A0 l').length c:=by rw[Av,Av,h]
theorem Wa {α:Type}{f:α→List PV}{o:Option Nat}{c:Nat}(l:List α) {l':List α}(h:l.length=l'.length):AV.vs o (l.map f).length c= .vs o (l'.map f).length c:=by rw[List.length_map,List.length_map,h]
mutual
def Cx:List Int→Tm→List Int
 | l,.mk k i _ _ ks=>if k=12 then (if i∈l then l else DQ (l++[i]) ks) else DQ l ks
def DQ:List Int→List Tm→List Int
 | l,[]=>l
 | l,t::ts=>DQ (Cx l t) ts
end
mutual
theorem Ii:∀(t:Tm) (l:List Int),(Cx l t).length≤l.length+size t
 | .mk k i n ls ks,l=>by
  simp only[Cx,size];split
  ·split
   ·omega
   have:=Iu ks (l++[i]);simp at this;omega
  have:=Iu ks l;omega
theorem Iu:∀(ts:List Tm) (l:List Int),(DQ l ts).length≤l.length+Aq ts
 | [],l=>by simp[DQ]
 | t::ts,l=>by
  simp only[DQ,Aq];have:=Iu ts (Cx l t);have:=Ii t l;omega
end
def Nx (l:List Int) (n:Int):Bool:=decide (n∈l)
theorem Jz {l:List Int}{i:Nat}{x n:Int}(h:n ∉ l.take i) (hx:l[i]?=some x) (hn:x≠n):n ∉ l.take (i+1):=by grind [List.take_add_one]
def EK (fr:Int):Nat→Nat→List Tm
 | _,0=>[]
 | m,k+1=>Dc (fr+(m+k:Nat))::EK fr m k
theorem Gj (fr:Int) (m:Nat):∀k,(EK fr m k).length=k
 | 0=>rfl
 | k+1=>by simp[EK,Gj fr m k]
theorem Pu (fr:Int) (m:Nat):∀k i,i<k→(EK fr m k)[i]?=some (Dc (fr+(m+k - 1 - i:Nat)))
 | 0,i,h=>by omega
 | k+1,0,h=>by simp[EK]
 | k+1,i+1,h=>by
  simp only[EK,List.getElem?_cons_succ];rw[Pu fr m k i Af];congr 4;omega
def HW (n fr:Int):List Tm:=if n<1∨n > 4096∨fr<0 then [] else EK fr 0 n.toNat
def N6:List Int→List Tm→Option (List Int)
 | l,[]=>some l
 | l,.mk k i _ _ _::ts=>if k≠0∨i∈l then none else N6 (l++[i]) ts
def Jq (t:Tm):Int×List Int×Bool :=
 if (Al t).1.kind≠12 then (0,[],false)
 else match N6 [] (Al t).2 with
  | none=>(0,[],false)
  | some l=>((Al t).1.index,l,true)
def Lh (ms:List Mv) (ctx:List Tm) (t:Tm) (cls:Bool):List Mv×Tm×Int :=
 if ms.length≥2000 then ([],A3,6)
 else if Ei (Bi 6 ctx t) > 4096 then ([],A3,5)
 else if DZ (Bi 6 ctx t) > 200 then ([],A3,7)
 else (ms++[⟨Bi 6 ctx t,false,A3,cls⟩],apply (.mk 12 ms.length ⟨#[]⟩ [] []) (HW ctx.length 0),0)
end Go.Eu
namespace Go.Eu
theorem MF {ts:List Tm}{i:Nat}{t:Tm}(h:ts[i]?=some t):Aq (ts.take i)+size t≤Aq ts:=by
 have:=E3 h
 grind [H7]
theorem cW {a1 b1 a3 b3:Tm}{a2 a4 b2 b4:Bool}:PO (Mv.mk a1 a2 a3 a4) (Mv.mk b1 b2 b3 b4)=(((PO a1 b1&&(a2==b2))&&PO a3 b3)&&(a4==b4)):=by grind [PO]
theorem ax {t:Tm}(h:(Al t).1.kind≠12):Jq t=(0,[],false):=by unfold Jq;rw[if_pos h]
theorem QB {t:Tm}(h:(Al t).1.kind=12) (hp:N6 [] (Al t).2=none):Jq t=(0,[],false):=by grind [Jq]
theorem QQ {t:Tm}{l:List Int}(h:(Al t).1.kind=12) (hp:N6 [] (Al t).2=some l):Jq t=((Al t).1.index,l,true):=by grind [Jq]
end Go.Eu
namespace Go.Eu
open Go.Abs
theorem V4 (n:Nat) (f:Int):(HW n f).length≤n:=by grind [HW,Gj]
theorem Jl {k:Int}{ctx:List Tm}{t:Tm}(h:G3 ctx) (ht:Nd t) (hk:Hx k:=by exact⟨by decide,by decide⟩):Nd (Bi k ctx t):=by
 induction ctx with
 | nil=>exact ht
 | cons a ctx ih =>
  exact⟨by decide,by decide,by simp,by simp[C7],⟨h.1,ih h.2,trivial⟩,hk,⟨by decide,by decide⟩⟩
theorem WK {ms:List Mv}{ctx:List Tm}{t:Tm}{cls:Bool}(h:ms.length≥2000):Lh ms ctx t cls=([],A3,6):=by unfold Lh;rw[if_pos h]
theorem WT {ms:List Mv}{ctx:List Tm}{t:Tm}{cls:Bool}(h:¬ms.length≥2000) (h1:Ei (Bi 6 ctx t) > 4096):Lh ms ctx t cls=([],A3,5):=by grind [Lh]
theorem VN {ms:List Mv}{ctx:List Tm}{t:Tm}{cls:Bool}(h:¬ms.length≥2000) (h1:¬Ei (Bi 6 ctx t) > 4096) (h2:DZ (Bi 6 ctx t) > 200):Lh ms ctx t cls=([],A3,7):=by grind [Lh]
theorem U3 {ms:List Mv}{ctx:List Tm}{t:Tm}{cls:Bool}(h:¬ms.length≥2000) (h1:¬Ei (Bi 6 ctx t) > 4096) (h2:¬DZ (Bi 6 ctx t) > 200):Lh ms ctx t cls=(ms++[⟨Bi 6 ctx t,false,A3,cls⟩],apply (.mk 12 ms.length ⟨#[]⟩ [] []) (HW ctx.length 0),0):=by grind [Lh]
theorem DC {n:Int}(h:Hx n):wr n=n:=RU (k:= .i64) h.1 h.2
mutual
theorem Pl (B:Int) (hB:B≤4611686018427387904):∀(t:Tm),(size t:Int)<B→Ei t=size t
 | .mk k i n l ks,h=>by
  have h':(1:Int)+Aq ks<B:=by rw[size] at h;omega
  show Hc 1 ks=_;rw[Np B hB ks 1 Af h',size];omega
theorem Np (B:Int) (hB:B≤4611686018427387904):∀(ts:List Tm) (n:Int),0≤n→n+Aq ts<B→Hc n ts=n+Aq ts
 | [],n,_,_=>by simp[Hc,Aq]
 | t::ts,n,h0,h=>by
  simp only[Aq,Hc] at *;rw[Pl B hB t (by have:=size_pos t;omega),DC ⟨by omega,by omega⟩,Np B hB ts (n+size t) Af Af];omega
end
mutual
theorem Nl (B:Int) (hB:B≤4611686018427387904):∀(t:Tm),(depth t:Int)<B→DZ t=depth t
 | .mk k i n l ks,h=>by
  have h':(Dz ks:Int)<B:=by rw[depth] at h;omega
  show wr (E0 0 ks+1)=_;rw[Mi B hB ks 0 Af Af h',DC ⟨by omega,by omega⟩,depth];omega
theorem Mi (B:Int) (hB:B≤4611686018427387904):∀(ts:List Tm) (n:Int),0≤n→n<B→(Dz ts:Int)<B→E0 n ts=max n (Dz ts)
 | [],n,_,_,_=>by simp[E0,Dz];omega
 | t::ts,n,h0,h1,h=>by
  simp only[Dz,E0] at *;rw[Nl B hB t Af,Mi B hB ts _ Af Af Af];omega
end
theorem IF {t:Tm}(h:(size t:Int)<4611686018427387904):Ei t=size t:=Pl _ (Int.le_refl _) t h
theorem QK {t:Tm}(h:(size t:Int)<4611686018427387904):DZ t=depth t:=Nl _ (Int.le_refl _) t (by have:=Fu t;omega)
mutual
def Wt:Tm→Prop
 | .mk k i _ _ ks=>(ks.length:Int)=arity k∧(k=12→0≤i)∧Hi ks
def Hi:List Tm→Prop
 | []=>True
 | t::ts=>Wt t∧Hi ts
end
theorem Gf:∀{ts:List Tm}{i:Nat}{t:Tm},Hi ts→ts[i]?=some t→Wt t
 | [],i,t,_,h=>by simp at h
 | a::ts,0,t,hn,h=>by simp at h;subst h;exact hn.1
 | a::ts,i+1,t,hn,h=>by simp at h;exact Gf hn.2 h
theorem Nb:∀{a b:List Tm},Hi (a++b)↔Hi a∧Hi b
 | [],b=>by simp[Hi]
 | x::a,b=>by simp only[List.cons_append,Hi,Nb (a:=a),and_assoc]
theorem NZ:∀{a b:List Tm},G3 (a++b)↔G3 a∧G3 b
 | [],b=>by simp[G3]
 | x::a,b=>by simp only[List.cons_append,G3,NZ (a:=a),and_assoc]
theorem LN (a b:List Tm):Aq (a++b)=Aq a+Aq b:=by
 induction a with
 | nil=>simp[Aq]
 | cons x a ih=>simp[Aq,ih];omega
mutual
theorem XW {vars metas:Int}:∀(t:Tm) (d:Int),wf vars metas d t→Wt t
 | .mk k i n l ks,d,h=>by
  simp only[wf,Wt] at *;exact⟨h.2.2.1,fun e=>(h.2.2.2.2.1 e).1,Yq ks k d 0 h.2.2.2.2.2⟩
theorem Yq {vars metas:Int}:∀(ts:List Tm) (k d:Int) (j:Nat),UW vars metas k d j ts→Hi ts
 | [],k,d,j,h=>trivial
 | t::ts,k,d,j,h=>by
  simp only[UW,Hi] at *;exact⟨XW t _ h.1,Yq ts k d (j+1) h.2⟩
end
theorem Nc:∀(t:Tm),Nd t→Nd (Al t).1∧G3 (Al t).2
 | .mk k i n l [f,a],h=>by
  unfold Al;split
  ·have h':=h;simp only[Nd,G3] at h';have ⟨e1,e2⟩:=Nc f h'.2.2.2.2.1.1;exact⟨e1,NZ.2 ⟨e2,h'.2.2.2.2.1.2.1,Ah⟩⟩
  ·exact⟨h,Ah⟩
 | .mk k i n l [],h=>by simp only[Al];exact⟨h,trivial⟩
 | .mk k i n l [_],h=>by simp only[Al];exact⟨h,trivial⟩
 | .mk k i n l (_::_::_::_),h=>by simp only[Al];exact⟨h,trivial⟩
theorem N1:∀(t:Tm),Wt t→Wt (Al t).1∧Hi (Al t).2
 | .mk k i n l [f,a],h=>by
  unfold Al;split
  ·have h':=h;simp only[Wt,Hi] at h';have ⟨e1,e2⟩:=N1 f h'.2.2.1;exact⟨e1,Nb.2 ⟨e2,h'.2.2.2.1,Ah⟩⟩
  ·exact⟨h,Ah⟩
 | .mk k i n l [],h=>by simp only[Al];exact⟨h,trivial⟩
 | .mk k i n l [_],h=>by simp only[Al];exact⟨h,trivial⟩
 | .mk k i n l (_::_::_::_),h=>by simp only[Al];exact⟨h,trivial⟩
theorem Hv {xs:List Tm}:∀{f:Tm},Nd f→G3 xs→Nd (apply f xs):=by
 induction xs with
 | nil=>intro f h _;exact h
 | cons x xs ih =>
  intro f h hx;exact ih (f:=K7 f x) ⟨by decide,by decide,by simp,by simp[C7],⟨h,hx.1,trivial⟩,⟨by decide,by decide⟩,⟨by decide,by decide⟩⟩ hx.2
theorem Rz {xs:List Tm}:∀{f:Tm},Wt f→Hi xs→Wt (apply f xs):=by
 induction xs with
 | nil=>intro f h _;exact h
 | cons x xs ih =>
  intro f h hx;exact ih (f:=K7 f x) ⟨by simp[arity],by simp,h,hx.1,trivial⟩ hx.2
theorem NY {xs:List Tm}:∀(f:Tm),size (apply f xs)=size f+Aq xs+xs.length:=by
 induction xs with
 | nil=>intro f;simp[apply,Aq]
 | cons x xs ih =>
  intro f;have:=ih (K7 f x);simp only[apply,List.foldl_cons,Aq,List.length_cons] at *;rw[this];simp[K7,size,Aq];omega
theorem UI (i:Int):Wt (Dc i):=⟨by simp[arity],by simp,trivial⟩
theorem Rk:Wt A3:=⟨by simp[arity],by simp,trivial⟩
mutual
theorem ME (b fr:Int):∀(t:Tm) (d er:Int),Wt t→Wt (BU b fr d er t).1
 | .mk k i n l ks,d,er,h=>by
  unfold BU;split
  ·split
   ·exact h
   split
   ·exact h
   exact UI _
  simp only[Wt] at h ⊢;have ⟨e1,e2⟩:=OJ b fr k ks d 0 er h.2.2;exact⟨by rw[e1];exact h.1,h.2.1,e2⟩
theorem OJ (b fr k:Int):∀(ts:List Tm) (d:Int) (j:Nat) (er:Int),Hi ts→(Bj b fr k d j er ts).1.length=ts.length∧Hi (Bj b fr k d j er ts).1
 | [],d,j,er,h=>by simp[Bj,Hi]
 | t::ts,d,j,er,h=>by
  simp only[Bj,Hi,List.length_cons] at *;have:=ME b fr t (d+below k j) er h.1;have ⟨e1,e2⟩:=OJ b fr k ts d (j+1) (BU b fr (d+below k j) er t).2 h.2;exact⟨by rw[e1],this,e2⟩
end
theorem X5 {vs:List Tm}(h:Hi vs) (i:Nat):Wt (vs.getD i A3):=by grind [List.getD,Rk,K9,Gf]
mutual
theorem Qc:∀(t:Tm) (vs:List Tm) (d er nd:Int),Wt t→Hi vs→Wt (BR vs d er nd t).1
 | .mk k i n l ks,vs,d,er,nd,h,hv=>by
  unfold BR;split
  ·exact h
  split
  ·exact ME _ _ _ _ _ (X5 hv _)
  split
  ·split
   ·exact UI _
   exact h
  simp only[Wt] at h ⊢;have ⟨e1,e2⟩:=OR ks vs k d 0 er (wr (nd+1)) h.2.2 hv;exact⟨by rw[e1];exact h.1,h.2.1,e2⟩
theorem OR:∀(ts:List Tm) (vs:List Tm) (k d:Int) (j:Nat) (er nd:Int),Hi ts→Hi vs→(Bg vs k d j er nd ts).1.length=ts.length∧Hi (Bg vs k d j er nd ts).1
 | [],vs,k,d,j,er,nd,h,hv=>by simp[Bg,Hi]
 | t::ts,vs,k,d,j,er,nd,h,hv=>by
  simp only[Bg,Hi,List.length_cons] at *;have:=Qc t vs (d+below k j) er nd h.1 hv;have ⟨e1,e2⟩:=OR ts vs k d (j+1) (BR vs (d+below k j) er nd t).2.1 (BR vs (d+below k j) er nd t).2.2 h.2 hv;exact⟨by rw[e1],this,e2⟩
end
theorem V0 (t:Tm) (vs:List Tm) (d:Int) (h:Wt t) (hv:Hi vs):Wt (EY t vs d).1:=by grind [EY,Rk,Qc]
mutual
theorem HR (b fr:Int):∀(t:Tm) (d er:Int),t.kind=0∧t.kids=[]∨Wt t→size (BU b fr d er t).1=size t
 | .mk k i n l ks,d,er,h=>by
  unfold BU;split
  ·rename_i hk;split
   ·rfl
   split
   ·rfl
   have:ks=[]:=by
    rcases h with h | h
    ·exact h.2
    have:=h.1;subst hk;simp[arity] at this;exact this
   subst this;simp[Dc,size,Aq]
  rename_i hk;have hw:Hi ks:=by
   rcases h with h | h
   ·exact absurd h.1 hk
   exact h.2.2
  simp only[size];rw[K4 b fr k ks d 0 er hw]
theorem K4 (b fr k:Int):∀(ts:List Tm) (d:Int) (j:Nat) (er:Int),Hi ts→Aq (Bj b fr k d j er ts).1=Aq ts
 | [],d,j,er,h=>by simp[Bj]
 | t::ts,d,j,er,h=>by
  simp only[Bj,Aq];rw[HR b fr t _ _ (.inr h.1),K4 b fr k ts _ _ _ h.2]
end
mutual
theorem HL (V:Int) (hV:1≤V) (hV2:V≤2305843009213693952):∀(t:Tm) (vs:List Tm) (d er nd:Int),Wt t→Hi vs→(∀x∈vs,(size x:Int)≤V)→0≤nd→nd≤4096+V →
  nd≤(BR vs d er nd t).2.2∧(BR vs d er nd t).2.2≤4096+V∧((BR vs d er nd t).2.2≤4096→(size (BR vs d er nd t).1:Int)=(BR vs d er nd t).2.2 - nd)
 | .mk k i n l ks,vs,d,er,nd,h,hv,hs,h0,h1=>by
  have hk0:k=0→ks=[]:=by
   intro e;have:=h.1;subst e;simp[arity] at this;exact this
  unfold BR;split
  ·exact⟨by simp,h1,by simp;omega⟩
  split
  ·rename_i hc;have hlt:(i - d).toNat<vs.length:=by omega
   have ⟨x,hx⟩:=Ap hlt;have hxs:=hs x (List.mem_of_getElem? hx);rw[K9 hx,HR _ _ _ _ _ (.inr (Gf hv hx)),IF Af,DC ⟨by omega,by omega⟩];simp only;exact⟨by omega,by omega,by omega⟩
  split
  ·rename_i hk;have hk:=hk0 hk;subst hk;split
   ·simp only[Dc,size,Aq];rw[DC ⟨by omega,by omega⟩];exact⟨by omega,by omega,by omega⟩
   simp only[size,Aq];rw[DC ⟨by omega,by omega⟩];exact⟨by omega,by omega,by omega⟩
  rw[DC (n:=nd+1) ⟨by omega,by omega⟩];have ⟨e1,e2,e3⟩:=IW V hV hV2 ks vs k d 0 er (nd+1) h.2.2 hv hs Af Af;simp only[size];exact⟨by omega,e2,fun q=>by have:=e3 q;omega⟩
theorem IW (V:Int) (hV:1≤V) (hV2:V≤2305843009213693952):∀(ts:List Tm) (vs:List Tm) (k d:Int) (j:Nat) (er nd:Int),Hi ts→Hi vs→(∀x∈vs,(size x:Int)≤V)→0≤nd→nd≤4096+V →
  nd≤(Bg vs k d j er nd ts).2.2∧(Bg vs k d j er nd ts).2.2≤4096+V∧((Bg vs k d j er nd ts).2.2≤4096→(Aq (Bg vs k d j er nd ts).1:Int)=(Bg vs k d j er nd ts).2.2 - nd)
 | [],vs,k,d,j,er,nd,h,hv,hs,h0,h1=>by simp only[Bg,Aq];exact⟨by omega,h1,by omega⟩
 | t::ts,vs,k,d,j,er,nd,h,hv,hs,h0,h1=>by
  have ⟨e1,e2,e3⟩:=HL V hV hV2 t vs (d+below k j) er nd h.1 hv hs h0 h1;have ⟨f1,f2,f3⟩:=IW V hV hV2 ts vs k d (j+1) (BR vs (d+below k j) er nd t).2.1 (BR vs (d+below k j) er nd t).2.2 h.2 hv hs Af e2;simp only[Bg,Aq];exact⟨by omega,f2,fun q=>by have:=f3 q;have:=e3 Af;omega⟩
end
theorem TK (t:Tm) (vs:List Tm) (d:Int) (h:Wt t) (hv:Hi vs) (hs:∀x∈vs,(size x:Int)≤2305843009213693952):size (EY t vs d).1≤4096:=by
 have hz:size A3≤4096:=by simp[A3,size,Aq]
 have ⟨e1,e2,e3⟩:=HL 2305843009213693952 Af Af t vs (min d 65536) 0 0 h hv hs Af Af
 grind [EY]
def known (ms:List Mv) (t:Tm):Bool :=
 match t with
 | .mk k i _ _ _=>k==12&&(decide (i<ms.length)&&(match ms[i.toNat]? with | some m=>m.known | none=>false))
def valueOf (ms:List Mv) (i:Int):Tm:=match ms[i.toNat]? with | some m=>m.value | none=>A3
def MT (F:PI→Tm→Tm×Int×PI):PI→List Tm→List Tm×Int×PI
 | c,[]=>([],0,c)
 | c,t::ts=>if (F c t).2.1≠0 then ([],(F c t).2.1,(F c t).2.2)
  else if (MT F (F c t).2.2 ts).2.1≠0 then ([],(MT F (F c t).2.2 ts).2.1,(MT F (F c t).2.2 ts).2.2)
  else ((F c t).1::(MT F (F c t).2.2 ts).1,0,(MT F (F c t).2.2 ts).2.2)
def bS:PI→Tm→List Tm→PI×Tm×List Tm
 | c,v,[]=>(c,v,[])
 | c,v,a::l=>if v.kind=5∧c.over=false then bS (c.form (EY (v.kids.getD 1 A3) [a] 0).1 (EY (v.kids.getD 1 A3) [a] 0).2) (EY (v.kids.getD 1 A3) [a] 0).1 l else (c,v,a::l)
def Da:Tm→List Tm→Tm
 | .mk k i n l _,ks=> .mk k i n l ks
def SN (ms:List Mv):Nat→List Int→PI→Tm→Tm×Int×PI
 | 0,ab,c,t=>(A3,11,c)
 | n+1,ab,c,t =>
  if c.over=true then (A3,11,c)
  else if known ms (Al t).1=false then
   (let q:=MT (SN ms n ab) c (Al t).1.kids
    if q.2.1≠0 then (A3,q.2.1,q.2.2)
    else
     (let r:=MT (SN ms n ab) q.2.2 (Al t).2
      if r.2.1≠0 then (A3,r.2.1,r.2.2)
      else (apply (Da (Al t).1 q.1) r.1,0,r.2.2.sized (apply (Da (Al t).1 q.1) r.1))))
  else if (Al t).1.index∈ab then (A3,22,c)
  else
   (let v:=SN ms n (ab++[(Al t).1.index]) c (valueOf ms (Al t).1.index)
    if v.2.1≠0 then (A3,v.2.1,v.2.2)
    else
     (let r:=MT (SN ms n ab) (v.2.2.form v.1 0) (Al t).2
      if r.2.1≠0 then (A3,r.2.1,r.2.2)
      else
       (let b:=bS r.2.2 v.1 r.1
        (apply b.2.1 b.2.2,0,b.1.form (apply b.2.1 b.2.2) 0))))
def free (ms:List Mv) (ab:List Int):Nat:=((List.range ms.length).filter fun i:Nat=> !decide ((i:Int)∈ab)).length
theorem filter_lt {α:Type}{p q:α→Bool}{l:List α}(hpq:∀x,q x=true→p x=true) {x:α}(hx:x∈l) (h1:p x=true) (h2:q x=false):(l.filter q).length<(l.filter p).length:=by
 have le:∀l:List α,(l.filter q).length≤(l.filter p).length:=by
  intro l
  induction l with
  | nil=>simp
  | cons a l ih =>
   grind
 induction l with
 | nil=>simp at hx
 | cons a l ih =>
  grind
theorem Zf {ms:List Mv}{ab:List Int}{i:Int}(h0:0≤i) (h1:i<ms.length) (h2:i ∉ ab):free ms (ab++[i])<free ms ab:=by
 unfold free;refine filter_lt (x:=i.toNat) ?_ Aa ?_ ?_
 ·grind
 ·grind
 grind
theorem SB (ms:List Mv):free ms []=ms.length:=by grind [List.filter_eq_self.2,free]
theorem Z7 {v:Tm}(hn:Nd v) (hw:Wt v):G3 v.kids∧Hi v.kids:=by
 obtain⟨k,j,n,l,s⟩:=v;simp only[Nd,Wt] at hn hw;exact⟨hn.2.2.2.2.1,hw.2.2⟩
theorem cq {v:Tm}(hw:Wt v) (h:v.kind=12):0≤v.index:=by
 obtain⟨k,j,n,l,s⟩:=v;simp only[Wt] at hw;exact hw.2.1 h
theorem Dl {α:Type}{l:List α}{x:α}(h:x∈l):∃i:Nat,l[i]?=some x:=by
 have ⟨i,hi,he⟩:=List.mem_iff_getElem.1 h;exact⟨i,by rw[List.getElem?_eq_getElem hi,he]⟩
theorem Vn {ms:List Mv}{h:Tm}(hk:known ms h=true):h.kind=12∧h.index<ms.length:=by
 have ⟨k,i,n,l,s⟩:=h;simp only[known,Bool.and_eq_true,beq_iff_eq,decide_eq_true_eq] at hk;exact⟨hk.1,hk.2.1⟩
section
variable {ms:List Mv}{n:Nat}{ab:List Int}{c:PI}{t:Tm}{zk zi:Int}{zn:ByteArray}{zl:List DK}{zs:List Tm}
end
theorem Vt {f x:Tm}{us:List Tm}:apply (apply f us) [x]=apply f (us++[x]):=by simp[apply]
theorem take_one {α:Type}{l:List α}(h:0<l.length):∃a,l.take 1=[a]∧l=a::l.drop 1:=by
 cases l with
 | nil=>simp at h
 | cons a l=>exact⟨a,rfl,rfl⟩
end Go.Eu
namespace Go.Eu
theorem VU {l:List Tm}{x:Tm}(h:x∈l):size x≤Aq l:=by
 have ⟨i,hi⟩:=Dl h;exact BW hi
end Go.Eu
namespace Go.Abs
section
variable {P:Program}{r:Option Nat}{ops:Array Oper}{Q:Bd→As→Prop}{k:Nat}{n:Nat}{τ:Nat→AV}{T:List Aj}{D:List Cb}{dst:Option Tmp}{op:Op}{ty:TypeId}{pos:String}{aft:Array Edge}{v:AV}{c:Call}{f:Operand}{fid:FuncId}{first caps A:List AV}{R:DL→List Aj→Prop}
theorem JS {H H':List Aj}(hp:H.Perm H') (h:AL P r ops k ⟨n,τ,H',D⟩ Q):AL P r ops k ⟨n,τ,H,D⟩ Q:=CZ (Qd (S:=⟨n,τ,H,D⟩) hp) h
theorem QC (fr:List Aj) {l:Nat}(ho:ops[k]?=some ⟨dst,.call c,ty,pos,aft,none⟩) (hd:D9 dst n=true)
  (hc:c.callee= .value f) (hf:ev τ f= .fn (.yield l) [] []) (h:Ij P l A T R) (hA:c.args.toList.map (ev τ)=A)
  (next:∀v T',R (.val v) T'→AL P r ops (k+1) ⟨n,put τ dst v,fr++T',D⟩ Q) (pan:∀v T',R (.panic v) T'→Q (.panic v) ⟨n,τ,T'++fr,D⟩):AL P r ops k ⟨n,τ,fr++T,D⟩ Q :=
 EC (S:=⟨n,τ,fr++T,D⟩) ho AZ (FK hd) (WL hc hf List.perm_append_comm h hA) (fun v H' ⟨Hs',h1,h2⟩=>by subst h2;exact JS List.perm_append_comm (next v Hs' h1)) (fun v H' ⟨Hs',h1,h2⟩=>by subst h2;exact pan v Hs' h1)
theorem G9 (fr:List Aj) (ho:ops[k]?=some ⟨dst,.call c,ty,pos,aft,none⟩) (hd:D9 dst n=true)
  (hc:c.callee= .value f) (hf:(ev τ f= .p (.fn fid)∧first=[]∧caps=[])∨ev τ f= .fn (.func fid) first caps) (h:BO P fid A T R) (hA:FB (first++c.args.toList.map (ev τ)++caps) A)
  (next:∀v T',R (.val v) T'→AL P r ops (k+1) ⟨n,put τ dst v,fr++T',D⟩ Q) (pan:∀v T',R (.panic v) T'→Q (.panic v) ⟨n,τ,T'++fr,D⟩):AL P r ops k ⟨n,τ,fr++T,D⟩ Q :=
 LR ho hd hc hf List.perm_append_comm (h.args hA) (.inl rfl) (fun v H' h1=>JS List.perm_append_comm (next v H' h1)) pan
end
theorem Dq.append:∀{l l':List Aj}{T:List Aj},Dq l l'→Dq (l++T) (l'++T)
 | [],l',T,h=>by simp only[Dq] at h;subst h;exact Dq.refl T
 | o::l,l',T,h=>by
  obtain⟨o',r',rfl,h1,h2⟩:=h;exact⟨o',r'++T,O,h1,Dq.append h2⟩
theorem ZD (is:List Nat) (l:List Aj) {l1 l' T:List Aj}(h:Jv is 0 l=l1) (w:Dq l1 l'):aU (l++T) (l'++T):=⟨l1++T,(Fe h).append_right T,w.append⟩
theorem Gs (is:List Nat) (l:List Aj) {l1 T:List Aj}(h:Jv is 0 l=l1):(l1++T).Sublist (l++T):=(Fe h).append_right T
theorem Fx {n:Nat}{τ:Nat→AV}{H:List Aj}{D:List Cb}{t:Nat}{x:AV}(h:τ t=x):GX ⟨n,τ,H,D⟩ ⟨n,put τ (some t) x,H,D⟩:=OC fun _ _ _ hr=>h▸hr
section
variable {P:Program}{dst:Option Tmp}{ty:TypeId}{pos:String}{aft:Array Edge}{g:Option (Nat×Bool)}{ρ:Operand→AV}{H:List Aj}{x y:Operand}
theorem Uy {e:TypeId}{bl:Bool}{sz:Nat}(ht:DO P e=some (bl,sz)):∃inf,P.info? e=some inf∧inf.size=sz:=by
 have ⟨d,_,_,h⟩:=Df ht;cases hi:P.info? e with
 | none=>simp[hi] at h
 | some inf=>simp[hi] at h;exact⟨inf,rfl,h⟩
theorem O2 {T e:TypeId}{bl:Bool}{len sz b o:Nat}{k:IntKind}{i:Int}(hu:P.underlying T=some (.array len e)) (ht:DO P e=some (bl,sz)) (hx:ρ x= .ptr b o) (hy:ρ y= .p (.int k i)) (h0:0≤i) (hn:i<len) :
  Ce P ⟨dst,.indexAddr T x y,ty,pos,aft,g⟩ ρ H (.ptr b (o+i.toNat*sz)) H:=by grind [Uy,PL]
theorem Of {T e:TypeId}{bl:Bool}{len sz:Nat}{parts:Array (Nat×Operand)}{z:Value}{cs:List AV}(hu:P.underlying T=some (.array len e)) (ht:DO P e=some (bl,sz)) (hz:zeroOf P T=some z)
  (hc:D2 (fun i=>some (i*sz,sz)) (z.cells.toList.map EZ) (parts.toList.map fun p=>(p.1,ρ p.2))=some cs):Ce P ⟨dst,.build T parts,ty,pos,aft,g⟩ ρ H (.agg cs) H:=by grind [Uy,PX]
end
theorem KQ {P:Program}{g:Operand}{ps:Array Tmp}{assign body:Code}{S:As}{Q:Bd→As→Prop}{fid:FuncId}{first caps:List AV}
  (hg:(ev S.τ g= .p (.fn fid)∧first=[]∧caps=[])∨ev S.τ g= .fn (.func fid) first caps)
  (h:∀d l (L:PE),L=⟨.ready,none,S.n,S.τ,ps,assign,body⟩→∃Hs Hf,(Aj.loop l L:: .dfr d::S.H).Perm (Hs++Hf) ∧
   BO P fid (first++[.fn (.yield l) [] []]++caps) Hs (fun r H'=>Y9 P l d S Q r (H'++Hf))) :
  GF P none (.rangeFunc g ps assign body) S Q:=Vg hg fun d l=>h d l _ rfl
def RV (v:AV) (C:List Aj→Prop):DL→List Aj→Prop
 | .val v',H'=>v'=v∧C H'
 | .panic _,_=>False
section
variable {P:Program}{n:Nat}{τ:Nat→AV}{H:List Aj}{D:List Cb}
theorem eP {b:Nat}{cs cs':List AV}(h:FB cs cs'):JA (.box b cs) (.box b cs'):=⟨rfl,fun F w hr=>by
 have ⟨vs,T,h1,h2⟩:=hr;exact⟨vs,T,h1,LW h h2⟩⟩
theorem Jc {i:Nat}{o o':Aj}(hi:H[i]?=some o) (hw:JA o o'):GX ⟨n,τ,H,D⟩ ⟨n,τ,H.set i o',D⟩:=by
 intro F a w hs;refine⟨F,⟨hs.size,hs.tmp,?_,hs.defs⟩,?_⟩
 ·have hk:=EI (x':=o') hi hw.1;refine⟨fun x hx c hc=>?_,by show List.Nodup _;rw[hk];exact hs.heap.nodup,fun x hx=>?_,hs.heap.bd⟩
  ·rcases Cd hx with rfl | ⟨j,_,hj⟩
   ·exact hs.heap.sub _ (List.mem_of_getElem? hi) c (by rw[←hw.1];exact hc)
   exact hs.heap.sub _ (List.mem_of_getElem? hj) c hc
  rcases Cd hx with rfl | ⟨j,_,hj⟩
  ·exact hw.2 F w (hs.heap.obj _ (List.mem_of_getElem? hi))
  exact hs.heap.obj _ (List.mem_of_getElem? hj)
 refine { Trans.refl (F:=F) (H:=H) (w:=w) with keys:=fun x hx c hc=>?_ };rcases Cd hx with rfl | ⟨j,_,hj⟩
 ·exact .inl ⟨_,List.mem_of_getElem? hi,by rw[←hw.1];exact hc⟩
 grind
end
section
variable {P:Program}{dst:Option Tmp}{ty:TypeId}{pos:String}{aft:Array Edge}{g:Option (Nat×Bool)}{ρ:Operand→AV}{H:List Aj}{x y:Operand}
theorem Iz {T e:TypeId}{b i:Nat}{l:List (Int×AV)}{k:Int}{zv:Value}{za v:AV}(hT:mapOf P T=some e) (hz:zeroOf P e=some zv) (hza:∀F w,BP F w za zv) (hx:ρ x= .map b) (hy:ρ y= .p (.int .i64 k)) (hi:H[i]?=some (.map b (B8 l))) (hv:(GQ k l).getD za=v) :
  Ce P ⟨dst,.lookup T x y false,ty,pos,aft,g⟩ ρ H v H:=by grind [UR]
theorem PY {T e:TypeId}{b i:Nat}{l:List (Int×AV)}{k:Int}{zv:Value}{za v:AV}{ok:Bool}(hT:mapOf P T=some e) (hz:zeroOf P e=some zv) (hza:∀F w,BP F w za zv) (hx:ρ x= .map b) (hy:ρ y= .p (.int .i64 k)) (hi:H[i]?=some (.map b (B8 l))) (hv:(GQ k l).getD za=v) (hok:(GQ k l).isSome=ok) :
  Ce P ⟨dst,.lookup T x y true,ty,pos,aft,g⟩ ρ H (.tup [v,.p (.bool ok)]) H:=by grind [Q7]
theorem Qj (F:Nat→Prop) (w:World):BP F w (.p (.bool false)) (.bool false):=by simp[BP,BN]
end
section
variable {P:Program}{dst:Option Tmp}{ty:TypeId}{pos:String}{aft:Array Edge}{g:Option (Nat×Bool)}{ρ:Operand→AV}{H:List Aj}{x y:Operand}
theorem Mo {T e:TypeId}{sz bytes:Nat}(hT:D0 P T=some (e,sz,bytes)) :
  CL P ⟨dst,.buildSlice T 0 #[],ty,pos,aft,g⟩ ρ H (HZ sz [] H) :=
 FN fun F w E hH hE=>by
  have ⟨hu,i,hi,hs,hby⟩:=Dw hT;have ⟨v,H',F',h1,h2,h3,h4⟩:=LJ (F:=F) (w:=w) (sz:=sz) (c:=0) (rows:=[]) (vs:=[]) (T:=e) (H:=H) hH Ag (by simp[A6]) Ag Ag;refine⟨_,_,v,H',F',?_,h1,h2,h3,h4⟩;have hszr:(sizeOf e).run P w= .ok sz w:=by simp[sizeOf,typeInfo,hi,hs]
  simp only[execOp,Instr.buildSlice,Sem.run_bind,run_underlying hu,Result.andThen_ok,hszr];rw[if_neg Af];simp only[Sem.run_pure,Result.andThen_ok,Sem.run_bind,pure_bind,Nat.zero_mul,if_true];have e0:(Array.map (fun x=>(#[]:Array Value)[x % (#[]:Array Value).size]!) (Array.range 0))=(⟨[]⟩:Array Value):=by simp
  rw[e0];simp only[Array.map_empty,Instr.fill,newRow,newObj,Sem.run_bind,Sem.run,Result.andThen,Sem.run_pure];rfl
end
section
variable {P:Program}{dst:Option Tmp}{ty:TypeId}{pos:String}{aft:Array Edge}{g:Option (Nat×Bool)}{ρ:Operand→AV}{H:List Aj}{x y:Operand}
theorem PM {T U e:TypeId}{n1 n2:Nat}{rows:List (List PV)}(hT:D0 P T=some (e,n1,n2)) (hx:ρ x= .p (.lst rows)) (hy:ρ y= .p .nils):CL P ⟨dst,.binOp .eql T x y U,ty,pos,aft,g⟩ ρ H (Mm (fun v=>∃b:Bool,v= .p (.bool b)∧(b=true→rows=[])) H) :=
 (Q9 (Dw hT).1 hx hy).mono fun r H' h=>by cases r<;>exact h
end
section
variable {P:Program}{r:Option Nat}{ops:Array Oper}{Q:Bd→As→Prop}{k:Nat}{n:Nat}{τ:Nat→AV}{H:List Aj}{D:List Cb}{dst:Option Tmp}{ty:TypeId}{pos:String}{aft:Array Edge}{v:AV}{c:Call}{f:Operand}{fid:FuncId}{first caps A:List AV}
theorem F9 (ho:ops[k]?=some ⟨dst,.call c,ty,pos,aft,none⟩) (hd:D9 dst n=true) (hc:c.callee= .value f) (hf:(ev τ f= .p (.fn fid)∧first=[]∧caps=[])∨ev τ f= .fn (.func fid) first caps) (h:BO P fid A [] (OP v [])) (hA:FB (first++c.args.toList.map (ev τ)++caps) A) (pan:Q (.panic v) ⟨n,τ,H,D⟩):AL P r ops k ⟨n,τ,H,D⟩ Q :=
 LR ho hd hc hf (Hs:=[]) (Hf:=H) Ag (h.args hA) (.inl rfl) (fun _ _ h=>h.elim) (fun v' H' ⟨h1,h2⟩=>by subst h1;subst h2;exact pan)
end
end Go.Abs
namespace Go.Eu
open Go.Abs
def HM (k:Int):Int:=if k=5∨k=6∨k=7 then 1 else if k=11 then 2 else -1
theorem Sc {k:Int}{i:Int}(h:i=HM k) (hi:0≤i):below k i=1:=by grind [HM,below]
theorem P1 {k:Int}{i:Int}(h:i≠HM k):below k i=0:=by
 unfold HM at h;unfold below
 grind
theorem Su {k:Int}(h:¬(0≤k∧k<13)):HM k= -1:=by grind [HM]
section
variable {σ:Type}
mutual
def C8 (st:σ→Int→Tm→σ×Bool):Tm→Int→σ→σ×Bool
 | .mk k i n l ks,d,s=>if (st s d (.mk k i n l ks)).2=false then ((st s d (.mk k i n l ks)).1,false) else Ca st k d 0 (st s d (.mk k i n l ks)).1 ks
def Ca (st:σ→Int→Tm→σ×Bool) (k d:Int):Nat→σ→List Tm→σ×Bool
 | _,s,[]=>(s,true)
 | j,s,t::ts=>if (C8 st t (d+below k j) s).2=false then ((C8 st t (d+below k j) s).1,false) else Ca st k d (j+1) (C8 st t (d+below k j) s).1 ts
end
end
def Lz (ix nm:Bool) (lv ks bl:Int):List AV:=[.p (.bool ix),.p (.bool nm),.p (I lv),.p (I ks),.p (I bl)]
def L8:List AV:=[Lz true false 0 0 (-1),Lz false false 0 0 (-1),Lz false false 1 0 (-1),Lz false true (-1) 0 (-1),Lz false false 0 2 (-1),Lz false false 0 2 1,Lz false false 0 2 1,Lz false false 0 2 1,Lz false false 0 3 (-1),Lz false false 0 1 (-1),Lz false false 0 1 (-1),Lz false false 0 3 2,Lz true false 0 0 (-1)].flatten
theorem Xo {k:Int}(h:0≤k∧k<13):L8[0+k.toNat*5+4]?=some (.p (I (HM k))):=by
 have:k=0∨k=1∨k=2∨k=3∨k=4∨k=5∨k=6∨k=7∨k=8∨k=9∨k=10∨k=11∨k=12:=by omega
 rcases this with rfl | rfl | rfl | rfl | rfl | rfl | rfl | rfl | rfl | rfl | rfl | rfl | rfl<;>rfl
section
variable {σ:Type}{st:σ→Int→Tm→σ×Bool}{Inv:Nat→σ→Prop}
theorem SG {t:Tm}{d:Int}{s:σ}(h:(st s d t).2=false):C8 st t d s=((st s d t).1,false):=by
 obtain⟨k,i,n,l,ks⟩:=t;rw[C8,if_pos h]
theorem FA {k i:Int}{n:ByteArray}{l:List DK}{ks:List Tm}{d:Int}{s:σ}(h:(st s d (.mk k i n l ks)).2=true):C8 st (.mk k i n l ks) d s=Ca st k d 0 (st s d (.mk k i n l ks)).1 ks:=by grind [C8]
theorem Gg {k d:Int}{ts:List Tm}{i:Nat}{x:Tm}{s:σ}(hx:ts[i]?=some x) (h:(C8 st x (d+below k i) s).2=false):Ca st k d i s (ts.drop i)=((C8 st x (d+below k i) s).1,false):=by
 rw[CG hx,Ca,if_pos h]
theorem IU {k d:Int}{ts:List Tm}{i:Nat}{x:Tm}{s:σ}(hx:ts[i]?=some x) (h:(C8 st x (d+below k i) s).2=true):Ca st k d i s (ts.drop i)=Ca st k d (i+1) (C8 st x (d+below k i) s).1 (ts.drop (i+1)):=by
 rw[CG hx,Ca,if_neg (by simp[h])]
mutual
theorem Gq (hI:∀m s d t,Inv (m+1) s→Inv m (st s d t).1):∀(t:Tm) (d:Int) (s:σ) (m:Nat),Inv (m+size t) s→(C8 st t d s).2=true→Inv m (C8 st t d s).1
 | .mk k i n l ks,d,s,m,h,hv=>by
  rw[size,show m+(1+Aq ks)=(m+Aq ks)+1 by omega] at h;have h1:=hI _ _ d (.mk k i n l ks) h;rw[C8] at hv ⊢;split at hv
  ·cases hv
  rename_i hc;rw[if_neg hc];exact MS hI ks k d 0 _ m h1 hv
theorem MS (hI:∀m s d t,Inv (m+1) s→Inv m (st s d t).1):∀(ts:List Tm) (k d:Int) (j:Nat) (s:σ) (m:Nat),Inv (m+Aq ts) s→(Ca st k d j s ts).2=true→Inv m (Ca st k d j s ts).1
 | [],k,d,j,s,m,h,hv=>by simpa [Ca,Aq] using h
 | t::ts,k,d,j,s,m,h,hv=>by
  rw[Aq,show m+(size t+Aq ts)=(m+Aq ts)+size t by omega] at h;rw[Ca] at hv ⊢;split at hv
  ·cases hv
  rename_i hc;rw[if_neg hc];have:=Gq hI t (d+below k j) s _ h (by simpa using hc);exact MS hI ts k d (j+1) _ m this hv
end
end
def T6 (s:Int) (d:Int) (t:Tm):Int×Bool:=(wr (s+1),true)
mutual
theorem TF (B:Int) (hB:B≤4611686018427387904):∀(t:Tm) (d s:Int),0≤s→s+size t<B→C8 T6 t d s=(s+size t,true)
 | .mk k i n l ks,d,s,h0,h=>by
  rw[size] at h ⊢;rw[FA rfl];simp only[T6];rw[DC ⟨by omega,by omega⟩,Pw B hB ks k d 0 (s+1) Af Af];congr 1;omega
theorem Pw (B:Int) (hB:B≤4611686018427387904):∀(ts:List Tm) (k d:Int) (j:Nat) (s:Int),0≤s→s+Aq ts<B→Ca T6 k d j s ts=(s+Aq ts,true)
 | [],k,d,j,s,h0,h=>by simp[Ca,Aq]
 | t::ts,k,d,j,s,h0,h=>by
  rw[Aq] at h ⊢;rw[Ca,TF B hB t _ s h0 Af];simp only;rw[if_neg Ag,Pw B hB ts k d (j+1) (s+size t) Af Af];congr 1;omega
end
def LU (s:List Int) (d:Int):Tm→List Int×Bool
 | .mk k i _ _ _=>(if k=12∧i ∉ s then s++[i] else s,true)
mutual
theorem R7:∀(t:Tm) (d:Int) (s:List Int),Wt t→C8 LU t d s=(Cx s t,true)
 | .mk k i n l ks,d,s,h=>by
  rw[FA rfl,Cx];simp only[LU];by_cases hk:k=12
  ·have hks:ks=[]:=by
    have:=h.1;subst hk;simp[arity] at this;exact this
   subst hks;by_cases hi:i∈s
   ·simp[hk,hi,Ca]
   simp[hk,hi,Ca,DQ]
  rw[if_neg (by simp[hk]),if_neg hk];exact Qp ks k d 0 s h.2.2
theorem Qp:∀(ts:List Tm) (k d:Int) (j:Nat) (s:List Int),Hi ts→Ca LU k d j s ts=(DQ s ts,true)
 | [],k,d,j,s,h=>by simp[Ca,DQ]
 | t::ts,k,d,j,s,h=>by
  rw[Ca,R7 t _ s h.1,DQ];simp only;rw[if_neg Ag,Qp ts k d (j+1) _ h.2]
end
def Jo (s:List Int):List (Int×AV):=s.map fun i=>(i,.p (.bool true))
theorem W8 (s:List Int) (k:Int):(GQ k (Jo s)).getD (.p (.bool false))= .p (.bool (Nx s k)):=by
 induction s with
 | nil=>simp[Jo,GQ,Nx]
 | cons a s ih =>
  by_cases h:a=k
  ·simp[Jo,GQ,Nx,h]
  have h':¬k=a:=fun e=>h e.symm;simp only[Jo,List.map_cons,GQ,h,if_false];have:Nx (a::s) k=Nx s k:=by simp[Nx,h']
  rw[this];exact ih
theorem Yj {s:List Int}{k:Int}(h:k ∉ s):JU k (.p (.bool true)) (Jo s)=Jo (s++[k]):=by
 induction s with
 | nil=>simp[Jo,JU]
 | cons a s ih =>
  simp at h;have h':¬a=k:=fun e=>h.1 e.symm;simp only[Jo,List.map_cons,JU,h',if_false,List.cons_append] at *;rw[ih h.2]
theorem XB {s:List Int}{d k i:Int}{n:ByteArray}{l:List DK}{ks:List Tm}(h:k=12) (hi:i ∉ s):LU s d (.mk k i n l ks)=(s++[i],true):=by simp[LU,h,hi]
theorem Xh {s:List Int}{d k i:Int}{n:ByteArray}{l:List DK}{ks:List Tm}(h:¬(k=12∧i ∉ s)):LU s d (.mk k i n l ks)=(s,true):=by grind [LU]
theorem Ww (m:Nat) (s:List Int) (d:Int) (t:Tm) (h:s.length+(m+1)<1099511627776):(LU s d t).1.length+m<1099511627776:=by
 obtain⟨k,i,n,l,ks⟩:=t;simp only[LU]
 grind
def S1 (xs ys:List Tm) (i:Nat):Prop:=ys.length=xs.length∧∀k,k<xs.length→ys[k]?=if k<i∨xs.length - 1 - k<i then xs[xs.length - 1 - k]? else xs[k]?
theorem Te (xs:List Tm):S1 xs xs 0:=⟨rfl,fun k hk=>by rw[if_neg Af]⟩
theorem Tx {xs ys:List Tm}{i:Nat}{a b:Tm}(h:S1 xs ys i) (hi:i<xs.length - 1 - i) (ha:ys[i]?=some a) (hb:ys[xs.length - 1 - i]?=some b):S1 xs ((ys.set i b).set (xs.length - 1 - i) a) (i+1):=by
 have ⟨hl,h⟩:=h;refine⟨by simp[hl],fun k hk=>?_⟩;have e1:=h i Af;rw[if_neg Af,ha] at e1;have e2:=h (xs.length - 1 - i) Af;rw[if_neg Af,hb] at e2;by_cases k1:k=xs.length - 1 - i
 ·grind
 rw[List.getElem?_set_ne (fun e=>k1 e.symm)];by_cases k2:k=i
 ·grind
 rw[List.getElem?_set_ne (fun e=>k2 e.symm),h k hk];by_cases k3:k<i∨xs.length - 1 - k<i
 ·grind
 rw[if_neg k3,if_neg Af]
theorem T9 {xs ys:List Tm}{i:Nat}(h:S1 xs ys i) (hi:xs.length - 1 - i≤i):ys=xs.reverse:=by
 have ⟨hl,h⟩:=h;apply List.ext_getElem?;intro k;by_cases hk:k<xs.length
 ·grind
 grind
def HK (f:Int) (n i:Nat):List Tm:=(EK f 0 n).take i++List.replicate (n - i) A3
theorem N3 (f:Int) (n:Nat):HK f n 0=List.replicate n A3:=by simp[HK]
theorem H8 (f:Int) {n i:Nat}(h:i≤n):(HK f n i).length=n:=by simp[HK,Gj];omega
theorem UA (f:Int) {n i:Nat}(h:i<n):(HK f n i).set i (Dc (f+(n - 1 - i:Nat)))=HK f n (i+1):=by
 unfold HK;have h1:((EK f 0 n).take i).length=i:=by simp[Gj];omega
 rw[List.set_append_right _ _ Af,h1,Nat.sub_self,List.take_add_one,Pu f 0 n i h];obtain⟨k,hk⟩:∃k,n - i=k+1:=⟨n - i - 1,by omega⟩
 grind
theorem We (f:Int) (n:Nat):HK f n n=EK f 0 n:=by
 unfold HK;rw[Nat.sub_self,List.take_of_length_le (by simp[Gj])];simp
def KJ (t:Tm):Bool:=decide ((size t:Int) > 4096)||decide (DZ t > 200)
def ZB {σ:Type}(st:σ→Int→Tm→σ) (xs:List Tm):Nat→σ→σ
 | 0,s=>s
 | m+1,s=>ZB st xs m (st s m (xs.getD m A3))
theorem Yr {σ:Type}{st:σ→Int→Tm→σ}{xs:List Tm}{m j:Nat}{x:Tm}{s:σ}(hx:xs[j]?=some x) (hm:m=j+1):ZB st xs (m - 1) (st s ((m:Int) - 1) x)=ZB st xs m s:=by grind [Nat.add_sub_cancel,ZB,K9]
def Ns (k:Int) (t:Tm) (i:Int) (a:Tm):Tm:= .mk k 0 ⟨#[]⟩ [] [a,t]
theorem Py (k:Int) (xs:List Tm):∀(m:Nat) (t:Tm),m≤xs.length→ZB (Ns k) xs m t=Bi k (xs.take m) t
 | 0,t,_=>rfl
 | m+1,t,h=>by
  have ⟨x,hx⟩:=Ap (l:=xs) (i:=m) Af;rw[ZB,K9 hx,Py k xs m _ Af,List.take_add_one,hx];simp[Bi,Ns]
end Go.Eu
namespace Go.Abs
def eD (mkv:Nat→AV) (cs:List AV):DL→List Aj→Prop
 | .val v,H'=>∃b,v=mkv b∧H'=[.box b cs]
 | .panic _,_=>False
section
variable {P:Program}{ops:Array Oper}{n:Nat}{τ₀ τ:Nat→AV}{D:List Cb}{Q:Bd→As→Prop}{opn:Nat→Bool}{k:Nat}{H:List Aj}{dst:Option Tmp}{ty:TypeId}{pos:String}{aft:Array Edge}{c:Call}{f:Operand}{fid:FuncId}{first caps A:List AV}{mkv:Nat→AV}{cs:List AV}
theorem Rm {rd ef effs fx}(fx':List (Nat×Sp)) (ho:ops[k]?=some ⟨dst,.call c,ty,pos,aft,none⟩) (hn:opn k=true)
  (hc:c.callee= .value f) (hf:(ev τ f= .p (.fn fid)∧first=[]∧caps=[])∨ev τ f= .fn (.func fid) first caps) (h:BO P fid A [] (eD mkv cs)) (hA:first++c.args.toList.map (ev τ)++caps=A∨(first++c.args.toList.map (ev τ)++caps).map norm=A) (haft:Ct ops k (fx'.map (·.1))=true)
  (next:∀b,GJ ops k H (.box b cs::H) rd∧D6 k (.eff (mkv b) (.box b cs::H)) fx∧Dr P ops n τ₀ D Q opn (k+1) (put τ dst (mkv b)) (.box b cs::H) rd ((k,H,.box b cs::H)::ef) (true::effs) (fx'++fx)):Dr P ops n τ₀ D Q opn k τ H rd ef effs fx :=
 Jh fx' ho hn (FQ (H:=H) (Hs:=[]) (Hf:=H) hc hf Ag h hA) haft ⟨_,_,_,⟨0,rfl,rfl⟩,rfl⟩ (fun v H' ⟨_,h,_⟩=>h.elim) (fun v H' ⟨Hs',⟨b,h1,h2⟩,h3⟩=>by subst h1;subst h2;subst h3;exact next b)
end
def M7 {α:Type}(mkv:α→AV) (mkp:Int→AV) (C:α→List Aj→Prop) (x:Except Int α):DL→List Aj→Prop
 | .val v,H'=>∃a,x= .ok a∧v=mkv a∧C a H'
 | .panic v,_=>∃e,x= .error e∧v=mkp e
theorem CL.permR {P:Program}{ρ:Operand→AV}{o:Oper}{H:List Aj}{R R':DL→List Aj→Prop}(h:CL P o ρ H R) (hp:∀r H1,R r H1→∃H2,H1.Perm H2∧R' r H2):CL P o ρ H R':=by
 intro r F S a w hs hH hρ hd;have:=h r F S a w hs hH hρ hd;refine Ff this ?_ ?_
 ·rintro a' w' ⟨v',H1,F',hR,hs',ht⟩;have ⟨H2,hp,hR'⟩:=hp _ _ hR;exact⟨v',H2,F',hR',⟨hs'.size,hs'.tmp,hs'.heap.perm hp,hs'.defs⟩,{ ht with keys:=fun o ho=>ht.keys o (hp.mem_iff.2 ho) }⟩
 rintro e a' w' ⟨v',H1,F',u,hR,h1,h2,hs',ht⟩;have ⟨H2,hp,hR'⟩:=hp _ _ hR;exact⟨v',H2,F',u,hR',h1,h2,⟨hs'.size,hs'.tmp,hs'.heap.perm hp,hs'.defs⟩,{ ht with keys:=fun o ho=>ht.keys o (hp.mem_iff.2 ho) }⟩
section
variable {P:Program}{ops:Array Oper}{n:Nat}{τ₀ τ:Nat→AV}{D:List Cb}{Q:Bd→As→Prop}{opn:Nat→Bool}{k:Nat}{T:List Aj}{dst:Option Tmp}{ty:TypeId}{pos:String}{aft:Array Edge}{c:Call}{f:Operand}{fid:FuncId}{first caps A:List AV}
 {α:Type} {mkv:α→AV} {mkp:Int→AV} {C:α→List Aj→Prop} {x:Except Int α}
theorem bK {r:Option Nat}(fr:List Aj) (ho:ops[k]?=some ⟨dst,.call c,ty,pos,aft,none⟩) (hd:D9 dst n=true)
  (hc:c.callee= .value f) (hf:(ev τ f= .p (.fn fid)∧first=[]∧caps=[])∨ev τ f= .fn (.func fid) first caps) (h:BO P fid A T (M7 mkv mkp C x)) (hA:FB (first++c.args.toList.map (ev τ)++caps) A)
  (next:∀a T',x= .ok a→C a T'→AL P r ops (k+1) ⟨n,put τ dst (mkv a),fr++T',D⟩ Q) (pan:∀e T',x= .error e→Q (.panic (mkp e)) ⟨n,τ,T'++fr,D⟩):AL P r ops k ⟨n,τ,fr++T,D⟩ Q :=
 G9 fr ho hd hc hf h hA (fun v T' ⟨a,h1,h2,h3⟩=>by subst h2;exact next a T' h1 h3) (fun v T' ⟨e,h1,h2⟩=>by subst h2;exact pan e T' h1)
theorem fX {rd ef effs fx}(fr:List Aj) (ho:ops[k]?=some ⟨dst,.call c,ty,pos,aft,none⟩) (hn:opn k=true)
  (hc:c.callee= .value f) (hf:(ev τ f= .p (.fn fid)∧first=[]∧caps=[])∨ev τ f= .fn (.func fid) first caps) (h:BO P fid A T (M7 mkv mkp C x)) (hA:FB (first++c.args.toList.map (ev τ)++caps) A) (haft:Ct ops k []=true) (chk:KI ops n (true::effs).reverse=true) (hfx:KC k fx=true) (owe:GJ ops k (fr++T) (fr++T) rd)
  (next:∀a T',x= .ok a→C a T'→GJ ops k (fr++T) (fr++T') rd∧D6 k (.eff (mkv a) (fr++T')) fx∧Dr P ops n τ₀ D Q opn (k+1) (put τ dst (mkv a)) (fr++T') rd ((k,fr++T,fr++T')::ef) (true::effs) fx)
  (pan:∀e,x= .error e→∀τ' T',(∀t,(∀(k:Nat) o,ops[k]?=some o→o.dst≠some t)→τ' t=τ₀ t)→Q (.panic (mkp e)) ⟨n,τ',T'++fr,D⟩):Dr P ops n τ₀ D Q opn k τ (fr++T) rd ef effs fx:=by
 have hop:CL P ⟨dst,.call c,ty,pos,aft,none⟩ (ev τ) (fr++T) (fun r H'=>∃T',M7 mkv mkp C x r T'∧(match r with | .val _=>H'=fr++T' | .panic _=>H'=T'++fr)):=by
  refine CL.permR (FQ (H:=fr++T) (Hs:=T) (Hf:=fr) hc hf List.perm_append_comm (h.args hA) (.inl O)) ?_;rintro r H1 ⟨T',hR,rfl⟩;cases r with
  | val v=>exact⟨fr++T',List.perm_append_comm,T',hR,rfl⟩
  | panic v=>exact⟨T'++fr,List.Perm.refl _,T',hR,rfl⟩
 by_cases hx:∃a T',x= .ok a∧C a T'
 ·have ⟨a,T',hx,hC⟩:=hx;refine Dr.opn _ [] ho hn Ah hop haft ⟨mkv a,_,T',⟨a,hx,O,hC⟩,O⟩ ?_ ?_ ?_ ?_
  ·rintro v H' ⟨T',⟨a',h1,h2,h3⟩,rfl⟩
   grind
  ·rintro v H' ⟨T',⟨a',h1,h2,h3⟩,rfl⟩;subst h2;exact(next a' T' h1 h3).2.1
  ·rintro v H' ⟨T',⟨a',h1,h2,h3⟩,rfl⟩
   grind
  rintro v H' ⟨T',⟨e,h1,h2⟩,rfl⟩ τ' hτ
  grind
 refine Dr.pan _ ho hn Ah hop haft chk hfx ?_ owe ?_
 ·rintro v H' ⟨T',⟨a',h1,h2,h3⟩,rfl⟩
  grind
 rintro v H' ⟨T',⟨e,h1,h2⟩,rfl⟩ τ' hτ
 grind
end
section
variable {P:Program}{ops:Array Oper}{n:Nat}{τ₀ τ:Nat→AV}{D:List Cb}{Q:Bd→As→Prop}{opn:Nat→Bool}{k:Nat}{H Hs:List Aj}{dst:Option Tmp}{ty:TypeId}{pos:String}{aft:Array Edge}{c:Call}{f:Operand}{fid:FuncId}{first caps A:List AV}
 {α:Type} {mkv:α→AV} {mkp:Int→AV} {C:α→List Aj→Prop} {x:Except Int α}
theorem E4 {r:Option Nat}(is:List Nat) (ho:ops[k]?=some ⟨dst,.call c,ty,pos,aft,none⟩) (hd:D9 dst n=true)
  (hc:c.callee= .value f) (hf:(ev τ f= .p (.fn fid)∧first=[]∧caps=[])∨ev τ f= .fn (.func fid) first caps) (h:BO P fid A Hs (M7 mkv mkp C x)) (hg:E8 H is Hs) (hn:is.Nodup) (hA:FB (first++c.args.toList.map (ev τ)++caps) A)
  (hl:∀a T',C a T'→T'.length=Hs.length)
  (next:∀a T',x= .ok a→C a T'→AL P r ops (k+1) ⟨n,put τ dst (mkv a),Jn H is T',D⟩ Q) (pan:∀e H',x= .error e→Q (.panic (mkp e)) ⟨n,τ,H'++CM is 0 H,D⟩):AL P r ops k ⟨n,τ,H,D⟩ Q :=
 TN is ho hd hc hf h hg hn hA (fun v T' ⟨a,h1,h2,h3⟩=>by subst h2;exact⟨hl a T' h3,next a T' h1 h3⟩) (fun v T' ⟨e,h1,h2⟩=>by subst h2;exact pan e T' h1)
theorem IT {rd ef effs fx}(is:List Nat) (ho:ops[k]?=some ⟨dst,.call c,ty,pos,aft,none⟩) (hn:opn k=true)
  (hc:c.callee= .value f) (hf:(ev τ f= .p (.fn fid)∧first=[]∧caps=[])∨ev τ f= .fn (.func fid) first caps) (h:BO P fid A Hs (M7 mkv mkp C x)) (hg:E8 H is Hs) (hnd:is.Nodup) (hA:FB (first++c.args.toList.map (ev τ)++caps) A)
  (hl:∀a T',C a T'→T'.length=Hs.length) (haft:Ct ops k []=true) (chk:KI ops n (true::effs).reverse=true) (hfx:KC k fx=true) (owe:GJ ops k H H rd)
  (next:∀a T',x= .ok a→C a T'→GJ ops k H (Jn H is T') rd∧D6 k (.eff (mkv a) (Jn H is T')) fx∧Dr P ops n τ₀ D Q opn (k+1) (put τ dst (mkv a)) (Jn H is T') rd ((k,H,Jn H is T')::ef) (true::effs) fx)
  (pan:∀e,x= .error e→∀τ' H',(∀t,(∀(k:Nat) o,ops[k]?=some o→o.dst≠some t)→τ' t=τ₀ t)→Q (.panic (mkp e)) ⟨n,τ',H'++CM is 0 H,D⟩):Dr P ops n τ₀ D Q opn k τ H rd ef effs fx:=by
 have hop:CL P ⟨dst,.call c,ty,pos,aft,none⟩ (ev τ) H (fun r H'=>∃T',M7 mkv mkp C x r T'∧(match r with | .val _=>H'=Jn H is T' | .panic _=>H'=T'++CM is 0 H)):=by
  refine CL.permR (FQ hc hf (CR hnd hg) (h.args hA) (.inl O)) ?_;rintro r H1 ⟨T',hR,rfl⟩;cases r with
  | val v=>obtain⟨a,h1,h2,h3⟩:=hR;exact⟨_,(La hnd hg (hl a T' h3)).symm,T',⟨a,h1,h2,h3⟩,rfl⟩
  | panic v=>exact⟨_,List.Perm.refl _,T',hR,rfl⟩
 by_cases hx:∃a T',x= .ok a∧C a T'
 ·have ⟨a,T',hx,hC⟩:=hx;refine Dr.opn _ [] ho hn Ah hop haft ⟨mkv a,_,T',⟨a,hx,O,hC⟩,O⟩ ?_ ?_ ?_ ?_
  ·rintro v H' ⟨T',⟨a',h1,h2,h3⟩,rfl⟩
   grind
  ·rintro v H' ⟨T',⟨a',h1,h2,h3⟩,rfl⟩;subst h2;exact(next a' T' h1 h3).2.1
  ·rintro v H' ⟨T',⟨a',h1,h2,h3⟩,rfl⟩
   grind
  rintro v H' ⟨T',⟨e,h1,h2⟩,rfl⟩ τ' hτ
  grind
 refine Dr.pan _ ho hn Ah hop haft chk hfx ?_ owe ?_
 ·rintro v H' ⟨T',⟨a',h1,h2,h3⟩,rfl⟩
  grind
 rintro v H' ⟨T',⟨e,h1,h2⟩,rfl⟩ τ' hτ
 grind
end
theorem B2:∀xs:List AV,FB xs xs
 | []=>HY
 | x::xs=>aw (we rfl) (B2 xs)
def gB (ops:Array Oper) (t:Nat):Bool:=ops.toList.all fun o=>match o.dst with | some u=> !(Nat.beq u t) | none=>true
theorem IZ {ops:Array Oper}{t:Nat}(h:gB ops t=true) (k:Nat) (o:Oper) (ho:ops[k]?=some o):o.dst≠some t:=by
 intro e;have hm:o∈ops.toList:=by
  grind
 have:=List.all_eq_true.1 h o hm;simp[e] at this
theorem Hr {L Hs:List Aj}{is:List Nat}(X:List Aj) (hn:is.Nodup) (hg:E8 L is Hs):(X++L).Perm (Hs++(X++CM is 0 L)):=by
 have h:=(CR hn hg).append_left X;refine h.trans ?_
 grind [List.append_assoc,List.perm_append_comm.append_right]
theorem Cp.eq {P:Program}{f:FuncId}{caps:List AV}{m:Jx}{H X:List Aj}{R:List Aj→Prop}(h:Cp P f caps m H (fun H'=>H'=X)) (hq:R X):Cp P f caps m H R:=by
 refine⟨h.1,fun F w vs u hH hr hm=>?_⟩;refine(h.2 F w vs u hH hr hm).mono ?_
 grind
end Go.Abs
namespace Go.Eu
open Go.Abs
mutual
def Vp:Tm→Prop
 | .mk k i _ _ ks=>(k=0→0≤i∧i<1099511627776)∧MG ks
def MG:List Tm→Prop
 | []=>True
 | t::ts=>Vp t∧MG ts
end
theorem FU:∀{ts:List Tm}{i:Nat}{t:Tm},MG ts→ts[i]?=some t→Vp t
 | [],i,t,_,h=>by simp at h
 | a::ts,0,t,hn,h=>by simp at h;subst h;exact hn.1
 | a::ts,i+1,t,hn,h=>by simp at h;exact FU hn.2 h
def Ly:Tm→Tm
 | .mk k i n l _=> .mk k i n l []
def GM (i:Int):Except Int Tm:=if i > 65535 then .error 24 else .ok (Dc i)
def Sa (n m:Int):Except Int Int:=if wr (n+m) > 4096 then .error 5 else .ok (wr (n+m))
def Ug (b fr:Int) (t:Tm) (d:Int):Except Int Tm :=
 if t.index - d<fr then .ok (Ly t) else if b<0∧t.index - d<fr - b then .error 24 else GM (t.index+b)
def El {α β:Type}(f:α→β):Except Int α→Except Int β
 | .error e=> .error e
 | .ok x=> .ok (f x)
def CC {α β:Type}(x:Except Int α) (f:α→Except Int β):Except Int β :=
 match x with
 | .error e=> .error e
 | .ok x=>f x
def Hy (rep:Tm→Int→Except Int Tm) (s:Unit) (t:Tm) (d:Int):Except Int ((Tm×Bool)×Unit) :=
 if t.kind=0 then El (fun x=>((x,true),())) (rep t d) else .ok ((Ly t,false),())
mutual
def Cv {σ:Type}(vis:σ→Tm→Int→Except Int ((Tm×Bool)×σ)):Tm→Int→σ→Except Int (Tm×σ)
 | .mk k i n l ks,d,s=>CC (vis s (.mk k i n l ks) d) fun r =>
   if r.1.2=true then .ok (r.1.1,r.2) else CC (Co vis k 0 ks d r.2) fun q=> .ok (Da r.1.1 q.1,q.2)
def Co {σ:Type}(vis:σ→Tm→Int→Except Int ((Tm×Bool)×σ)) (k:Int):Nat→List Tm→Int→σ→Except Int (List Tm×σ)
 | _,[],_,s=> .ok ([],s)
 | j,t::ts,d,s=>CC (Cv vis t (d+below k j) s) fun r=>CC (Co vis k (j+1) ts d r.2) fun q=> .ok (r.1::q.1,q.2)
end
section
variable {σ:Type}{vis:σ→Tm→Int→Except Int ((Tm×Bool)×σ)}
theorem Eb {t:Tm}{d:Int}{s q:σ}{o:Tm}(h:vis s t d= .ok ((o,true),q)):Cv vis t d s= .ok (o,q):=by
 obtain⟨k,i,n,l,ks⟩:=t;simp[Cv,h,CC]
theorem Fo {t:Tm}{d e:Int}{s:σ}(h:vis s t d= .error e):Cv vis t d s= .error e:=by
 obtain⟨k,i,n,l,ks⟩:=t;simp[Cv,h,CC]
theorem GB {k i d:Int}{n:ByteArray}{l:List DK}{ks:List Tm}{s q q':σ}{o:Tm}{ys:List Tm}(h:vis s (.mk k i n l ks) d= .ok ((o,false),q)) (hk:Co vis k 0 ks d q= .ok (ys,q')):Cv vis (.mk k i n l ks) d s= .ok (Da o ys,q'):=by
 simp[Cv,h,CC,hk]
theorem HE {k i d e:Int}{n:ByteArray}{l:List DK}{ks:List Tm}{s q:σ}{o:Tm}(h:vis s (.mk k i n l ks) d= .ok ((o,false),q)) (hk:Co vis k 0 ks d q= .error e):Cv vis (.mk k i n l ks) d s= .error e:=by
 simp[Cv,h,CC,hk]
def OS (vis:σ→Tm→Int→Except Int ((Tm×Bool)×σ)) (k:Int) (ts:List Tm) (d:Int) (q0:σ) (i:Nat) (ys:List Tm) (q:σ):Prop :=
 ys.length=i∧Co vis k 0 ts d q0=CC (Co vis k i (ts.drop i) d q) fun r=> .ok (ys++r.1,r.2)
theorem OS.zero (k:Int) (ts:List Tm) (d:Int) (q0:σ):OS vis k ts d q0 0 [] q0:=by
 refine⟨O,?_⟩;simp only[List.drop_zero,List.nil_append];cases Co vis k 0 ts d q0<;>rfl
theorem OS.err {k d e:Int}{ts ys:List Tm}{q0 q:σ}{i:Nat}{x:Tm}(h:OS vis k ts d q0 i ys q) (hx:ts[i]?=some x) (hb:Cv vis x (d+below k i) q= .error e):Co vis k 0 ts d q0= .error e:=by
 rw[h.2,CG hx,Co,hb];rfl
theorem OS.succ {k d:Int}{ts ys:List Tm}{q0 q q':σ}{i:Nat}{x y:Tm}(h:OS vis k ts d q0 i ys q) (hx:ts[i]?=some x) (hb:Cv vis x (d+below k i) q= .ok (y,q')):OS vis k ts d q0 (i+1) (ys++[y]) q':=by
 refine⟨by simp[h.1],?_⟩;rw[h.2,CG hx,Co,hb];simp only[CC];cases Co vis k (i+1) (ts.drop (i+1)) d q'<;>simp
theorem OS.fin {k d:Int}{ts ys:List Tm}{q0 q:σ}{i:Nat}(h:OS vis k ts d q0 i ys q) (hi:ts.length≤i):Co vis k 0 ts d q0= .ok (ys,q):=by
 rw[h.2,List.drop_eq_nil_of_le hi,Co];simp[CC]
end
theorem I5 {ys:List Tm}{i m:Nat}{x:Tm}(h:ys.length=i) (hm:0<m):(ys++List.replicate m A3).set i x=(ys++[x])++List.replicate (m - 1) A3:=by
 subst h;cases m with
 | zero=>omega
 | succ m=>simp[List.replicate_succ]
section
variable {b fr d k i:Int}{n:ByteArray}{l:List DK}{ks:List Tm}
theorem U0 (h:i - d<fr):Ug b fr (.mk k i n l ks) d= .ok (.mk k i n l []):=by simp[Ug,Tm.index,Ly,h]
theorem aW (h:¬i - d<fr) (h2:b<0) (h3:i - d<fr - b):Ug b fr (.mk k i n l ks) d= .error 24:=by unfold Ug;exact(if_neg h).trans (if_pos ⟨h2,h3⟩)
theorem TS (h:¬i - d<fr) (h2:¬(b<0∧i - d<fr - b)):Ug b fr (.mk k i n l ks) d=GM (i+b):=by unfold Ug;exact(if_neg h).trans (if_neg h2)
variable {rep:Tm→Int→Except Int Tm}{s:Unit}
theorem LD {e:Int}(h:k=0) (hr:rep (.mk k i n l ks) d= .error e):Hy rep s (.mk k i n l ks) d= .error e:=by unfold Hy;exact(if_pos h).trans (by rw[hr];rfl)
theorem Jb {x:Tm}(h:k=0) (hr:rep (.mk k i n l ks) d= .ok x):Hy rep s (.mk k i n l ks) d= .ok ((x,true),()):=by unfold Hy;exact(if_pos h).trans (by rw[hr];rfl)
theorem Kn (h:k≠0):Hy rep s (.mk k i n l ks) d= .ok ((.mk k i n l [],false),()):=by unfold Hy;exact(if_neg h).trans rfl
end
def Ig (b fr:Int) (t:Tm):Except Int Tm:=El Prod.fst (Cv (Hy (Ug b fr)) t 0 ())
theorem O0 {α β:Type}{f:α→β}{x:Except Int α}{a:α}(h:x= .ok a):El f x= .ok (f a):=by rw[h];rfl
theorem Lg {α β:Type}{f:α→β}{x:Except Int α}{e:Int}(h:x= .error e):El f x= .error e:=by rw[h];rfl
def G7 (vs:List Tm) (dp ti d:Int):Int:=if 0≤wr (wr (ti - d) - dp)∧wr (wr (ti - d) - dp)<(vs.length:Int) then wr (wr (ti - d) - dp) else -1
theorem YB {vs:List Tm}{dp ti d:Int}(h1:0≤wr (wr (ti - d) - dp)) (h2:wr (wr (ti - d) - dp)<(vs.length:Int)):G7 vs dp ti d=wr (wr (ti - d) - dp):=if_pos ⟨h1,h2⟩
theorem Zp {vs:List Tm}{dp ti d:Int}(h:¬(0≤wr (wr (ti - d) - dp)∧wr (wr (ti - d) - dp)<(vs.length:Int))):G7 vs dp ti d= -1:=if_neg h
theorem RM {vs:List Tm}{dp ti d:Int}(h:0≤G7 vs dp ti d):G7 vs dp ti d<(vs.length:Int):=by grind [G7]
def RH (vs:List Tm) (sz:List Int) (dp:Int) (t:Tm) (d:Int):Int :=
 if t.kind=0∧0≤G7 vs dp t.index d then sz.getD (G7 vs dp t.index d).toNat 0 else 1
def NS (vs:List Tm) (sz:List Int) (dp:Int) (n:Int) (t:Tm) (d:Int):Except Int ((Tm×Bool)×Int) :=
 El (fun m=>((A3,decide (t.kind=0)),m)) (Sa n (RH vs sz dp t d))
def IN (vs:List Tm) (dp:Int) (t:Tm) (d:Int):Except Int Tm :=
 if 0≤G7 vs dp t.index d then Ig (wr (dp+d)) 0 (vs.getD (G7 vs dp t.index d).toNat A3)
 else if wr (t.index - d)<dp then .ok (Ly t) else GM (wr (t.index - vs.length))
def Ha (vs:List Tm) (dp:Int) (t:Tm):Except Int Tm :=
 CC (Cv (NS vs (vs.map fun v=>(size v:Int)) dp) t 0 0) fun _=>El Prod.fst (Cv (Hy (IN vs dp)) t 0 ())
def Bo (t:Tm) (vs:List Tm) (dp:Int):Tm×Int :=
 match Ha vs dp t with
 | .error e=>(A3,e)
 | .ok x=>if DZ x > 200 then (A3,7) else (x,0)
section
variable {vs:List Tm}{sz:List Int}{dp n d k i r m e:Int}{nm:ByteArray}{l:List DK}{ks:List Tm}
theorem NJ (hm:RH vs sz dp (.mk k i nm l ks) d=m) (hz:Sa n m= .ok r):NS vs sz dp n (.mk k i nm l ks) d= .ok ((A3,decide (k=0)),r):=by
 subst hm;exact O0 hz
theorem LF (hm:RH vs sz dp (.mk k i nm l ks) d=m) (hz:Sa n m= .error e):NS vs sz dp n (.mk k i nm l ks) d= .error e:=by
 subst hm;exact Lg hz
theorem On (h:k=0∧0≤G7 vs dp i d) (hx:sz[(G7 vs dp i d).toNat]?=some m):RH vs sz dp (.mk k i nm l ks) d=m:=by
 unfold RH;refine(if_pos h).trans ?_;rw[List.getD_eq_getElem?_getD];exact(congrArg (fun o=>Option.getD o 0) hx)
theorem NG (h:¬(k=0∧0≤G7 vs dp i d)):RH vs sz dp (.mk k i nm l ks) d=1:=by
 unfold RH;exact if_neg h
theorem Ox {v:Tm}(h:0≤G7 vs dp i d) (hx:vs[(G7 vs dp i d).toNat]?=some v):IN vs dp (.mk k i nm l ks) d=Ig (wr (dp+d)) 0 v:=by
 unfold IN;refine(if_pos h).trans ?_;rw[List.getD_eq_getElem?_getD];exact(congrArg (fun o=>Ig (wr (dp+d)) 0 (Option.getD o A3)) hx)
theorem SU (h:¬0≤G7 vs dp i d) (h2:wr (i - d)<dp):IN vs dp (.mk k i nm l ks) d= .ok (.mk k i nm l []):=by
 unfold IN;exact(if_neg h).trans ((if_pos h2).trans rfl)
theorem RK (h:¬0≤G7 vs dp i d) (h2:¬wr (i - d)<dp):IN vs dp (.mk k i nm l ks) d=GM (wr (i - vs.length)):=by
 unfold IN;exact(if_neg h).trans (if_neg h2)
end
theorem Gd {t:Tm}{vs:List Tm}{dp e:Int}(h:Ha vs dp t= .error e):Bo t vs dp=(A3,e):=by unfold Bo;rw[h]
theorem Mk {t x:Tm}{vs:List Tm}{dp:Int}(h:Ha vs dp t= .ok x) (hd:DZ x > 200):Bo t vs dp=(A3,7):=by grind [Bo]
theorem QD {t x:Tm}{vs:List Tm}{dp:Int}(h:Ha vs dp t= .ok x) (hd:¬DZ x > 200):Bo t vs dp=(x,0):=by grind [Bo]
theorem Ji {t x:Tm}{vs:List Tm}{dp:Int}{a:Tm×Int}{b:Unit}(h1:Cv (NS vs (vs.map fun v=>(size v:Int)) dp) t 0 0= .ok a) (h2:Cv (Hy (IN vs dp)) t 0 ()= .ok (x,b)):Ha vs dp t= .ok x:=by
 unfold Ha;rw[h1];exact O0 h2
theorem MO {t:Tm}{vs:List Tm}{dp e:Int}(h1:Cv (NS vs (vs.map fun v=>(size v:Int)) dp) t 0 0= .error e):Ha vs dp t= .error e:=by
 unfold Ha;rw[h1];rfl
theorem MI {t:Tm}{vs:List Tm}{dp e:Int}{a:Tm×Int}(h1:Cv (NS vs (vs.map fun v=>(size v:Int)) dp) t 0 0= .ok a) (h2:Cv (Hy (IN vs dp)) t 0 ()= .error e):Ha vs dp t= .error e:=by
 unfold Ha;rw[h1];exact Lg h2
theorem MB:∀{ts:List Tm},(∀t∈ts,Nd t)→G3 ts
 | [],_=>trivial
 | t::ts,h=>⟨h t Ag,MB fun x hx=>h x (by simp[hx])⟩
section
variable {σ:Type}{vis:σ→Tm→Int→Except Int ((Tm×Bool)×σ)}
mutual
theorem L7 (hv:∀s t d r,Nd t→Vp t→vis s t d= .ok r→Nd r.1.1):∀(t:Tm) (d:Int) (s:σ) (r:Tm×σ),Nd t→Vp t→Cv vis t d s= .ok r→Nd r.1
 | .mk k i n l ks,d,s,r,h1,h2,h=>by
  unfold Cv CC at h;split at h
  ·cases h
  rename_i r1 hr;have hn:=hv _ _ _ _ h1 h2 hr;simp only at h;split at h
  ·injection h with h;subst h;exact hn
  split at h
  ·cases h
  rename_i q hq;injection h with h;subst h;have ⟨g1,g2⟩:=OQ hv ks k 0 d r1.2 q h1.2.2.2.2.1 h2.2 hq;obtain⟨⟨o,dn⟩,q1⟩:=r1;obtain⟨ok,oi,on,ol,os⟩:=o;exact⟨hn.1,hn.2.1,hn.2.2.1,by rw[g2];exact h1.2.2.2.1,g1,hn.2.2.2.2.2⟩
theorem OQ (hv:∀s t d r,Nd t→Vp t→vis s t d= .ok r→Nd r.1.1):∀(ts:List Tm) (k:Int) (j:Nat) (d:Int) (s:σ) (r:List Tm×σ),G3 ts→MG ts→Co vis k j ts d s= .ok r→G3 r.1∧r.1.length=ts.length
 | [],k,j,d,s,r,h1,h2,h=>by
  unfold Co at h;injection h with h;subst h;exact⟨trivial,rfl⟩
 | t::ts,k,j,d,s,r,h1,h2,h=>by
  unfold Co CC at h;split at h
  ·cases h
  rename_i r1 hr;simp only at h;split at h
  ·cases h
  rename_i q hq;injection h with h;subst h;have ⟨g1,g2⟩:=OQ hv ts k (j+1) d r1.2 q h1.2 h2.2 hq;exact⟨⟨L7 hv t _ _ _ h1.1 h2.1 hr,g1⟩,by simp[g2]⟩
end
end
theorem PB {t:Tm}(h:Nd t):Nd (Ly t):=by
 obtain⟨k,i,n,l,ks⟩:=t;exact⟨h.1,h.2.1,h.2.2.1,by decide,trivial,h.2.2.2.2.2⟩
theorem S3 {i:Int}{x:Tm}(hi: -9223372036854775808≤i) (h:GM i= .ok x):Nd x:=by
 unfold GM at h;split at h
 ·cases h
 injection h with h;subst h;exact⟨by decide,by decide,by simp,by decide,trivial,⟨by decide,by decide⟩,⟨hi,by omega⟩⟩
theorem Uj {rep:Tm→Int→Except Int Tm}(hr:∀t d x,Nd t→Vp t→t.kind=0→rep t d= .ok x→Nd x):∀(s:Unit) (t:Tm) (d:Int) (r:(Tm×Bool)×Unit),Nd t→Vp t→Hy rep s t d= .ok r→Nd r.1.1:=by
 intro s t d r h1 h2 h;unfold Hy at h;split at h
 ·rename_i hk;unfold El at h
  grind
 grind [PB]
theorem WV {b fr:Int}{t x:Tm}(hb:Hx b) (h1:Nd t) (h2:Vp t) (h:Ig b fr t= .ok x):Nd x:=by
 unfold Ig El at h;split at h
 ·cases h
 rename_i r hr;injection h with h;subst h;refine L7 (Uj ?_) t 0 () r h1 h2 hr;intro t d x g1 g2 g3 g;obtain⟨k,i,n,l,ks⟩:=t;have hi:=g2.1 g3;unfold Ug at g;split at g
 ·grind [PB]
 split at g
 ·cases g
 exact S3 (by have:=hb.1;simp only[Tm.index];omega) g
theorem aR {vs:List Tm}{dp:Int}{t x:Tm}{u:Unit}(hv:G3 vs) (hp:MG vs) (h1:Nd t) (h2:Vp t) (h:Cv (Hy (IN vs dp)) t 0 ()= .ok (x,u)):Nd x:=by
 refine L7 (Uj ?_) t 0 () (x,u) h1 h2 h;intro t d x g1 g2 g3 g;unfold IN at g;split at g
 ·rename_i h0;have hl:=RM h0;have ⟨v,hx⟩:=Ap (l:=vs) (i:=(G7 vs dp t.index d).toNat) Af;rw[List.getD_eq_getElem?_getD,hx] at g;exact WV (TY _) (CE hv hx) (FU hp hx) g
 split at g
 ·grind [PB]
 exact S3 (TY _).1 g
theorem cr {vs:List Tm}{i:Nat}{x:Tm}(hx:vs[i]?=some x):(((vs.take i).map fun v=>(size v:Int))++List.replicate (vs.length - i) 0).set i (size x:Int)=((vs.take (i+1)).map fun v=>(size v:Int))++List.replicate (vs.length - (i+1)) 0:=by
 have hi:i<vs.length:=by
  rcases Nat.lt_or_ge i vs.length with h | h
  ·exact h
  grind
 obtain⟨m,hm⟩:∃m,vs.length - i=m+1:=⟨vs.length - i - 1,by omega⟩;have hl:((vs.take i).map fun v=>(size v:Int)).length=i:=by simp;omega
 rw[List.take_add_one,hx,hm,show vs.length - (i+1)=m by omega,List.replicate_succ,List.set_append_right _ _ Af,hl];simp
theorem e7 {vs:List Tm}{i:Nat}(h:vs.length≤i):((vs.take i).map fun v=>(size v:Int))++List.replicate (vs.length - i) 0=vs.map fun v=>(size v:Int):=by
 rw[List.take_of_length_le h,show vs.length - i=0 by omega];simp
theorem U4 {k i:Int}{n:ByteArray}{l:List DK}{ks:List Tm}(h:Wt (.mk k i n l ks)) (hk:k=0):ks=[]:=by
 have:=h.1;subst hk;cases ks with
 | nil=>rfl
 | cons a b=>simp[arity] at this;omega
def GR (x:Tm×Int):Except Int (Tm×Unit):=if x.2=0 then .ok (x.1,()) else .error x.2
def HO (x:List Tm×Int):Except Int (List Tm×Unit):=if x.2=0 then .ok (x.1,()) else .error x.2
theorem Sj {er e:Int}(h:er≠0):J3 er e=er:=by unfold J3;rw[if_neg h]
theorem Up {er i:Int}(h:er≠0):Lp er i=er:=by grind [Lp,Sj]
mutual
theorem QW (b fr:Int):∀(t:Tm) (d er:Int),er≠0→(BU b fr d er t).2=er
 | .mk k i n l ks,d,er,h=>by
  unfold BU;split
  ·split
   ·rfl
   split
   ·exact Sj h
   exact Up h
  exact Ik b fr k ks d 0 er h
theorem Ik (b fr k:Int):∀(ts:List Tm) (d:Int) (j:Nat) (er:Int),er≠0→(Bj b fr k d j er ts).2=er
 | [],d,j,er,h=>rfl
 | t::ts,d,j,er,h=>by
  unfold Bj;simp only;rw[QW b fr t _ er h];exact Ik b fr k ts d (j+1) er h
end
mutual
theorem QI (b:Int) (hb:0≤b) (hb2:b<4398046511104):∀(t:Tm) (d:Int),Wt t→Vp t→0≤d→d+size t<2199023255552→Cv (Hy (Ug b 0)) t d ()=GR (BU b 0 d 0 t)
 | .mk k i n l ks,d,h1,h2,h3,h4=>by
  by_cases hk:k=0
  ·have hks:=U4 h1 hk;have hi:=h2.1 hk;have e1:wr (0+d)=d:=by rw[Int.zero_add];exact DC (by unfold Hx;omega)
   have e2:wr (i+b)=i+b:=DC (by unfold Hx;omega);by_cases hlo:i - d<0
   ·rw[Eb (Jb hk (U0 hlo))];unfold BU;rw[if_pos hk,e1,if_pos Af];subst hks;rfl
   have hsh:Ug b 0 (.mk k i n l ks) d=GM (i+b):=TS hlo Af;unfold BU;rw[if_pos hk,e1,if_neg Af,e2,if_neg Af];by_cases hbig:i+b > 65535
   ·rw[Fo (LD hk (hsh.trans (if_pos hbig)))];unfold GR Lp J3;simp[hbig]
   rw[Eb (Jb hk (hsh.trans (if_neg hbig)))];unfold GR Lp;simp[hbig]
  have hs:d+Aq ks<2199023255551:=by simp only[size] at h4;omega
  have hL:=N5 b hb hb2 k ks d 0 h1.2.2 h2.2 h3 hs;unfold BU;rw[if_neg hk];unfold HO at hL;unfold GR;by_cases he:(Bj b 0 k d 0 0 ks).2=0
  ·rw[if_pos he] at hL;rw[if_pos he];exact GB (Kn hk) hL
  rw[if_neg he] at hL;rw[if_neg he];exact HE (Kn hk) hL
theorem N5 (b:Int) (hb:0≤b) (hb2:b<4398046511104) (k:Int):∀(ts:List Tm) (d:Int) (j:Nat),Hi ts→MG ts→0≤d→d+Aq ts<2199023255551→Co (Hy (Ug b 0)) k j ts d ()=HO (Bj b 0 k d j 0 ts)
 | [],d,j,h1,h2,h3,h4=>rfl
 | t::ts,d,j,h1,h2,h3,h4=>by
  have hbl:=CK k j;simp only[Aq] at h4;have hT:=QI b hb hb2 t (d+below k j) h1.1 h2.1 Af Af;have hL:=N5 b hb hb2 k ts d (j+1) h1.2 h2.2 h3 Af;unfold Co Bj;rw[hT];unfold GR HO CC;by_cases he:(BU b 0 (d+below k j) 0 t).2=0
  ·rw[if_pos he];simp only;rw[hL,he];unfold HO;by_cases hq:(Bj b 0 k d (j+1) 0 ts).2=0
   ·rw[if_pos hq,if_pos hq]
   rw[if_neg hq,if_neg hq]
  rw[if_neg he];simp only;rw[Ik b 0 k ts d (j+1) _ he,if_neg he]
end
theorem VP {b:Int}{v:Tm}(hb:0≤b) (hb2:b<4398046511104) (h1:Wt v) (h2:Vp v) (h3:size v<1099511627776):Ig b 0 v=if (BU b 0 0 0 v).2=0 then .ok (BU b 0 0 0 v).1 else .error (BU b 0 0 0 v).2:=by
 unfold Ig;rw[QI b hb hb2 v 0 h1 h2 Af Af];unfold GR;split<;>rfl
section
variable {vs:List Tm}{d er nd k i:Int}{n:ByteArray}{l:List DK}{ks:List Tm}
theorem KK {t:Tm}(h:nd > 4096):BR vs d er nd t=(t,er,nd):=by
 obtain⟨k,i,n,l,ks⟩:=t;unfold BR;rw[if_pos h]
theorem HJ (h:nd > 4096):∀(ts:List Tm) (d:Int) (j:Nat),Bg vs k d j er nd ts=(ts,er,nd)
 | [],d,j=>rfl
 | t::ts,d,j=>by unfold Bg;rw[KK h];simp only;rw[HJ h ts d (j+1)]
theorem KA {v:Tm}(h:nd≤4096) (hk:k=0) (h1:i≥d) (h2:i - d<(vs.length:Int)) (hv:vs[(i - d).toNat]?=some v):BR vs d er nd (.mk k i n l ks)=((BU d 0 0 er v).1,(BU d 0 0 er v).2,wr (nd+Ei v)):=by
 unfold BR
 grind
theorem Lj (h:nd≤4096) (hk:k=0) (h1:i≥d) (h2:¬i - d<(vs.length:Int)):BR vs d er nd (.mk k i n l ks)=(Dc (wr (i - vs.length)),Lp er (wr (i - vs.length)),wr (nd+1)):=by grind [BR]
theorem KB (h:nd≤4096) (hk:k=0) (h1:¬i≥d):BR vs d er nd (.mk k i n l ks)=(.mk k i n l ks,er,wr (nd+1)):=by grind [BR]
theorem I7 (h:nd≤4096) (hk:k≠0):BR vs d er nd (.mk k i n l ks)=((.mk k i n l (Bg vs k d 0 er (wr (nd+1)) ks).1),(Bg vs k d 0 er (wr (nd+1)) ks).2):=by grind [BR]
end
mutual
theorem VR (vs:List Tm):∀(t:Tm) (d er nd:Int),er≠0→(BR vs d er nd t).2.1=er
 | .mk k i n l ks,d,er,nd,h=>by
  unfold BR;split
  ·rfl
  split
  ·exact QW _ _ _ _ _ h
  split
  ·split
   ·exact Up h
   rfl
  exact IM vs k ks d 0 er _ h
theorem IM (vs:List Tm) (k:Int):∀(ts:List Tm) (d:Int) (j:Nat) (er nd:Int),er≠0→(Bg vs k d j er nd ts).2.1=er
 | [],d,j,er,nd,h=>rfl
 | t::ts,d,j,er,nd,h=>by
  unfold Bg;simp only;rw[VR vs t _ er nd h];exact IM vs k ts d (j+1) er _ h
end
structure Mr (vs:List Tm) (dp:Int):Prop where
 wt:Hi vs
 vp:MG vs
 sz:∀x∈vs,size x<1099511627776
 len:vs.length<1099511627776
 lo:0≤dp
 hi:dp≤65536
theorem Mr.size {vs:List Tm}{dp:Int}(V:Mr vs dp):∀x∈vs,(size x:Int)≤1099511627776:=fun x hx=>by have:=V.sz x hx;omega
theorem Uz {vs:List Tm}{dp i d:Int}(V:Mr vs dp) (h1:0≤i) (h2:i<1099511627776) (h3:0≤d) (h4:d<2199023255552):G7 vs dp i d=if dp+d≤i∧i - (dp+d)<(vs.length:Int) then i - (dp+d) else -1:=by
 have:=V.lo;have:=V.hi;have e1:wr (i - d)=i - d:=DC (by unfold Hx;omega);have e2:wr (i - d - dp)=i - (dp+d):=by rw[DC (by unfold Hx;omega)];omega
 grind [G7]
theorem Ui {n m:Int}(h1:0≤n) (h2:n≤4096) (h3:0≤m) (h4:m≤1099511627776):Sa n m=if n+m > 4096 then .error 5 else .ok (n+m):=by
 unfold Sa;rw[show wr (n+m)=n+m from DC (by unfold Hx;omega)]
def dC {α:Type}(x:Except Int (α×Int)) (m:Int):Prop:=(m > 4096→x= .error 5)∧(m≤4096→∃z,x= .ok (z,m))
def eE (vs:List Tm):List Int:=vs.map fun v=>(size v:Int)
theorem Za {vs:List Tm}{i:Nat}{v:Tm}(h:vs[i]?=some v):(eE vs)[i]?=some (size v:Int):=by simp[eE,h]
mutual
theorem Un {vs:List Tm}{dp:Int}(V:Mr vs dp):∀(t:Tm) (d er nd:Int),Wt t→Vp t→0≤d→d+size t<2199023255552→0≤nd→nd≤4096→dC (Cv (NS vs (eE vs) dp) t d nd) (BR vs (dp+d) er nd t).2.2
 | .mk k i n l ks,d,er,nd,h1,h2,h3,h4,h5,h6=>by
  have hone:∀m:Int,0≤m→m≤1099511627776→RH vs (eE vs) dp (.mk k i n l ks) d=m→k=0→dC (Cv (NS vs (eE vs) dp) (.mk k i n l ks) d nd) (wr (nd+m)):=by
   intro m g1 g2 g3 hk;have ha:=Ui h5 h6 g1 g2;rw[show wr (nd+m)=nd+m from DC (by unfold Hx;omega)];refine⟨fun h=>?_,fun h=>?_⟩
   ·rw[if_pos h] at ha;exact Fo (LF g3 ha)
   rw[if_neg Af] at ha;refine⟨A3,Eb ?_⟩;rw[NJ g3 ha,hk];rfl
  by_cases hk:k=0
  ·have hi:=h2.1 hk;have hd:d<2199023255552:=by have:=size_pos (Tm.mk k i n l ks);omega
   have hv:=Uz V hi.1 hi.2 h3 hd;by_cases hin:dp+d≤i∧i - (dp+d)<(vs.length:Int)
   ·rw[if_pos hin] at hv;have ⟨v,hx⟩:=Ap (l:=vs) (i:=(i - (dp+d)).toNat) Af;have hsv:=V.sz v (List.mem_of_getElem? hx);rw[KA h6 hk hin.1 hin.2 hx,IF Af];exact hone _ Af Af (On ⟨hk,by omega⟩ (by rw[hv];exact Za hx)) hk
   rw[if_neg hin] at hv;have hc:=hone 1 Af Af (NG Af) hk;by_cases hge:i≥dp+d
   ·rw[Lj h6 hk hge Af];exact hc
   rw[KB h6 hk hge];exact hc
  rw[I7 h6 hk];have hs:d+Aq ks<2199023255551:=by simp only[size] at h4;omega
  have e1:wr (nd+1)=nd+1:=DC (by unfold Hx;omega);have ha:=Ui (m:=1) h5 h6 Af Af;have hn:RH vs (eE vs) dp (.mk k i n l ks) d=1:=NG Af;have hdec:decide (k=0)=false:=by simp[hk]
  simp only;rw[e1];by_cases hbig:nd+1 > 4096
  ·rw[HJ hbig];rw[if_pos hbig] at ha;exact⟨fun _=>Fo (LF hn ha),fun h=>by simp only at h;omega⟩
  rw[if_neg hbig] at ha;have hc:=NJ (l:=l) hn ha;rw[hdec] at hc;have ⟨g1,g2⟩:=R9 V k ks d 0 er (nd+1) h1.2.2 h2.2 h3 hs Af Af;refine⟨fun h=>HE hc (g1 h),fun h=>?_⟩;have ⟨z,hz⟩:=g2 h;exact⟨_,GB hc hz⟩
theorem R9 {vs:List Tm}{dp:Int}(V:Mr vs dp) (k:Int):∀(ts:List Tm) (d:Int) (j:Nat) (er nd:Int),Hi ts→MG ts→0≤d→d+Aq ts<2199023255551→0≤nd→nd≤4096→dC (Co (NS vs (eE vs) dp) k j ts d nd) (Bg vs k (dp+d) j er nd ts).2.2
 | [],d,j,er,nd,h1,h2,h3,h4,h5,h6=>⟨fun h=>by simp only[Bg] at h;omega,fun _=>⟨_,rfl⟩⟩
 | t::ts,d,j,er,nd,h1,h2,h3,h4,h5,h6=>by
  have hbl:=CK k j;simp only[Aq] at h4;have ⟨g1,g2⟩:=Un V t (d+below k j) er nd h1.1 h2.1 Af Af h5 h6;have hm:=(HL 1099511627776 Af Af t vs (dp+d+below k j) er nd h1.1 V.wt V.size h5 Af).1;rw[show dp+(d+below k j)=dp+d+below k j by omega] at g1 g2;unfold Co Bg;simp only;by_cases hbig:(BR vs (dp+d+below k j) er nd t).2.2 > 4096
  ·rw[g1 hbig,HJ hbig];exact⟨fun _=>O,fun h=>by simp only at h;omega⟩
  have ⟨z,hz⟩:=g2 Af;rw[hz];have ⟨f1,f2⟩:=R9 V k ts d (j+1) (BR vs (dp+d+below k j) er nd t).2.1 (BR vs (dp+d+below k j) er nd t).2.2 h1.2 h2.2 h3 Af Af Af;refine⟨fun h=>?_,fun h=>?_⟩
  ·simp only[CC];rw[f1 h]
  have ⟨y,hy⟩:=f2 h;exact⟨z::y,by simp only[CC];rw[hy]⟩
end
mutual
theorem VE {vs:List Tm}{dp:Int}(V:Mr vs dp):∀(t:Tm) (d nd:Int),Wt t→Vp t→0≤d→d+size t<2199023255552→0≤nd→(BR vs (dp+d) 0 nd t).2.2≤4096→Cv (Hy (IN vs dp)) t d ()=GR ((BR vs (dp+d) 0 nd t).1,(BR vs (dp+d) 0 nd t).2.1)
 | .mk k i n l ks,d,nd,h1,h2,h3,h4,h5,h6=>by
  have h7:nd≤4096:=by
   rcases Int.lt_or_le 4096 nd with h | h
   ·rw[KK h] at h6;simp only at h6;omega
   exact h
  have:=V.lo;have:=V.hi;have:=V.len;by_cases hk:k=0
  ·have hi:=h2.1 hk;have hks:=U4 h1 hk;have hd:d<2199023255552:=by have:=size_pos (Tm.mk k i n l ks);omega
   have hv:=Uz V hi.1 hi.2 h3 hd;by_cases hin:dp+d≤i∧i - (dp+d)<(vs.length:Int)
   ·rw[if_pos hin] at hv;have ⟨v,hx⟩:=Ap (l:=vs) (i:=(i - (dp+d)).toNat) Af;have hsv:=V.sz v (List.mem_of_getElem? hx);rw[KA h7 hk hin.1 hin.2 hx];have hr:IN vs dp (.mk k i n l ks) d=Ig (wr (dp+d)) 0 v:=Ox Af (by rw[hv];exact hx);rw[show wr (dp+d)=dp+d from DC (by unfold Hx;omega),VP Af Af (Gf V.wt hx) (FU V.vp hx) hsv] at hr;unfold GR;by_cases he:(BU (dp+d) 0 0 0 v).2=0
    ·rw[if_pos he] at hr;rw[if_pos he];exact Eb (Jb hk hr)
    rw[if_neg he] at hr;rw[if_neg he];exact Fo (LD hk hr)
   rw[if_neg hin] at hv;have e1:wr (i - d)=i - d:=DC (by unfold Hx;omega);by_cases hge:i≥dp+d
   ·rw[Lj h7 hk hge Af];have hr:IN vs dp (.mk k i n l ks) d=GM (wr (i - vs.length)):=RK Af (by rw[e1];omega);unfold GM at hr;unfold GR Lp J3;by_cases hbig:wr (i - vs.length) > 65535
    ·rw[if_pos hbig] at hr;simp only[hbig,if_true];exact Fo (LD hk hr)
    rw[if_neg hbig] at hr;simp only[hbig,if_false,if_true];exact Eb (Jb hk hr)
   rw[KB h7 hk hge];have hr:IN vs dp (.mk k i n l ks) d= .ok (.mk k i n l []):=SU Af (by rw[e1];omega);subst hks;exact Eb (Jb hk hr)
  rw[I7 h7 hk] at h6 ⊢;have hs:d+Aq ks<2199023255551:=by simp only[size] at h4;omega
  have e1:wr (nd+1)=nd+1:=DC (by unfold Hx;omega);simp only at h6 ⊢;rw[e1] at h6 ⊢;have hL:=Sr V k ks d 0 (nd+1) h1.2.2 h2.2 h3 hs Af h6;unfold HO at hL;unfold GR;by_cases he:(Bg vs k (dp+d) 0 0 (nd+1) ks).2.1=0
  ·rw[if_pos he] at hL;rw[if_pos he];exact GB (Kn hk) hL
  rw[if_neg he] at hL;rw[if_neg he];exact HE (Kn hk) hL
theorem Sr {vs:List Tm}{dp:Int}(V:Mr vs dp) (k:Int):∀(ts:List Tm) (d:Int) (j:Nat) (nd:Int),Hi ts→MG ts→0≤d→d+Aq ts<2199023255551→0≤nd→(Bg vs k (dp+d) j 0 nd ts).2.2≤4096→Co (Hy (IN vs dp)) k j ts d ()=HO ((Bg vs k (dp+d) j 0 nd ts).1,(Bg vs k (dp+d) j 0 nd ts).2.1)
 | [],d,j,nd,h1,h2,h3,h4,h5,h6=>rfl
 | t::ts,d,j,nd,h1,h2,h3,h4,h5,h6=>by
  have hbl:=CK k j;simp only[Aq] at h4;have h7:nd≤4096:=by
   rcases Int.lt_or_le 4096 nd with h | h
   ·rw[HJ h] at h6;simp only at h6;omega
   exact h
  have hm:=(HL 1099511627776 Af Af t vs (dp+d+below k j) 0 nd h1.1 V.wt V.size h5 Af);unfold Bg at h6;simp only at h6;have hm2:=(IW 1099511627776 Af Af ts vs k (dp+d) (j+1) (BR vs (dp+d+below k j) 0 nd t).2.1 (BR vs (dp+d+below k j) 0 nd t).2.2 h1.2 V.wt V.size Af hm.2.1).1;have hT:=VE V t (d+below k j) nd h1.1 h2.1 Af Af h5 (by rw[show dp+(d+below k j)=dp+d+below k j by omega];omega);rw[show dp+(d+below k j)=dp+d+below k j by omega] at hT;unfold Co Bg;rw[hT];simp only;unfold GR HO CC;by_cases he:(BR vs (dp+d+below k j) 0 nd t).2.1=0
  ·have hL:=Sr V k ts d (j+1) (BR vs (dp+d+below k j) 0 nd t).2.2 h1.2 h2.2 h3 Af Af (by rw[he] at h6;exact h6);simp only;rw[if_pos he];simp only;rw[hL,he];unfold HO;by_cases hq:(Bg vs k (dp+d) (j+1) 0 (BR vs (dp+d+below k j) 0 nd t).2.2 ts).2.1=0
   ·simp only[hq,if_true]
   simp only[hq,if_false]
  simp only;rw[if_neg he];simp only;rw[IM vs k ts (dp+d) (j+1) _ _ he,if_neg he]
end
theorem Qg {t:Tm}{vs:List Tm}{dp:Int}(V:Mr vs dp) (h1:Wt t) (h2:Vp t) (h3:size t<1099511627776):Bo t vs dp=EY t vs dp:=by
 have:=V.lo;have:=V.hi;have hmin:min dp 65536=dp:=by omega
 have ⟨g1,g2⟩:=Un V t 0 0 0 h1 h2 Af Af Af Af;rw[Int.add_zero] at g1 g2;unfold EY;rw[hmin];by_cases hbig:(BR vs dp 0 0 t).2.2 > 4096
 ·rw[if_pos hbig];exact Gd (MO (g1 hbig))
 rw[if_neg hbig];have ⟨z,hz⟩:=g2 Af;have hr:=VE V t 0 0 h1 h2 Af Af Af (by rw[Int.add_zero];omega);rw[Int.add_zero] at hr;unfold GR at hr;simp only at hr;by_cases he:(BR vs dp 0 0 t).2.1=0
 ·rw[if_pos he] at hr;rw[if_neg Af];by_cases hd:DZ (BR vs dp 0 0 t).1 > 200
  ·rw[if_pos hd];exact Mk (Ji hz hr) hd
  rw[if_neg hd];exact QD (Ji hz hr) hd
 rw[if_neg he] at hr;rw[if_pos he];exact Gd (MI hz hr)
theorem XF {i:Int}(h0:0≤i) (h1:i≤65535):Vp (Dc i):=⟨fun _=>⟨h0,by omega⟩,trivial⟩
theorem NB:Vp A3:=⟨fun _=>⟨by omega,by omega⟩,trivial⟩
mutual
theorem L3 (b:Int) (hb:0≤b) (hb2:b<4398046511104):∀(t:Tm) (d:Int),Vp t→0≤d→d+size t<4398046511104→(BU b 0 d 0 t).2=0→Vp (BU b 0 d 0 t).1
 | .mk k i n l ks,d,h,hd,hd2,he=>by
  by_cases hk:k=0
  ·have hi:=h.1 hk;have e1:wr (0+d)=d:=by rw[Int.zero_add];exact DC (by unfold Hx;omega)
   have e2:wr (i+b)=i+b:=DC (by unfold Hx;omega);unfold BU at he ⊢;rw[if_pos hk,e1,e2] at he ⊢;by_cases hlo:i<d
   ·rw[if_pos hlo];exact h
   rw[if_neg hlo,if_neg Af] at he ⊢;unfold Lp J3 at he;by_cases hbig:i+b > 65535
   ·simp[hbig] at he
   exact XF Af Af
  unfold BU at he ⊢;rw[if_neg hk] at he ⊢;simp only[size] at hd2;exact⟨fun h=>absurd h hk,NV b hb hb2 k ks d 0 h.2 hd Af he⟩
theorem NV (b:Int) (hb:0≤b) (hb2:b<4398046511104) (k:Int):∀(ts:List Tm) (d:Int) (j:Nat),MG ts→0≤d→d+Aq ts<4398046511103→(Bj b 0 k d j 0 ts).2=0→MG (Bj b 0 k d j 0 ts).1
 | [],d,j,h,hd,hd2,he=>trivial
 | t::ts,d,j,h,hd,hd2,he=>by
  have hbl:=CK k j;simp only[Aq] at hd2;unfold Bj at he ⊢;simp only at he ⊢;have h0:(BU b 0 (d+below k j) 0 t).2=0:=by
   rcases Decidable.em ((BU b 0 (d+below k j) 0 t).2=0) with h | h
   ·exact h
   rw[Ik b 0 k ts d (j+1) _ h] at he;exact he
  rw[h0] at he ⊢;exact⟨L3 b hb hb2 t _ h.1 Af Af h0,NV b hb hb2 k ts d (j+1) h.2 hd Af he⟩
end
mutual
theorem P8 {vs:List Tm}{dp:Int}(V:Mr vs dp):∀(t:Tm) (d nd:Int),Vp t→0≤d→d+size t<2199023255552→(BR vs (dp+d) 0 nd t).2.1=0→Vp (BR vs (dp+d) 0 nd t).1
 | .mk k i n l ks,d,nd,h,h3,h4,he=>by
  have:=V.lo;have:=V.hi;have:=V.len;rcases Int.lt_or_le 4096 nd with h7 | h7
  ·rw[KK h7];exact h
  by_cases hk:k=0
  ·have hi:=h.1 hk;by_cases hin:dp+d≤i∧i - (dp+d)<(vs.length:Int)
   ·have ⟨v,hx⟩:=Ap (l:=vs) (i:=(i - (dp+d)).toNat) Af;have hsv:=V.sz v (List.mem_of_getElem? hx);rw[KA h7 hk hin.1 hin.2 hx] at he ⊢;exact L3 _ Af Af v 0 (FU V.vp hx) Af Af he
   by_cases hge:i≥dp+d
   ·rw[Lj h7 hk hge Af] at he ⊢;have e:wr (i - vs.length)=i - vs.length:=DC (by unfold Hx;omega);simp only[e] at he ⊢;unfold Lp J3 at he;by_cases hbig:i - (vs.length:Int) > 65535
    ·simp[hbig] at he
    exact XF Af Af
   rw[KB h7 hk hge];exact h
  rw[I7 h7 hk] at he ⊢;simp only[size] at h4;exact⟨fun h=>absurd h hk,OB V k ks d 0 _ h.2 h3 Af he⟩
theorem OB {vs:List Tm}{dp:Int}(V:Mr vs dp) (k:Int):∀(ts:List Tm) (d:Int) (j:Nat) (nd:Int),MG ts→0≤d→d+Aq ts<2199023255551→(Bg vs k (dp+d) j 0 nd ts).2.1=0→MG (Bg vs k (dp+d) j 0 nd ts).1
 | [],d,j,nd,h,h3,h4,he=>trivial
 | t::ts,d,j,nd,h,h3,h4,he=>by
  have hbl:=CK k j;simp only[Aq] at h4;unfold Bg at he ⊢;simp only at he ⊢;have h0:(BR vs (dp+d+below k j) 0 nd t).2.1=0:=by
   rcases Decidable.em ((BR vs (dp+d+below k j) 0 nd t).2.1=0) with h | h
   ·exact h
   rw[IM vs k ts _ (j+1) _ _ h] at he;exact he
  rw[h0] at he ⊢;rw[show dp+d+below k j=dp+(d+below k j) by omega] at he h0 ⊢;exact⟨P8 V t _ nd h.1 Af Af h0,OB V k ts d (j+1) _ h.2 h3 Af he⟩
end
theorem VW {vs:List Tm}{dp:Int}(V:Mr vs dp) {t:Tm}(h:Vp t) (hs:size t<1099511627776):Vp (EY t vs dp).1:=by
 have:=V.lo;have:=V.hi;have hmin:min dp 65536=dp:=by omega
 unfold EY;rw[hmin];split
 ·exact NB
 split
 ·exact NB
 rename_i hne;split
 ·exact NB
 have:=P8 V t 0 0 h Af Af (by rw[Int.add_zero];exact Decidable.not_not.1 hne)
 grind
structure EN where
 dn:List (Int×Tm)
 op:List Int
 wk:Int
def GI (i:Int):List (Int×Tm)→Option Tm
 | []=>none
 | (j,x)::r=>if j=i then some x else GI i r
def LQ (i:Int) (v:Tm):List (Int×Tm)→List (Int×Tm)
 | []=>[(i,v)]
 | (j,x)::r=>if j=i then (j,v)::r else (j,x)::LQ i v r
def J9 (l:List (Int×Tm)):List (Int×AV):=l.map fun p=>(p.1,TV p.2)
theorem Tr (i:Int):∀l:List (Int×Tm),GQ i (J9 l)=(GI i l).map TV
 | []=>rfl
 | (j,x)::r=>by
  simp only[J9,List.map_cons,GQ,GI];by_cases h:j=i
  ·simp[h]
  simp only[h,if_false];exact Tr i r
theorem X2 (i:Int) (v:Tm):∀l:List (Int×Tm),JU i (TV v) (J9 l)=J9 (LQ i v l)
 | []=>rfl
 | (j,x)::r=>by
  simp only[J9,List.map_cons,JU,LQ];by_cases h:j=i
  ·simp[h]
  simp only[h,if_false,List.map_cons];rw[←J9,←J9,X2 i v r]
theorem Rw {i:Int}{v:Tm}:∀{l:List (Int×Tm)}{p:Int×Tm},p∈LQ i v l→p=(i,v)∨p∈l
 | [],p,h=>by simp only[LQ,List.mem_singleton] at h;exact .inl h
 | (j,x)::r,p,h=>by
  unfold LQ at h;split at h
  ·rename_i e;rcases List.mem_cons.1 h with h | h
   ·subst e;exact .inl h
   exact .inr (List.mem_cons_of_mem _ h)
  rcases List.mem_cons.1 h with h | h
  ·subst h;exact .inr (List.mem_cons_self ..)
  rcases Rw h with h | h
  ·exact .inl h
  exact .inr (List.mem_cons_of_mem _ h)
theorem TE {i:Int}{v:Tm}:∀{l:List (Int×Tm)},GI i l=some v→(i,v)∈l
 | [],h=>by cases h
 | (j,x)::r,h=>by
  unfold GI at h;split at h
  ·rename_i e;injection h with h;subst e;subst h;exact List.mem_cons_self ..
  exact List.mem_cons_of_mem _ (TE h)
theorem Pn (i:Int) (v:Tm):∀l:List (Int×Tm),GI i (LQ i v l)=some v
 | []=>by simp[LQ,GI]
 | (j,x)::r=>by
  unfold LQ;split
  ·rename_i e;simp[GI,e]
  rename_i e;simp only[GI,e,if_false];exact Pn i v r
def HX (x:Tm) (e:Int):Except Int Tm:=if e≠0∨KJ x=true then .error 11 else .ok x
theorem Qy {x:Tm}{e:Int}{z:Tm}(h:HX x e= .ok z):e=0∧KJ x=false∧z=x:=by grind [HX,KJ]
theorem Sk {x:Tm}(h:KJ x=false):size x≤4096:=by
 unfold KJ at h
 grind
def GV:Tm→List Tm→Except Int (Tm×List Tm)
 | v,[]=> .ok (v,[])
 | v,a::l=>if v.kind=5 then CC (HX (Bo (v.kids.getD 1 A3) [a] 0).1 (Bo (v.kids.getD 1 A3) [a] 0).2) fun x=>GV x l else .ok (v,a::l)
def Cz (F:EN→Tm→Except Int (Tm×EN)):EN→List Tm→Except Int (List Tm×EN)
 | st,[]=> .ok ([],st)
 | st,t::ts=>CC (F st t) fun r=>CC (Cz F r.2 ts) fun q=> .ok (r.1::q.1,q.2)
def FR (F:EN→Tm→Except Int (Tm×EN)) (ms:List Mv) (st:EN) (i:Int):Except Int (Tm×EN) :=
 match GI i st.dn with
 | some v=> .ok (v,st)
 | none=>if i∈st.op then .error 22 else CC (F { st with op:=st.op++[i] } (valueOf ms i)) fun r=> .ok (r.1,{ r.2 with dn:=LQ i r.1 r.2.dn })
def Fy (F:EN→Tm→Except Int (Tm×EN)) (ms:List Mv) (st:EN) (h:Tm):Except Int (Tm×EN) :=
 if known ms h=true then FR F ms st h.index else El (fun q=>(Da h q.1,q.2)) (Cz F st h.kids)
def B0 (ms:List Mv):Nat→EN→Tm→Except Int (Tm×EN)
 | 0,st,t=> .error 11
 | n+1,st,t =>
  if st.wk+1 > 8192000 then .error 11
  else CC (Fy (B0 ms n) ms { st with wk:=st.wk+1 } (Al t).1) fun r =>
   CC (Cz (B0 ms n) r.2 (Al t).2) fun q =>
   CC (if known ms (Al t).1=true then GV r.1 q.1 else .ok (r.1,q.1)) fun y =>
   El (fun z=>(z,q.2)) (HX (apply y.1 y.2) 0)
structure Ok (S:Nat) (t:Tm):Prop where
 nd:Nd t
 vp:Vp t
 wt:Wt t
 sz:size t≤S
structure NH (ms:List Mv) (st:EN):Prop where
 dn:∀p∈st.dn,Ok 4096 p.2
 w0:0≤st.wk
 w1:st.wk≤8192000
theorem Fi {α β:Type}{x:Except Int α}{f:α→Except Int β}{b:β}(h:CC x f= .ok b):∃a,x= .ok a∧f a= .ok b:=by
 unfold CC at h
 grind
theorem P9 {α β:Type}{x:Except Int α}{f:α→β}{b:β}(h:El f x= .ok b):∃a,x= .ok a∧f a=b:=by
 unfold El at h
 grind
theorem UX:∀{ts:List Tm},(∀t∈ts,Wt t)→Hi ts
 | [],_=>trivial
 | t::ts,h=>⟨h t Ag,UX fun x hx=>h x (by simp[hx])⟩
theorem No:∀{ts:List Tm},(∀t∈ts,Vp t)→MG ts
 | [],_=>trivial
 | t::ts,h=>⟨h t Ag,No fun x hx=>h x (by simp[hx])⟩
theorem Rr {ts:List Tm}{t:Tm}(h:G3 ts) (hm:t∈ts):Nd t:=by grind [List.mem_iff_getElem?.1,CE]
theorem Us {ts:List Tm}{t:Tm}(h:Hi ts) (hm:t∈ts):Wt t:=by grind [List.mem_iff_getElem?.1,Gf]
theorem RG {ts:List Tm}{t:Tm}(h:MG ts) (hm:t∈ts):Vp t:=by grind [List.mem_iff_getElem?.1,FU]
theorem Ll {ts:List Tm}{t:Tm}(hm:t∈ts):size t≤Aq ts:=by
 have ⟨i,hi⟩:=List.mem_iff_getElem?.1 hm;exact BW hi
theorem _root_.Go.Ae {α:Prop}(h:α:=by decide):α:=h
theorem SK {xs:List Tm}:∀{f:Tm},Vp f→MG xs→Vp (apply f xs):=by
 induction xs with
 | nil=>intro f h _;exact h
 | cons x xs ih=>intro f h hx;exact ih ⟨fun h=>absurd h Ae,h,hx.1,trivial⟩ hx.2
theorem NP:∀(t:Tm),Vp t→Vp (Al t).1∧MG (Al t).2
 | .mk k i n l [f,a],h=>by
  unfold Al;split
  ·have ⟨h1,h2⟩:=NP f h.2.1;refine⟨h1,No fun x hx=>?_⟩;rcases List.mem_append.1 hx with hx | hx
   ·exact RG h2 hx
   simp at hx;subst hx;exact h.2.2.1
  ·exact⟨h,Ah⟩
 | .mk k i n l [],h=>by unfold Al;exact⟨h,trivial⟩
 | .mk k i n l [a],h=>by unfold Al;exact⟨h,trivial⟩
 | .mk k i n l (a::b::c::r),h=>by unfold Al;exact⟨h,trivial⟩
abbrev PK (l:List Tm):Prop:=∀x∈l,Ok 4096 x
theorem L5:∀{l:List Tm},PK l→Aq l≤4096*l.length
 | [],_=>by simp[Aq]
 | t::ts,h=>by
  have h1:=(h t Ag).sz;have h2:=L5 (l:=ts) fun x hx=>h x (by simp[hx]);simp only[Aq,List.length_cons];omega
theorem TL {a:Tm}(h:Ok 4096 a):Mr [a] 0:=⟨⟨h.wt,trivial⟩,⟨h.vp,trivial⟩,fun x hx=>by simp at hx;subst hx;have:=h.sz;omega,by simp,by omega,by omega⟩
theorem ZN {v:Tm}(h:Ok 4096 v) (hk:v.kind=5):∃b,v.kids[1]?=some b∧v.kids.getD 1 A3=b∧Ok 4096 b:=by
 obtain⟨k,i,n,l,ks⟩:=v;have hk':k=5:=hk;have hl:(ks.length:Int)=arity k:=h.wt.1;rw[hk'] at hl;have hl2:ks.length=2:=by simp[arity] at hl;omega
 have ⟨b,hb⟩:=Ap (l:=ks) (i:=1) Af;have hs:=h.sz;have:=BW hb;simp only[size] at hs;refine⟨b,hb,?_,CE h.nd.2.2.2.2.1 hb,FU h.vp.2 hb,Gf h.wt.2.2 hb,by omega⟩;rw[List.getD_eq_getElem?_getD];show Option.getD ks[1]? A3=b;rw[hb];rfl
theorem LL {b a:Tm}(hb:Ok 4096 b) (ha:Ok 4096 a):Nd (Bo b [a] 0).1∧Vp (Bo b [a] 0).1∧Wt (Bo b [a] 0).1∧size (Bo b [a] 0).1≤4096:=by
 have V:=TL ha;have hs:=hb.sz;rw[Qg V hb.wt hb.vp Af];exact⟨Vm b [a] 0 hb.nd ⟨ha.nd,Ah⟩,VW V hb.vp Af,V0 b [a] 0 hb.wt V.wt,TK b [a] 0 hb.wt V.wt fun x hx=>by have:=V.sz x hx;omega⟩
theorem Nt:∀(l:List Tm) (v:Tm) (r:Tm×List Tm),Ok 4096 v→PK l→GV v l= .ok r→Ok 4096 r.1∧PK r.2∧r.2.length≤l.length
 | [],v,r,hv,hl,h=>by unfold GV at h;injection h with h;subst h;exact⟨hv,hl,Nat.le_refl _⟩
 | a::l,v,r,hv,hl,h=>by
  unfold GV at h;split at h
  ·rename_i hk;have ⟨x,hx,hr⟩:=Fi h;have ⟨e1,e2,e3⟩:=Qy hx;have ⟨b,_,hb1,hb2⟩:=ZN hv hk;rw[hb1] at e3;have ⟨g1,g2,g3,g4⟩:=LL hb2 (hl a Ag);have ⟨f1,f2,f3⟩:=Nt l x r (e3▸⟨g1,g2,g3,g4⟩) (fun y hy=>hl y (by simp[hy])) hr;exact⟨f1,f2,by simp;omega⟩
  injection h with h;subst h;exact⟨hv,hl,Nat.le_refl _⟩
def R5 (st st':EN):Prop:=∀i,i∈st.op→i∈st'.op
def VF (ms:List Mv) (B:Nat) (F:EN→Tm→Except Int (Tm×EN)):Prop:=∀st t r,Ok B t→NH ms st→F st t= .ok r→Ok 4096 r.1∧NH ms r.2∧R5 st r.2
theorem I9 {ms:List Mv}{B:Nat}{F:EN→Tm→Except Int (Tm×EN)}(hF:VF ms B F):∀(ts:List Tm) (st:EN) (r:List Tm×EN),(∀t∈ts,Ok B t)→NH ms st→Cz F st ts= .ok r→PK r.1∧r.1.length=ts.length∧NH ms r.2∧R5 st r.2
 | [],st,r,h1,h2,h=>by unfold Cz at h;injection h with h;subst h;exact⟨fun x hx=>by simp at hx,rfl,h2,fun i hi=>hi⟩
 | t::ts,st,r,h1,h2,h=>by
  unfold Cz at h;have ⟨a,ha,h⟩:=Fi h;have ⟨q,hq,h⟩:=Fi h;injection h with h;subst h;have ⟨g1,g2,g3⟩:=hF st t a (h1 t Ag) h2 ha;have ⟨f1,f2,f3,f4⟩:=I9 hF ts a.2 q (fun x hx=>h1 x (by simp[hx])) g2 hq;refine⟨fun x hx=>?_,by simp[f2],f3,fun i hi=>f4 i (g3 i hi)⟩;rcases List.mem_cons.1 hx with hx | hx
  ·subst hx;exact g1
  exact f1 x hx
theorem LO {S:Nat}(h:1≤S):Ok S A3:=⟨KX,NB,Rk,by simp[A3,size,Aq];exact h⟩
theorem Mf {ms:List Mv}{S:Nat}(hS:1≤S) (hm:∀m∈ms,Ok S m.value) (i:Int):Ok S (valueOf ms i):=by grind [valueOf,List.mem_of_getElem?,LO]
theorem Ma {ms:List Mv}{B:Nat}{F:EN→Tm→Except Int (Tm×EN)}(hF:VF ms B F) (hB:1≤B) (hm:∀m∈ms,Ok B m.value) (st:EN) (i:Int) (r:Tm×EN) (h2:NH ms st) (h:FR F ms st i= .ok r):Ok 4096 r.1∧NH ms r.2∧R5 st r.2:=by
 unfold FR at h;split at h
 ·rename_i v hv;injection h with h;subst h;exact⟨h2.dn _ (TE hv),h2,fun i hi=>hi⟩
 split at h
 ·cases h
 have ⟨a,ha,h⟩:=Fi h;injection h with h;subst h;have ⟨g1,g2,g3⟩:=hF _ _ a (Mf hB hm i) (show NH ms { st with op:=st.op++[i] } from ⟨h2.dn,h2.w0,h2.w1⟩) ha;refine⟨g1,⟨fun p hp=>?_,g2.w0,g2.w1⟩,fun j hj=>g3 j (by simp[hj])⟩;rcases Rw hp with hp | hp
 ·subst hp;exact g1
 exact g2.dn p hp
theorem Ke {h:Tm}{ks:List Tm}{B:Nat}(hh:Ok B h) (hk:PK ks) (hl:ks.length=h.kids.length):Nd (Da h ks)∧Vp (Da h ks)∧Wt (Da h ks)∧size (Da h ks)≤4096*h.kids.length+1:=by
 have ⟨k,i,n,l,ks0⟩:=h;have hl':ks.length=ks0.length:=hl;have hs:=L5 hk;refine⟨⟨hh.nd.1,hh.nd.2.1,hh.nd.2.2.1,by rw[hl'];exact hh.nd.2.2.2.1,MB fun x hx=>(hk x hx).nd,hh.nd.2.2.2.2.2⟩,⟨hh.vp.1,No fun x hx=>(hk x hx).vp⟩,⟨by rw[hl'];exact hh.wt.1,hh.wt.2.1,UX fun x hx=>(hk x hx).wt⟩,?_⟩;simp only[Da,size,Tm.kids];omega
theorem T8 {ms:List Mv}{B:Nat}{F:EN→Tm→Except Int (Tm×EN)}(hF:VF ms B F) (hB:1≤B) (hm:∀m∈ms,Ok B m.value) (st:EN) (h:Tm) (r:Tm×EN) (h1:Ok B h) (h2:NH ms st) (he:Fy F ms st h= .ok r):Nd r.1∧Vp r.1∧Wt r.1∧size r.1≤4096*(h.kids.length+1)∧NH ms r.2∧R5 st r.2∧(known ms h=true→Ok 4096 r.1):=by
 unfold Fy at he;split at he
 ·have ⟨g1,g2,g3⟩:=Ma hF hB hm st h.index r h2 he;exact⟨g1.nd,g1.vp,g1.wt,by have:=g1.sz;omega,g2,g3,fun _=>g1⟩
 rename_i hk;obtain⟨q,hq,rfl⟩:=P9 he;have ⟨k,i,n,l,ks⟩:=h;have ⟨f1,f2,f3,f4⟩:=I9 hF ks st q (fun x hx=>⟨Rr h1.nd.2.2.2.2.1 hx,RG h1.vp.2 hx,Us h1.wt.2.2 hx,by have:=Ll hx;have:=h1.sz;simp only[size] at this;omega⟩) h2 hq;have ⟨g1,g2,g3,g4⟩:=Ke h1 f1 f2
 grind
theorem Dn {ms:List Mv}{B:Nat}(hB:1≤B) (hm:∀m∈ms,Ok B m.value):∀n,VF ms B (B0 ms n)
 | 0=>fun st t r h1 h2 h=>by unfold B0 at h;cases h
 | n+1=>fun st t r h1 h2 h=>by
  have ih:=Dn hB hm n;unfold B0 at h;split at h
  ·cases h
  rename_i hw;have ⟨a,ha,h⟩:=Fi h;have ⟨q,hq,h⟩:=Fi h;have ⟨y,hy,h⟩:=Fi h;obtain⟨z,hz,rfl⟩:=P9 h;have ⟨sn1,sn2⟩:=Nc t h1.nd;have ⟨sw1,sw2⟩:=N1 t h1.wt;have ⟨sv1,sv2⟩:=NP t h1.vp;have ssz:=EB t;have hsz:=h1.sz;have h3:NH ms { st with wk:=st.wk+1 }:=⟨h2.dn,by have:=h2.w0;simp only;omega,by simp only;omega⟩;have ⟨g1,g2,g3,g4,g5,g6,g7⟩:=T8 ih hB hm _ _ a ⟨sn1,sv1,sw1,by omega⟩ h3 ha;have ⟨f1,f2,f3,f4⟩:=I9 ih (Al t).2 a.2 q (fun x hx=>⟨Rr sn2 hx,RG sv2 hx,Us sw2 hx,by have:=Ll hx;omega⟩) g5 hq;have ⟨e1,e2,e3⟩:=Qy hz;have hy2:Nd y.1∧Vp y.1∧Wt y.1∧PK y.2:=by
   split at hy
   ·rename_i hk;have ⟨b1,b2,b3⟩:=Nt q.1 a.1 y (g7 hk) f1 hy;exact⟨b1.nd,b1.vp,b1.wt,b2⟩
   injection hy with hy;subst hy;exact⟨g1,g2,g3,f1⟩
  have ⟨y1,y2,y3,y4⟩:=hy2;refine⟨?_,f3,fun i hi=>f4 i (g6 i hi)⟩;subst e3;exact⟨Hv y1 (MB fun x hx=>(y4 x hx).nd),SK y2 (No fun x hx=>(y4 x hx).vp),Rz y3 (UX fun x hx=>(y4 x hx).wt),Sk e2⟩
theorem U9 (l:List (Int×Tm)) (i:Int):(GQ i (J9 l)).getD (TV A3)=TV ((GI i l).getD A3):=by rw[Tr];cases GI i l<;>rfl
theorem ZH (l:List (Int×Tm)) (i:Int):(GQ i (J9 l)).isSome=(GI i l).isSome:=by grind [Tr,GI]
section
variable {F:EN→Tm→Except Int (Tm×EN)}{ms:List Mv}{st st':EN}{i e:Int}{z:Tm}
theorem TW (h:(GI i st.dn).isSome=true):FR F ms st i= .ok ((GI i st.dn).getD A3,st):=by grind [FR,GI]
theorem TD (h:(GI i st.dn).isSome=false) (ho:Nx st.op i=true):FR F ms st i= .error 22:=by grind [FR,GI,Nx]
theorem UO (h:(GI i st.dn).isSome=false) (ho:Nx st.op i=false) (hf:F { st with op:=st.op++[i] } (valueOf ms i)= .error e):FR F ms st i= .error e:=by
 unfold FR;cases hd:GI i st.dn with
 | none=>simp only;rw[if_neg (by simpa [Nx] using ho),hf];rfl
 | some v=>rw[hd] at h;cases h
theorem UT (h:(GI i st.dn).isSome=false) (ho:Nx st.op i=false) (hf:F { st with op:=st.op++[i] } (valueOf ms i)= .ok (z,st')):FR F ms st i= .ok (z,{ st' with dn:=LQ i z st'.dn }):=by
 unfold FR;cases hd:GI i st.dn with
 | none=>simp only;rw[if_neg (by simpa [Nx] using ho),hf];rfl
 | some v=>rw[hd] at h;cases h
end
theorem Qf (F:Nat→Prop) (w:World):BP F w (TV A3) (.agg ⟨[.int .i64 0,.int .i64 0,.string ⟨⟨[]⟩⟩,.slice none 0 0,.slice none 0 0]⟩):=by
 have hn:BP F w (.p (.lst [])) (.slice none 0 0):=by
  grind [BP,BN]
 exact⟨_,O,_,_,O,by simp only[BP,BN],_,_,rfl,by simp only[BP,BN],_,_,rfl,by simp only[BP,BN],_,_,rfl,hn,_,_,rfl,hn,rfl⟩
theorem VY {ms:List Mv}{a b:List Int}(h:∀i,i∈a→i∈b):free ms b≤free ms a:=by
 unfold free;generalize List.range ms.length=l
 induction l with
 | nil=>simp
 | cons x l ih =>
  grind
def I3 (F:EN→Tm→Except Int (Tm×EN)) (ts:List Tm) (q0:EN) (i:Nat) (ys:List Tm) (q:EN):Prop :=
 ys.length=i∧Cz F q0 ts=CC (Cz F q (ts.drop i)) fun r=> .ok (ys++r.1,r.2)
section
variable {F:EN→Tm→Except Int (Tm×EN)}{ts ys:List Tm}{q0 q q':EN}{i:Nat}{x y:Tm}{e:Int}
theorem I3.zero (F:EN→Tm→Except Int (Tm×EN)) (ts:List Tm) (q0:EN):I3 F ts q0 0 [] q0:=by
 refine⟨O,?_⟩;simp only[List.drop_zero,CC]
 grind
theorem I3.err (h:I3 F ts q0 i ys q) (hx:ts[i]?=some x) (hb:F q x= .error e):Cz F q0 ts= .error e:=by
 rw[h.2,CG hx,Cz,hb];rfl
theorem I3.succ (h:I3 F ts q0 i ys q) (hx:ts[i]?=some x) (hb:F q x= .ok (y,q')):I3 F ts q0 (i+1) (ys++[y]) q':=by
 refine⟨by simp[h.1],?_⟩;rw[h.2,CG hx,Cz,hb];simp only[CC];cases Cz F q' (ts.drop (i+1))<;>simp
theorem I3.fin (h:I3 F ts q0 i ys q) (hi:ts.length≤i):Cz F q0 ts= .ok (ys,q):=by
 rw[h.2,List.drop_eq_nil_of_le hi,Cz];simp[CC]
end
section
variable {ms:List Mv}{n:Nat}{dn:List (Int×Tm)}{op:List Int}{wk e:Int}{t v vv z h:Tm}{us ls ks:List Tm}{st1 st2:EN}
theorem T3 (hw:wk+1 > 8192000):B0 ms (n+1) ⟨dn,op,wk⟩ t= .error 11:=by grind [B0]
theorem NF (hk:known ms h=true) (hv:FR (B0 ms n) ms st1 h.index= .ok (v,st2)):Fy (B0 ms n) ms st1 h= .ok (v,st2):=by grind [Fy]
theorem Yi (hk:known ms h=true) (hv:FR (B0 ms n) ms st1 h.index= .error e):Fy (B0 ms n) ms st1 h= .error e:=by grind [Fy]
theorem JY (hk:known ms h=false) (hv:Cz (B0 ms n) st1 h.kids= .ok (ks,st2)):Fy (B0 ms n) ms st1 h= .ok (Da h ks,st2):=by unfold Fy;rw[if_neg (by simp[hk]),hv];rfl
theorem W6 (hk:known ms h=false) (hv:Cz (B0 ms n) st1 h.kids= .error e):Fy (B0 ms n) ms st1 h= .error e:=by unfold Fy;rw[if_neg (by simp[hk]),hv];rfl
theorem SH (hw:¬wk+1 > 8192000) (hz:(Al t).1=h) (hh:Fy (B0 ms n) ms ⟨dn,op,wk+1⟩ h= .error e):B0 ms (n+1) ⟨dn,op,wk⟩ t= .error e:=by
 unfold B0;rw[if_neg hw];simp only[hz,hh];rfl
theorem Oa (hw:¬wk+1 > 8192000) (hz:(Al t).1=h) (hh:Fy (B0 ms n) ms ⟨dn,op,wk+1⟩ h= .ok (v,st1)) (ha:Cz (B0 ms n) st1 (Al t).2= .error e):B0 ms (n+1) ⟨dn,op,wk⟩ t= .error e:=by grind [B0,CC]
theorem Yz (hw:¬wk+1 > 8192000) (hz:(Al t).1=h) (hk:known ms h=true) (hh:Fy (B0 ms n) ms ⟨dn,op,wk+1⟩ h= .ok (v,st1)) (ha:Cz (B0 ms n) st1 (Al t).2= .ok (us,st2)) (hb:GV v us= .error e):B0 ms (n+1) ⟨dn,op,wk⟩ t= .error e:=by grind [B0,CC]
theorem Ut (hw:¬wk+1 > 8192000) (hz:(Al t).1=h) (hk:known ms h=true) (hh:Fy (B0 ms n) ms ⟨dn,op,wk+1⟩ h= .ok (v,st1)) (ha:Cz (B0 ms n) st1 (Al t).2= .ok (us,st2)) (hb:GV v us= .ok (vv,ls)) {x:Except Int Tm}(hc:HX (apply vv ls) 0=x):B0 ms (n+1) ⟨dn,op,wk⟩ t=El (fun z=>(z,st2)) x:=by grind [B0,CC]
theorem NL (hw:¬wk+1 > 8192000) (hz:(Al t).1=h) (hk:known ms h=false) (hh:Fy (B0 ms n) ms ⟨dn,op,wk+1⟩ h= .ok (v,st1)) (ha:Cz (B0 ms n) st1 (Al t).2= .ok (us,st2)) {x:Except Int Tm}(hc:HX (apply v us) 0=x):B0 ms (n+1) ⟨dn,op,wk⟩ t=El (fun z=>(z,st2)) x:=by grind [B0,CC,Bool.false_eq_true]
theorem T4 {x y:Tm}(h:0<ls.length) (hk:v.kind=5) (hx:v.kids[1]?=some x) (hc:HX (Bo x (ls.take 1) 0).1 (Bo x (ls.take 1) 0).2= .ok y):GV v ls=GV y (ls.drop 1):=by
 have ⟨a,h1,h2⟩:=take_one h;have hd:v.kids.getD 1 A3=x:=by rw[List.getD_eq_getElem?_getD,hx];rfl
 rw[h1] at hc
 conv=>lhs;rw[h2]
 conv=>lhs;unfold GV
 rw[if_pos hk,hd,hc];rfl
theorem WD {x:Tm}(h:0<ls.length) (hk:v.kind=5) (hx:v.kids[1]?=some x) (hc:HX (Bo x (ls.take 1) 0).1 (Bo x (ls.take 1) 0).2= .error e):GV v ls= .error e:=by
 have ⟨a,h1,h2⟩:=take_one h;have hd:v.kids.getD 1 A3=x:=by rw[List.getD_eq_getElem?_getD,hx];rfl
 rw[h1] at hc
 conv=>lhs;rw[h2]
 unfold GV;rw[if_pos hk,hd,hc];rfl
theorem O5 (h:0<ls.length→v.kind≠5):GV v ls= .ok (v,ls):=by
 cases ls with
 | nil=>rfl
 | cons a l=>unfold GV;rw[if_neg (h Ag)]
end
theorem WN {ms:List Mv}{k i:Int}{n:ByteArray}{l:List DK}{s:List Tm}(h:known ms (.mk k i n l s)=true):∃m,ms[i.toNat]?=some m:=by
 simp only[known,Bool.and_eq_true,beq_iff_eq,decide_eq_true_eq] at h
 grind
theorem Ka {l:List Tm}{x:Tm}(h:PK l) (hx:Ok 4096 x):PK (l++[x]):=fun y hy=>by
 grind
theorem Yn {l:List Tm}(h:PK l) (k:Nat):PK (l.drop k):=fun y hy=>h y (List.mem_of_mem_drop hy)
theorem Qw {l:List Tm}(h:PK l):G3 l:=MB fun x hx=>(h x hx).nd
theorem OV {l:List Tm}(h:PK l) (k:Nat):PK (l.take k):=fun y hy=>h y (List.mem_of_mem_take hy)
theorem dZ {l:List Tm}(h:PK l):MG l:=No fun x hx=>(h x hx).vp
theorem RB {B:Nat}{t x:Tm}{ts:List Tm}{i:Nat}(hn:G3 ts) (hv:MG ts) (hw:Hi ts) (hs:Aq ts≤B) (hx:ts[i]?=some x):Ok B x:=⟨CE hn hx,FU hv hx,Gf hw hx,by have:=BW hx;omega⟩
theorem Lv {v:Tm}{us:List Tm}{K m:Nat}(hv:size v≤4096*K+4096) (hu:PK us) (h1:us.length≤m) (h2:K≤m) (hm:m≤1073741824):size (apply v us)<1152921504606846976:=by
 have:=L5 hu;rw[NY];omega
theorem NA {ms:List Mv}{B n:Nat}{op:List Int}{s:Nat}{t:Tm}(h1:s+(B+1)*free ms op≤n+1) {op':List Int}(hm:∀i,i∈op→i∈op') {x:Nat}(hx:x<s):x+(B+1)*free ms op'≤n:=by
 have:=Nat.mul_le_mul_left (B+1) (VY (ms:=ms) hm);omega
theorem mk_val {ms:List Mv}{B n:Nat}{op:List Int}{s:Nat}(hs:1≤s) (h1:s+(B+1)*free ms op≤n+1) {i:Int}(h0:0≤i) (hl:i<ms.length) (hin:i ∉ op) {x:Nat}(hx:x≤B):x+(B+1)*free ms (op++[i])≤n:=by
 have hlt:=Zf h0 hl hin;have:(B+1)*(free ms (op++[i])+1)≤(B+1)*free ms op:=Nat.mul_le_mul_left _ hlt
 grind
theorem M4 {us:List Tm}{j m:Nat}(h:m≤j):us++List.replicate (m - j) A3=us:=by
 rw[show m - j=0 by omega,List.replicate_zero,List.append_nil]
theorem Zo {B:Nat}{k i:Int}{n:ByteArray}{l:List DK}{ks:List Tm}(h:Ok B (.mk k i n l ks)) (hk:k=5):ks.length=2:=by
 have hl:(ks.length:Int)=arity k:=h.wt.1
 grind [arity]
theorem QA {x:Tm}{ls:List Tm}(hx:Ok 4096 x) (hl:PK ls) (h:0<ls.length):Nd (Bo x (ls.take 1) 0).1∧Vp (Bo x (ls.take 1) 0).1∧Wt (Bo x (ls.take 1) 0).1∧size (Bo x (ls.take 1) 0).1≤4096:=by
 have ⟨a,h1,h2⟩:=take_one h
 grind [LL]
theorem ZZ {k i:Int}{n:ByteArray}{l:List DK}{ks ls:List Tm}{x y:Tm}(hv:Ok 4096 (.mk k i n l ks)) (hk:k=5) (h:0<ls.length) (hl:PK ls) (hx:ks[1]?=some x) (hc:HX (Bo x (ls.take 1) 0).1 (Bo x (ls.take 1) 0).2= .ok y):Ok 4096 y:=by
 have hkx:Ok 4096 x:=⟨CE hv.nd.2.2.2.2.1 hx,FU hv.vp.2 hx,Gf hv.wt.2.2 hx,by have:=BW hx;have:=hv.sz;simp only[size] at this;omega⟩;have ⟨g1,g2,g3,g4⟩:=QA hkx hl h;have ⟨e1,e2,e3⟩:=Qy hc;exact e3▸⟨g1,g2,g3,g4⟩
end Go.Eu
namespace Go.Abs
def cJ {β:Type}(mkv:β→AV) (mkH:β→List Aj):DL→List Aj→Prop
 | .val v,H'=>∃b,v=mkv b∧H'=mkH b
 | .panic _,_=>False
section
variable {P:Program}{ops:Array Oper}{n:Nat}{τ₀ τ:Nat→AV}{D:List Cb}{Q:Bd→As→Prop}{opn:Nat→Bool}{k:Nat}{H:List Aj}{dst:Option Tmp}{ty:TypeId}{pos:String}{aft:Array Edge}{c:Call}{f:Operand}{fid:FuncId}{first caps A:List AV}{β:Type}{mkv:β→AV}{mkH:β→List Aj}
theorem bC {rd ef effs fx}(fx':List (Nat×Sp)) (b0:β) (ho:ops[k]?=some ⟨dst,.call c,ty,pos,aft,none⟩) (hn:opn k=true)
  (hc:c.callee= .value f) (hf:(ev τ f= .p (.fn fid)∧first=[]∧caps=[])∨ev τ f= .fn (.func fid) first caps) (h:BO P fid A [] (cJ mkv mkH)) (hA:first++c.args.toList.map (ev τ)++caps=A∨(first++c.args.toList.map (ev τ)++caps).map norm=A) (haft:Ct ops k (fx'.map (·.1))=true)
  (next:∀b,GJ ops k H (mkH b++H) rd∧D6 k (.eff (mkv b) (mkH b++H)) fx∧Dr P ops n τ₀ D Q opn (k+1) (put τ dst (mkv b)) (mkH b++H) rd ((k,H,mkH b++H)::ef) (true::effs) (fx'++fx)):Dr P ops n τ₀ D Q opn k τ H rd ef effs fx :=
 Jh fx' ho hn (FQ (H:=H) (Hs:=[]) (Hf:=H) hc hf Ag h hA) haft ⟨_,_,_,⟨b0,rfl,rfl⟩,rfl⟩ (fun v H' ⟨_,h,_⟩=>h.elim) (fun v H' ⟨Hs',⟨b,h1,h2⟩,h3⟩=>by subst h1;subst h2;subst h3;exact next b)
theorem aH {r:Option Nat}(ho:ops[k]?=some ⟨dst,.call c,ty,pos,aft,none⟩) (hd:D9 dst n=true)
  (hc:c.callee= .value f) (hf:(ev τ f= .p (.fn fid)∧first=[]∧caps=[])∨ev τ f= .fn (.func fid) first caps) (h:BO P fid A [] (cJ mkv mkH)) (hA:FB (first++c.args.toList.map (ev τ)++caps) A)
  (next:∀b,AL P r ops (k+1) ⟨n,put τ dst (mkv b),mkH b++H,D⟩ Q):AL P r ops k ⟨n,τ,H,D⟩ Q :=
 LR ho hd hc hf (Hs:=[]) (Hf:=H) Ag (h.args hA) (.inl rfl) (fun v Hs' ⟨b,h1,h2⟩=>by subst h1;subst h2;exact next b) (fun _ _ h=>h.elim)
end
end Go.Abs
namespace Go.Eu
open Go.Abs
def Fh (ms:List Mv) (n:Nat) (t:Tm):Tm×Int :=
 match B0 ms n ⟨[],[],0⟩ t with
 | .ok r=>(r.1,0)
 | .error e=>(A3,e)
theorem Ta {ms:List Mv}{n:Nat}{t:Tm}{e:Int}(h:B0 ms n ⟨[],[],0⟩ t= .error e):Fh ms n t=(A3,e):=by unfold Fh;rw[h]
theorem WO {ms:List Mv}{n:Nat}{t:Tm}{r:Tm×EN}(h:B0 ms n ⟨[],[],0⟩ t= .ok r):Fh ms n t=(r.1,0):=by unfold Fh;rw[h]
theorem JI (ms:List Mv):NH ms ⟨[],[],0⟩:=⟨fun p hp=>by simp at hp,by decide,by decide⟩
theorem R3 {ms:List Mv}{B n:Nat}{t:Tm}(hB:1≤B) (hm:∀m∈ms,Ok B m.value) (ht:Ok B t):Ok 4096 (Fh ms n t).1:=by
 unfold Fh;split
 ·rename_i r h;exact(Dn hB hm n _ _ r ht (JI ms) h).1
 exact LO Af
def S8 (ms:List Mv) (n:Nat) (t:Tm):List Int×Int:=if (Fh ms n t).2≠0 then ([],(Fh ms n t).2) else (Cx [] (Fh ms n t).1,0)
mutual
def TP (p:Int→Int→ByteArray→List DK→Prop):Tm→Prop
 | .mk k i n l ks=>p k i n l∧PH p ks
def PH (p:Int→Int→ByteArray→List DK→Prop):List Tm→Prop
 | []=>True
 | t::ts=>TP p t∧PH p ts
end
section
variable {p q:Int→Int→ByteArray→List DK→Prop}
theorem N2:∀{a b:List Tm},PH p (a++b)↔PH p a∧PH p b
 | [],b=>by simp[PH]
 | x::a,b=>by simp only[List.cons_append,PH,N2 (a:=a),and_assoc]
theorem XR:∀{ts:List Tm},(∀t∈ts,TP p t)→PH p ts
 | [],_=>trivial
 | t::ts,h=>⟨h t Ag,XR fun x hx=>h x (by simp[hx])⟩
mutual
theorem TP.imp (h:∀k i n l,p k i n l→q k i n l):∀(t:Tm),TP p t→TP q t
 | .mk k i n l ks,ht=>⟨h _ _ _ _ ht.1,PH.imp h ks ht.2⟩
theorem PH.imp (h:∀k i n l,p k i n l→q k i n l):∀(ts:List Tm),PH p ts→PH q ts
 | [],_=>trivial
 | t::ts,ht=>⟨TP.imp h t ht.1,PH.imp h ts ht.2⟩
end
theorem R8:∀(t:Tm),TP p t→TP p (Al t).1∧PH p (Al t).2
 | .mk k i n l [f,a],h=>by
  unfold Al;split
  ·have ⟨h1,h2⟩:=R8 f h.2.1;exact⟨h1,N2.2 ⟨h2,h.2.2.1,Ah⟩⟩
  ·exact⟨h,Ah⟩
 | .mk k i n l [],h=>by unfold Al;exact⟨h,trivial⟩
 | .mk k i n l [a],h=>by unfold Al;exact⟨h,trivial⟩
 | .mk k i n l (a::b::c::r),h=>by unfold Al;exact⟨h,trivial⟩
theorem SR (h4:p 4 0 ⟨#[]⟩ []):∀(xs:List Tm) (f:Tm),TP p f→PH p xs→TP p (apply f xs)
 | [],f,h,_=>h
 | x::xs,f,h,hx=>SR h4 xs (K7 f x) ⟨h4,h,hx.1,trivial⟩ hx.2
end
def jD (ms:List Mv) (D:List Int) (k i:Int) (n:ByteArray) (l:List DK):Prop:=known ms (.mk k i n l [])=true→i∈D
abbrev KM (ms:List Mv) (D:List Int):Tm→Prop:=TP (jD ms D)
abbrev gQ (ms:List Mv) (D:List Int):List Tm→Prop:=PH (jD ms D)
theorem KM.mono {ms:List Mv}{D D':List Int}(h:∀i∈D,i∈D') {t:Tm}(ht:KM ms D t):KM ms D' t:=TP.imp (fun k i n l g e=>h _ (g e)) t ht
theorem gQ.mono {ms:List Mv}{D D':List Int}(h:∀i∈D,i∈D') {t:List Tm}(ht:gQ ms D t):gQ ms D' t:=PH.imp (fun k i n l g e=>h _ (g e)) t ht
theorem KM.head {ms:List Mv}{D:List Int}{h:Tm}(hk:known ms h=true) (ht:KM ms D h):h.index∈D:=by
 have ⟨k,i,n,l,ks⟩:=h;exact ht.1 hk
theorem KM.kids {ms:List Mv}{D:List Int}{h:Tm}(ht:KM ms D h):gQ ms D h.kids:=by
 have ⟨k,i,n,l,ks⟩:=h;exact ht.2
inductive Ord (ms:List Mv):List Int→Prop
 | nil:Ord ms []
 | snoc {D:List Int} {i:Int}:Ord ms D→i ∉ D→KM ms D (valueOf ms i)→Ord ms (D++[i])
theorem Ord.pre {ms:List Mv}{D:List Int}(h:Ord ms D):∀i∈D,∃D',Ord ms D'∧(∀j∈D',j∈D)∧i ∉ D'∧KM ms D' (valueOf ms i):=by
 induction h with
 | nil=>intro i hi;simp at hi
 | @snoc D j h1 h2 h3 ih =>
  grind
section
variable {F F':PI→Tm→Tm×Int×PI}
end
def fH (st:EN):List Int:=st.dn.map Prod.fst
def iT (ms:List Mv) (t v:Tm):Prop:=∃n ab c d,SN ms n ab c t=(v,0,d)∧d.over=false
structure gW (ms:List Mv) (ab:List Int) (st:EN):Prop where
 op:∀i,i∈st.op↔i∈fH st∨i∈ab
 ord:Ord ms (fH st)
 dis:∀i∈fH st,i ∉ ab
 val:∀p∈st.dn,iT ms (valueOf ms p.1) p.2
 ok:∀p∈st.dn,Ok 4096 p.2
 w0:0≤st.wk
def pot (ms:List Mv) (B:Nat) (st:EN):Int:=st.wk+(B*free ms st.op:Nat)
structure Step (ms:List Mv) (B:Nat) (ab:List Int) (st st':EN) (s:Nat):Prop where
 inv:gW ms ab st'
 mono:∀i∈fH st,i∈fH st'
 pot:pot ms B st'≤pot ms B st+s
theorem Step.trans {ms:List Mv}{B:Nat}{ab:List Int}{a b c:EN}{s s':Nat}(h:Step ms B ab a b s) (h':Step ms B ab b c s'):Step ms B ab a c (s+s') :=
 ⟨h'.inv,fun i hi=>h'.mono i (h.mono i hi),by have:=h.pot;have:=h'.pot;omega⟩
theorem Step.le {ms:List Mv}{B:Nat}{ab:List Int}{a b:EN}{s s':Nat}(h:Step ms B ab a b s) (hs:s≤s'):Step ms B ab a b s':=⟨h.inv,h.mono,by have:=h.pot;omega⟩
def Uf (ms:List Mv) (k i:Int) (n:ByteArray) (l:List DK):Prop:=(k=12→0≤i∧i<(ms.length:Int)∧known ms (.mk k i n l [])=false)∧(k=4→i=0∧n=⟨#[]⟩∧l=[])
theorem ZY (ms:List Mv) (i:Int):Uf ms 0 i ⟨#[]⟩ []:=⟨fun h=>absurd h Ae,fun h=>absurd h Ae⟩
theorem aD (ms:List Mv):Uf ms 4 0 ⟨#[]⟩ []:=⟨fun h=>absurd h Ae,fun h=>⟨rfl,rfl,rfl⟩⟩
theorem Tl {ms:List Mv}{h:Tm}(hs:TP (Uf ms) h):known ms h=false:=by
 have ⟨k,i,n,l,ks⟩:=h;by_cases hk:k=12
 ·exact(hs.1.1 hk).2.2
 simp[known,hk]
theorem MK {ms:List Mv}:∀(t:Tm),TP (Uf ms) t→apply (Al t).1 (Al t).2=t
 | .mk k i n l [f,a],h=>by
  unfold Al;split
  ·rename_i hk;have:=MK f h.2.1;have ⟨e1,e2,e3⟩:=h.1.2 hk;simp only;rw[←Vt,this];subst e1 e2 e3 hk;rfl
  ·rfl
 | .mk k i n l [],h=>by unfold Al;rfl
 | .mk k i n l [a],h=>by unfold Al;rfl
 | .mk k i n l (a::b::c::r),h=>by unfold Al;rfl
def bU (ms:List Mv) (F:EN→Tm→Except Int (Tm×EN)):Prop:=∀st t,TP (Uf ms) t→F st t= .error 11∨∃st',F st t= .ok (t,st')
theorem Iy {ms:List Mv}{F:EN→Tm→Except Int (Tm×EN)}(hF:bU ms F):∀(ts:List Tm) (st:EN),PH (Uf ms) ts→Cz F st ts= .error 11∨∃st',Cz F st ts= .ok (ts,st')
 | [],st,h=> .inr ⟨st,rfl⟩
 | t::ts,st,h=>by
  unfold Cz;rcases hF st t h.1 with e | ⟨st1,e⟩
  ·exact .inl (by rw[e];rfl)
  rw[e];simp only[CC];rcases Iy hF ts st1 h.2 with e2 | ⟨st2,e2⟩
  ·exact .inl (by rw[e2])
  exact .inr ⟨st2,by rw[e2]⟩
theorem IL {ms:List Mv}:∀n,bU ms (B0 ms n)
 | 0=>fun st t h=> .inl rfl
 | n+1=>fun st t h=>by
  have ih:=IL (ms:=ms) n;have ⟨s1,s2⟩:=R8 t h;have hap:=MK t h;unfold B0;split
  ·exact .inl O
  have hk:=Tl s1;generalize (Al t).1=hd at *;have hkf:¬known ms hd=true:=by simp[hk]
  unfold Fy;rw[if_neg hkf];have hks:PH (Uf ms) hd.kids:=by obtain⟨k,i,n,l,ks⟩:=hd;exact s1.2
  have hwk:Da hd hd.kids=hd:=by obtain⟨k,i,n,l,ks⟩:=hd;rfl
  rcases Iy ih hd.kids { st with wk:=st.wk+1 } hks with e | ⟨st1,e⟩
  ·exact .inl (by rw[e];rfl)
  rw[e];simp only[El,CC,hwk];rcases Iy ih (Al t).2 st1 s2 with e2 | ⟨st2,e2⟩
  ·exact .inl (by rw[e2])
  rw[e2];simp only[hk,Bool.false_eq_true,if_false,hap];unfold HX;split
  ·rename_i a b;split at b<;>first | (injection b with b;subst b;exact .inl rfl) | cases b
  rename_i a b;split at b<;>first | (injection b with b;subst b;exact .inr ⟨st2,rfl⟩) | cases b
abbrev wide:Nat:=9223372036854775808
structure eI (l:DK):Prop where
 vars:l.vars.length<wide
 c:Hx l.const
 v:∀v∈l.vars,Hx v.index∧Hx v.plus
mutual
def Wd:Tm→Prop
 | .mk k i n ls ks=>n.size<wide∧ls.length<wide∧(∀l∈ls,eI l)∧ks.length<wide∧XJ ks∧Hx k∧Hx i
def XJ:List Tm→Prop
 | []=>True
 | t::ts=>Wd t∧XJ ts
end
theorem NK:∀{ts:List Tm}{i:Nat}{t:Tm},XJ ts→ts[i]?=some t→Wd t
 | [],i,t,_,h=>by simp at h
 | a::ts,0,t,hn,h=>by simp at h;subst h;exact hn.1
 | a::ts,i+1,t,hn,h=>by simp at h;exact NK hn.2 h
mutual
def Fw:Tm→Prop
 | .mk k i n ls ks=>n.size≤200∧ls.length≤20∧(∀l∈ls,l.vars.length≤20)∧fg ks
def fg:List Tm→Prop
 | []=>True
 | t::ts=>Fw t∧fg ts
end
theorem Xf:∀{ts:List Tm},(∀t∈ts,Fw t)→fg ts
 | [],_=>trivial
 | t::ts,h=>⟨h t Ag,Xf fun x hx=>h x (by simp[hx])⟩
def WG:Tm→Prop
 | .mk k i n ls ks=>n.size≤200∧ls.length≤20∧(∀l∈ls,l.vars.length≤20)∧Aq ks≤200∧G3 ks∧fg ks
theorem dB {t:Tm}(h:Wd t) (hf:WG t):Nd t:=by
 obtain⟨k,i,n,ls,ks⟩:=t;have ⟨h1,h2,h3,h4,h5⟩:=hf;have:=DN ks;exact⟨by simp only[C7];omega,by simp only[C7];omega,fun l hl=>⟨by have:=h3 l hl;simp only[C7];omega,(h.2.2.1 l hl).c,(h.2.2.1 l hl).v⟩,by simp only[C7];omega,h5.1,h.2.2.2.2.2⟩
mutual
theorem Lr:∀(t:Tm) (most:Int),-1152921504606846976≤most→most≤1152921504606846976→(size t:Int)≤1152921504606846976→0≤DP t most∧DP t most<size t∧(DP t most≤most→DP t most+1=size t)
 | .mk k i n l ks,most,h1,h2,h3=>by
  simp only[size] at h3 ⊢;unfold DP;have:=Lo ks most 0 h1 h2 Af Af;exact⟨this.1,by omega,fun h=>by have:=this.2.2 h;omega⟩
theorem Lo:∀(ts:List Tm) (most n:Int),-1152921504606846976≤most→most≤1152921504606846976→0≤n→n+Aq ts≤1152921504606846976→n≤Ck ts most n∧Ck ts most n≤n+Aq ts∧(Ck ts most n≤most→Ck ts most n=n+Aq ts)
 | [],most,n,h1,h2,h3,h4=>by simp[Ck,Aq]
 | t::ts,most,n,h1,h2,h3,h4=>by
  simp only[Aq] at h4 ⊢;have hp:=size_pos t;unfold Ck;by_cases hm:n > most
  ·rw[if_pos hm];exact⟨by omega,by omega,by omega⟩
  rw[if_neg hm];have e1:wr (most - n)=most - n:=DC ⟨by omega,by omega⟩;have hT:=Lr t (most - n) Af Af Af;rw[e1];have e2:wr (1+DP t (most - n))=1+DP t (most - n):=DC ⟨by omega,by omega⟩;rw[e2];have e3:wr (n+(1+DP t (most - n)))=n+(1+DP t (most - n)):=DC ⟨by omega,by omega⟩;rw[e3];have hL:=Lo ts most (n+(1+DP t (most - n))) h1 h2 Af Af;refine⟨by omega,by omega,fun h=>?_⟩;have:=hL.2.2 h;have:=hT.2.2 Af;omega
end
theorem YK {t:Tm}(h:WG t):size t≤201:=by
 obtain⟨k,i,n,ls,ks⟩:=t;have:=h.2.2.2.1;simp only[size];omega
theorem Pt:∀(ts:List Tm) (most n:Int),0≤most→most≤1000→0≤n→n≤3000→(∀t∈ts,size t≤201)→n≤Ck ts most n
 | [],most,n,h1,h2,h3,h4,hs=>by simp[Ck]
 | t::ts,most,n,h1,h2,h3,h4,hs=>by
  have ht:=hs t Ag;unfold Ck;by_cases hm:n > most
  ·rw[if_pos hm];omega
  rw[if_neg hm];have e1:wr (most - n)=most - n:=DC ⟨by omega,by omega⟩;have hT:=Lr t (most - n) Af Af Af;rw[e1];have e2:wr (1+DP t (most - n))=1+DP t (most - n):=DC ⟨by omega,by omega⟩;rw[e2];have e3:wr (n+(1+DP t (most - n)))=n+(1+DP t (most - n)):=DC ⟨by omega,by omega⟩;rw[e3];have hge:=Pt ts most (n+(1+DP t (most - n))) h1 h2 Af Af (fun x hx=>hs x (by simp[hx]));omega
theorem Qq:∀(ts:List Tm) (most n:Int),0≤most→most≤1000→0≤n→n≤3000→(∀t∈ts,size t≤201)→Ck ts most n≤most→Ck ts most n=n+Aq ts
 | [],most,n,h1,h2,h3,h4,hs,h=>by simp[Ck,Aq]
 | t::ts,most,n,h1,h2,h3,h4,hs,h=>by
  have ht:=hs t Ag;simp only[Aq];unfold Ck at h ⊢;by_cases hm:n > most
  ·rw[if_pos hm] at h;omega
  rw[if_neg hm] at h ⊢;have e1:wr (most - n)=most - n:=DC ⟨by omega,by omega⟩;have hT:=Lr t (most - n) Af Af Af;rw[e1] at h ⊢;have e2:wr (1+DP t (most - n))=1+DP t (most - n):=DC ⟨by omega,by omega⟩;rw[e2] at h ⊢;have e3:wr (n+(1+DP t (most - n)))=n+(1+DP t (most - n)):=DC ⟨by omega,by omega⟩;rw[e3] at h ⊢;have hL:=Qq ts most (n+(1+DP t (most - n))) h1 h2 Af Af (fun x hx=>hs x (by simp[hx])) h;have hge:=Pt ts most (n+(1+DP t (most - n))) h1 h2 Af Af (fun x hx=>hs x (by simp[hx]));have:=hT.2.2 Af;omega
structure Q8 (l:List Tm):Prop where
 sz:Aq l≤200
 nd:G3 l
 fw:fg l
theorem Zb {l:List Tm}{m:Nat}(hm:l.length≤m) (hw:XJ l) (hl:l.length<wide) (h:Ck l 200 0≤200) (hc:∀j,j<m→∀t,l[j]?=some t→WG t):Q8 l:=by
 have hf:∀t∈l,WG t:=fun t ht=>by
  have ⟨i,hi⟩:=Dl ht
  grind
 have:=Qq l 200 0 Af Af Af Af (fun t ht=>YK (hf t ht)) h;exact⟨by omega,MB fun t ht=>by
  have ⟨i,hi⟩:=Dl ht;exact dB (NK hw hi) (hf t ht),Xf fun t ht=>by
  obtain⟨k,i,n,ls,ks⟩:=t;have h5:=hf _ ht;exact⟨h5.1,h5.2.1,h5.2.2.1,h5.2.2.2.2.2⟩⟩
theorem JK {l:List Tm}{m:Int}(hf:Q8 l) (hm:0≤m∧m≤1000) (h:Ck l m 0≤m):(Aq l:Int)≤m:=by
 have:=hf.sz;have:=(Lo l m 0 Af Af Af Af).2.2 h;omega
theorem F4 {l:List Tm}(hf:Q8 l) {t:Tm}(ht:t∈l):Nd t∧size t≤200:=⟨Rr hf.nd ht,by have:=Ll ht;have:=hf.sz;omega⟩
structure bY (m:Nat) (x:Mv):Prop where
 n1:Nd x.type
 n2:Nd x.value
 sz:size x.type+size x.value≤40
 w1:wf 0 m 0 x.type
 w2:x.known=true→wf 0 m 0 x.value
 w3:x.known=false→x.value=A3
structure MY (l:List Mv):Prop where
 len:l.length≤8
 all:∀m∈l,bY l.length m
structure dr (m:Nat) (ctx terms:List Tm):Prop where
 len:ctx.length≤6
 s1:Aq ctx≤60
 s2:Aq terms≤60
 n1:G3 ctx
 n2:G3 terms
 w2:∀t∈terms,wf ctx.length m 0 t
 w1:∀(i:Nat) (t:Tm),ctx[i]?=some t→wf i m 0 t
structure ff (x:Mv):Prop where
 w1:Wd x.type
 w2:Wd x.value
mutual
theorem Xr {vars m:Int}(hv:vars≤65536):∀(t:Tm) (d:Int),wf vars m d t→0≤d→d+size t≤1073741824→Vp t
 | .mk k i n l ks,d,h,h0,h1=>by
  simp only[wf,size] at h h1;exact⟨fun e=>by have:=h.2.2.2.1 e;omega,XC hv ks k d 0 h.2.2.2.2.2 h0 Af⟩
theorem XC {vars m:Int}(hv:vars≤65536):∀(ts:List Tm) (k d:Int) (j:Nat),UW vars m k d j ts→0≤d→d+1+Aq ts≤1073741824→MG ts
 | [],k,d,j,h,h0,h1=>trivial
 | t::ts,k,d,j,h,h0,h1=>by
  have:=CK k j;simp only[UW,Aq] at h h1;exact⟨Xr hv t _ h.1 Af Af,XC hv ts k d (j+1) h.2 h0 Af⟩
end
theorem bX {vars m:Int}{t:Tm}{B:Nat}(hv:vars≤65536) (h:wf vars m 0 t) (hn:Nd t) (hs:size t≤B) (hB:B≤1000):Ok B t:=⟨hn,Xr hv t 0 h Af Af,XW t 0 h,hs⟩
theorem Zx {l:List Mv}(h:MY l):∀m∈l,Ok 60 m.value:=by
 intro m hm;have g:=h.all m hm;have:=g.sz;cases hk:m.known with
 | true=>exact bX Af (g.w2 hk) g.n2 Af Af
 | false=>rw[g.w3 hk];exact LO Af
theorem O3 (k:Int) (ctx:List Tm) (t:Tm):size (Bi k ctx t)=Aq ctx+ctx.length+size t:=by
 induction ctx with
 | nil=>simp[Bi,Aq]
 | cons a ctx ih =>
  grind [Bi,size,Aq,List.length_cons]
theorem Ok.mono {B B':Nat}{t:Tm}(h:Ok B t) (hb:B≤B'):Ok B' t:=⟨h.nd,h.vp,h.wt,Nat.le_trans h.sz hb⟩
theorem ZF {l:List Mv}(h:MY l):∀m∈l,Nd m.type∧Nd m.value:=fun m hm=>⟨(h.all m hm).n1,(h.all m hm).n2⟩
end Go.Eu
namespace Go.Eu
open Go.Abs Go.RowKit Go.ChangeShapes Go.ChangeAt Go.WideShapes
theorem Tj:∀{ts:List Tm},(∀t∈ts,Wd t)→XJ ts
 | [],_=>trivial
 | t::ts,h=>⟨h t Ag,Tj fun x hx=>h x (by simp[hx])⟩
abbrev F0:Nat→Prop:=fun _=>False
def BE (w:World):List PV→List Value→Prop
 | [],cs=>cs=[]
 | p::ps,cs=>∃c cs',cs=c::cs'∧BN F0 w p c∧BE w ps cs'
theorem BE.length {w:World}:∀{ps:List PV}{cs:List Value},BE w ps cs→ps.length=cs.length
 | [],cs,h=>by simp only[BE] at h;subst h;rfl
 | p::ps,cs,h=>by
  obtain⟨c,cs',rfl,_,h⟩:=h;simp[BE.length h]
theorem BE.append {w:World}:∀{a b:List PV}{x y:List Value},BE w a x→BE w b y→BE w (a++b) (x++y)
 | [],b,x,y,h,h'=>by simp only[BE] at h;subst h;exact h'
 | p::a,b,x,y,h,h'=>by
  obtain⟨c,cs',rfl,h1,h⟩:=h;exact⟨c,cs'++y,O,h1,BE.append h h'⟩
theorem BE.one {w:World}{p:PV}{c:Value}(h:BN F0 w p c):BE w [p] [c]:=⟨c,[],rfl,h,rfl⟩
theorem BE.repL {w:World}:∀{ps:List PV}{cs:List Value},BE w ps cs→A6 F0 w (ps.map .p) cs
 | [],cs,h=>by simp only[BE] at h;subst h;exact rfl
 | p::ps,cs,h=>by
  obtain⟨c,cs',rfl,h1,h⟩:=h;exact⟨c,cs',O,by simp only[BP];exact h1,BE.repL h⟩
theorem Lm {w:World}{b:Nat}:∀(r:List PV) (cs:List Value) (o:Nat),BE w r cs→(∀j,j<cs.length→w.cell? ⟨b,o+j,none⟩=cs[j]?)→BS F0 w b o r
 | [],cs,o,h,hc=>by simp[BS]
 | p::r,cs,o,h,hc=>by
  obtain⟨c,cs',rfl,h1,h⟩:=h;refine⟨⟨c,by have:=hc 0 Ag;simpa using this,h1⟩,Lm r cs' (o+1) h fun j hj=>?_⟩;have:=hc (j+1) Aa;rw[show o+1+j=o+(j+1) by omega];simpa using this
theorem Jd {w:World}{base:Nat}{a:Addr}{n:Nat}{cs:List Value}(h:w.cells? base a n=some cs):cs.length=n∧∀j,j<n→w.cell? (a.add j)=cs[j]?:=by
 unfold World.cells? at h;split at h
 ·exact⟨by simpa using mapM_some_length h,fun j hj=>mapM_some_get h j j (by simp[hj])⟩
 cases h
section
variable {H:Type}{enc:TypeId×Value→H}{P:Program}{w:World}{base:Nat}{sp:Nat→Bool}{hd:Bool}{n:Nat}
theorem G2 {α:Type}{e t C:Nat}(ut:P.underlying t=some (.slice e)) (hC:P.cellsOf e=C) (hC1:1≤C) (f:α→List PV) (Q:α→Prop)
  (he:∀m cs y,m<n→DataW.trod enc P w base sp hd m e cs=some y→∃a,BE w (f a) cs∧Q a) {cs:List Value} {y:DataW H×List MemPlace} (h:DataW.trod enc P w base sp hd n t cs=some y) :
  ∃l:List α,l.length<wide∧(∀a∈l,Q a)∧∃v,cs=[v]∧BN F0 w (.lst (l.map f)) v:=by
 rcases DataW.trod_slice ut h with ⟨rfl,_⟩ | ⟨a,len,cap,elems,rest,m,rfl,rfl,_,hb,hl,hc,hel,hget,_,_⟩
 ·exact⟨[],by simp[wide],fun a ha=>by simp at ha,_,rfl,by simp only[BN];exact .inl ⟨rfl,none,0,rfl⟩⟩
 rw[hC] at hget;have hml:maxLen<wide:=by decide
 rcases Nat.eq_zero_or_pos len with h0 | h0
 ·subst h0;exact⟨[],by simp[wide],fun a ha=>by simp at ha,_,rfl,by simp only[BN];exact .inl ⟨rfl,some a,cap,rfl⟩⟩
 have hone:∀i,i<len→∃ci y,w.cells? base (a.add (i*C)) C=some ci∧DataW.trod enc P w base sp hd m e ci=some y:=fun i hi=>by
  have:=hget i hi;rw[List.getElem?_eq_getElem Af] at this;have ⟨ci,h1,h2⟩:=Option.bind_eq_some_iff.1 this
  grind
 have ⟨c0,y0,hc0,_⟩:=hone 0 h0;have ⟨hl0,hg0⟩:=Jd hc0;have hcell:∃v,w.cell? a=some v:=by
  have:=hg0 0 Af;rw[Nat.zero_mul,Addr.add,if_pos rfl,Addr.add,if_pos rfl] at this
  grind
 have ⟨v0,hv0⟩:=hcell;obtain⟨blk,off,spot⟩:=a;have hspot:spot=none:=by
  unfold World.cell? at hv0;simp only at hv0;split at hv0
  ·cases spot with
   | none=>rfl
   | some s=>simp at hv0
  cases hv0
 subst hspot;have hblk:blk<w.heap.size:=by
  unfold World.cell? at hv0
  grind
 have hadd:∀k,(⟨blk,off,none⟩:Addr).add k=⟨blk,off+k,none⟩:=fun k=>by
  unfold Addr.add
  grind
 have hadd2:∀o k,(⟨blk,o,none⟩:Addr).add k=⟨blk,o+k,none⟩:=fun o k=>by
  unfold Addr.add
  grind
 have hrows:∀k,k≤len→∃l:List α,l.length=k∧(∀x∈l,Q x)∧A7 F0 w blk C (off+(len - k)*C) (l.map f):=by
  intro k
  induction k with
  | zero=>exact fun _=>⟨[],rfl,fun a ha=>by simp at ha,by simp[A7]⟩
  | succ k ih =>
   intro hk;have ⟨l,h1,h2,h3⟩:=ih Af;have ⟨ci,y,hci,ht⟩:=hone (len - (k+1)) Af;have ⟨g1,g2⟩:=Jd hci;have ⟨x,hx,hq⟩:=he m ci y Af ht;refine⟨x::l,by simp[h1],fun z hz=>?_,?_⟩
   ·grind
   refine⟨by rw[hx.length,g1],Lm _ ci _ hx fun j hj=>?_,?_⟩
   ·grind
   rw[show off+(len - (k+1))*C+C=off+(len - k)*C by rw[Nat.add_assoc,←Nat.succ_mul];congr 2;omega];exact h3
 have ⟨l,h1,h2,h3⟩:=hrows len (Nat.le_refl _);rw[Nat.sub_self,Nat.zero_mul,Nat.add_zero] at h3
 grind [BN,List.length_map]
def It (P:Program) (t:TypeId):Option (List (Nat×Nat)) :=
 match P.underlying t with
 | some (.struct fs)=>some (fs.toList.map fun f=>(f.type,f.offset))
 | _=>none
theorem ND {t:TypeId}{l:List (Nat×Nat)}(hf:It P t=some l) {cs:List Value}{y:DataW H×List MemPlace}(h:DataW.trod enc P w base sp hd n t cs=some y) :
  ∃m,n=m+1∧cs.length=P.cellsOf t∧∀(i:Nat) (p:Nat×Nat),l[i]?=some p→∃z,DataW.trod enc P w base sp hd m p.1 ((cs.drop p.2).take (P.cellsOf p.1))=some z:=by
 unfold It at hf;split at hf
 ·rename_i fs hu;injection hf with hf;subst hf;have ⟨xs,m,h1,_,h2,h3,h4⟩:=DataW.trod_struct hu h;refine⟨m,h1,h2,fun i p hp=>?_⟩
  grind
 cases hf
end
structure Du (P:Program) (tI tS tV tVs tL tLs tT tTs:TypeId):Prop where
 uI:P.underlying tI=some (.int .i64)
 uS:P.underlying tS=some .string
 uVs:P.underlying tVs=some (.slice tV)
 uLs:P.underlying tLs=some (.slice tL)
 uTs:P.underlying tTs=some (.slice tT)
 fV:It P tV=some [(tI,0),(tI,1)]
 fL:It P tL=some [(tI,0),(tVs,1)]
 fT:It P tT=some [(tI,0),(tI,1),(tS,2),(tLs,3),(tTs,4)]
 cI:P.cellsOf tI=1
 cS:P.cellsOf tS=1
 cVs:P.cellsOf tVs=1
 cLs:P.cellsOf tLs=1
 cTs:P.cellsOf tTs=1
 cV:P.cellsOf tV=2
 cL:P.cellsOf tL=2
 cT:P.cellsOf tT=5
theorem MC {n:Int}(h:(Lit.int .i64 n).wf=true):Hx n:=by
 simp only[Lit.wf,Bool.and_eq_true,decide_eq_true_eq] at h;exact h
section
variable {H:Type}{enc:TypeId×Value→H}{P:Program}{w:World}{base:Nat}{sp:Nat→Bool}{hd:Bool}{tI tB tS tV tVs tL tLs tT tTs tM tMs:TypeId}
theorem YZ (E:Du P tI tS tV tVs tL tLs tT tTs) {n:Nat}{cs:List Value}{y:DataW H×List MemPlace}(h:DataW.trod enc P w base sp hd n tV cs=some y):∃v:CN,BE w (Mu v) cs∧(Hx v.index∧Hx v.plus):=by
 obtain⟨m,rfl,hl,hg⟩:=ND E.fV h;rw[E.cV] at hl
 match cs,hl with
 | [c0,c1],_ =>
  have ⟨z0,h0⟩:=hg 0 _ rfl;have ⟨z1,h1⟩:=hg 1 _ rfl;simp only[E.cI,List.drop_zero,List.drop_succ_cons,List.take_succ_cons,List.take_zero] at h0 h1;have ⟨a,ha,_,fa⟩:=DataW.trod_int E.uI h0;have ⟨b,hb,_,fb⟩:=DataW.trod_int E.uI h1;injection ha with ha;injection hb with hb;subst ha hb;exact⟨⟨a,b⟩,⟨_,_,O,by simp[BN],_,_,rfl,by simp[BN],rfl⟩,MC fa,MC fb⟩
theorem dM (E:Du P tI tS tV tVs tL tLs tT tTs) {n:Nat}{cs:List Value}{y:DataW H×List MemPlace}(h:DataW.trod enc P w base sp hd n tL cs=some y):∃v:DK,BE w (Dd v) cs∧eI v:=by
 obtain⟨m,rfl,hl,hg⟩:=ND E.fL h;rw[E.cL] at hl
 match cs,hl with
 | [c0,c1],_ =>
  have ⟨z0,h0⟩:=hg 0 _ rfl;have ⟨z1,h1⟩:=hg 1 _ rfl;simp only[E.cI,E.cVs,List.drop_zero,List.drop_succ_cons,List.take_succ_cons,List.take_zero] at h0 h1;have ⟨a,ha,_,fa⟩:=DataW.trod_int E.uI h0;injection ha with ha;subst ha;have ⟨l,g1,g2,v,hv,g3⟩:=G2 E.uVs E.cV Ae Mu (fun v=>Hx v.index∧Hx v.plus) (fun m cs y _ h=>YZ E h) h1;injection hv with hv;subst hv;exact⟨⟨a,l⟩,⟨_,_,O,by simp[BN],_,_,rfl,g3,rfl⟩,⟨g1,MC fa,g2⟩⟩
theorem Q2 (E:Du P tI tS tV tVs tL tLs tT tTs):∀(n:Nat) (cs:List Value) (y:DataW H×List MemPlace),DataW.trod enc P w base sp hd n tT cs=some y→∃t:Tm,BE w (BB t) cs∧Wd t:=by
 intro n
 induction n using Nat.strongRecOn with
 | ind n ih =>
  intro cs y h;obtain⟨m,rfl,hl,hg⟩:=ND E.fT h;rw[E.cT] at hl
  match cs,hl with
  | [c0,c1,c2,c3,c4],_ =>
   have ⟨z0,h0⟩:=hg 0 _ rfl;have ⟨z1,h1⟩:=hg 1 _ rfl;have ⟨z2,h2⟩:=hg 2 _ rfl;have ⟨z3,h3⟩:=hg 3 _ rfl;have ⟨z4,h4⟩:=hg 4 _ rfl;simp only[E.cI,E.cS,E.cLs,E.cTs,List.drop_zero,List.drop_succ_cons,List.take_succ_cons,List.take_zero] at h0 h1 h2 h3 h4;have ⟨a,ha,_,wa⟩:=DataW.trod_int E.uI h0;have ⟨b,hb,_,wb⟩:=DataW.trod_int E.uI h1;have ⟨s,hs,_,ws⟩:=DataW.trod_string E.uS h2;injection ha with ha;injection hb with hb;injection hs with hs;subst ha hb hs;have ⟨l,g1,g2,v,hv,g3⟩:=G2 E.uLs E.cL Ae Dd eI (fun m cs y _ h=>dM E h) h3;have ⟨ks,k1,k2,u,hu,k3⟩:=G2 E.uTs E.cT Ae BB Wd (fun m' cs y hm h=>ih m' Af cs y h) h4;injection hv with hv;injection hu with hu;subst hv hu;have hml:maxLen<wide:=by decide
   exact⟨.mk a b s l ks,⟨_,_,O,by simp[BN],_,_,rfl,by simp[BN],_,_,rfl,by simp[BN],_,_,rfl,g3,_,_,rfl,by rw[Cl];exact k3,rfl⟩,
    ⟨by omega,g1,g2,k1,Tj fun t ht=>k2 t ht,MC wa,MC wb⟩⟩
theorem Z2 (E:Du P tI tS tV tVs tL tLs tT tTs) {n:Nat}{cs:List Value}{y:DataW H×List MemPlace}(h:DataW.trod enc P w base sp hd n tTs cs=some y):∃l:List Tm,l.length<wide∧XJ l∧∃v,cs=[v]∧BN F0 w (.lst (A0 l)) v:=by
 have ⟨l,g1,g2,v,hv,g3⟩:=G2 E.uTs E.cT Ae BB Wd (fun m cs y _ h=>Q2 E m cs y h) h;exact⟨l,g1,Tj g2,v,hv,by rw[Cl];exact g3⟩
structure M3 (P:Program) (tB tT tM tMs:TypeId):Prop where
 uB:P.underlying tB=some .bool
 uMs:P.underlying tMs=some (.slice tM)
 fM:It P tM=some [(tT,0),(tB,5),(tT,6),(tB,11)]
 cB:P.cellsOf tB=1
 cM:P.cellsOf tM=12
theorem cK (E:Du P tI tS tV tVs tL tLs tT tTs) (E':M3 P tB tT tM tMs) {n:Nat}{cs:List Value}{y:DataW H×List MemPlace}(h:DataW.trod enc P w base sp hd n tM cs=some y):∃x:Mv,BE w (B5 x) cs∧ff x:=by
 obtain⟨m,rfl,hl,hg⟩:=ND E'.fM h;rw[E'.cM] at hl
 match cs,hl with
 | [c0,c1,c2,c3,c4,c5,c6,c7,c8,c9,c10,c11],_ =>
  have ⟨z0,h0⟩:=hg 0 _ rfl;have ⟨z1,h1⟩:=hg 1 _ rfl;have ⟨z2,h2⟩:=hg 2 _ rfl;have ⟨z3,h3⟩:=hg 3 _ rfl;simp only[E.cT,E'.cB,List.drop_zero,List.drop_succ_cons,List.take_succ_cons,List.take_zero] at h0 h1 h2 h3;have ⟨y,hy,wy⟩:=Q2 E _ _ _ h0;have ⟨a,ha,_⟩:=DataW.trod_bool E'.uB h1;have ⟨v,hv,wv⟩:=Q2 E _ _ _ h2;have ⟨b,hb,_⟩:=DataW.trod_bool E'.uB h3;injection ha with ha;injection hb with hb;subst ha hb;refine⟨⟨y,a,v,b⟩,?_,⟨wy,wv⟩⟩;exact BE.append (x:=[c0,c1,c2,c3,c4]) hy (b:= .bool a::(BB v++[.bool b])) (y:= .bool a::([c6,c7,c8,c9,c10]++[.bool b])) ⟨_,_,O,(by simp only[BN]:BN F0 w (.bool a) (.bool a)),BE.append (x:=[c6,c7,c8,c9,c10]) hv (BE.one (c:= .bool b) (by simp only[BN]))⟩
theorem ZT (E:Du P tI tS tV tVs tL tLs tT tTs) (E':M3 P tB tT tM tMs) {n:Nat}{cs:List Value}{y:DataW H×List MemPlace}(h:DataW.trod enc P w base sp hd n tMs cs=some y):∃l:List Mv,l.length<wide∧(∀x∈l,ff x)∧∃v,cs=[v]∧BN F0 w (.lst (l.map B5)) v :=
 G2 E'.uMs E'.cM Ae B5 ff (fun m cs y _ h=>cK E E' h) h
theorem gE (E:Du P tI tS tV tVs tL tLs tT tTs) {b2:Nat}{r:Reach}{v:Value}{d:DataW H}{ps:List MemPlace}(hk:Value.okWide P w r b2 tT v) (h:DataW.Trod enc P w base sp hd tT v d ps):∃t:Tm,Wd t∧BP F0 w (TV t) v:=by
 have ⟨n,h⟩:=h;have ⟨t,g1,g2⟩:=Q2 E _ _ _ h;have hf:=E.fT;unfold It at hf;unfold Value.okWide at hk;split at hk
 ·obtain⟨cs,rfl,_,_⟩:=hk;refine⟨t,g2,?_⟩;exact⟨cs.toList,by simp,BE.repL g1⟩
 ·grind
 grind
end
theorem WI (w:World):HRel F0 [] w:=⟨fun o ho=>by simp at ho,by simp,fun o ho=>by simp at ho,fun b hb=>hb.elim⟩
theorem Tg {P:Program}{f:FuncId}{xs:List AV}(h:EE P f xs (.p (.bool true))) {w:World}{vs:List Value}(ha:A6 F0 w xs vs):Calls P f ⟨vs⟩ w fun e w'=>e= .returned (.bool true)∧Below w.heap.size w w':=by
 refine(h.2 F0 w vs (WI w) ha).mono ?_;rintro e w' ⟨r,H',F',hr,he,hH,ht⟩;cases r with
 | panic v=>exact hr.elim
 | val v =>
  obtain⟨rfl,rfl⟩:=hr;obtain⟨u,rfl,hu⟩:=he;simp only[BP,BN] at hu;subst hu;exact⟨O,ht.os,ht.tape,ht.out,ht.size,fun k hk=>ht.same k hk fun o ho=>by simp at ho⟩
theorem Tq {H:Type}{enc:TypeId×Value→H}{P:Program}{f:Func}{s:ChangeSpec}{tB:TypeId}(hl:laidOutB P=true) (hB:P.underlying tB=some .bool) (hrt:f.resultTypes=#[tB]) (hv0:s.vars=[]) {W W':World}{args:Array Value}{ds:List (DataW H)}{before:List MemPlace}
  (hpr:∀t∈f.params.toList,P.readableRec t=true∧t<P.types.size) (hW:DataW.Whole enc P f.params.toList s.vars false W args.toList ds [] before) (hres:(s.fn H ds).results=[.lit (.bool true)]) (hargs:(s.fn H ds).args=ds) (hvars:(s.fn H ds).vars=[]) (hb:Below W.heap.size W W') :
  s.post enc P f false true false false W args (.bool true) W':=by
 have hW':=hW;obtain⟨p,q,hA,hV,rfl,hfz,hnd⟩:=hW;have hq:q=[]:=by rw[hv0] at hV;exact hV
 subst hq;have hstay:∀{ts:List TypeId} {vs:List Value} {ds:List (DataW H)} {ps:List MemPlace},(∀t∈ts,P.readableRec t=true∧t<P.types.size)→(∀x∈ps,x.block<W.heap.size)→DataW.TrodAll enc P W 0 (fun _=>true) true ts vs ds ps→DataW.TrodAll enc P W' 0 (fun b=>decide (b<W.heap.size)) true ts vs ds ps:=by
  intro ts
  induction ts with
  | nil =>
   intro vs ds ps _ _ h;cases vs<;>cases ds<;>simp[DataW.TrodAll] at h ⊢;exact h
  | cons t ts ih =>
   intro vs ds ps h1 h2 h;obtain⟨v,vs',d,ds',a,b,rfl,rfl,rfl,h3,h4⟩:=trodAll_cons h;exact⟨a,b,Below.trod hl (h1 t Ag).1 (h1 t Ag).2 h3 hb (fun x hx=>h2 x (by simp[hx])),ih (fun t ht=>h1 t (by simp[ht])) (fun x hx=>h2 x (by simp[hx])) h4,O⟩
 refine⟨ds,[],p++[],[],p,[],hW',?_,?_,?_,hb.frame _,fun h=>by cases h⟩
 ·rw[List.append_nil,hres,hrt];refine⟨[],[],⟨1,?_⟩,O,O⟩;unfold DataW.trod;rw[hB];rfl
 ·rw[List.append_nil,hargs];exact hstay hpr (fun x hx=>hW'.lt x (by simpa using hx)) hA
 rw[List.append_nil,hvars,hv0];exact O
section
variable {H:Type}{enc:TypeId×Value→H}{P:Program}{w:World}{base:Nat}{sp:Nat→Bool}{hd:Bool}{tI tB tS tV tVs tL tLs tT tTs tM tMs:TypeId}
end
end Go.Eu
