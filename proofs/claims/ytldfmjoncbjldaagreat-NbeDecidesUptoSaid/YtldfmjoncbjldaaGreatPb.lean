/- Part of the proofs: an abstract program logic, plain models and contracts of functions. -/
import Derived.Test.YtldfmjoncbjldaaGreatPa
import Derived.MapKept
set_option linter.unusedVariables false
set_option linter.unusedSimpArgs false
namespace Go.Abs
section
variable {P:Program}{ops:Array Oper}{n:Nat}{τ₀:Nat→AV}{D:List D1}{Q:Cj→BM→Prop}{opn:Nat→Bool}{k:Nat}{τ:Nat→AV}{H:List A4}{rd:Zc}{ef:Zs}{effs:List Bool}{fx:List (Nat×Sp)}{dst:Option Tmp}{op:Op}{ty:TypeId}{pos:String}{aft:Array Edge}{v:AV}{H':List A4}
theorem Gf {cs:List AV}(fx':List (Nat×Sp)) (ho:ops[k]?=some ⟨dst,op,ty,pos,aft,none⟩) (hn:opn k=true) (h:DL P ⟨dst,op,ty,pos,aft,none⟩ (ev τ) H (KT cs H)) (haft:E5 ops k (fx'.map (·.1))=true)
  (next:∀b,J6 ops k H (.box b cs::H) rd∧Ho k (.eff (.ptr b 0) (.box b cs::H)) fx∧Dr P ops n τ₀ D Q opn (k+1) (put τ dst (.ptr b 0)) (.box b cs::H) rd ((k,H,.box b cs::H)::ef) (true::effs) (fx'++fx)):Dr P ops n τ₀ D Q opn k τ H rd ef effs fx :=
 Lj fx' ho hn h haft ⟨_,_,0,rfl,rfl⟩ (fun _ _ h=>h.elim) (fun v H' ⟨b,h1,h2⟩=>by subst h1;subst h2;exact next b)
theorem JT {i sz:Nat}{rows:List (List PV)}(fx':List (Nat×Sp)) (ho:ops[k]?=some ⟨dst,op,ty,pos,aft,none⟩) (hn:opn k=true) (h:DL P ⟨dst,op,ty,pos,aft,none⟩ (ev τ) H (Pw i sz rows H)) (haft:E5 ops k (fx'.map (·.1))=true)
  (next:∀o c,J6 ops k H (H.set i (.vec o sz rows c)) rd∧Ho k (.eff (.vs o rows.length c) (H.set i (.vec o sz rows c))) fx∧Dr P ops n τ₀ D Q opn (k+1) (put τ dst (.vs o rows.length c)) (H.set i (.vec o sz rows c)) rd ((k,H,H.set i (.vec o sz rows c))::ef) (true::effs) (fx'++fx)):Dr P ops n τ₀ D Q opn k τ H rd ef effs fx :=
 Lj fx' ho hn h haft ⟨_,_,none,0,rfl,rfl⟩ (fun _ _ h=>h.elim) (fun v H' ⟨o,c,h1,h2⟩=>by subst h1;subst h2;exact next o c)
def Gh (v:AV) (H':List A4):EH→List A4→Prop
 | .val v',H''=>v'=v∧H''=H'
 | .panic _,_=>False
theorem rD {c:Call}{g:Option (Nat×Bool)}{f:Operand}{fid:FuncId}{first caps:List AV}{ρ:Operand→AV}{Hs Hf Hs':List A4}{A:List AV}
  (hc:c.callee= .value f) (hf:(ρ f= .p (.fn fid)∧first=[]∧caps=[])∨ρ f= .fn (.func fid) first caps) (hp:H.Perm (Hs++Hf)) (h:BL P fid A Hs (Gh v Hs')) (hA:first++c.args.toList.map ρ++caps=A∨(first++c.args.toList.map ρ++caps).map norm=A) :
  Dn P ⟨dst,.call c,ty,pos,aft,g⟩ ρ H v (Hs'++Hf):=by
 refine(GC (H:=H) hc hf hp h hA).mono ?_;rintro r H' ⟨Hs',h1,rfl⟩;cases r with
 | val v'=>obtain⟨rfl,rfl⟩:=h1;exact⟨rfl,rfl⟩
 | panic v'=>exact h1
end
def Kz (k:Int):List (Int×AV)→Option AV
 | []=>none
 | (j,x)::r=>if j=k then some x else Kz k r
def Oi (k:Int) (v:AV):List (Int×AV)→List (Int×AV)
 | []=>[(k,v)]
 | (j,x)::r=>if j=k then (j,v)::r else (j,x)::Oi k v r
def Em (l:List (Int×AV)):List (PV×AV):=l.map fun p=>(.int .i64 p.1,p.2)
def mapOf (P:Program) (T:TypeId):Option TypeId :=
 match P.underlying T with
 | some (.map k e)=>match P.underlying k with
  | some (.int .i64)=>some e
  | _=>none
 | _=>none
theorem Oh {P:Program}{T e:TypeId}(h:mapOf P T=some e):∃k,P.underlying T=some (.map k e)∧P.underlying k=some (.int .i64):=by
 unfold mapOf at h;split at h
 ·rename_i k e' hu;split at h
  ·rename_i hk;injection h with h;subst h;exact⟨k,hu,hk⟩
  cases h
 cases h
section
variable {F:Nat→Prop}{w:World}
theorem O2 {k:Int}:∀{l:List (Int×AV)}{es:List MapEntry}(i:Nat),D3 F w (Em l) es →
  (Kz k l=none∧Instr.findNow (.int .i64) (.int .i64 k) es i=some none)∨∃j e x,Kz k l=some x∧Instr.findNow (.int .i64) (.int .i64 k) es i=some (some (i+j,e.val))∧es[j]?=some e∧e.key= .int .i64 k∧Bz F w x e.val
 | [],es,i,h=>by simp only[Em,List.map_nil,D3] at h;subst h;exact .inl ⟨rfl,rfl⟩
 | (j,x)::l,es,i,h=>by
  simp only[Em,List.map_cons,D3] at h;obtain⟨e,es',rfl,hk,hx,hr⟩:=h;simp only[Br] at hk;by_cases hj:j=k
  ·subst hj;exact .inr ⟨0,e,x,by simp[Kz],by simp[Instr.findNow,hk,Instr.sameNow],rfl,hk,hx⟩
  have hne:(k==j)=false:=by simp[Ne.symm hj]
  rcases O2 (k:=k) (i+1) hr with ⟨h1,h2⟩ | ⟨q,e',x',h1,h2,h3,h4,h5⟩
  ·exact .inl ⟨by simp[Kz,hj,h1],by simp[Instr.findNow,hk,Instr.sameNow,hne,h2]⟩
  exact .inr ⟨q+1,e',x',by simp[Kz,hj,h1],by simp[Instr.findNow,hk,Instr.sameNow,hne,h2];omega,by simpa using h3,h4,h5⟩
theorem Yn {k:Int}:∀{l:List (Int×AV)}{es:List MapEntry},D3 F w (Em l) es→Kz k l=none→∀x∈es,x.key≠ .int .i64 k
 | [],es,h,_=>by
  simp only[Em,List.map_nil,D3] at h;subst h;simp
 | (j,v)::l,es,h,hm=>by
  simp only[Em,List.map_cons,D3] at h;obtain⟨e,es',rfl,hk,hv,hr⟩:=h;simp only[Kz] at hm;split at hm
  ·cases hm
  rename_i q;intro x hx;rcases List.mem_cons.1 hx with rfl | hx
  ·simp only[Br] at hk;rw[hk];intro e;injection e with _ e2;exact q e2
  exact Yn hr hm x hx
theorem aH {k:Int}{v:AV}{u:Value}{c:Nat}:∀{l:List (Int×AV)}{es:List MapEntry},D3 F w (Em l) es→Kz k l=none→Bz F w v u→D3 F w (Em (Oi k v l)) (es++[{ key:= .int .i64 k,val:=u,born:=c }])
 | [],es,h,_,hv=>by
  simp only[Em,List.map_nil,D3] at h;subst h;simp only[Oi,Em,List.map_cons,List.map_nil,List.nil_append,D3];exact⟨_,[],O,by simp[Br],hv,rfl⟩
 | (j,x)::l,es,h,hm,hv=>by
  simp only[Em,List.map_cons,D3] at h;obtain⟨e,es',rfl,hk,hx,hr⟩:=h;by_cases hj:j=k
  ·simp[Kz,hj] at hm
  simp only[Kz,if_neg hj] at hm;simp only[Oi,if_neg hj,Em,List.map_cons,List.cons_append,D3];exact⟨e,_,O,hk,hx,aH hr hm hv⟩
theorem eA {k:Int}{v:AV}{u:Value}:∀{l:List (Int×AV)}{es:List MapEntry}{j:Nat}(i:Nat) {y:Value},D3 F w (Em l) es→Instr.findNow (.int .i64) (.int .i64 k) es i=some (some (i+j,y))→Bz F w v u→D3 F w (Em (Oi k v l)) (es.modify j fun e=>{ e with key:= .int .i64 k,val:=u })
 | [],es,j,i,y,h,hf,_=>by simp only[Em,List.map_nil,D3] at h;subst h;simp[Instr.findNow] at hf
 | (q,x)::l,es,j,i,y,h,hf,hv=>by
  simp only[Em,List.map_cons,D3] at h;obtain⟨e,es',rfl,hk,hx,hr⟩:=h;simp only[Br] at hk;by_cases hj:q=k
  ·subst hj;simp[Instr.findNow,hk,Instr.sameNow] at hf;obtain⟨rfl,_⟩:j=0∧True:=⟨by omega,trivial⟩;simp only[Oi,if_true,Em,List.map_cons,D3];exact⟨_,es',O,by simp[Br],hv,hr⟩
  have hne:(k==q)=false:=by simp[Ne.symm hj]
  simp only[Instr.findNow,hk,Instr.sameNow,if_true,hne] at hf;cases j with
  | zero =>
   have:∀(es:List MapEntry) (m:Nat) (y:Value) (r:Nat),Instr.findNow (.int .i64) (.int .i64 k) es m=some (some (r,y))→m≤r:=by
    intro es
    induction es with
    | nil=>intro m y r h;simp[Instr.findNow] at h
    | cons e es ih =>
     intro m y r h;simp only[Instr.findNow] at h;split at h
     ·simp at h;omega
     ·have:=ih _ _ _ h;omega
     cases h
   have:=this _ _ _ _ hf;omega
  | succ j =>
   simp only[Oi,if_neg hj,Em,List.map_cons,List.modify_succ_cons,D3];exact⟨e,_,O,by simpa [Br] using hk,hx,eA (i+1) hr (by rw[show i+1+j=i+(j+1) by omega];exact hf) hv⟩
end
section
variable {P:Program}{dst:Option Tmp}{ty:TypeId}{pos:String}{aft:Array Edge}{g:Option (Nat×Bool)}{ρ:Operand→AV}{H:List A4}{x y z:Operand}{v:AV}
def jk (H:List A4):EH→List A4→Prop
 | .val v,H'=>∃b,v= .map b∧H'= .map b (Em [])::H
 | .panic _,_=>False
theorem X7 {T:TypeId}:DL P ⟨dst,.makeMap T none,ty,pos,aft,g⟩ ρ H (jk H) :=
 HA fun F w E hH hE=>by
  refine⟨.map (some w.heap.size),World.push w (.map #[] 0),.map w.heap.size,.map w.heap.size (Em [])::H,_,?_,⟨_,O,O⟩,Og H _ _ (.inl O),QN hH _ _ O ?_,by simp[Bz]⟩
  ·simp[execOp,Instr.makeMap,Sem.run_bind];rfl
  exact⟨#[],0,My _,MapKept.stamped_empty _,O⟩
theorem az {T e:TypeId}{b i:Nat}{l:List (Int×AV)}{k:Int}{zv:Value}{za:AV}(hT:mapOf P T=some e) (hz:zeroOf P e=some zv) (hza:∀F w,Bz F w za zv) (hx:ρ x= .map b) (hy:ρ y= .p (.int .i64 k)) (hi:H[i]?=some (.map b (Em l))) :
  Dn P ⟨dst,.lookup T x y false,ty,pos,aft,g⟩ ρ H ((Kz k l).getD za) H :=
 Bw fun F w E hH hE=>by
  obtain⟨kt,hu,hk⟩:=Oh hT;have h1:=hE x Al;have h2:=hE y Al;rw[hx] at h1;rw[hy] at h2;simp only[Bz,Br] at h1 h2;obtain⟨es,clk,hb,hs0,hr⟩:=hH.obj _ (List.mem_of_getElem? hi);have hzv:(zeroValue e).run P w= .ok zv w:=by
   unfold zeroOf at hz;cases hi:P.info? e with
   | none=>simp[hi] at hz
   | some i=>have hz':i.zero=some zv:=by simpa [hi] using hz
               simp[zeroValue,typeInfo,hi,hz',Sem.run_bind]
  have hkey:MapKept.IsKey (.int .i64) (.int .i64 k):=rfl;rcases O2 (k:=k) 0 hr with ⟨h3,h4⟩ | ⟨j,e',x',h3,h4,h5,h6,h7⟩
  ·refine⟨zv,?_,by rw[h3];exact hza F w⟩;simp[execOp,Instr.lookup,Sem.run_bind,run_underlying hu,h1,h2,MapKept.run_getObj_map hb,MapKept.run_checkKey hk hkey,MapKept.run_findKey hk h4,hzv]
  refine⟨e'.val,?_,by rw[h3];exact h7⟩;simp[execOp,Instr.lookup,Sem.run_bind,run_underlying hu,h1,h2,MapKept.run_getObj_map hb,MapKept.run_checkKey hk hkey,MapKept.run_findKey hk h4]
theorem Xv {T e:TypeId}{b i:Nat}{l:List (Int×AV)}{k:Int}{zv:Value}{za:AV}(hT:mapOf P T=some e) (hz:zeroOf P e=some zv) (hza:∀F w,Bz F w za zv) (hx:ρ x= .map b) (hy:ρ y= .p (.int .i64 k)) (hi:H[i]?=some (.map b (Em l))) :
  Dn P ⟨dst,.lookup T x y true,ty,pos,aft,g⟩ ρ H (.tup [(Kz k l).getD za,.p (.bool (Kz k l).isSome)]) H :=
 Bw fun F w E hH hE=>by
  obtain⟨kt,hu,hk⟩:=Oh hT;have h1:=hE x Al;have h2:=hE y Al;rw[hx] at h1;rw[hy] at h2;simp only[Bz,Br] at h1 h2;obtain⟨es,clk,hb,hs0,hr⟩:=hH.obj _ (List.mem_of_getElem? hi);have hzv:(zeroValue e).run P w= .ok zv w:=by
   unfold zeroOf at hz;cases hi:P.info? e with
   | none=>simp[hi] at hz
   | some i=>have hz':i.zero=some zv:=by simpa [hi] using hz
               simp[zeroValue,typeInfo,hi,hz',Sem.run_bind]
  have hkey:MapKept.IsKey (.int .i64) (.int .i64 k):=rfl;rcases O2 (k:=k) 0 hr with ⟨h3,h4⟩ | ⟨j,e',x',h3,h4,h5,h6,h7⟩
  ·refine⟨.tuple #[zv,.bool false],?_,?_⟩
   ·simp[execOp,Instr.lookup,Sem.run_bind,run_underlying hu,h1,h2,MapKept.run_getObj_map hb,MapKept.run_checkKey hk hkey,MapKept.run_findKey hk h4,hzv]
   simp only[h3,Bz,Bf,Br];exact⟨[zv,.bool false],O,_,_,O,hza F w,_,_,O,O,O⟩
  refine⟨.tuple #[e'.val,.bool true],?_,?_⟩
  ·simp[execOp,Instr.lookup,Sem.run_bind,run_underlying hu,h1,h2,MapKept.run_getObj_map hb,MapKept.run_checkKey hk hkey,MapKept.run_findKey hk h4]
  simp only[h3,Bz,Bf,Br];exact⟨[e'.val,.bool true],O,_,_,O,h7,_,_,O,O,O⟩
theorem Uv {T e:TypeId}{b i:Nat}{l:List (Int×AV)}{k:Int}{va:AV}(hT:mapOf P T=some e) (hx:ρ x= .map b) (hy:ρ y= .p (.int .i64 k)) (hz:ρ z=va) (hi:H[i]?=some (.map b (Em l))) :
  Dn P ⟨dst,.mapUpdate T x y z,ty,pos,aft,g⟩ ρ H (.p .any) (H.set i (.map b (Em (Oi k va l)))) :=
 (I4 (R:=det (.p .any) (H.set i (.map b (Em (Oi k va l))))) fun F w E hH hE=>by
  obtain⟨kt,hu,hk⟩:=Oh hT;have h1:=hE x Al;have h2:=hE y Al;have h0:=hE z Al;rw[hx] at h1;rw[hy] at h2;rw[hz] at h0;simp only[Bz,Br] at h1 h2;obtain⟨es,clk,hb,hs0,hr⟩:=hH.obj _ (List.mem_of_getElem? hi);have hFb:F b:=hH.sub _ (List.mem_of_getElem? hi) b rfl;have hlt:=hH.bd b hFb;have hkey:MapKept.IsKey (.int .i64) (.int .i64 k):=rfl;have fin:∀(es':Array MapEntry) (clk':Nat),MapKept.Stamped es' clk'→D3 F w (Em (Oi k va l)) es'.toList→Trans F H w F (H.set i (.map b (Em (Oi k va l)))) { w with heap:=w.heap.setIfInBounds b (.map es' clk') }∧HRel F (H.set i (.map b (Em (Oi k va l)))) { w with heap:=w.heap.setIfInBounds b (.map es' clk') }:=by
   intro es' clk' hs' hr';have hw:Ic b (.map es' clk') w { w with heap:=w.heap.setIfInBounds b (.map es' clk') }:=⟨rfl,rfl,rfl,rfl⟩;have st:=hw.stable hFb;exact⟨hw.trans hi O O,hw.HRel hH hi O O ⟨es',clk',hw.self hlt,hs',D3.mono st _ _ hr'⟩⟩
  rcases O2 (k:=k) 0 hr with ⟨h3,h4⟩ | ⟨j,e',x',h3,h4,h5,h6,h7⟩
  ·have hr':=aH (c:=clk) hr h3 h0;obtain⟨f1,f2⟩:=fin (es.push { key:= .int .i64 k,val:=E z,born:=clk }) (clk+1) (MapKept.stamped_push hs0 (Yn hr h3)) (by simpa using hr');refine⟨_,_,F,?_,⟨O,O⟩,f1,f2⟩;simp[execOp,Instr.mapUpdate,Sem.run_bind,run_underlying hu,h1,h2,MapKept.run_getObj_map hb,MapKept.run_checkKey hk hkey,MapKept.run_findKey hk h4,MapKept.run_setObj_map _ hb]
  have hr':=eA (v:=va) (u:=E z) 0 hr h4 h0;obtain⟨f1,f2⟩:=fin (es.modify j fun e=>{ e with key:= .int .i64 k,val:=E z }) clk (MapKept.stamped_modify hs0 j _ (fun _ _=>rfl) (fun e _ he=>by rw[show es[j]?=some e' by simpa using h5] at he;cases he;exact h6.symm)) (by simpa using hr');refine⟨_,_,F,?_,⟨O,O⟩,f1,f2⟩;have h5':es[j]?=some e':=by simpa using h5
  simp[execOp,Instr.mapUpdate,Sem.run_bind,run_underlying hu,h1,h2,MapKept.run_getObj_map hb,MapKept.run_checkKey hk hkey,MapKept.run_findKey hk h4,MapKept.run_setObj_map _ hb,h5',h6,Instr.keyThatStays,Instr.sameBits])
theorem HU {T:TypeId}{d:TypeDesc}{a b:Value}{c:Bool}{w:World}(hu:P.underlying T=some d) (h:(match d,a,b with
  | .bool,.bool x,.bool y=>some (x==y)
  | .interface _,.nilIface,.nilIface=>some true
  | .interface _,.iface _ _,.nilIface=>some false
  | .slice _,.slice none _ _,.slice none _ _=>some true
  | .slice _,.slice (some _) _ _,.slice none _ _=>some false
  | _,_,_=>none)=some c):(Op.equal T a b).run P w= .ok c w:=by
 unfold Op.equal;rw[show Op.maxDepth=9999+1 from rfl];unfold Op.equalIn;simp only[Sem.run_bind,run_underlying hu,Result.andThen_ok];split at h<;>simp_all
theorem T5 {a b:Bool}{T U:TypeId}(hu:P.underlying T=some .bool) (hx:ρ x= .p (.bool a)) (hy:ρ y= .p (.bool b)):Dn P ⟨dst,.binOp .eql T x y U,ty,pos,aft,g⟩ ρ H (.p (.bool (a==b))) H :=
 Bw fun F w E hH hE=>by
  have e1:=hE x Al;have e2:=hE y Al;rw[hx] at e1;rw[hy] at e2;simp only[Bz,Br] at e1 e2;refine⟨.bool (a==b),?_,by simp[Bz,Br]⟩;have hg:(eqGuard .eql T x y (.bool a) (.bool b)).run P w= .ok () w:=by unfold eqGuard;rfl
  have hq:(Op.equal T (.bool a) (.bool b)).run P w= .ok (a==b) w:=HU hu rfl;simp[execOp,Sem.run_bind,hg,e1,e2,binOp,hq]
theorem Fp {T U:TypeId}{ms:Array (String×TypeId)}{X:PV}{b:Bool}(hu:P.underlying T=some (.interface ms)) (hx:ρ x= .p X) (hy:ρ (.const .nilIface)= .p .nilIface) (hX:(match X with | .nilIface=>some false | .iface _ _=>some true | _=>none)=some b):Dn P ⟨dst,.binOp .neq T x (.const .nilIface) U,ty,pos,aft,g⟩ ρ H (.p (.bool b)) H :=
 Bw fun F w E hH hE=>by
  have e2:=hE (.const .nilIface) Al;rw[hy] at e2;simp only[Bz,Br] at e2;have e1:=hE x Al;rw[hx] at e1;have hg:∀a,(eqGuard .neq T x (.const .nilIface) a .nilIface).run P w= .ok () w:=by
   intro a;unfold eqGuard;cases a<;>simp<;>rfl
  refine⟨.bool b,?_,by simp[Bz,Br]⟩;cases X with
  | nilIface =>
   simp at hX;subst hX;simp only[Bz,Br] at e1;have hq:(Op.equal T .nilIface .nilIface).run P w= .ok true w:=HU hu rfl;simp[execOp,Sem.run_bind,hg,e1,e2,binOp,hq]
  | iface t c =>
   simp at hX;subst hX;simp only[Bz,Br] at e1;obtain⟨u,e1,_⟩:=e1;have hq:(Op.equal T (.iface t u) .nilIface).run P w= .ok false w:=HU hu rfl;simp[execOp,Sem.run_bind,hg,e1,e2,binOp,hq]
  | _=>simp at hX
theorem Ux {T e:TypeId}{len sz b o:Nat}{k:IntKind}{i:Int}{inf:TypeInfo}(hu:P.underlying T=some (.array len e)) (hj:P.info? e=some inf) (hs:inf.size=sz) (hx:ρ x= .ptr b o) (hy:ρ y= .p (.int k i)) (h0:0≤i) (hn:i<len) :
  Dn P ⟨dst,.indexAddr T x y,ty,pos,aft,g⟩ ρ H (.ptr b (o+i.toNat*sz)) H :=
 Bw fun F w E hH hE=>by
  have h1:=hE x Al;have h2:=hE y Al;rw[hx] at h1;rw[hy] at h2;simp only[Bz,Br] at h1 h2;refine⟨.pointer (some ⟨b,o+i.toNat*sz,none⟩),?_,by simp[Bz]⟩;simp[execOp,Instr.indexAt,Sem.run_bind,run_underlying hu,h1,h2,asIntOf,h0,hn,sizeOf,typeInfo,hj,hs,Addr.add_mid,Instr.sureAddr,asAddr]
theorem Un {T e:TypeId}{len:Nat}{parts:Array (Nat×Operand)}{z:Value}{cs:List AV}{inf:TypeInfo}(hu:P.underlying T=some (.array len e)) (hj:P.info? e=some inf) (hz:zeroOf P T=some z)
  (hc:GM (fun i=>some (i*inf.size,inf.size)) (z.cells.toList.map HF) (parts.toList.map fun p=>(p.1,ρ p.2))=some cs):Dn P ⟨dst,.build T parts,ty,pos,aft,g⟩ ρ H (.agg cs) H :=
 Bw fun F w E hH hE=>by
  unfold zeroOf at hz;cases hi:P.info? T with
  | none=>simp[hi] at hz
  | some i =>
   have hz':i.zero=some z:=by simpa [hi] using hz
   have hzv:(zeroValue T).run P w= .ok z w:=by simp[zeroValue,typeInfo,hi,hz',Sem.run_bind]
   have hsz:(sizeOf e).run P w= .ok inf.size w:=by simp[sizeOf,typeInfo,hj]
   obtain⟨us,hf,hr⟩:=Jz (F:=F) (w:=w) (place:=(fun i=>some (i*inf.size,inf.size))) _ (parts.toList.map fun p=>(p.1,E p.2)) _ z.cells.toList _ Av (by
    intro j p q h1 h2;simp only[List.getElem?_map] at h1 h2;cases hj:parts.toList[j]? with
    | none=>simp[hj] at h1
    | some t =>
     simp[hj] at h1 h2;subst h1;subst h2;exact⟨O,hE _ (by
      have:=List.mem_of_getElem? hj;simp only[Op.operands];exact List.mem_map.2 ⟨t,this,O⟩)⟩) (Hy _) hc
   refine⟨.agg ⟨us⟩,?_,by simp only[Bz];exact⟨us,rfl,hr⟩⟩;simp only[execOp,Instr.build,Sem.run_bind,hzv,Result.andThen_ok,run_underlying hu,hsz];have hf':Instr.fill (fun i=>some (i*inf.size,inf.size)) z.cells (parts.toList.map fun p=>(p.1,E p.2))=some ⟨us⟩:=hf;simp[hf']
theorem XY {T U:TypeId}{e:TypeId}{rows:List (List PV)}(hu:P.underlying T=some (.slice e)) (hx:ρ x= .p (.lst rows)) (hy:ρ y= .p .nils):DL P ⟨dst,.binOp .eql T x y U,ty,pos,aft,g⟩ ρ H (fun r H'=>match r with | .val v=>(∃b,v= .p (.bool b)∧(b=true→rows=[]))∧H'=H | .panic _=>False) :=
 HA fun F w E hH hE=>by
  have e1:=hE x Al;have e2:=hE y Al;rw[hx] at e1;rw[hy] at e2;simp only[Bz,Br] at e1 e2;have hg:∀o n c,(eqGuard .eql T x y (.slice o n c) (.slice none 0 0)).run P w= .ok () w:=by intro o n c;unfold eqGuard;rfl
  have key:∃b,(execOp E ⟨dst,.binOp .eql T x y U,ty,pos,aft,g⟩).run P w= .ok (.value (.bool b)) w∧(b=true→rows=[]):=by
   rcases e1 with ⟨rfl,o,c,h1⟩ | ⟨bb,o,c,sz,h1,_⟩
   ·cases o with
    | none =>
     have hq:(Op.equal T (.slice none 0 c) (.slice none 0 0)).run P w= .ok true w:=HU hu rfl;exact⟨true,by simp[execOp,Sem.run_bind,hg,h1,e2,binOp,hq],fun _=>rfl⟩
    | some a =>
     have hq:(Op.equal T (.slice (some a) 0 c) (.slice none 0 0)).run P w= .ok false w:=HU hu rfl;exact⟨false,by simp[execOp,Sem.run_bind,hg,h1,e2,binOp,hq],fun _=>rfl⟩
   have hq:(Op.equal T (.slice (some ⟨bb,o,none⟩) rows.length c) (.slice none 0 0)).run P w= .ok false w:=HU hu rfl;exact⟨false,by simp[execOp,Sem.run_bind,hg,h1,e2,binOp,hq],fun h=>by cases h⟩
  obtain⟨b,hb,hr⟩:=key;exact⟨_,w,.p (.bool b),H,F,hb,⟨⟨b,O,hr⟩,O⟩,.refl,hH,by simp[Bz,Br]⟩
end
def PM (P:Program) (T:TypeId):Bool :=
 match P.underlying T with
 | some (.struct fs)=>match fs.toList with
  | [f,g]=>f.name != "_" &&g.name != "_" &&Nat.beq f.offset 0&&Nat.beq g.offset 1&&(match P.underlying f.type,P.underlying g.type with | some (.int .i64),some (.int .i64)=>true | _,_=>false)&& !P.stoodInHeld T&& !P.eqGuardType P.depth T
  | _=>false
 | _=>false
theorem aU {P:Program}{T:TypeId}{a b c d:Int}{w:World}(h:PM P T=true):(Op.equal T (.agg #[.int .i64 a,.int .i64 b]) (.agg #[.int .i64 c,.int .i64 d])).run P w= .ok (a==c&&b==d) w:=by
 unfold PM at h;split at h
 ·rename_i fs hu;split at h
  ·rename_i f g hfs;obtain rfl:fs=#[f,g]:=by apply Array.ext';simpa using hfs
   simp only[Bool.and_eq_true,bne_iff_ne,ne_eq,Bool.not_eq_true'] at h;obtain⟨⟨⟨⟨⟨⟨h1,h2⟩,h3⟩,h4⟩,h5⟩,h6⟩,h7⟩:=h;split at h5
   ·rename_i hf hg;have e3:=Nat.eq_of_beq_eq_true h3;have e4:=Nat.eq_of_beq_eq_true h4;have hp:(program).run P w= .ok P w:=rfl;have af:(isAgg f.type).run P w= .ok false w:=Qe hf false rfl w;have ag:(isAgg g.type).run P w= .ok false w:=Qe hg false rfl w;have pf:∀x y,(part f.type #[.int .i64 x,.int .i64 y] f.offset).run P w= .ok (.int .i64 x) w:=by
     intro x y;unfold part;simp[Sem.run_bind,af,e3]
    have pg:∀x y,(part g.type #[.int .i64 x,.int .i64 y] g.offset).run P w= .ok (.int .i64 y) w:=by
     intro x y;unfold part;simp[Sem.run_bind,ag,e4]
    have qf:∀x y,(Op.equalIn 9999 f.type (.int .i64 x) (.int .i64 y)).run P w= .ok (x==y) w:=by
     intro x y;rw[show (9999:Nat)=9998+1 from rfl];unfold Op.equalIn;simp[Sem.run_bind,run_underlying hf]
    have qg:∀x y,(Op.equalIn 9999 g.type (.int .i64 x) (.int .i64 y)).run P w= .ok (x==y) w:=by
     intro x y;rw[show (9999:Nat)=9998+1 from rfl];unfold Op.equalIn;simp[Sem.run_bind,run_underlying hg]
    unfold Op.equal;rw[show Op.maxDepth=9999+1 from rfl];unfold Op.equalIn;simp only[Sem.run_bind,run_underlying hu,Result.andThen_ok,hp,h6];simp[Sem.run_bind,h1,h2,pf,pg,qf,qg];cases hac:(a==c)<;>cases hbd:(b==d)<;>simp_all [Sem.run_bind,h1,h2,pf,pg,qf,qg]
   cases h5
  cases h
 cases h
section
variable {P:Program}{dst:Option Tmp}{ty:TypeId}{pos:String}{aft:Array Edge}{g:Option (Nat×Bool)}{ρ:Operand→AV}{H:List A4}{x y z:Operand}{v:AV}
theorem WR {T U:TypeId}{a b c d:Int}(h:PM P T=true) (hx:ρ x= .agg [.p (.int .i64 a),.p (.int .i64 b)]) (hy:ρ y= .agg [.p (.int .i64 c),.p (.int .i64 d)]):Dn P ⟨dst,.binOp .neq T x y U,ty,pos,aft,g⟩ ρ H (.p (.bool (!(a==c&&b==d)))) H :=
 Bw fun F w E hH hE=>by
  have e1:=hE x Al;have e2:=hE y Al;rw[hx] at e1;rw[hy] at e2;simp only[Bz,Bf,Br] at e1 e2;obtain⟨vs,e1,u1,us1,rfl,rfl,u2,us2,rfl,rfl,rfl⟩:=e1;obtain⟨vs',e2,v1,vs1,rfl,rfl,v2,vs2,rfl,rfl,rfl⟩:=e2;refine⟨.bool (!(a==c&&b==d)),?_,by simp[Bz,Br]⟩;have hq:=aU (P:=P) (T:=T) (a:=a) (b:=b) (c:=c) (d:=d) (w:=w) h;have h':=h;have hg:(eqGuard .neq T x y (.agg #[.int .i64 a,.int .i64 b]) (.agg #[.int .i64 c,.int .i64 d])).run P w= .ok () w:=by
   unfold PM at h';split at h'
   ·split at h'
    ·simp only[Bool.and_eq_true,Bool.not_eq_true'] at h';have h7:=h'.2;have hp:(program).run P w= .ok P w:=rfl;unfold eqGuard;simp[Sem.run_bind,hp,h7]
    cases h'
   cases h'
  simp[execOp,Sem.run_bind,hg,e1,e2,binOp,hq]
end
theorem Tq {P:Program}{r:Option Nat}{c:Code}{S:BM}{Q:Cj→BM→Prop}(N:Nat) (C:Nat→Prop) (St:Nat→BM) (i₀:Nat) (h₀:i₀≤N) (hC:C i₀) (l:Le S (St i₀))
  (round:∀i,i≤N→C i→IJ P r c (St i) (Ko (fun S'=>i<N∧C (i+1)∧Le S' (St (i+1))) Q)):IJ P r (.loop c) S Q:=by
 refine UZ (fun m S=>∃i,i≤N∧m=N - i∧C i∧S=St i) (m:=N - i₀) l ⟨i₀,h₀,O,hC,O⟩ ?_;rintro m S ⟨i,hi,rfl,hc,rfl⟩;refine(round i hi hc).mono ?_;intro e S' h;cases e with
 | normal =>
  obtain⟨h1,h2,h3⟩:=h;exact⟨N - (i+1),St (i+1),by omega,h3,i+1,by omega,rfl,h2,rfl⟩
 | exit id=>exact h
 | ret=>exact h
 | panic v=>exact h
theorem Ep {α:Type}{P:Program}{r:Option Nat}{c:Code}{S:BM}{Q:Cj→BM→Prop}(St:α→BM) (μ:α→Nat) (C:α→Prop) (a₀:α) (hC:C a₀) (l:Le S (St a₀))
  (round:∀a,C a→IJ P r c (St a) (Ko (fun S'=>∃a',μ a' < μ a∧C a'∧Le S' (St a')) Q)):IJ P r (.loop c) S Q:=by
 refine UZ (fun m S=>∃a,m=μ a∧C a∧S=St a) (m:=μ a₀) l ⟨a₀,O,hC,O⟩ ?_;rintro m S ⟨a,rfl,hc,rfl⟩;refine(round a hc).mono ?_;intro e S' h;cases e with
 | normal =>
  obtain⟨a',h1,h2,h3⟩:=h;exact⟨μ a',St a',h1,h3,a',O,h2,O⟩
 | exit id=>exact h
 | ret=>exact h
 | panic v=>exact h
abbrev wr (n:Int):Int:=IntKind.i64.wrap n
section
variable {P:Program}{dst:Option Tmp}{ty:TypeId}{pos:String}{aft:Array Edge}{g:Option (Nat×Bool)}{ρ:Operand→AV}{H:List A4}{x y z:Operand}{v:AV}
theorem Eg {m n:Int}{T U:TypeId}(hx:ρ x= .p (.int .i64 m)) (hy:ρ y= .p (.int .i64 n)):Dn P ⟨dst,.binOp .add T x y U,ty,pos,aft,g⟩ ρ H (.p (.int .i64 (wr (m+n)))) H :=
 Bw fun F w E hH hE=>by
  have e1:=hE x Al;have e2:=hE y Al;rw[hx] at e1;rw[hy] at e2;simp only[Bz,Br] at e1 e2;exact⟨.int .i64 (wr (m+n)),by simp[execOp,Sem.run_bind,JD,e1,e2,binOp,Op.intArith],by simp[Bz,Br]⟩
theorem J2 {m n:Int}{T U:TypeId}(hx:ρ x= .p (.int .i64 m)) (hy:ρ y= .p (.int .i64 n)):Dn P ⟨dst,.binOp .sub T x y U,ty,pos,aft,g⟩ ρ H (.p (.int .i64 (wr (m - n)))) H :=
 Bw fun F w E hH hE=>by
  have e1:=hE x Al;have e2:=hE y Al;rw[hx] at e1;rw[hy] at e2;simp only[Bz,Br] at e1 e2;exact⟨.int .i64 (wr (m - n)),by simp[execOp,Sem.run_bind,JD,e1,e2,binOp,Op.intArith],by simp[Bz,Br]⟩
end
def x7 (R:AV→Prop):EH→List A4→Prop
 | .val v,H'=>R v∧H'=[]
 | .panic _,_=>False
abbrev Hg (P:Program) (f:FuncId) (args:List AV) (R:AV→Prop):Prop:=BL P f args [] (x7 R)
theorem Hg.of {P:Program}{f:FuncId}{args:List AV}{v:AV}{R:AV→Prop}(h:En P f args v) (hR:R v):Hg P f args R :=
 BL.mono h fun r H hr=>by
  cases r with
  | val v'=>obtain⟨rfl,rfl⟩:=hr;exact⟨hR,rfl⟩
  | panic v'=>exact hr
def RS (R:AV→Prop) (H:List A4):EH→List A4→Prop
 | .val v,H'=>R v∧H'=H
 | .panic _,_=>False
section
variable {P:Program}{r:Option Nat}{ops:Array Oper}{Q:Cj→BM→Prop}{k:Nat}{n:Nat}{τ:Nat→AV}{H H':List A4}{D:List D1}{dst:Option Tmp}{op:Op}{ty:TypeId}{pos:String}{aft:Array Edge}{g:Option (Nat×Bool)}{v:AV}
theorem B7 {c:Call}{f:Operand}{fid:FuncId}{ρ:Operand→AV}{A:List AV}{R:AV→Prop}(hc:c.callee= .value f) (hf:ρ f= .p (.fn fid)) (h:Hg P fid A R) (hA:c.args.toList.map ρ=A∨(c.args.toList.map ρ).map norm=A) :
  DL P ⟨dst,.call c,ty,pos,aft,g⟩ ρ H (RS R H):=by
 refine(GC (H:=H) (Hs:=[]) (Hf:=H) (first:=[]) (caps:=[]) hc (.inl ⟨hf,O,O⟩) (A:=A) Av h (by simpa using hA)).mono ?_;rintro r H' ⟨Hs',h1,rfl⟩;cases r with
 | val v'=>obtain⟨h1,rfl⟩:=h1;exact⟨h1,rfl⟩
 | panic v'=>exact h1
theorem EF {R:AV→Prop}(ho:ops[k]?=some ⟨dst,op,ty,pos,aft,none⟩) (hd:Gj dst n=true) (h:DL P ⟨dst,op,ty,pos,aft,none⟩ (ev τ) H (RS R H))
  (next:∀v,R v→AL P r ops (k+1) ⟨n,put τ dst v,H,D⟩ Q):AL P r ops k ⟨n,τ,H,D⟩ Q :=
 Fm (S:=⟨n,τ,H,D⟩) ho An (Hh hd) h (fun v H' ⟨h1,h2⟩=>by subst h2;exact next v h1) (fun _ _ h=>h.elim)
theorem I8 {R:AV→Prop}{j d:Nat}{want:Bool}(ho:ops[k]?=some ⟨dst,op,ty,pos,aft,some (j,want)⟩) (hd:Gj dst n=true) (hj:(ops[j]?).bind (·.dst)=some d) (hb:τ d= .p (.bool want)) (h:DL P ⟨dst,op,ty,pos,aft,some (j,want)⟩ (ev τ) H (RS R H))
  (next:∀v,R v→AL P r ops (k+1) ⟨n,put τ dst v,H,D⟩ Q):AL P r ops k ⟨n,τ,H,D⟩ Q :=
 Fm (S:=⟨n,τ,H,D⟩) ho (by simp only[Er];exact⟨d,hj,hb⟩) (Hh hd) h (fun v H' ⟨h1,h2⟩=>by subst h2;exact next v h1) (fun _ _ h=>h.elim)
end
section
variable {P:Program}{ops:Array Oper}{n:Nat}{τ₀:Nat→AV}{D:List D1}{Q:Cj→BM→Prop}{opn:Nat→Bool}{k:Nat}{τ:Nat→AV}{H:List A4}{rd:Zc}{ef:Zs}{effs:List Bool}{fx:List (Nat×Sp)}{dst:Option Tmp}{op:Op}{ty:TypeId}{pos:String}{aft:Array Edge}
theorem Ls {R:AV→Prop}(fx':List (Nat×Sp)) (ho:ops[k]?=some ⟨dst,op,ty,pos,aft,none⟩) (hn:opn k=true) (h:DL P ⟨dst,op,ty,pos,aft,none⟩ (ev τ) H (RS R H)) (haft:E5 ops k (fx'.map (·.1))=true) (hne:∃v,R v) (owe:J6 ops k H H rd)
  (next:∀v,R v→Ho k (.eff v H) fx∧Dr P ops n τ₀ D Q opn (k+1) (put τ dst v) H rd ((k,H,H)::ef) (true::effs) (fx'++fx)):Dr P ops n τ₀ D Q opn k τ H rd ef effs fx :=
 Lj fx' ho hn h haft (let ⟨v,hv⟩:=hne;⟨v,H,hv,rfl⟩) (fun _ _ h=>h.elim) (fun v H' ⟨h1,h2⟩=>by subst h2;exact⟨owe,next v h1⟩)
theorem di {R:AV→Prop}{j d:Nat}{want:Bool}(fx':List (Nat×Sp)) (ho:ops[k]?=some ⟨dst,op,ty,pos,aft,some (j,want)⟩) (hn:opn k=true) (hj:(ops[j]?).bind (·.dst)=some d) (hb:τ d= .p (.bool want)) (h:DL P ⟨dst,op,ty,pos,aft,some (j,want)⟩ (ev τ) H (RS R H)) (haft:E5 ops k (fx'.map (·.1))=true) (hne:∃v,R v) (owe:J6 ops k H H rd)
  (next:∀v,R v→Ho k (.eff v H) fx∧Dr P ops n τ₀ D Q opn (k+1) (put τ dst v) H rd ((k,H,H)::ef) (true::effs) (fx'++fx)):Dr P ops n τ₀ D Q opn k τ H rd ef effs fx :=
 .opn (RS R H) fx' ho hn ⟨d,hj,hb⟩ h haft (let ⟨v,hv⟩:=hne;⟨v,H,hv,rfl⟩) (fun v H' ⟨_,h2⟩=>by subst h2;exact owe) (fun v H' ⟨h1,h2⟩=>by subst h2;exact(next v h1).1) (fun v H' ⟨h1,h2⟩=>by subst h2;exact(next v h1).2) (fun _ _ h=>h.elim)
end
theorem Gr {P:Program}{r:Option Nat}{c:Code}{Q:Cj→BM→Prop}{n:Nat}{τ:Nat→AV}{H:List A4}{D:List D1}(live:List Nat) (d:Nat) (R:AV→Prop) (h:IJ P r c ⟨n,τ,H,D⟩ (Ko (fun S'=>S'.n=n∧S'.D=D∧H.Sublist S'.H∧R (S'.τ d)∧kL S'.τ τ live) Q))
  (next:∀x,R x→Q .normal ⟨n,mk ((d,x)::live.map fun t=>(t,τ t)),H,D⟩):IJ P r c ⟨n,τ,H,D⟩ Q:=by
 intro F a w hs;refine wpIn_mono (h F a w hs) ?_;rintro e a' w' ⟨e',S',F',hq,he,hs',ht⟩;cases e' with
 | normal =>
  obtain⟨n',τ',H',D'⟩:=S';obtain⟨h1,h3,h2,h4,h5⟩:=hq;simp only at h1 h2 h3 h4 h5;subst h1;subst h3;have l:Le ⟨n',τ',H',D'⟩ ⟨n',mk ((d,τ' d)::live.map fun t=>(t,τ t)),H,D'⟩:=HB ⟨rfl,RC h5⟩ h2;exact⟨.normal,_,F',next _ h4,he,hs'.le l,ht.sublist h2⟩
 | exit id=>exact⟨.exit id,S',F',hq,he,hs',ht⟩
 | ret=>exact⟨.ret,S',F',hq,he,hs',ht⟩
 | panic v=>exact⟨.panic v,S',F',hq,he,hs',ht⟩
def LS (v:AV):Prop:=∃b:Bool,v= .p (.bool b)
def df (v:AV):Prop:=∃e:Int,v= .p (.int .i64 e)
end Go.Abs
namespace Go.Eu
open Go.Abs
noncomputable def MN {α:Type}(a b:α):Bool:= @decide (a=b) (Classical.propDecidable _)
theorem FP {α:Type}{a b:α}(h:a=b):MN a b=true:=by simp[MN,h]
theorem FL {α:Type}{a b:α}(h:a≠b):MN a b=false:=by simp[MN,h]
theorem Ge {α:Type}{a b:α}:MN a b=true↔a=b:=by simp[MN]
abbrev LV (l:CW):AV:= .agg ((B4 l).map .p)
abbrev xD (ts:List Tm):AV:= .p (.lst (A6 ts))
abbrev wx (ls:List CW):AV:= .p (.lst (ls.map B4))
theorem DP {ts:List B6}{i:Nat}{t:B6}(h:ts[i]?=some t):(ts.map E0)[i]?=some (E0 t):=by simp[h]
theorem PW {ts:List CW}{i:Nat}{t:CW}(h:ts[i]?=some t):(ts.map B4)[i]?=some (B4 t):=by simp[h]
def agree {α:Type}(a b:List α) (i:Nat):Prop:=a.take i=b.take i
theorem OO {α:Type}(a b:List α):agree a b 0:=by simp[agree]
theorem Of {α:Type}{a b:List α}{i:Nat}{x:α}(h:agree a b i) (ha:a[i]?=some x) (hb:b[i]?=some x):agree a b (i+1):=by
 unfold agree at *;rw[List.take_add_one,List.take_add_one,ha,hb,h]
theorem P3 {α:Type}{a b:List α}{n:Nat}(h:agree a b n) (ha:a.length=n) (hb:b.length=n):a=b:=by
 unfold agree at h
 rwa [List.take_of_length_le Au,List.take_of_length_le Au] at h
theorem A1 {α:Type}{l:List α}{i:Nat}(h:i<l.length):∃x,l[i]?=some x:=⟨_,List.getElem?_eq_getElem h⟩
abbrev DZ:Nat:=1099511627776
def JZ (n:Int):Prop:= -9223372036854775808≤n∧n≤9223372036854775807
structure N5 (l:CW):Prop where
 vars:l.vars.length<DZ
 c:JZ l.const
 v:∀v∈l.vars,JZ v.index∧JZ v.plus
mutual
def Nd:Tm→Prop
 | .mk k i n ls ks=>n.size<DZ∧ls.length<DZ∧(∀l∈ls,N5 l)∧ks.length<DZ∧Mt ks∧JZ k∧JZ i
def Mt:List Tm→Prop
 | []=>True
 | t::ts=>Nd t∧Mt ts
end
theorem DU:∀{ts:List Tm}{i:Nat}{t:Tm},Mt ts→ts[i]?=some t→Nd t
 | [],i,t,_,h=>by simp at h
 | a::ts,0,t,hn,h=>by simp at h;subst h;exact hn.1
 | a::ts,i+1,t,hn,h=>by simp at h;exact DU hn.2 h
mutual
def depth:Tm→Nat
 | .mk _ _ _ _ ks=>Hx ks+1
def Hx:List Tm→Nat
 | []=>0
 | t::ts=>max (depth t) (Hx ts)
end
theorem ZT {ts:List Tm}{i:Nat}{t:Tm}(h:ts[i]?=some t):Hx (ts.take (i+1))=max (Hx (ts.take i)) (depth t):=by
 induction ts generalizing i with
 | nil=>simp at h
 | cons a ts ih =>
  cases i with
  | zero=>simp at h;subst h;simp[Hx]
  | succ i=>simp at h;simp only[List.take_succ_cons,Hx,ih h];omega
mutual
theorem VB:∀t:Tm,depth t≤size t
 | .mk _ _ _ _ ks=>by simp only[depth,size];have:=JW ks;omega
theorem JW:∀ts:List Tm,Hx ts≤BB ts
 | []=>by simp[Hx]
 | t::ts=>by simp only[Hx,BB];have:=VB t;have:=JW ts;omega
end
theorem Tt {ts:List Tm}(i:Nat):Hx (ts.take i)≤Hx ts:=by
 induction ts generalizing i with
 | nil=>simp[Hx]
 | cons a ts ih =>
  cases i with
  | zero=>simp[Hx]
  | succ i=>simp only[List.take_succ_cons,Hx];have:=ih i;omega
end Go.Eu
namespace Go.Eu
theorem Oz (bs:ByteArray):∀(d i:Nat) (r:List UInt8),bs.size - i=d→ByteArray.toList.loop bs i r=r.reverse++bs.data.toList.drop i:=by
 intro d
 induction d with
 | zero =>
  intro i r h;unfold ByteArray.toList.loop;have:¬i<bs.size:=by omega
  simp only[this,if_false];rw[List.drop_eq_nil_of_le (by have:bs.data.size=bs.size:=rfl;simp;omega)];simp
 | succ d ih =>
  intro i r h;unfold ByteArray.toList.loop;have hi:i<bs.size:=by omega
  simp only[hi,if_true];rw[ih (i+1) _ Au];have hlt:i<bs.data.toList.length:=by have:bs.data.size=bs.size:=rfl;simp;omega
  rw[List.drop_eq_getElem_cons hlt];have:bs.get! i=bs.data.toList[i]:=by
   have h2:i<bs.data.size:=by simpa using hlt
   show bs.data[i]!=_;rw[getElem!_pos bs.data i h2];simp
  simp[this]
theorem Oy (bs:ByteArray):bs.toList=bs.data.toList:=by
 unfold ByteArray.toList;rw[Oz bs _ 0 [] rfl];simp
theorem Gi {a b:ByteArray}(h:a.toList=b.toList):a=b:=by
 rw[Oy,Oy] at h;cases a;cases b;simp at h;congr
end Go.Eu
namespace Go.Eu
open Go.Abs
mutual
def E8:Tm→Int→Int
 | .mk _ _ _ _ ks,most=>E1 ks most 0
def E1:List Tm→Int→Int→Int
 | [],_,n=>n
 | t::ts,most,n=>if n > most then n else E1 ts most (wr (n+wr (1+E8 t (wr (most - n)))))
end
theorem VS {l:List Tm}{i:Nat}{t:Tm}{most n:Int}(h:l[i]?=some t):E1 (l.drop i) most n=if n > most then n else E1 (l.drop (i+1)) most (wr (n+wr (1+E8 t (wr (most - n))))):=by
 have hlt:i<l.length:=(List.getElem?_eq_some_iff.1 h).1;rw[List.drop_eq_getElem_cons hlt];have:l[i]=t:=by simpa [List.getElem?_eq_getElem hlt] using h
 rw[this,E1]
end Go.Eu
namespace Go.Eu
def arity (k:Int):Int:=if k=4∨k=5∨k=6∨k=7 then 2 else if k=8∨k=11 then 3 else if k=9∨k=10 then 1 else 0
def below (k i:Int):Int:=if ((i==1&&(k==5||k==6||k==7))||(i==2&&k==11))=true then 1 else 0
def dH:Tm→Prop
 | .mk kd _ _ _ ks=>0≤kd∧kd<13∧(ks.length:Int)=arity kd
mutual
def wf (vars metas:Int):Int→Tm→Prop
 | d,.mk kd ix _ _ ks=>0≤kd∧kd<13∧(ks.length:Int)=arity kd∧(kd=0→0≤ix∧ix - d<vars)∧(kd=12→0≤ix∧ix<metas)∧pL vars metas kd d 0 ks
def pL (vars metas:Int):Int→Int→Nat→List Tm→Prop
 | _,_,_,[]=>True
 | kd,d,i,t::ts=>wf vars metas (d+below kd i) t∧pL vars metas kd d (i+1) ts
end
theorem Lh {vars metas kd d:Int}:∀{ks:List Tm}{i:Nat},(∀j t,ks[j]?=some t→wf vars metas (d+below kd ((i+j:Nat):Int)) t)→pL vars metas kd d i ks
 | [],i,_=>by simp[pL]
 | t::ts,i,h=>by
  simp only[pL];exact⟨by have:=h 0 t rfl;simpa using this,Lh fun j t' ht=>by have:=h (j+1) t' (by simpa using ht);rw[show i+1+j=i+(j+1) by omega];exact this⟩
theorem Ct (k i:Int):0≤below k i∧below k i≤1:=by unfold below;split<;>omega
theorem Cg {α:Type}{l:List α}{p:Nat→α→Prop}{i:Nat}{x:α}(h:∀j,j<i→∀t,l[j]?=some t→p j t) (hx:l[i]?=some x) (hp:p i x):∀j,j<i+1→∀t,l[j]?=some t→p j t:=by
 intro j hj t ht;rcases Nat.lt_or_ge j i with h' | h'
 ·exact h j h' t ht
 have e:j=i:=by omega
 subst e;rw[hx] at ht;injection ht with ht;subst ht;exact hp
end Go.Eu
namespace Go.Abs
section
variable {α:Type}
def N9 (is:List Nat):Nat→List α→List α
 | _,[]=>[]
 | k,a::l=>bif is.any (Nat.beq k ·) then a::N9 is (k+1) l else N9 is (k+1) l
theorem Qv (is:List Nat):∀(k:Nat) (l:List α),(N9 is k l).Sublist l
 | _,[]=>List.Sublist.refl _
 | k,a::l=>by
  simp only[N9];cases is.any (Nat.beq k ·)
  ·exact(Qv is (k+1) l).cons _
  exact(Qv is (k+1) l).cons_cons _
theorem G7 {is:List Nat}{l l':List α}(h:N9 is 0 l=l'):l'.Sublist l:=h▸Qv is 0 l
def GF (H:List α):List Nat→List α→Prop
 | [],xs=>xs=[]
 | i::is,xs=>∃x xs',xs=x::xs'∧H[i]?=some x∧GF H is xs'
def MZ (H:List α):List Nat→List α→List α
 | i::is,x::xs=>MZ (H.set i x) is xs
 | _,_=>H
def DN (is:List Nat):Nat→List α→List α
 | _,[]=>[]
 | k,a::l=>if k∈is then DN is (k+1) l else a::DN is (k+1) l
theorem RW:∀(k:Nat) (l:List α),DN [] k l=l
 | _,[]=>rfl
 | k,a::l=>by simp[DN,RW (k+1) l]
theorem RJ {is:List Nat}{j:Nat}:∀(k:Nat) (l:List α),j<k→DN (j::is) k l=DN is k l
 | _,[],_=>rfl
 | k,a::l,h=>by
  have:k≠j:=by omega
  have ih:=RJ (is:=is) (j:=j) (k+1) l Au;simp[DN,this,ih]
theorem Pl {is:List Nat}{x:α}:∀(l:List α) (k i:Nat),l[i]?=some x→(k+i) ∉ is→(DN is k l).Perm (x::DN ((k+i)::is) k l)
 | [],k,i,h,_=>by simp at h
 | a::l,k,0,h,hn=>by
  simp at h hn;subst h;simp[DN,hn,RJ (k+1) l (Nat.lt_succ_self k)]
 | a::l,k,i+1,h,hn=>by
  simp at h;have ih:=Pl l (k+1) i h (by rw[show k+1+i=k+(i+1) by omega];exact hn);rw[show k+1+i=k+(i+1) by omega] at ih;have hk:k≠k+(i+1):=by omega
  simp only[DN,List.mem_cons,hk,false_or];split
  ·exact ih
  exact(ih.cons a).trans (.swap _ _ _)
theorem DQ {H:List α}:∀{is:List Nat}{xs:List α},is.Nodup→GF H is xs→H.Perm (xs++DN is 0 H)
 | [],xs,_,h=>by simp only[GF] at h;subst h;simp[RW]
 | i::is,xs,hn,h=>by
  obtain⟨x,xs',rfl,hx,hr⟩:=h;have hn':=List.nodup_cons.1 hn;have ih:=DQ hn'.2 hr;have:=Pl (is:=is) H 0 i hx (by simpa using hn'.1);simp only[Nat.zero_add] at this;exact ih.trans (((List.Perm.refl xs').append this).trans List.perm_middle)
theorem RO {is:List Nat}{y:α}:∀(l:List α) (k i:Nat),(k+i)∈is→DN is k (l.set i y)=DN is k l
 | [],k,i,_=>by simp
 | a::l,k,0,h=>by simp at h;simp[DN,h]
 | a::l,k,i+1,h=>by
  have:=RO (y:=y) l (k+1) i (by rw[show k+1+i=k+(i+1) by omega];exact h);simp only[List.set_cons_succ,DN,this]
theorem Tc {i:Nat}{y:α}:∀{is:List Nat}{xs H:List α},i ∉ is→GF H is xs→GF (H.set i y) is xs
 | [],xs,H,_,h=>h
 | j::is,xs,H,hn,h=>by
  obtain⟨x,xs',rfl,hx,hr⟩:=h;simp at hn;exact⟨x,xs',O,by rw[List.getElem?_set_ne hn.1];exact hx,Tc hn.2 hr⟩
theorem VJ:∀{is:List Nat}{xs xs' H:List α},is.Nodup→GF H is xs→xs'.length=xs.length→GF (MZ H is xs') is xs'∧(∀ks k,(∀i∈is,k+i∈ks)→DN ks k (MZ H is xs')=DN ks k H)∧∀j,j ∉ is→(MZ H is xs')[j]?=H[j]?
 | [],xs,xs',H,_,h,hl=>by
  simp only[GF] at h;subst h;have:xs'=[]:=by simpa using hl
  subst this;exact⟨O,fun _ _ _=>O,fun _ _=>O⟩
 | i::is,xs,xs',H,hn,h,hl=>by
  obtain⟨x,xr,rfl,hx,hr⟩:=h;have hn':=List.nodup_cons.1 hn;cases xs' with
  | nil=>simp at hl
  | cons y ys =>
   have hlt:i<H.length:=(List.getElem?_eq_some_iff.1 hx).1;obtain⟨h1,h2,h3⟩:=VJ (H:=H.set i y) hn'.2 (Tc hn'.1 hr) (by simpa using hl);refine⟨⟨y,ys,O,by rw[MZ,h3 i hn'.1];simp[hlt],h1⟩,fun ks k hk=>?_,fun j hj=>?_⟩
   ·rw[MZ,h2 ks k (fun q hq=>hk q (by simp[hq])),RO _ _ _ (hk i Av)]
   simp at hj;rw[MZ,h3 j hj.2,List.getElem?_set_ne (fun e=>hj.1 e.symm)]
theorem Nc {is:List Nat}{xs xs' H:List α}(hn:is.Nodup) (h:GF H is xs) (hl:xs'.length=xs.length):(MZ H is xs').Perm (xs'++DN is 0 H):=by
 obtain⟨h1,h2,_⟩:=VJ hn h hl;have:=DQ hn h1
 rwa [h2 is 0 (fun i hi=>by simpa using hi)] at this
end
def rY (τ:Nat→AV) (x:AV):List Nat→Prop
 | []=>True
 | t::r=>τ t=x∧rY τ x r
theorem DA {τ:Nat→AV}{x:AV}:∀{ts:List Nat},rY τ x ts→∀t∈ts,τ t=x
 | [],_,t,h=>by simp at h
 | a::r,h,t,ht=>by
  rcases List.mem_cons.1 ht with rfl | ht
  ·exact h.1
  exact DA h.2 t ht
section
variable {P:Program}{S:BM}{a T n b i:Nat}{cs:List AV}{v:AV}
theorem DS (hT:EG P T=some (true,n)) (ha:S.τ a= .ptr b 0) (hi:S.H[i]?=some (.box b cs)) (hn:cs.length=n):qd P S (.cell a T) (.agg cs):=by
 obtain⟨d,h1,h2,h3⟩:=FW hT;exact⟨b,cs,i,ha,hi,.inl ⟨d,h1,h2,by rw[h3,hn],rfl⟩⟩
theorem GD (hT:EG P T=some (false,n)) (ha:S.τ a= .ptr b 0) (hi:S.H[i]?=some (.box b [v])):qd P S (.cell a T) v:=by
 obtain⟨d,h1,h2,h3⟩:=FW hT;exact⟨b,[v],i,ha,hi,.inr ⟨d,h1,h2,O⟩⟩
end
section
variable {P:Program}{dst:Option Tmp}{ty:TypeId}{pos:String}{aft:Array Edge}{g:Option (Nat×Bool)}{ρ:Operand→AV}{H Hs Hs':List A4}{x y z:Operand}{v:AV}{c:Call}{f:Operand}{fid:FuncId}{first caps A:List AV}
theorem DL.permD {o:Oper}{H H' H'':List A4}(h:Dn P o ρ H v H') (hp:H'.Perm H''):Dn P o ρ H v H'':=by
 intro r F S a w hs hH hρ hd;have:=h r F S a w hs hH hρ hd;refine Iv this ?_ ?_
 ·rintro a' w' ⟨v',H1,F',⟨rfl,rfl⟩,hs',ht⟩;exact⟨v',H'',F',⟨O,O⟩,⟨hs'.size,hs'.tmp,hs'.heap.perm hp,hs'.defs⟩,{ ht with keys:=fun o ho=>ht.keys o (hp.mem_iff.2 ho) }⟩
 rintro e a' w' ⟨v',H1,F',u,h,_⟩;exact h.elim
theorem Bi (is:List Nat) (hc:c.callee= .value f) (hf:(ρ f= .p (.fn fid)∧first=[]∧caps=[])∨ρ f= .fn (.func fid) first caps) (h:BL P fid A Hs (Gh v Hs')) (hg:GF H is Hs) (hn:is.Nodup) (hl:Hs'.length=Hs.length) (hA:first++c.args.toList.map ρ++caps=A∨(first++c.args.toList.map ρ++caps).map norm=A) :
  Dn P ⟨dst,.call c,ty,pos,aft,g⟩ ρ H v (MZ H is Hs') :=
 DL.permD (rD hc hf (DQ hn hg) h hA) (Nc hn hg hl).symm
theorem oM (hc:c.callee= .value f) (hf:ρ f= .fn (.func fid) first caps) (h:En P fid A v) (hA:first++c.args.toList.map ρ++caps=A∨(first++c.args.toList.map ρ++caps).map norm=A) :
  Dn P ⟨dst,.call c,ty,pos,aft,g⟩ ρ H v H:=by
 refine(GC (H:=H) (Hs:=[]) (Hf:=H) hc (.inr hf) (A:=A) Av h hA).mono ?_;rintro r H' ⟨Hs',h1,rfl⟩;cases r with
 | val v'=>obtain⟨rfl,rfl⟩:=h1;exact⟨rfl,rfl⟩
 | panic v'=>exact h1
theorem Bh {T T2 e e2:TypeId}{sz bytes n2 n3 c i n:Nat}{o:Option Nat}{rows rows' rows2:List (List PV)}{zv:Value}(hT:Ey P T=some (e,sz,bytes)) (hT2:Ey P T2=some (e2,n2,n3)) (hz:zeroOf P e=some zv) (hzs:zv.cells.size=sz) (hb0:(Nat.blt 0 sz&&Nat.blt 0 bytes)=true)
  (hx:ρ x= .vs o n c) (hn:n=rows.length) (hi:H[i]?=some (.vec o sz rows c)) (hy:norm (ρ y)= .p (.lst rows')) (hsol:∀r∈rows',Ej sz r) (hroom:2*(rows.length+rows'.length)*bytes≤281474976710656) (h2:rows++rows'=rows2) :
  DL P ⟨dst,.call { callee:= .builtin .append,args:=#[x,y],argTypes:=#[T,T2] },ty,pos,aft,g⟩ ρ H (Pw i sz rows2 H):=by
 subst h2;exact T4 hT hT2 hz hzs hb0 hx hn hi hy hsol hroom
theorem Xw {F:Nat→Prop}{w:World}{u:Value}(h:Bz F w (.p .nils) u):Bz F w (.vs none 0 0) u:=by
 simp only[Bz,Br] at *;exact⟨Aw,Aw,none,h⟩
theorem cZ {α:Type}:∀{us cs:List α},us.length=cs.length→splice cs 0 us=us:=by
 have key:∀(us:List α) (pre cs:List α),us.length=cs.length→splice (pre++cs) pre.length us=pre++us:=by
  intro us
  induction us with
  | nil=>intro pre cs h;have:cs=[]:=by simpa using h.symm
           subst this;simp[splice]
  | cons u us ih =>
   intro pre cs h;cases cs with
   | nil=>simp at h
   | cons c cs =>
    simp only[splice];have:=ih (pre++[u]) cs (by simpa using h);have e:(pre++c::cs).set pre.length u=pre++[u]++cs:=by simp
    rw[e];simpa using this
 intro us cs h;exact key us [] cs h
theorem DX {T:TypeId}{bl:Bool}{n b i:Nat}{cs us:List AV}(hT:EG P T=some (bl,n+1)) (hx:ρ x= .ptr b 0) (hi:H[i]?=some (.box b cs)) (hy:Ev (ρ y)=some us) (hn:us.length=n+1)
  (ho:cs.length=n+1) (h1:us.all one=true):Dn P ⟨dst,.store T x y,ty,pos,aft,g⟩ ρ H (.p .any) (H.set i (.box b us)):=by
 have:=Hp (P:=P) (dst:=dst) (ty:=ty) (pos:=pos) (aft:=aft) (g:=g) hT hx hi hy hn (by rw[ho];simp) h1
 rwa [cZ (by rw[hn,ho])] at this
theorem C6 {T:TypeId}{bl:Bool}{b i j sz c:Nat}{rows rows2:List (List PV)}{us:List AV}{r:List PV}(hT:EG P T=some (bl,sz)) (hpos:Nat.blt 0 sz=true) (hx:ρ x= .ptr b (j*sz)) (hi:H[i]?=some (.vec (some b) sz rows c)) (hj:j<rows.length) (hy:Ev (ρ y)=some us) (hp:HY (us.map dn)=some r) (hrl:r.length=sz) (h1:us.all one=true) (h2:rows.set j r=rows2) :
  Dn P ⟨dst,.store T x y,ty,pos,aft,g⟩ ρ H (.p .any) (H.set i (.vec (some b) sz rows2 c)):=by
 subst h2;exact Uu hT hpos hx hi hj hy hp hrl h1
theorem J8 {T e:TypeId}{sz bytes:Nat}{m:Int}{zs:List Value}{zv:Value}{zr:List PV}{rows2:List (List PV)}(hT:Ey P T=some (e,sz,bytes)) (hz:zeroOf P e=some zv) (hzs:zv.cells=⟨zs⟩) (hsz:zs.length=sz) (hpos:0<sz) (hp:HY ((zs.map HF).map dn)=some zr)
  (hx:ρ x= .p (.int .i64 m)) (hy:ρ y= .p (.int .i64 m)) (h0:0≤m) (hm:bytes*m≤281474976710656) (hm2:m≤9223372036854775807) (h2:List.replicate m.toNat zr=rows2) :
  DL P ⟨dst,.makeSlice T x y,ty,pos,aft,g⟩ ρ H (Ly sz rows2 H):=by
 subst h2;exact Ut hT hz hzs hsz hpos hp hx hy h0 hm hm2
theorem Cn {T e:TypeId}{sz bytes lo hi:Nat}{rows rows2:List (List PV)}{l h:Option Operand}(hT:Ey P T=some (e,sz,bytes)) (hx:ρ x= .p (.lst rows)) (hr:∀r∈rows,r.length=sz)
  (hl:match l with | none=>lo=0 | some y=>∃k,ρ y= .p (.int k lo)) (hh:match h with | none=>hi=rows.length | some y=>∃k,ρ y= .p (.int k hi)) (h1:lo≤hi) (h2:hi≤rows.length) (h3:(rows.take hi).drop lo=rows2) :
  Dn P ⟨dst,.slice T x l h none,ty,pos,aft,g⟩ ρ H (.p (.lst rows2)) H:=by
 subst h3;exact jC hT hx hr hl hh h1 h2
end
section
variable {P:Program}{r:Option Nat}{ops:Array Oper}{Q:Cj→BM→Prop}{k:Nat}{n:Nat}{τ:Nat→AV}{H H':List A4}{D:List D1}{dst:Option Tmp}{op:Op}{ty:TypeId}{pos:String}{aft:Array Edge}{v:AV}
theorem s4 (ho:ops[k]?=some ⟨dst,op,ty,pos,aft,none⟩) (hd:Gj dst n=true) (h:DL P ⟨dst,op,ty,pos,aft,none⟩ (ev τ) H (jk H))
  (next:∀b,AL P r ops (k+1) ⟨n,put τ dst (.map b),.map b (Em [])::H,D⟩ Q):AL P r ops k ⟨n,τ,H,D⟩ Q :=
 Fm (S:=⟨n,τ,H,D⟩) ho An (Hh hd) h (fun v H' ⟨b,h1,h2⟩=>by subst h1;subst h2;exact next b) (fun _ _ h=>h.elim)
end
theorem leH {is:List Nat}{H H1 H':List A4}(h:N9 is 0 H=H1) (w:F6 H1 H'):oD H H':=⟨H1,G7 h,w⟩
theorem FY {x y:AV}(h:norm x=y):K3 x y:=fun _ _ _ hr=>h▸hr.norm
theorem Ie:F6 [] []:=rfl
theorem wl {o o':A4}{l l':List A4}(h:Ms o o') (r:F6 l l'):F6 (o::l) (o'::l'):=⟨o',l',rfl,h,r⟩
theorem on {b:Nat}{cs cs':List AV}(h:cs.map dn=cs'):Ms (.box b cs) (.box b cs'):=⟨rfl,fun F w hr=>by
 obtain⟨vs,T,h1,h2⟩:=hr;exact⟨vs,T,h1,h▸LX h2⟩⟩
theorem BE {n:Nat}{τ:Nat→AV}{H:List A4}{D:List D1}{i b:Nat}{cs:List AV}(hi:H[i]?=some (.box b cs)):IS ⟨n,τ,H,D⟩ ⟨n,τ,H.set i (.box b (cs.map dn)),D⟩:=by
 intro F a w hs;refine⟨F,⟨hs.size,hs.tmp,?_,hs.defs⟩,?_⟩
 ·have hk:=Gx (x':= .box b (cs.map dn)) hi rfl;refine⟨fun o ho c hc=>?_,by show List.Nodup _;rw[hk];exact hs.heap.nodup,fun o ho=>?_,hs.heap.bd⟩
  ·rcases D4 ho with rfl | ⟨j,_,hj⟩
   ·exact hs.heap.sub _ (List.mem_of_getElem? hi) c hc
   exact hs.heap.sub _ (List.mem_of_getElem? hj) c hc
  rcases D4 ho with rfl | ⟨j,_,hj⟩
  ·exact(on O).2 F w (hs.heap.obj _ (List.mem_of_getElem? hi))
  exact hs.heap.obj _ (List.mem_of_getElem? hj)
 refine { Trans.refl (F:=F) (H:=H) (w:=w) with keys:=fun o ho c hc=>?_ };rcases D4 ho with rfl | ⟨j,_,hj⟩
 ·exact .inl ⟨_,List.mem_of_getElem? hi,hc⟩
 exact .inl ⟨_,List.mem_of_getElem? hj,hc⟩
theorem FZ {n:Nat}{τ:Nat→AV}{H:List A4}{D:List D1}(t:Nat):IS ⟨n,τ,H,D⟩ ⟨n,put τ (some t) (norm (τ t)),H,D⟩:=OT fun _ _ _ h=>h.norm
theorem ob {b:Nat}{cs cs':List AV}(h:cs=cs'):Ms (.box b cs) (.box b cs'):=oe (by rw[h])
theorem om {b:Nat}{l l':List (PV×AV)}(h:l=l'):Ms (.map b l) (.map b l'):=oe (by rw[h])
def Y3 (mkv:AV→AV) (sz:Nat) (rows:List (List PV)):EH→List A4→Prop
 | .val v,H'=>∃o c,v=mkv (.vs o rows.length c)∧H'=[.vec o sz rows c]
 | .panic _,_=>False
section
variable {P:Program}{r:Option Nat}{ops:Array Oper}{Q:Cj→BM→Prop}{k:Nat}{n:Nat}{τ:Nat→AV}{H H':List A4}{D:List D1}{dst:Option Tmp}{op:Op}{ty:TypeId}{pos:String}{aft:Array Edge}{v:AV}
theorem NP {c:Call}{f:Operand}{fid:FuncId}{first caps:List AV}{A:List AV}{mkv:AV→AV}{sz:Nat}{rows:List (List PV)}
  (ho:ops[k]?=some ⟨dst,.call c,ty,pos,aft,none⟩) (hd:Gj dst n=true)
  (hc:c.callee= .value f) (hf:(ev τ f= .p (.fn fid)∧first=[]∧caps=[])∨ev τ f= .fn (.func fid) first caps) (h:BL P fid A [] (Y3 mkv sz rows)) (hA:first++c.args.toList.map (ev τ)++caps=A∨(first++c.args.toList.map (ev τ)++caps).map norm=A)
  (next:∀o cp,AL P r ops (k+1) ⟨n,put τ dst (mkv (.vs o rows.length cp)),.vec o sz rows cp::H,D⟩ Q):AL P r ops k ⟨n,τ,H,D⟩ Q :=
 Ji ho hd hc hf (Hs:=[]) (Hf:=H) Av h hA (fun v H' ⟨o,cp,h1,h2⟩=>by subst h1;subst h2;exact next o cp) (fun _ _ h=>h.elim)
end
theorem cj {P:Program}{f:FuncId}{args:List AV}{pre post:List AV}{sz:Nat}{rows:List (List PV)}(h:BL P f args [] (Y3 (fun v=> .tup (pre++v::post)) sz rows)) (hb:∀x∈pre++post,∀F F' w v,Dp F w F' w→Bz F w x v→Bz F' w x v) :
  En P f args (.tup (pre++ .p (.lst rows)::post)):=by
 refine⟨h.1,fun F w vs hH ha=>(h.2 F w vs hH ha).mono ?_⟩;rintro e w' ⟨r,H',F',hR,he,hH',ht⟩;cases r with
 | panic v=>exact hR.elim
 | val v =>
  obtain⟨o,c,rfl,rfl⟩:=hR;obtain⟨u,rfl,hu⟩:=he;have hbd:∀b,o=some b→b<w'.heap.size:=fun b hb=>hH'.bd b (hH'.sub _ (List.mem_cons_self ..) b (by rw[←hb];rfl));have st:Dp F' w' (fun b=>F' b∧o≠some b) w':=⟨Nat.le_refl _,fun _ _ _=>rfl,fun _ h _ h'=>h h'.1⟩;have hob:=hH'.obj _ (List.mem_cons_self ..);refine⟨.val (.tup (pre++ .p (.lst rows)::post)),[],fun b=>F' b∧o≠some b,⟨O,O⟩,⟨u,O,?_⟩,?_,?_⟩
  ·simp only[Bz] at hu ⊢;obtain⟨us,hus,hr⟩:=hu;refine⟨us,hus,?_⟩;have key:∀(pre:List AV) (us:List Value),(∀x∈pre++post,∀F F' w v,Dp F w F' w→Bz F w x v→Bz F' w x v)→Bf F' w' (pre++ .vs o rows.length c::post) us→Bf (fun b=>F' b∧o≠some b) w' (pre++ .p (.lst rows)::post) us:=by
    intro pre
    induction pre with
    | nil =>
     intro us hb hr;simp only[List.nil_append,Bf] at hr ⊢;obtain⟨u,us',rfl,h1,h2⟩:=hr;refine⟨u,us',O,L1 hbd hob h1 _ st (fun b hb h=>h.2 hb),?_⟩;exact Bf.mono st _ _ h2
    | cons x pre ih =>
     intro us hb hr;simp only[List.cons_append,Bf] at hr ⊢;obtain⟨u,us',rfl,h1,h2⟩:=hr;exact⟨u,us',rfl,hb x Av _ _ _ _ st h1,ih us' (fun y hy=>hb y (by simp at hy ⊢;rcases hy with h | h<;>simp[h])) h2⟩
   exact key pre us hb hr
  ·exact⟨fun _ h=>by simp at h,by simp,fun _ h=>by simp at h,fun b hb=>hH'.bd b hb.1⟩
  refine⟨ht.size,fun b hb hn=>ht.same b hb hn,fun b hb hn=>⟨ht.keep b hb hn,?_⟩,fun b hb=>ht.fresh b hb.1,fun _ h=>by simp at h,ht.os,ht.out,ht.tape⟩;intro ho;subst ho;have:=hH.bd b hb;rcases ht.keys _ (List.mem_cons_self ..) b rfl with ⟨o',ho',_⟩ | h
  ·simp at ho'
  omega
theorem Yh (c:AV) (F F':Nat→Prop) (w:World) (v:Value) (st:Dp F w F' w) (h:Bz F w c v):Bz F' w c v:=Bz.mono st _ _ h
def Ff:List AV→List AV→Prop
 | [],ys=>ys=[]
 | x::xs,ys=>∃y ys',ys=y::ys'∧K3 x y∧Ff xs ys'
theorem HW:Ff [] []:=rfl
theorem aw {x y:AV}{xs ys:List AV}(h:K3 x y) (r:Ff xs ys):Ff (x::xs) (y::ys):=⟨y,ys,rfl,h,r⟩
theorem Nz {F:Nat→Prop}{w:World}:∀{xs ys:List AV}{vs:List Value},Ff xs ys→Bf F w xs vs→Bf F w ys vs
 | [],ys,vs,h,hr=>by simp only[Ff] at h;subst h;exact hr
 | x::xs,ys,vs,h,hr=>by
  obtain⟨y,ys',rfl,h1,h2⟩:=h;simp only[Bf] at hr ⊢;obtain⟨u,us,rfl,r1,r2⟩:=hr;exact⟨u,us,O,h1 F w u r1,Nz h2 r2⟩
theorem I1:K3 (.p .nils) (.vs none 0 0):=fun _ _ _ h=>Xw h
theorem BL.args {P:Program}{f:FuncId}{args A:List AV}{H:List A4}{R:EH→List A4→Prop}(h:BL P f A H R) (hA:Ff args A):BL P f args H R :=
 ⟨h.1,fun F w vs hH ha=>h.2 F w vs hH (Nz hA ha)⟩
section
variable {P:Program}{r:Option Nat}{ops:Array Oper}{Q:Cj→BM→Prop}{k:Nat}{n:Nat}{τ:Nat→AV}{H Hs:List A4}{D:List D1}{dst:Option Tmp}{op:Op}{ty:TypeId}{pos:String}{aft:Array Edge}{v:AV}{c:Call}{f:Operand}{fid:FuncId}{first caps A:List AV}{R:EH→List A4→Prop}
theorem QI {S:BM}{H':List A4}(hp:S.H.Perm H'):IS S ⟨S.n,S.τ,H',S.D⟩:=fun F a w hs =>
 ⟨F,⟨hs.size,hs.tmp,hs.heap.perm hp,hs.defs⟩,{ Trans.refl (F:=F) (H:=S.H) (w:=w) with keys:=fun o ho b hb=> .inl ⟨o,hp.mem_iff.2 ho,hb⟩ }⟩
theorem kz (is:List Nat) (ho:ops[k]?=some ⟨dst,.call c,ty,pos,aft,none⟩) (hd:Gj dst n=true)
  (hc:c.callee= .value f) (hf:(ev τ f= .p (.fn fid)∧first=[]∧caps=[])∨ev τ f= .fn (.func fid) first caps) (h:BL P fid A Hs R) (hg:GF H is Hs) (hn:is.Nodup) (hA:Ff (first++c.args.toList.map (ev τ)++caps) A)
  (next:∀v Hs',R (.val v) Hs'→Hs'.length=Hs.length∧AL P r ops (k+1) ⟨n,put τ dst v,MZ H is Hs',D⟩ Q) (pan:∀v Hs',R (.panic v) Hs'→Q (.panic v) ⟨n,τ,Hs'++DN is 0 H,D⟩):AL P r ops k ⟨n,τ,H,D⟩ Q :=
 Ji ho hd hc hf (DQ hn hg) (h.args hA) (.inl rfl) (fun v H' hR=>by
  obtain⟨hl,hn'⟩:=next v H' hR;exact BJ (QI (S:=⟨n,put τ dst v,H'++DN is 0 H,D⟩) (Nc hn hg hl).symm) hn') pan
theorem lX (is:List Nat) (ho:ops[k]?=some ⟨dst,.call c,ty,pos,aft,none⟩) (hd:Gj dst n=true)
  (hc:c.callee= .value f) (hf:(ev τ f= .p (.fn fid)∧first=[]∧caps=[])∨ev τ f= .fn (.func fid) first caps) (h:BL P fid A Hs R) (hg:GF H is Hs) (hn:is.Nodup) (hA:Ff (first++c.args.toList.map (ev τ)++caps) A)
  (next:∀v Hs',R (.val v) Hs'→AL P r ops (k+1) ⟨n,put τ dst v,Hs'++DN is 0 H,D⟩ Q) (pan:∀v Hs',R (.panic v) Hs'→Q (.panic v) ⟨n,τ,Hs'++DN is 0 H,D⟩):AL P r ops k ⟨n,τ,H,D⟩ Q :=
 Ji ho hd hc hf (DQ hn hg) (h.args hA) (.inl rfl) next pan
theorem H7 {sz:Nat}:IS ⟨n,τ,H,D⟩ ⟨n,τ,.vec none sz [] 0::H,D⟩:=by
 intro F a w hs;have hH:HRel F (.vec none sz [] 0::H) w:=⟨fun o ho b hb=>by
   rcases List.mem_cons.1 ho with rfl | ho
   ·cases hb
   ·exact hs.heap.sub o ho b hb,by simpa [List.filterMap_cons,A4.key] using hs.heap.nodup,fun o ho=>by
   rcases List.mem_cons.1 ho with rfl | ho
   ·exact⟨O,O⟩
   exact hs.heap.obj o ho,hs.heap.bd⟩
 exact⟨F,⟨hs.size,hs.tmp,hH,hs.defs⟩,⟨Nat.le_refl _,fun _ _ _=>O,fun _ h _=>h,fun _ h=> .inl h,fun o ho b hb=>by
   rcases List.mem_cons.1 ho with rfl | ho
   ·cases hb
   exact .inl ⟨o,ho,hb⟩,O,O,O⟩⟩
end
section
variable {P:Program}{r:Option Nat}{ops:Array Oper}{Q:Cj→BM→Prop}{k:Nat}{n:Nat}{τ:Nat→AV}{H:List A4}{D:List D1}{o:Option Nat}{sz cp i:Nat}{rows:List (List PV)}
theorem Yv {F:Nat→Prop}{w:World}{a:Act}(hs:GH F ⟨n,τ,H,D⟩ a w) (hi:H[i]?=some (.vec o sz rows cp)) (hne:0<rows.length):∃b,o=some b:=by
 have:=hs.heap.obj _ (List.mem_of_getElem? hi);cases o with
 | none=>obtain⟨h,_⟩:=this;simp[h] at hne
 | some b=>exact⟨b,rfl⟩
theorem I2 (hi:H[i]?=some (.vec o sz rows cp)) (hne:0<rows.length) (next:∀b,o=some b→AL P r ops k ⟨n,τ,H,D⟩ Q):AL P r ops k ⟨n,τ,H,D⟩ Q:=fun F a w hs=>by
 obtain⟨b,hb⟩:=Yv hs hi hne;exact next b hb F a w hs
theorem JE {c:Code}(hi:H[i]?=some (.vec o sz rows cp)) (hne:0<rows.length) (next:∀b,o=some b→IJ P r c ⟨n,τ,H,D⟩ Q):IJ P r c ⟨n,τ,H,D⟩ Q:=fun F a w hs=>by
 obtain⟨b,hb⟩:=Yv hs hi hne;exact next b hb F a w hs
end
section
variable {P:Program}{dst:Option Tmp}{ty:TypeId}{pos:String}{aft:Array Edge}{g:Option (Nat×Bool)}{ρ:Operand→AV}{H:List A4}
theorem Cx {a:Operand}{T e:TypeId}{n n1 n2:Nat}{rows:List (List PV)}(hT:Ey P T=some (e,n1,n2)) (hx:ρ a= .p (.lst rows)) (hn:rows.length=n) :
  Dn P ⟨dst,.call { callee:= .builtin .len,args:=#[a],argTypes:=#[T] },ty,pos,aft,g⟩ ρ H (.p (.int .i64 n)) H:=MH hT (.inl ⟨rows,hx,hn⟩)
theorem JP {a:Operand}{T e:TypeId}{m n n1 n2 c:Nat}{o:Option Nat}(hT:Ey P T=some (e,n1,n2)) (hx:ρ a= .vs o m c) (hn:m=n) :
  Dn P ⟨dst,.call { callee:= .builtin .len,args:=#[a],argTypes:=#[T] },ty,pos,aft,g⟩ ρ H (.p (.int .i64 n)) H:=MH hT (.inr (.inl ⟨o,c,by rw[hx,hn]⟩))
end
section
variable {P:Program}{dst:Option Tmp}{ty:TypeId}{pos:String}{aft:Array Edge}{g:Option (Nat×Bool)}{ρ:Operand→AV}{H:List A4}{x y:Operand}
theorem YV {m n:Int}{T U:TypeId}(hx:ρ x= .p (.int .i64 m)) (hy:ρ y= .p (.int .i64 n)):Dn P ⟨dst,.binOp .mul T x y U,ty,pos,aft,g⟩ ρ H (.p (.int .i64 (wr (m*n)))) H :=
 Bw fun F w E hH hE=>by
  have e1:=hE x Al;have e2:=hE y Al;rw[hx] at e1;rw[hy] at e2;simp only[Bz,Br] at e1 e2;exact⟨.int .i64 (wr (m*n)),by simp[execOp,Sem.run_bind,JD,e1,e2,binOp,Op.intArith],by simp[Bz,Br]⟩
end
section
variable {P:Program}{ops:Array Oper}{n:Nat}{τ₀:Nat→AV}{D:List D1}{Q:Cj→BM→Prop}{opn:Nat→Bool}{k:Nat}{τ:Nat→AV}{H:List A4}{rd:Zc}{ef:Zs}{effs:List Bool}{fx:List (Nat×Sp)}{dst:Option Tmp}{ty:TypeId}{pos:String}{aft:Array Edge}{c:Call}{f:Operand}{fid:FuncId}{first caps A:List AV}{mkv:AV→AV}{sz:Nat}{rows:List (List PV)}
theorem tc (fx':List (Nat×Sp)) (ho:ops[k]?=some ⟨dst,.call c,ty,pos,aft,none⟩) (hn:opn k=true)
  (hc:c.callee= .value f) (hf:(ev τ f= .p (.fn fid)∧first=[]∧caps=[])∨ev τ f= .fn (.func fid) first caps) (h:BL P fid A [] (Y3 mkv sz rows)) (hA:first++c.args.toList.map (ev τ)++caps=A∨(first++c.args.toList.map (ev τ)++caps).map norm=A) (haft:E5 ops k (fx'.map (·.1))=true)
  (next:∀o cp,J6 ops k H (.vec o sz rows cp::H) rd∧Ho k (.eff (mkv (.vs o rows.length cp)) (.vec o sz rows cp::H)) fx∧Dr P ops n τ₀ D Q opn (k+1) (put τ dst (mkv (.vs o rows.length cp))) (.vec o sz rows cp::H) rd ((k,H,.vec o sz rows cp::H)::ef) (true::effs) (fx'++fx)):Dr P ops n τ₀ D Q opn k τ H rd ef effs fx :=
 Lj fx' ho hn (GC (H:=H) (Hs:=[]) (Hf:=H) hc hf Av h hA) haft ⟨_,_,_,⟨none,0,rfl,rfl⟩,rfl⟩ (fun v H' ⟨_,h,_⟩=>h.elim) (fun v H' ⟨Hs',⟨o,cp,h1,h2⟩,h3⟩=>by subst h1;subst h2;subst h3;exact next o cp)
end
section
variable {P:Program}{dst:Option Tmp}{ty:TypeId}{pos:String}{aft:Array Edge}{g:Option (Nat×Bool)}{ρ:Operand→AV}{H Hs Hs':List A4}{v:AV}{c:Call}{f:Operand}{fid:FuncId}{first caps A:List AV}
theorem Ia (hc:c.callee= .value f) (hf:ρ f= .p (.fn fid)) (h:En P fid A v) (hA:Ff (c.args.toList.map ρ) A):Dn P ⟨dst,.call c,ty,pos,aft,g⟩ ρ H v H:=BF hc hf (h.args hA) rfl
end
end Go.Abs
namespace Go.Eu
open Go.Abs
structure Mv where
 type:Tm
 known:Bool
 value:Tm
 cls:Bool
 deriving Inhabited
def Fy (n:Int):List PV:=[I n]
def Ib (s:ByteArray):List PV:=[.str s]
theorem LR {ts:List Int}{i:Nat}{t:Int}(h:ts[i]?=some t):(ts.map Fy)[i]?=some (Fy t):=by simp[h]
theorem ZJ {ts:List ByteArray}{i:Nat}{t:ByteArray}(h:ts[i]?=some t):(ts.map Ib)[i]?=some (Ib t):=by simp[h]
theorem IG {α:Type}{sz:Nat}{f:α→List PV}(h:∀a,Ej sz (f a)) (l:List α):∀r∈l.map f,Ej sz r:=by
 intro r hr;obtain⟨a,_,rfl⟩:=List.mem_map.1 hr;exact h a
theorem LZ (t:Tm):Ej 5 (BD t):=by
 obtain⟨k,i,n,l,s⟩:=t;refine⟨O,?_⟩;intro c hc;simp[BD] at hc;rcases hc with rfl | rfl | rfl | rfl | rfl<;>simp
theorem Bd (l:List Tm):∀r∈A6 l,Ej 5 r:=by rw[EW];exact IG LZ l
theorem Jp (l:List Int):∀r∈l.map Fy,Ej 1 r:=IG (f:=Fy) (fun a=>⟨rfl,by simp[Fy]⟩) l
theorem K4 (l:List ByteArray):∀r∈l.map Ib,Ej 1 r:=IG (f:=Ib) (fun a=>⟨rfl,by simp[Ib]⟩) l
theorem HG (l:List B6):∀r∈l.map E0,Ej 2 r:=IG (f:=E0) (fun a=>⟨rfl,by simp[E0]⟩) l
theorem NZ (l:List CW):∀r∈l.map B4,Ej 2 r:=IG (f:=B4) (fun a=>⟨rfl,by simp[B4]⟩) l
theorem CX {sz:Nat}{rows:List (List PV)}(h:∀r∈rows,Ej sz r):∀r∈rows,r.length=sz:=fun r hr=>(h r hr).1
theorem Hl (a b:List Tm):A6 a++A6 b=A6 (a++b):=by simp[EW]
theorem Fz {α:Type}{f:α→List PV}(a b:List α):a.map f++b.map f=(a++b).map f:=by simp
theorem MV (l:List Tm) (j:Nat) (x:Tm):(A6 l).set j (BD x)=A6 (l.set j x):=by simp[EW,List.map_set]
theorem ko {α:Type}{f:α→List PV}(l:List α) (j:Nat) (x:α):(l.map f).set j (f x)=(l.set j x).map f:=by simp[List.map_set]
theorem rS (n:Nat) (x:Tm):List.replicate n (BD x)=A6 (List.replicate n x):=by simp[EW]
theorem uO {α:Type}{f:α→List PV}(n:Nat) (x:α):List.replicate n (f x)=(List.replicate n x).map f:=by simp
theorem WD (l:List Tm) (hi:Nat):((A6 l).take hi).drop 0=A6 (l.take hi):=by simp[EW,List.map_take]
theorem bW {α:Type}{f:α→List PV}(l:List α) (hi:Nat):((l.map f).take hi).drop 0=(l.take hi).map f:=by simp[List.map_take]
theorem ML (l:List Tm) (lo:Nat):((A6 l).take (A6 l).length).drop lo=A6 (l.drop lo):=by rw[List.take_length];simp[EW,List.map_drop]
theorem jl {α:Type}{f:α→List PV}(l:List α) (lo:Nat):((l.map f).take (l.map f).length).drop lo=(l.drop lo).map f:=by rw[List.take_length,List.map_drop]
theorem kR (l:List Tm) (lo hi:Nat):((A6 l).take hi).drop lo=A6 ((l.take hi).drop lo):=by simp[EW,List.map_take,List.map_drop]
theorem IE {sz:Nat}{r:List PV}(h:Ej sz r):(r.map AV.p).all one=true:=by
 simp only[List.all_eq_true];intro x hx;obtain⟨c,hc,rfl⟩:=List.mem_map.1 hx;have:=h.2 c hc;cases c<;>simp_all [one]
theorem Gc (t:Tm):((BD t).map AV.p).all one=true:=IE (LZ t)
theorem kA {r:List PV}(h:∀c∈r,c≠ .nils):(r.map AV.p).map dn=r.map .p:=by
 induction r with
 | nil=>rfl
 | cons c r ih =>
  simp only[List.map_cons];rw[ih fun d hd=>h d (by simp[hd])];have:=h c Av;cases c<;>simp_all [dn]
theorem Hj (t:Tm):HY (((BD t).map AV.p).map dn)=some (BD t):=by obtain⟨k,i,n,l,s⟩:=t;rfl
end Go.Eu
namespace Go.Eu
def GI (f a:Tm):Tm:= .mk 4 0 ⟨#[]⟩ [] [f,a]
def apply (f:Tm) (xs:List Tm):Tm:=xs.foldl GI f
theorem Sh {f:Tm}{xs:List Tm}{i:Nat}{x:Tm}(h:xs[i]?=some x):apply f (xs.take (i+1))=GI (apply f (xs.take i)) x:=by
 simp[apply,List.take_add_one,h]
def Ay:Tm→Tm×List Tm
 | .mk k i n l [f,a]=>if k=4 then ((Ay f).1,(Ay f).2++[a]) else (.mk k i n l [f,a],[])
 | t=>(t,[])
theorem OR {k i:Int}{n:ByteArray}{l:List CW}{ts:List Tm}(h:k≠4∨((ts.length:Nat):Int)≠2):Ay (.mk k i n l ts)=(.mk k i n l ts,[]):=by
 unfold Ay;split
 ·rename_i k' i' n' l' f a e;injection e with e1 e2 e3 e4 e5;subst e1 e2 e3 e4 e5;simp at h;rw[if_neg h]
 rfl
theorem Va {k i:Int}{n:ByteArray}{l:List CW}{ts:List Tm}{x y:Tm}(h:k=4∧((ts.length:Nat):Int)=2) (hx:ts[0]?=some x) (hy:ts[1]?=some y):Ay (.mk k i n l ts)=((Ay x).1,(Ay x).2++[y]):=by
 obtain⟨rfl,h2⟩:=h
 match ts,h2,hx,hy with
 | [a,b],_,hx,hy =>
  simp at hx hy;subst hx hy;simp[Ay]
theorem nM {ts:List Tm}{x y:Tm}(h:((ts.length:Nat):Int)=2) (hx:ts[0]?=some x) (hy:ts[1]?=some y):ts=[x,y]:=by
 match ts,h,hx,hy with
 | [a,b],_,hx,hy =>
  simp at hx hy;subst hx hy;rfl
theorem JU:∀(t:Tm),size (Ay t).1+BB (Ay t).2+(Ay t).2.length=size t
 | .mk k i n l [f,a]=>by
  unfold Ay;split
  ·have:=JU f;simp[size,BB] at this ⊢;have e:∀(xs:List Tm) (y:Tm),BB (xs++[y])=BB xs+size y:=by
    intro xs y
    induction xs with
    | nil=>simp[BB]
    | cons z zs ih=>simp[BB,ih];omega
   rw[e];omega
  ·simp[BB]
 | .mk k i n l []=>by simp[Ay,BB]
 | .mk k i n l [_]=>by simp[Ay,BB]
 | .mk k i n l (_::_::_::_)=>by simp[Ay,BB]
theorem Qo (t:Tm):(Ay t).2.length<size t:=by
 have:=JU t;have:=size_pos (Ay t).1;omega
theorem sd:(∀(p:Prop) [Decidable p],(decide p=true)=p)∧(∀{p:Prop} [Decidable p],decide p=false↔¬p)∧(∀{α:Type} [BEq α] [LawfulBEq α] {a b:α},(a==b)=true↔a=b)∧(∀{α:Type} [BEq α] [LawfulBEq α] {a b:α},(a !=b)=true↔a≠b)∧(∀{α:Type} [BEq α] [LawfulBEq α] {a b:α},(a==b)=false↔a≠b)∧(∀{α:Type} [BEq α] [LawfulBEq α] {a b:α},(a !=b)=false↔a=b)∧(∀{α:Type}(a b:α),(a≠b)=¬(a=b))∧(∀{α:Type} [LT α] {x y:α},x > y↔y<x)∧(∀{α:Type} [LE α] {x y:α},x≥y↔y≤x)∧(∀(b:Bool),(¬(b=true))=(b=false))∧(∀(b:Bool),(¬(b=false))=(b=true))∧(∀(b:Bool),((!b)=true)=(b=false))∧(∀(b:Bool),((!b)=false)=(b=true))∧(∀{a b:Int},¬a<b↔b≤a)∧(∀{a b:Int},¬a≤b↔b<a) :=
 ⟨fun _=>decide_eq_true_eq,decide_eq_false_iff_not,beq_iff_eq,bne_iff_ne,beq_eq_false_iff_ne,bne_eq_false_iff_eq,ne_eq,gt_iff_lt,ge_iff_le,Bool.not_eq_true,Bool.not_eq_false,fun b=>by cases b<;>simp,fun b=>by cases b<;>simp,Int.not_lt,Int.not_le⟩
theorem se:(∀(ts:List Tm),(A6 ts).length=ts.length)∧(∀{α β:Type}{ays:List α}{f:α→β},(ays.map f).length=ays.length)∧(∀{α:Type}{n:Nat}{a:α},(List.replicate n a).length=n)∧(∀(a b:Bool),((a||b)=true)=(a=true∨b=true))∧(∀(a b:Bool),((a&&b)=true)=(a=true∧b=true))∧(∀{x y:Bool},(x||y)=false↔x=false∧y=false)∧(∀{x y:Bool},(x&&y)=false↔x=true→y=false) :=
 ⟨A8,List.length_map _,List.length_replicate,Bool.or_eq_true,Bool.and_eq_true,Bool.or_eq_false_iff,Bool.and_eq_false_imp⟩
end Go.Eu
namespace Go.Eu
open Go.Abs
def Cs (i:Int):Tm:= .mk 0 i ⟨#[]⟩ [] []
def BN:Tm:= .mk 0 0 ⟨#[]⟩ [] []
def Gm (er e:Int):Int:=if er=0 then e else er
def MY (er i:Int):Int:=if i > 65535 then Gm er 24 else er
mutual
def FF:Tm→Int
 | .mk _ _ _ _ ks=>Lk 1 ks
def Lk:Int→List Tm→Int
 | n,[]=>n
 | n,t::ts=>Lk (wr (n+FF t)) ts
end
mutual
def FU:Tm→Int
 | .mk _ _ _ _ ks=>wr (Kd 0 ks+1)
def Kd:Int→List Tm→Int
 | n,[]=>n
 | n,t::ts=>Kd (max n (FU t)) ts
end
mutual
def CS (b fr:Int):Int→Int→Tm→Tm×Int
 | d,er,.mk k i n l ks =>
  if k=0 then
   (if i<wr (fr+d) then (.mk k i n l ks,er)
    else if wr (i+b)<wr (fr+d) then (.mk k i n l ks,Gm er 24)
    else (Cs (wr (i+b)),MY er (wr (i+b))))
  else ((.mk k i n l (Cq b fr k d 0 er ks).1),(Cq b fr k d 0 er ks).2)
def Cq (b fr k:Int):Int→Nat→Int→List Tm→List Tm×Int
 | d,j,er,[]=>([],er)
 | d,j,er,t::ts=>((CS b fr (d+below k j) er t).1::(Cq b fr k d (j+1) (CS b fr (d+below k j) er t).2 ts).1,(Cq b fr k d (j+1) (CS b fr (d+below k j) er t).2 ts).2)
end
mutual
def B2 (vs:List Tm):Int→Int→Int→Tm→Tm×Int×Int
 | d,er,nd,.mk k i n l ks =>
  if nd > 4096 then (.mk k i n l ks,er,nd)
  else if k=0∧i≥d∧i - d<(vs.length:Int) then
   ((CS d 0 0 er (vs.getD (i - d).toNat BN)).1,(CS d 0 0 er (vs.getD (i - d).toNat BN)).2,wr (nd+FF (vs.getD (i - d).toNat BN)))
  else if k=0 then
   (if i≥d then (Cs (wr (i - vs.length)),MY er (wr (i - vs.length)),wr (nd+1)) else (.mk k i n l ks,er,wr (nd+1)))
  else ((.mk k i n l (Cc vs k d 0 er (wr (nd+1)) ks).1),(Cc vs k d 0 er (wr (nd+1)) ks).2)
def Cc (vs:List Tm) (k:Int):Int→Nat→Int→Int→List Tm→List Tm×Int×Int
 | d,j,er,nd,[]=>([],er,nd)
 | d,j,er,nd,t::ts=>((B2 vs (d+below k j) er nd t).1::(Cc vs k d (j+1) (B2 vs (d+below k j) er nd t).2.1 (B2 vs (d+below k j) er nd t).2.2 ts).1,
   (Cc vs k d (j+1) (B2 vs (d+below k j) er nd t).2.1 (B2 vs (d+below k j) er nd t).2.2 ts).2)
end
def CA (t:Tm) (vs:List Tm) (d:Int):Tm×Int :=
 if (B2 vs (min d 65536) 0 0 t).2.2 > 4096 then (BN,5)
 else if (B2 vs (min d 65536) 0 0 t).2.1≠0 then (BN,(B2 vs (min d 65536) 0 0 t).2.1)
 else if FU (B2 vs (min d 65536) 0 0 t).1 > 200 then (BN,7)
 else ((B2 vs (min d 65536) 0 0 t).1,0)
structure Dm where
 steps:Int
 nodes:Int
 forms:Int
 limit:Int
 over:Bool
 deriving Inhabited
def HQ (c:Dm):List PV:=[I c.steps,I c.nodes,I c.forms,I c.limit,.bool c.over]
def Dm.form (c:Dm) (t:Tm) (e:Int):Dm :=
 { c with forms:=wr (c.forms+FF t),over:=c.over||(e !=0||decide (c.steps > c.limit)||decide (c.nodes > wr (2*c.limit))||decide (wr (c.forms+FF t) > wr (40*c.limit))||decide (FF t > 2000)||decide (FU t > 95)) }
def Dm.sized (c:Dm) (t:Tm):Dm:={ c with over:=c.over||(decide (FF t > 2000)||decide (FU t > 95)) }
def Gz:Dm:=⟨0,0,0,1000,false⟩
end Go.Eu
namespace Go.Eu
theorem Cd {α:Type}{l:List α}{i:Nat}{x:α}(h:l[i]?=some x):l.drop i=x::l.drop (i+1):=by
 have hlt:=(List.getElem?_eq_some_iff.1 h).1;have e:l[i]=x:=(List.getElem?_eq_some_iff.1 h).2;rw[List.drop_eq_getElem_cons hlt,e]
theorem PF {α:Type}{l:List α}{i:Nat}{x d:α}(h:l[i]?=some x):l.getD i d=x:=by simp[List.getD,h]
end Go.Eu
namespace Go.Eu
open Go.Abs
theorem ah (n:Int):JZ (wr n):=by
 unfold JZ wr IntKind.wrap;have:IntKind.i64.min= -9223372036854775808:=rfl;have:IntKind.i64.max=9223372036854775807:=rfl;simp[IntKind.signed,IntKind.bits];omega
theorem nV (i:Int):Nd (Cs (wr i)):=by
 have:=ah i;exact⟨by decide,by decide,by simp,by decide,trivial,⟨by decide,by decide⟩,this⟩
theorem Ps:Nd BN:=⟨by decide,by decide,by simp,by decide,trivial,⟨by decide,by decide⟩,⟨by decide,by decide⟩⟩
mutual
theorem QM (b fr:Int):∀(t:Tm) (d er:Int),Nd t→Nd (CS b fr d er t).1
 | .mk k i n l ks,d,er,h=>by
  unfold CS;split
  ·split
   ·exact h
   split
   ·exact h
   exact nV _
  simp only[Nd] at h ⊢;obtain⟨h1,h2,h3,h4,h5,h6⟩:=h;obtain⟨e1,e2⟩:=Sz b fr k ks d 0 er h5;exact⟨h1,h2,h3,by rw[e1];exact h4,e2,h6⟩
theorem Sz (b fr k:Int):∀(ts:List Tm) (d:Int) (j:Nat) (er:Int),Mt ts→(Cq b fr k d j er ts).1.length=ts.length∧Mt (Cq b fr k d j er ts).1
 | [],d,j,er,h=>by simp[Cq,Mt]
 | t::ts,d,j,er,h=>by
  simp only[Cq,Mt,List.length_cons] at *;have:=QM b fr t (d+below k j) er h.1;obtain⟨e1,e2⟩:=Sz b fr k ts d (j+1) (CS b fr (d+below k j) er t).2 h.2;exact⟨by rw[e1],this,e2⟩
end
theorem lf {vs:List Tm}(h:Mt vs) (i:Nat):Nd (vs.getD i BN):=by
 cases e:vs[i]? with
 | none=>simp[List.getD,e];exact Ps
 | some x=>rw[PF e];exact DU h e
mutual
theorem Qs:∀(t:Tm) (vs:List Tm) (d er nd:Int),Nd t→Mt vs→Nd (B2 vs d er nd t).1
 | .mk k i n l ks,vs,d,er,nd,h,hv=>by
  unfold B2;split
  ·exact h
  split
  ·exact QM _ _ _ _ _ (lf hv _)
  split
  ·split
   ·exact nV _
   exact h
  simp only[Nd] at h ⊢;obtain⟨h1,h2,h3,h4,h5,h6⟩:=h;obtain⟨e1,e2⟩:=UN ks vs k d 0 er (wr (nd+1)) h5 hv;exact⟨h1,h2,h3,by rw[e1];exact h4,e2,h6⟩
theorem UN:∀(ts:List Tm) (vs:List Tm) (k d:Int) (j:Nat) (er nd:Int),Mt ts→Mt vs→(Cc vs k d j er nd ts).1.length=ts.length∧Mt (Cc vs k d j er nd ts).1
 | [],vs,k,d,j,er,nd,h,hv=>by simp[Cc,Mt]
 | t::ts,vs,k,d,j,er,nd,h,hv=>by
  simp only[Cc,Mt,List.length_cons] at *;have:=Qs t vs (d+below k j) er nd h.1 hv;obtain⟨e1,e2⟩:=UN ts vs k d (j+1) (B2 vs (d+below k j) er nd t).2.1 (B2 vs (d+below k j) er nd t).2.2 h.2 hv;exact⟨by rw[e1],this,e2⟩
end
theorem iI (t:Tm) (vs:List Tm) (d:Int) (h:Nd t) (hv:Mt vs):Nd (CA t vs d).1:=by
 unfold CA;split
 ·exact Ps
 split
 ·exact Ps
 split
 ·exact Ps
 exact Qs t vs _ _ _ h hv
theorem H9 {o:Option Nat}{c:Nat}(l:List Tm) {l':List Tm}(h:l=l'):AV.vs o (A6 l).length c= .vs o (A6 l').length c:=by rw[h]
theorem FQ {α:Type}{f:α→List PV}{o:Option Nat}{c:Nat}(l:List α) {l':List α}(h:l=l'):AV.vs o (l.map f).length c= .vs o (l'.map f).length c:=by rw[h]
theorem Gw {o:Option Nat}{sz c:Nat}(l:List Tm) {l':List Tm}(h:l=l'):Ms (.vec o sz (A6 l) c) (.vec o sz (A6 l') c):=oe (by rw[h])
theorem Eo {α:Type}{f:α→List PV}{o:Option Nat}{sz c:Nat}(l:List α) {l':List α}(h:l=l'):Ms (.vec o sz (l.map f) c) (.vec o sz (l'.map f) c):=oe (by rw[h])
theorem CZ {o:Option Nat}{c:Nat}(l:List Tm) {l':List Tm}(h:l.length=l'.length):AV.vs o (A6 l).length c= .vs o (A6 l').length c:=by rw[A8,A8,h]
theorem WA {α:Type}{f:α→List PV}{o:Option Nat}{c:Nat}(l:List α) {l':List α}(h:l.length=l'.length):AV.vs o (l.map f).length c= .vs o (l'.map f).length c:=by rw[List.length_map,List.length_map,h]
end Go.Eu
namespace Go.Eu
end Go.Eu
namespace Go.Eu
open Go.Abs
theorem EK {n:Int}(h:JZ n):wr n=n:=R3 (k:= .i64) h.1 h.2
mutual
theorem VO (B:Int) (hB:B≤4611686018427387904):∀(t:Tm),(size t:Int)<B→FF t=size t
 | .mk k i n l ks,h=>by
  have h':(1:Int)+BB ks<B:=by rw[size] at h;omega
  show Lk 1 ks=_;rw[Tz B hB ks 1 Au h',size];omega
theorem Tz (B:Int) (hB:B≤4611686018427387904):∀(ts:List Tm) (n:Int),0≤n→n+BB ts<B→Lk n ts=n+BB ts
 | [],n,_,_=>by simp[Lk,BB]
 | t::ts,n,h0,h=>by
  simp only[BB,Lk] at *;rw[VO B hB t (by have:=size_pos t;omega),EK ⟨by omega,by omega⟩,Tz B hB ts (n+size t) Au Au];omega
end
theorem PZ {t:Tm}(h:(size t:Int)<4611686018427387904):FF t=size t:=VO _ (Int.le_refl _) t h
mutual
def Wt:Tm→Prop
 | .mk k i _ _ ks=>(ks.length:Int)=arity k∧(k=12→0≤i)∧Ma ks
def Ma:List Tm→Prop
 | []=>True
 | t::ts=>Wt t∧Ma ts
end
theorem Pg:∀{ts:List Tm}{i:Nat}{t:Tm},Ma ts→ts[i]?=some t→Wt t
 | [],i,t,_,h=>by simp at h
 | a::ts,0,t,hn,h=>by simp at h;subst h;exact hn.1
 | a::ts,i+1,t,hn,h=>by simp at h;exact Pg hn.2 h
theorem IW (a b:List Tm):BB (a++b)=BB a+BB b:=by
 induction a with
 | nil=>simp[BB]
 | cons x a ih=>simp[BB,ih];omega
mutual
theorem rO {vars metas:Int}:∀(t:Tm) (d:Int),wf vars metas d t→Wt t
 | .mk k i n l ks,d,h=>by
  simp only[wf,Wt] at *;exact⟨h.2.2.1,fun e=>(h.2.2.2.2.1 e).1,nG ks k d 0 h.2.2.2.2.2⟩
theorem nG {vars metas:Int}:∀(ts:List Tm) (k d:Int) (j:Nat),pL vars metas k d j ts→Ma ts
 | [],k,d,j,h=>trivial
 | t::ts,k,d,j,h=>by
  simp only[pL,Ma] at *;exact⟨rO t _ h.1,nG ts k d (j+1) h.2⟩
end
theorem nF (i:Int):Wt (Cs i):=⟨by simp[arity],by simp,trivial⟩
theorem R4:Wt BN:=⟨by simp[arity],by simp,trivial⟩
mutual
theorem Qy (b fr:Int):∀(t:Tm) (d er:Int),Wt t→Wt (CS b fr d er t).1
 | .mk k i n l ks,d,er,h=>by
  unfold CS;split
  ·split
   ·exact h
   split
   ·exact h
   exact nF _
  simp only[Wt] at h ⊢;obtain⟨e1,e2⟩:=T8 b fr k ks d 0 er h.2.2;exact⟨by rw[e1];exact h.1,h.2.1,e2⟩
theorem T8 (b fr k:Int):∀(ts:List Tm) (d:Int) (j:Nat) (er:Int),Ma ts→(Cq b fr k d j er ts).1.length=ts.length∧Ma (Cq b fr k d j er ts).1
 | [],d,j,er,h=>by simp[Cq,Ma]
 | t::ts,d,j,er,h=>by
  simp only[Cq,Ma,List.length_cons] at *;have:=Qy b fr t (d+below k j) er h.1;obtain⟨e1,e2⟩:=T8 b fr k ts d (j+1) (CS b fr (d+below k j) er t).2 h.2;exact⟨by rw[e1],this,e2⟩
end
theorem kJ {vs:List Tm}(h:Ma vs) (i:Nat):Wt (vs.getD i BN):=by
 cases e:vs[i]? with
 | none=>simp[List.getD,e];exact R4
 | some x=>rw[PF e];exact Pg h e
mutual
theorem Vu:∀(t:Tm) (vs:List Tm) (d er nd:Int),Wt t→Ma vs→Wt (B2 vs d er nd t).1
 | .mk k i n l ks,vs,d,er,nd,h,hv=>by
  unfold B2;split
  ·exact h
  split
  ·exact Qy _ _ _ _ _ (kJ hv _)
  split
  ·split
   ·exact nF _
   exact h
  simp only[Wt] at h ⊢;obtain⟨e1,e2⟩:=Sr ks vs k d 0 er (wr (nd+1)) h.2.2 hv;exact⟨by rw[e1];exact h.1,h.2.1,e2⟩
theorem Sr:∀(ts:List Tm) (vs:List Tm) (k d:Int) (j:Nat) (er nd:Int),Ma ts→Ma vs→(Cc vs k d j er nd ts).1.length=ts.length∧Ma (Cc vs k d j er nd ts).1
 | [],vs,k,d,j,er,nd,h,hv=>by simp[Cc,Ma]
 | t::ts,vs,k,d,j,er,nd,h,hv=>by
  simp only[Cc,Ma,List.length_cons] at *;have:=Vu t vs (d+below k j) er nd h.1 hv;obtain⟨e1,e2⟩:=Sr ts vs k d (j+1) (B2 vs (d+below k j) er nd t).2.1 (B2 vs (d+below k j) er nd t).2.2 h.2 hv;exact⟨by rw[e1],this,e2⟩
end
theorem gr (t:Tm) (vs:List Tm) (d:Int) (h:Wt t) (hv:Ma vs):Wt (CA t vs d).1:=by
 unfold CA;split
 ·exact R4
 split
 ·exact R4
 split
 ·exact R4
 exact Vu t vs _ _ _ h hv
mutual
theorem NT (b fr:Int):∀(t:Tm) (d er:Int),t.kind=0∧t.kids=[]∨Wt t→size (CS b fr d er t).1=size t
 | .mk k i n l ks,d,er,h=>by
  unfold CS;split
  ·rename_i hk;split
   ·rfl
   split
   ·rfl
   have:ks=[]:=by
    rcases h with h | h
    ·exact h.2
    have:=h.1;subst hk;simp[arity] at this;exact this
   subst this;simp[Cs,size,BB]
  rename_i hk;have hw:Ma ks:=by
   rcases h with h | h
   ·exact absurd h.1 hk
   exact h.2.2
  simp only[size];rw[P0 b fr k ks d 0 er hw]
theorem P0 (b fr k:Int):∀(ts:List Tm) (d:Int) (j:Nat) (er:Int),Ma ts→BB (Cq b fr k d j er ts).1=BB ts
 | [],d,j,er,h=>by simp[Cq]
 | t::ts,d,j,er,h=>by
  simp only[Cq,BB];rw[NT b fr t _ _ (.inr h.1),P0 b fr k ts _ _ _ h.2]
end
mutual
theorem Km (V:Int) (hV:1≤V) (hV2:V≤2305843009213693952):∀(t:Tm) (vs:List Tm) (d er nd:Int),Wt t→Ma vs→(∀x∈vs,(size x:Int)≤V)→0≤nd→nd≤4096+V →
  nd≤(B2 vs d er nd t).2.2∧(B2 vs d er nd t).2.2≤4096+V∧((B2 vs d er nd t).2.2≤4096→(size (B2 vs d er nd t).1:Int)=(B2 vs d er nd t).2.2 - nd)
 | .mk k i n l ks,vs,d,er,nd,h,hv,hs,h0,h1=>by
  have hk0:k=0→ks=[]:=by
   intro e;have:=h.1;subst e;simp[arity] at this;exact this
  unfold B2;split
  ·exact⟨by simp,h1,by simp;omega⟩
  split
  ·rename_i hc;have hlt:(i - d).toNat<vs.length:=by omega
   obtain⟨x,hx⟩:=A1 hlt;have hxs:=hs x (List.mem_of_getElem? hx);rw[PF hx,NT _ _ _ _ _ (.inr (Pg hv hx)),PZ Au,EK ⟨by omega,by omega⟩];simp only;exact⟨by omega,by omega,by omega⟩
  split
  ·rename_i hk;have hk:=hk0 hk;subst hk;split
   ·simp only[Cs,size,BB];rw[EK ⟨by omega,by omega⟩];exact⟨by omega,by omega,by omega⟩
   simp only[size,BB];rw[EK ⟨by omega,by omega⟩];exact⟨by omega,by omega,by omega⟩
  rw[EK (n:=nd+1) ⟨by omega,by omega⟩];obtain⟨e1,e2,e3⟩:=L4 V hV hV2 ks vs k d 0 er (nd+1) h.2.2 hv hs Au Au;simp only[size];exact⟨by omega,e2,fun q=>by have:=e3 q;omega⟩
theorem L4 (V:Int) (hV:1≤V) (hV2:V≤2305843009213693952):∀(ts:List Tm) (vs:List Tm) (k d:Int) (j:Nat) (er nd:Int),Ma ts→Ma vs→(∀x∈vs,(size x:Int)≤V)→0≤nd→nd≤4096+V →
  nd≤(Cc vs k d j er nd ts).2.2∧(Cc vs k d j er nd ts).2.2≤4096+V∧((Cc vs k d j er nd ts).2.2≤4096→(BB (Cc vs k d j er nd ts).1:Int)=(Cc vs k d j er nd ts).2.2 - nd)
 | [],vs,k,d,j,er,nd,h,hv,hs,h0,h1=>by simp only[Cc,BB];exact⟨by omega,h1,by omega⟩
 | t::ts,vs,k,d,j,er,nd,h,hv,hs,h0,h1=>by
  obtain⟨e1,e2,e3⟩:=Km V hV hV2 t vs (d+below k j) er nd h.1 hv hs h0 h1;obtain⟨f1,f2,f3⟩:=L4 V hV hV2 ts vs k d (j+1) (B2 vs (d+below k j) er nd t).2.1 (B2 vs (d+below k j) er nd t).2.2 h.2 hv hs Au e2;simp only[Cc,BB];exact⟨by omega,f2,fun q=>by have:=f3 q;have:=e3 Au;omega⟩
end
theorem YC (t:Tm) (vs:List Tm) (d:Int) (h:Wt t) (hv:Ma vs) (hs:∀x∈vs,(size x:Int)≤2305843009213693952):size (CA t vs d).1≤4096:=by
 have hz:size BN≤4096:=by simp[BN,size,BB]
 obtain⟨e1,e2,e3⟩:=Km 2305843009213693952 Au Au t vs (min d 65536) 0 0 h hv hs Au Au;unfold CA;split
 ·exact hz
 rename_i hn;have:=e3 Au;split
 ·exact hz
 split
 ·exact hz
 simp only;omega
def known (ms:List Mv) (t:Tm):Bool :=
 match t with
 | .mk k i _ _ _=>k==12&&(decide (i<ms.length)&&(match ms[i.toNat]? with | some m=>m.known | none=>false))
def valueOf (ms:List Mv) (i:Int):Tm:=match ms[i.toNat]? with | some m=>m.value | none=>BN
def Q9 (F:Dm→Tm→Tm×Int×Dm):Dm→List Tm→List Tm×Int×Dm
 | c,[]=>([],0,c)
 | c,t::ts=>if (F c t).2.1≠0 then ([],(F c t).2.1,(F c t).2.2)
  else if (Q9 F (F c t).2.2 ts).2.1≠0 then ([],(Q9 F (F c t).2.2 ts).2.1,(Q9 F (F c t).2.2 ts).2.2)
  else ((F c t).1::(Q9 F (F c t).2.2 ts).1,0,(Q9 F (F c t).2.2 ts).2.2)
def rH:Dm→Tm→List Tm→Dm×Tm×List Tm
 | c,v,[]=>(c,v,[])
 | c,v,a::l=>if v.kind=5∧c.over=false then rH (c.form (CA (v.kids.getD 1 BN) [a] 0).1 (CA (v.kids.getD 1 BN) [a] 0).2) (CA (v.kids.getD 1 BN) [a] 0).1 l else (c,v,a::l)
def PD:Tm→List Tm→Tm
 | .mk k i n l _,ks=> .mk k i n l ks
def X6 (ms:List Mv):Nat→List Int→Dm→Tm→Tm×Int×Dm
 | 0,ab,c,t=>(BN,11,c)
 | n+1,ab,c,t =>
  if c.over=true then (BN,11,c)
  else if known ms (Ay t).1=false then
   (let q:=Q9 (X6 ms n ab) c (Ay t).1.kids
    if q.2.1≠0 then (BN,q.2.1,q.2.2)
    else
     (let r:=Q9 (X6 ms n ab) q.2.2 (Ay t).2
      if r.2.1≠0 then (BN,r.2.1,r.2.2)
      else (apply (PD (Ay t).1 q.1) r.1,0,r.2.2.sized (apply (PD (Ay t).1 q.1) r.1))))
  else if (Ay t).1.index∈ab then (BN,22,c)
  else
   (let v:=X6 ms n (ab++[(Ay t).1.index]) c (valueOf ms (Ay t).1.index)
    if v.2.1≠0 then (BN,v.2.1,v.2.2)
    else
     (let r:=Q9 (X6 ms n ab) (v.2.2.form v.1 0) (Ay t).2
      if r.2.1≠0 then (BN,r.2.1,r.2.2)
      else
       (let b:=rH r.2.2 v.1 r.1
        (apply b.2.1 b.2.2,0,b.1.form (apply b.2.1 b.2.2) 0))))
def free (ms:List Mv) (ab:List Int):Nat:=((List.range ms.length).filter fun i:Nat=> !decide ((i:Int)∈ab)).length
theorem L9 {α:Type}{l:List α}{x:α}(h:x∈l):∃i:Nat,l[i]?=some x:=by
 obtain⟨i,hi,he⟩:=List.mem_iff_getElem.1 h;exact⟨i,by rw[List.getElem?_eq_getElem hi,he]⟩
section
variable {ms:List Mv}{n:Nat}{ab:List Int}{c:Dm}{t:Tm}{zk zi:Int}{zn:ByteArray}{zl:List CW}{zs:List Tm}
end
end Go.Eu
namespace Go.Eu
theorem FI {l:List Tm}{x:Tm}(h:x∈l):size x≤BB l:=by
 obtain⟨i,hi⟩:=L9 h;exact CU hi
end Go.Eu
namespace Go.Abs
section
variable {P:Program}{r:Option Nat}{ops:Array Oper}{Q:Cj→BM→Prop}{k:Nat}{n:Nat}{τ:Nat→AV}{T:List A4}{D:List D1}{dst:Option Tmp}{op:Op}{ty:TypeId}{pos:String}{aft:Array Edge}{v:AV}{c:Call}{f:Operand}{fid:FuncId}{first caps A:List AV}{R:EH→List A4→Prop}
theorem IN {H H':List A4}(hp:H.Perm H') (h:AL P r ops k ⟨n,τ,H',D⟩ Q):AL P r ops k ⟨n,τ,H,D⟩ Q:=BJ (QI (S:=⟨n,τ,H,D⟩) hp) h
theorem Ny {c:Code}{H H':List A4}(hp:H.Perm H') (h:IJ P r c ⟨n,τ,H',D⟩ Q):IJ P r c ⟨n,τ,H,D⟩ Q:=A5 (QI (S:=⟨n,τ,H,D⟩) hp) h
theorem Ju (fr:List A4) {l:Nat}(ho:ops[k]?=some ⟨dst,.call c,ty,pos,aft,none⟩) (hd:Gj dst n=true)
  (hc:c.callee= .value f) (hf:ev τ f= .fn (.yield l) [] []) (h:NR P l A T R) (hA:c.args.toList.map (ev τ)=A)
  (next:∀v T',R (.val v) T'→AL P r ops (k+1) ⟨n,put τ dst v,fr++T',D⟩ Q) (pan:∀v T',R (.panic v) T'→Q (.panic v) ⟨n,τ,T'++fr,D⟩):AL P r ops k ⟨n,τ,fr++T,D⟩ Q :=
 Fm (S:=⟨n,τ,fr++T,D⟩) ho An (Hh hd) (hY hc hf List.perm_append_comm h hA) (fun v H' ⟨Hs',h1,h2⟩=>by subst h2;exact IN List.perm_append_comm (next v Hs' h1)) (fun v H' ⟨Hs',h1,h2⟩=>by subst h2;exact pan v Hs' h1)
theorem JF (fr:List A4) (ho:ops[k]?=some ⟨dst,.call c,ty,pos,aft,none⟩) (hd:Gj dst n=true)
  (hc:c.callee= .value f) (hf:(ev τ f= .p (.fn fid)∧first=[]∧caps=[])∨ev τ f= .fn (.func fid) first caps) (h:BL P fid A T R) (hA:Ff (first++c.args.toList.map (ev τ)++caps) A)
  (next:∀v T',R (.val v) T'→AL P r ops (k+1) ⟨n,put τ dst v,fr++T',D⟩ Q) (pan:∀v T',R (.panic v) T'→Q (.panic v) ⟨n,τ,T'++fr,D⟩):AL P r ops k ⟨n,τ,fr++T,D⟩ Q :=
 Ji ho hd hc hf List.perm_append_comm (h.args hA) (.inl rfl) (fun v H' h1=>IN List.perm_append_comm (next v H' h1)) pan
end
theorem F6.append:∀{l l':List A4}{T:List A4},F6 l l'→F6 (l++T) (l'++T)
 | [],l',T,h=>by simp only[F6] at h;subst h;exact F6.refl T
 | o::l,l',T,h=>by
  obtain⟨o',r',rfl,h1,h2⟩:=h;exact⟨o',r'++T,O,h1,F6.append h2⟩
theorem Uk (is:List Nat) (l:List A4) {l1 l' T:List A4}(h:N9 is 0 l=l1) (w:F6 l1 l'):oD (l++T) (l'++T):=⟨l1++T,(G7 h).append_right T,w.append⟩
theorem Es (is:List Nat) (l:List A4) {l1 T:List A4}(h:N9 is 0 l=l1):(l1++T).Sublist (l++T):=(G7 h).append_right T
theorem CV {n:Nat}{τ:Nat→AV}{H:List A4}{D:List D1}{t:Nat}{x:AV}(h:τ t=x):IS ⟨n,τ,H,D⟩ ⟨n,put τ (some t) x,H,D⟩:=OT fun _ _ _ hr=>h▸hr
section
variable {P:Program}{dst:Option Tmp}{ty:TypeId}{pos:String}{aft:Array Edge}{g:Option (Nat×Bool)}{ρ:Operand→AV}{H:List A4}{x y:Operand}
theorem fM {e:TypeId}{bl:Bool}{sz:Nat}(ht:EG P e=some (bl,sz)):∃inf,P.info? e=some inf∧inf.size=sz:=by
 obtain⟨d,_,_,h⟩:=FW ht;cases hi:P.info? e with
 | none=>simp[hi] at h
 | some inf=>simp[hi] at h;exact⟨inf,rfl,h⟩
theorem UB {T e:TypeId}{bl:Bool}{len sz b o:Nat}{k:IntKind}{i:Int}(hu:P.underlying T=some (.array len e)) (ht:EG P e=some (bl,sz)) (hx:ρ x= .ptr b o) (hy:ρ y= .p (.int k i)) (h0:0≤i) (hn:i<len) :
  Dn P ⟨dst,.indexAddr T x y,ty,pos,aft,g⟩ ρ H (.ptr b (o+i.toNat*sz)) H:=by
 obtain⟨inf,h1,h2⟩:=fM ht;exact Ux hu h1 h2 hx hy h0 hn
theorem Si {T e:TypeId}{bl:Bool}{len sz:Nat}{parts:Array (Nat×Operand)}{z:Value}{cs:List AV}(hu:P.underlying T=some (.array len e)) (ht:EG P e=some (bl,sz)) (hz:zeroOf P T=some z)
  (hc:GM (fun i=>some (i*sz,sz)) (z.cells.toList.map HF) (parts.toList.map fun p=>(p.1,ρ p.2))=some cs):Dn P ⟨dst,.build T parts,ty,pos,aft,g⟩ ρ H (.agg cs) H:=by
 obtain⟨inf,h1,h2⟩:=fM ht;subst h2;exact Un hu h1 hz hc
end
theorem TE {P:Program}{g:Operand}{ps:Array Tmp}{assign body:Code}{S:BM}{Q:Cj→BM→Prop}{fid:FuncId}{first caps:List AV}
  (hg:(ev S.τ g= .p (.fn fid)∧first=[]∧caps=[])∨ev S.τ g= .fn (.func fid) first caps)
  (h:∀d l (L:PC),L=⟨.ready,none,S.n,S.τ,ps,assign,body⟩→∃Hs Hf,(A4.loop l L:: .dfr d::S.H).Perm (Hs++Hf) ∧
   BL P fid (first++[.fn (.yield l) [] []]++caps) Hs (fun r H'=>Xo P l d S Q r (H'++Hf))) :
  IJ P none (.rangeFunc g ps assign body) S Q:=jI hg fun d l=>h d l _ rfl
def Y4 (v:AV) (C:List A4→Prop):EH→List A4→Prop
 | .val v',H'=>v'=v∧C H'
 | .panic _,_=>False
section
variable {P:Program}{n:Nat}{τ:Nat→AV}{H:List A4}{D:List D1}
theorem Up {b:Nat}{cs cs':List AV}(h:Ff cs cs'):Ms (.box b cs) (.box b cs'):=⟨rfl,fun F w hr=>by
 obtain⟨vs,T,h1,h2⟩:=hr;exact⟨vs,T,h1,Nz h h2⟩⟩
theorem EX {i:Nat}{o o':A4}(hi:H[i]?=some o) (hw:Ms o o'):IS ⟨n,τ,H,D⟩ ⟨n,τ,H.set i o',D⟩:=by
 intro F a w hs;refine⟨F,⟨hs.size,hs.tmp,?_,hs.defs⟩,?_⟩
 ·have hk:=Gx (x':=o') hi hw.1;refine⟨fun x hx c hc=>?_,by show List.Nodup _;rw[hk];exact hs.heap.nodup,fun x hx=>?_,hs.heap.bd⟩
  ·rcases D4 hx with rfl | ⟨j,_,hj⟩
   ·exact hs.heap.sub _ (List.mem_of_getElem? hi) c (by rw[←hw.1];exact hc)
   exact hs.heap.sub _ (List.mem_of_getElem? hj) c hc
  rcases D4 hx with rfl | ⟨j,_,hj⟩
  ·exact hw.2 F w (hs.heap.obj _ (List.mem_of_getElem? hi))
  exact hs.heap.obj _ (List.mem_of_getElem? hj)
 refine { Trans.refl (F:=F) (H:=H) (w:=w) with keys:=fun x hx c hc=>?_ };rcases D4 hx with rfl | ⟨j,_,hj⟩
 ·exact .inl ⟨_,List.mem_of_getElem? hi,by rw[←hw.1];exact hc⟩
 exact .inl ⟨_,List.mem_of_getElem? hj,hc⟩
end
section
variable {P:Program}{dst:Option Tmp}{ty:TypeId}{pos:String}{aft:Array Edge}{g:Option (Nat×Bool)}{ρ:Operand→AV}{H:List A4}{x y:Operand}
theorem ZB {T e:TypeId}{b i:Nat}{l:List (Int×AV)}{k:Int}{zv:Value}{za v:AV}(hT:mapOf P T=some e) (hz:zeroOf P e=some zv) (hza:∀F w,Bz F w za zv) (hx:ρ x= .map b) (hy:ρ y= .p (.int .i64 k)) (hi:H[i]?=some (.map b (Em l))) (hv:(Kz k l).getD za=v) :
  Dn P ⟨dst,.lookup T x y false,ty,pos,aft,g⟩ ρ H v H:=by subst hv;exact az hT hz hza hx hy hi
theorem Uq {T e:TypeId}{b i:Nat}{l:List (Int×AV)}{k:Int}{zv:Value}{za v:AV}{ok:Bool}(hT:mapOf P T=some e) (hz:zeroOf P e=some zv) (hza:∀F w,Bz F w za zv) (hx:ρ x= .map b) (hy:ρ y= .p (.int .i64 k)) (hi:H[i]?=some (.map b (Em l))) (hv:(Kz k l).getD za=v) (hok:(Kz k l).isSome=ok) :
  Dn P ⟨dst,.lookup T x y true,ty,pos,aft,g⟩ ρ H (.tup [v,.p (.bool ok)]) H:=by subst hv;subst hok;exact Xv hT hz hza hx hy hi
end
section
variable {P:Program}{dst:Option Tmp}{ty:TypeId}{pos:String}{aft:Array Edge}{g:Option (Nat×Bool)}{ρ:Operand→AV}{H:List A4}{x y:Operand}
theorem MO {T e:TypeId}{sz bytes:Nat}(hT:Ey P T=some (e,sz,bytes)) :
  DL P ⟨dst,.buildSlice T 0 #[],ty,pos,aft,g⟩ ρ H (Ly sz [] H) :=
 HA fun F w E hH hE=>by
  obtain⟨hu,i,hi,hs,hby⟩:=Dy hT;obtain⟨v,H',F',h1,h2,h3,h4⟩:=LK (F:=F) (w:=w) (sz:=sz) (c:=0) (rows:=[]) (vs:=[]) (T:=e) (H:=H) hH Av (by simp[Bf]) Av Av;refine⟨_,_,v,H',F',?_,h1,h2,h3,h4⟩;have hszr:(sizeOf e).run P w= .ok sz w:=by simp[sizeOf,typeInfo,hi,hs]
  simp only[execOp,Instr.buildSlice,Sem.run_bind,run_underlying hu,Result.andThen_ok,hszr];rw[if_neg Au];simp only[Sem.run_pure,Result.andThen_ok,Sem.run_bind,pure_bind,Nat.zero_mul,if_true];have e0:(Array.map (fun x=>(#[]:Array Value)[x % (#[]:Array Value).size]!) (Array.range 0))=(⟨[]⟩:Array Value):=by simp
  rw[e0];simp only[Array.map_empty,Instr.fill,newRow,newObj,Sem.run_bind,Sem.run,Result.andThen,Sem.run_pure];rfl
end
section
variable {P:Program}{dst:Option Tmp}{ty:TypeId}{pos:String}{aft:Array Edge}{g:Option (Nat×Bool)}{ρ:Operand→AV}{H:List A4}{x y:Operand}
theorem N7 {T U e:TypeId}{n1 n2:Nat}{rows:List (List PV)}(hT:Ey P T=some (e,n1,n2)) (hx:ρ x= .p (.lst rows)) (hy:ρ y= .p .nils):DL P ⟨dst,.binOp .eql T x y U,ty,pos,aft,g⟩ ρ H (RS (fun v=>∃b:Bool,v= .p (.bool b)∧(b=true→rows=[])) H) :=
 (XY (Dy hT).1 hx hy).mono fun r H' h=>by cases r<;>exact h
end
section
variable {P:Program}{r:Option Nat}{ops:Array Oper}{Q:Cj→BM→Prop}{k:Nat}{n:Nat}{τ:Nat→AV}{H:List A4}{D:List D1}{dst:Option Tmp}{ty:TypeId}{pos:String}{aft:Array Edge}{v:AV}{c:Call}{f:Operand}{fid:FuncId}{first caps A:List AV}
theorem PO (ho:ops[k]?=some ⟨dst,.call c,ty,pos,aft,none⟩) (hd:Gj dst n=true) (hc:c.callee= .value f) (hf:(ev τ f= .p (.fn fid)∧first=[]∧caps=[])∨ev τ f= .fn (.func fid) first caps) (h:BL P fid A [] (Xt v [])) (hA:Ff (first++c.args.toList.map (ev τ)++caps) A) (pan:Q (.panic v) ⟨n,τ,H,D⟩):AL P r ops k ⟨n,τ,H,D⟩ Q :=
 Ji ho hd hc hf (Hs:=[]) (Hf:=H) Av (h.args hA) (.inl rfl) (fun _ _ h=>h.elim) (fun v' H' ⟨h1,h2⟩=>by subst h1;subst h2;exact pan)
end
end Go.Abs
namespace Go.Eu
open Go.Abs
def Ke (k:Int):Int:=if k=5∨k=6∨k=7 then 1 else if k=11 then 2 else -1
theorem Zw {k:Int}{i:Int}(h:i=Ke k) (hi:0≤i):below k i=1:=by
 unfold Ke at h;unfold below;split at h
 ·rename_i hk;subst h;rcases hk with rfl | rfl | rfl<;>simp
 split at h
 ·rename_i hk;subst h;subst hk;simp
 omega
theorem VI {k:Int}{i:Int}(h:i≠Ke k):below k i=0:=by
 unfold Ke at h;unfold below;rw[if_neg];simp only[Bool.or_eq_true,Bool.and_eq_true,beq_iff_eq];intro hc;apply h;rcases hc with ⟨h1,h2⟩ | ⟨h1,h2⟩
 ·rw[if_pos (by rcases h2 with (h | h) | h<;>simp[h]),h1]
 rw[if_neg Au,if_pos h2,h1]
theorem YZ {k:Int}(h:¬(0≤k∧k<13)):Ke k= -1:=by
 unfold Ke;rw[if_neg Au,if_neg Au]
section
variable {σ:Type}
mutual
def E9 (st:σ→Int→Tm→σ×Bool):Tm→Int→σ→σ×Bool
 | .mk k i n l ks,d,s=>if (st s d (.mk k i n l ks)).2=false then ((st s d (.mk k i n l ks)).1,false) else FA st k d 0 (st s d (.mk k i n l ks)).1 ks
def FA (st:σ→Int→Tm→σ×Bool) (k d:Int):Nat→σ→List Tm→σ×Bool
 | _,s,[]=>(s,true)
 | j,s,t::ts=>if (E9 st t (d+below k j) s).2=false then ((E9 st t (d+below k j) s).1,false) else FA st k d (j+1) (E9 st t (d+below k j) s).1 ts
end
end
def P5 (ix nm:Bool) (lv ks bl:Int):List AV:=[.p (.bool ix),.p (.bool nm),.p (I lv),.p (I ks),.p (I bl)]
def QJ:List AV:=[P5 true false 0 0 (-1),P5 false false 0 0 (-1),P5 false false 1 0 (-1),P5 false true (-1) 0 (-1),P5 false false 0 2 (-1),P5 false false 0 2 1,P5 false false 0 2 1,P5 false false 0 2 1,P5 false false 0 3 (-1),P5 false false 0 1 (-1),P5 false false 0 1 (-1),P5 false false 0 3 2,P5 true false 0 0 (-1)].flatten
theorem mB {k:Int}(h:0≤k∧k<13):QJ[0+k.toNat*5+4]?=some (.p (I (Ke k))):=by
 have:k=0∨k=1∨k=2∨k=3∨k=4∨k=5∨k=6∨k=7∨k=8∨k=9∨k=10∨k=11∨k=12:=by omega
 rcases this with rfl | rfl | rfl | rfl | rfl | rfl | rfl | rfl | rfl | rfl | rfl | rfl | rfl<;>rfl
section
variable {σ:Type}{st:σ→Int→Tm→σ×Bool}{Inv:Nat→σ→Prop}
theorem Y2 {t:Tm}{d:Int}{s:σ}(h:(st s d t).2=false):E9 st t d s=((st s d t).1,false):=by
 obtain⟨k,i,n,l,ks⟩:=t;rw[E9,if_pos h]
theorem It {k i:Int}{n:ByteArray}{l:List CW}{ks:List Tm}{d:Int}{s:σ}(h:(st s d (.mk k i n l ks)).2=true):E9 st (.mk k i n l ks) d s=FA st k d 0 (st s d (.mk k i n l ks)).1 ks:=by
 rw[E9,if_neg (by simp[h])]
theorem Jj {k d:Int}{ts:List Tm}{i:Nat}{x:Tm}{s:σ}(hx:ts[i]?=some x) (h:(E9 st x (d+below k i) s).2=false):FA st k d i s (ts.drop i)=((E9 st x (d+below k i) s).1,false):=by
 rw[Cd hx,FA,if_pos h]
theorem ME {k d:Int}{ts:List Tm}{i:Nat}{x:Tm}{s:σ}(hx:ts[i]?=some x) (h:(E9 st x (d+below k i) s).2=true):FA st k d i s (ts.drop i)=FA st k d (i+1) (E9 st x (d+below k i) s).1 (ts.drop (i+1)):=by
 rw[Cd hx,FA,if_neg (by simp[h])]
mutual
theorem KE (hI:∀m s d t,Inv (m+1) s→Inv m (st s d t).1):∀(t:Tm) (d:Int) (s:σ) (m:Nat),Inv (m+size t) s→(E9 st t d s).2=true→Inv m (E9 st t d s).1
 | .mk k i n l ks,d,s,m,h,hv=>by
  rw[size,show m+(1+BB ks)=(m+BB ks)+1 by omega] at h;have h1:=hI _ _ d (.mk k i n l ks) h;rw[E9] at hv ⊢;split at hv
  ·cases hv
  rename_i hc;rw[if_neg hc];exact RL hI ks k d 0 _ m h1 hv
theorem RL (hI:∀m s d t,Inv (m+1) s→Inv m (st s d t).1):∀(ts:List Tm) (k d:Int) (j:Nat) (s:σ) (m:Nat),Inv (m+BB ts) s→(FA st k d j s ts).2=true→Inv m (FA st k d j s ts).1
 | [],k,d,j,s,m,h,hv=>by simpa [FA,BB] using h
 | t::ts,k,d,j,s,m,h,hv=>by
  rw[BB,show m+(size t+BB ts)=(m+BB ts)+size t by omega] at h;rw[FA] at hv ⊢;split at hv
  ·cases hv
  rename_i hc;rw[if_neg hc];have:=KE hI t (d+below k j) s _ h (by simpa using hc);exact RL hI ts k d (j+1) _ m this hv
end
end
def bP (s:Int) (d:Int) (t:Tm):Int×Bool:=(wr (s+1),true)
mutual
theorem Yr (B:Int) (hB:B≤4611686018427387904):∀(t:Tm) (d s:Int),0≤s→s+size t<B→E9 bP t d s=(s+size t,true)
 | .mk k i n l ks,d,s,h0,h=>by
  rw[size] at h ⊢;rw[It rfl];simp only[bP];rw[EK ⟨by omega,by omega⟩,WE B hB ks k d 0 (s+1) Au Au];congr 1;omega
theorem WE (B:Int) (hB:B≤4611686018427387904):∀(ts:List Tm) (k d:Int) (j:Nat) (s:Int),0≤s→s+BB ts<B→FA bP k d j s ts=(s+BB ts,true)
 | [],k,d,j,s,h0,h=>by simp[FA,BB]
 | t::ts,k,d,j,s,h0,h=>by
  rw[BB] at h ⊢;rw[FA,Yr B hB t _ s h0 Au];simp only;rw[if_neg Av,WE B hB ts k d (j+1) (s+size t) Au Au];congr 1;omega
end
def YA (xs ys:List Tm) (i:Nat):Prop:=ys.length=xs.length∧∀k,k<xs.length→ys[k]?=if k<i∨xs.length - 1 - k<i then xs[xs.length - 1 - k]? else xs[k]?
theorem bH (xs:List Tm):YA xs xs 0:=⟨rfl,fun k hk=>by rw[if_neg Au]⟩
theorem cP {xs ys:List Tm}{i:Nat}{a b:Tm}(h:YA xs ys i) (hi:i<xs.length - 1 - i) (ha:ys[i]?=some a) (hb:ys[xs.length - 1 - i]?=some b):YA xs ((ys.set i b).set (xs.length - 1 - i) a) (i+1):=by
 obtain⟨hl,h⟩:=h;refine⟨by simp[hl],fun k hk=>?_⟩;have e1:=h i Au;rw[if_neg Au,ha] at e1;have e2:=h (xs.length - 1 - i) Au;rw[if_neg Au,hb] at e2;by_cases k1:k=xs.length - 1 - i
 ·subst k1;rw[if_pos Au,List.getElem?_set_self Ao,e1];congr 1;omega
 rw[List.getElem?_set_ne (fun e=>k1 e.symm)];by_cases k2:k=i
 ·subst k2;rw[if_pos Au,List.getElem?_set_self Au,e2]
 rw[List.getElem?_set_ne (fun e=>k2 e.symm),h k hk];by_cases k3:k<i∨xs.length - 1 - k<i
 ·rw[if_pos k3,if_pos Au]
 rw[if_neg k3,if_neg Au]
theorem bV {xs ys:List Tm}{i:Nat}(h:YA xs ys i) (hi:xs.length - 1 - i≤i):ys=xs.reverse:=by
 obtain⟨hl,h⟩:=h;apply List.ext_getElem?;intro k;by_cases hk:k<xs.length
 ·rw[h k hk,List.getElem?_reverse hk];by_cases k3:k<i∨xs.length - 1 - k<i
  ·rw[if_pos k3]
  rw[if_neg k3];congr 1;omega
 rw[List.getElem?_eq_none Au,List.getElem?_eq_none Ao]
end Go.Eu
namespace Go.Abs
def Wz (mkv:Nat→AV) (cs:List AV):EH→List A4→Prop
 | .val v,H'=>∃b,v=mkv b∧H'=[.box b cs]
 | .panic _,_=>False
section
variable {P:Program}{ops:Array Oper}{n:Nat}{τ₀ τ:Nat→AV}{D:List D1}{Q:Cj→BM→Prop}{opn:Nat→Bool}{k:Nat}{H:List A4}{dst:Option Tmp}{ty:TypeId}{pos:String}{aft:Array Edge}{c:Call}{f:Operand}{fid:FuncId}{first caps A:List AV}{mkv:Nat→AV}{cs:List AV}
theorem Ph {rd ef effs fx}(fx':List (Nat×Sp)) (ho:ops[k]?=some ⟨dst,.call c,ty,pos,aft,none⟩) (hn:opn k=true)
  (hc:c.callee= .value f) (hf:(ev τ f= .p (.fn fid)∧first=[]∧caps=[])∨ev τ f= .fn (.func fid) first caps) (h:BL P fid A [] (Wz mkv cs)) (hA:first++c.args.toList.map (ev τ)++caps=A∨(first++c.args.toList.map (ev τ)++caps).map norm=A) (haft:E5 ops k (fx'.map (·.1))=true)
  (next:∀b,J6 ops k H (.box b cs::H) rd∧Ho k (.eff (mkv b) (.box b cs::H)) fx∧Dr P ops n τ₀ D Q opn (k+1) (put τ dst (mkv b)) (.box b cs::H) rd ((k,H,.box b cs::H)::ef) (true::effs) (fx'++fx)):Dr P ops n τ₀ D Q opn k τ H rd ef effs fx :=
 Lj fx' ho hn (GC (H:=H) (Hs:=[]) (Hf:=H) hc hf Av h hA) haft ⟨_,_,_,⟨0,rfl,rfl⟩,rfl⟩ (fun v H' ⟨_,h,_⟩=>h.elim) (fun v H' ⟨Hs',⟨b,h1,h2⟩,h3⟩=>by subst h1;subst h2;subst h3;exact next b)
theorem PR {r:Option Nat}(ho:ops[k]?=some ⟨dst,.call c,ty,pos,aft,none⟩) (hd:Gj dst n=true)
  (hc:c.callee= .value f) (hf:(ev τ f= .p (.fn fid)∧first=[]∧caps=[])∨ev τ f= .fn (.func fid) first caps) (h:BL P fid A [] (Wz mkv cs)) (hA:Ff (first++c.args.toList.map (ev τ)++caps) A)
  (next:∀b,AL P r ops (k+1) ⟨n,put τ dst (mkv b),.box b cs::H,D⟩ Q):AL P r ops k ⟨n,τ,H,D⟩ Q :=
 Ji ho hd hc hf (Hs:=[]) (Hf:=H) Av (h.args hA) (.inl rfl) (fun v Hs' ⟨b,h1,h2⟩=>by subst h1;subst h2;exact next b) (fun _ _ h=>h.elim)
end
def Oa {α:Type}(mkv:α→AV) (mkp:Int→AV) (C:α→List A4→Prop) (x:Except Int α):EH→List A4→Prop
 | .val v,H'=>∃a,x= .ok a∧v=mkv a∧C a H'
 | .panic v,_=>∃e,x= .error e∧v=mkp e
theorem DL.permR {P:Program}{ρ:Operand→AV}{o:Oper}{H:List A4}{R R':EH→List A4→Prop}(h:DL P o ρ H R) (hp:∀r H1,R r H1→∃H2,H1.Perm H2∧R' r H2):DL P o ρ H R':=by
 intro r F S a w hs hH hρ hd;have:=h r F S a w hs hH hρ hd;refine Iv this ?_ ?_
 ·rintro a' w' ⟨v',H1,F',hR,hs',ht⟩;obtain⟨H2,hp,hR'⟩:=hp _ _ hR;exact⟨v',H2,F',hR',⟨hs'.size,hs'.tmp,hs'.heap.perm hp,hs'.defs⟩,{ ht with keys:=fun o ho=>ht.keys o (hp.mem_iff.2 ho) }⟩
 rintro e a' w' ⟨v',H1,F',u,hR,h1,h2,hs',ht⟩;obtain⟨H2,hp,hR'⟩:=hp _ _ hR;exact⟨v',H2,F',u,hR',h1,h2,⟨hs'.size,hs'.tmp,hs'.heap.perm hp,hs'.defs⟩,{ ht with keys:=fun o ho=>ht.keys o (hp.mem_iff.2 ho) }⟩
section
variable {P:Program}{ops:Array Oper}{n:Nat}{τ₀ τ:Nat→AV}{D:List D1}{Q:Cj→BM→Prop}{opn:Nat→Bool}{k:Nat}{T:List A4}{dst:Option Tmp}{ty:TypeId}{pos:String}{aft:Array Edge}{c:Call}{f:Operand}{fid:FuncId}{first caps A:List AV}
 {α:Type} {mkv:α→AV} {mkp:Int→AV} {C:α→List A4→Prop} {x:Except Int α}
theorem rK {r:Option Nat}(fr:List A4) (ho:ops[k]?=some ⟨dst,.call c,ty,pos,aft,none⟩) (hd:Gj dst n=true)
  (hc:c.callee= .value f) (hf:(ev τ f= .p (.fn fid)∧first=[]∧caps=[])∨ev τ f= .fn (.func fid) first caps) (h:BL P fid A T (Oa mkv mkp C x)) (hA:Ff (first++c.args.toList.map (ev τ)++caps) A)
  (next:∀a T',x= .ok a→C a T'→AL P r ops (k+1) ⟨n,put τ dst (mkv a),fr++T',D⟩ Q) (pan:∀e T',x= .error e→Q (.panic (mkp e)) ⟨n,τ,T'++fr,D⟩):AL P r ops k ⟨n,τ,fr++T,D⟩ Q :=
 JF fr ho hd hc hf h hA (fun v T' ⟨a,h1,h2,h3⟩=>by subst h2;exact next a T' h1 h3) (fun v T' ⟨e,h1,h2⟩=>by subst h2;exact pan e T' h1)
theorem vN {rd ef effs fx}(fr:List A4) (ho:ops[k]?=some ⟨dst,.call c,ty,pos,aft,none⟩) (hn:opn k=true)
  (hc:c.callee= .value f) (hf:(ev τ f= .p (.fn fid)∧first=[]∧caps=[])∨ev τ f= .fn (.func fid) first caps) (h:BL P fid A T (Oa mkv mkp C x)) (hA:Ff (first++c.args.toList.map (ev τ)++caps) A) (haft:E5 ops k []=true) (chk:Mb ops n (true::effs).reverse=true) (hfx:Oc k fx=true) (owe:J6 ops k (fr++T) (fr++T) rd)
  (next:∀a T',x= .ok a→C a T'→J6 ops k (fr++T) (fr++T') rd∧Ho k (.eff (mkv a) (fr++T')) fx∧Dr P ops n τ₀ D Q opn (k+1) (put τ dst (mkv a)) (fr++T') rd ((k,fr++T,fr++T')::ef) (true::effs) fx)
  (pan:∀e,x= .error e→∀τ' T',(∀t,(∀(k:Nat) o,ops[k]?=some o→o.dst≠some t)→τ' t=τ₀ t)→Q (.panic (mkp e)) ⟨n,τ',T'++fr,D⟩):Dr P ops n τ₀ D Q opn k τ (fr++T) rd ef effs fx:=by
 have hop:DL P ⟨dst,.call c,ty,pos,aft,none⟩ (ev τ) (fr++T) (fun r H'=>∃T',Oa mkv mkp C x r T'∧(match r with | .val _=>H'=fr++T' | .panic _=>H'=T'++fr)):=by
  refine DL.permR (GC (H:=fr++T) (Hs:=T) (Hf:=fr) hc hf List.perm_append_comm (h.args hA) (.inl O)) ?_;rintro r H1 ⟨T',hR,rfl⟩;cases r with
  | val v=>exact⟨fr++T',List.perm_append_comm,T',hR,rfl⟩
  | panic v=>exact⟨T'++fr,List.Perm.refl _,T',hR,rfl⟩
 by_cases hx:∃a T',x= .ok a∧C a T'
 ·obtain⟨a,T',hx,hC⟩:=hx;refine Dr.opn _ [] ho hn Aw hop haft ⟨mkv a,_,T',⟨a,hx,O,hC⟩,O⟩ ?_ ?_ ?_ ?_
  ·rintro v H' ⟨T',⟨a',h1,h2,h3⟩,rfl⟩;exact(next a' T' h1 h3).1
  ·rintro v H' ⟨T',⟨a',h1,h2,h3⟩,rfl⟩;subst h2;exact(next a' T' h1 h3).2.1
  ·rintro v H' ⟨T',⟨a',h1,h2,h3⟩,rfl⟩;subst h2;exact(next a' T' h1 h3).2.2
  rintro v H' ⟨T',⟨e,h1,h2⟩,rfl⟩ τ' hτ;subst h2;exact pan e h1 τ' T' hτ
 refine Dr.pan _ ho hn Aw hop haft chk hfx ?_ owe ?_
 ·rintro v H' ⟨T',⟨a',h1,h2,h3⟩,rfl⟩;exact hx ⟨a',T',h1,h3⟩
 rintro v H' ⟨T',⟨e,h1,h2⟩,rfl⟩ τ' hτ;subst h2;exact pan e h1 τ' T' hτ
end
section
variable {P:Program}{ops:Array Oper}{n:Nat}{τ₀ τ:Nat→AV}{D:List D1}{Q:Cj→BM→Prop}{opn:Nat→Bool}{k:Nat}{H Hs:List A4}{dst:Option Tmp}{ty:TypeId}{pos:String}{aft:Array Edge}{c:Call}{f:Operand}{fid:FuncId}{first caps A:List AV}
 {α:Type} {mkv:α→AV} {mkp:Int→AV} {C:α→List A4→Prop} {x:Except Int α}
theorem GR {r:Option Nat}(is:List Nat) (ho:ops[k]?=some ⟨dst,.call c,ty,pos,aft,none⟩) (hd:Gj dst n=true)
  (hc:c.callee= .value f) (hf:(ev τ f= .p (.fn fid)∧first=[]∧caps=[])∨ev τ f= .fn (.func fid) first caps) (h:BL P fid A Hs (Oa mkv mkp C x)) (hg:GF H is Hs) (hn:is.Nodup) (hA:Ff (first++c.args.toList.map (ev τ)++caps) A)
  (hl:∀a T',C a T'→T'.length=Hs.length)
  (next:∀a T',x= .ok a→C a T'→AL P r ops (k+1) ⟨n,put τ dst (mkv a),MZ H is T',D⟩ Q) (pan:∀e H',x= .error e→Q (.panic (mkp e)) ⟨n,τ,H'++DN is 0 H,D⟩):AL P r ops k ⟨n,τ,H,D⟩ Q :=
 kz is ho hd hc hf h hg hn hA (fun v T' ⟨a,h1,h2,h3⟩=>by subst h2;exact⟨hl a T' h3,next a T' h1 h3⟩) (fun v T' ⟨e,h1,h2⟩=>by subst h2;exact pan e T' h1)
theorem W6 {rd ef effs fx}(is:List Nat) (ho:ops[k]?=some ⟨dst,.call c,ty,pos,aft,none⟩) (hn:opn k=true)
  (hc:c.callee= .value f) (hf:(ev τ f= .p (.fn fid)∧first=[]∧caps=[])∨ev τ f= .fn (.func fid) first caps) (h:BL P fid A Hs (Oa mkv mkp C x)) (hg:GF H is Hs) (hnd:is.Nodup) (hA:Ff (first++c.args.toList.map (ev τ)++caps) A)
  (hl:∀a T',C a T'→T'.length=Hs.length) (haft:E5 ops k []=true) (chk:Mb ops n (true::effs).reverse=true) (hfx:Oc k fx=true) (owe:J6 ops k H H rd)
  (next:∀a T',x= .ok a→C a T'→J6 ops k H (MZ H is T') rd∧Ho k (.eff (mkv a) (MZ H is T')) fx∧Dr P ops n τ₀ D Q opn (k+1) (put τ dst (mkv a)) (MZ H is T') rd ((k,H,MZ H is T')::ef) (true::effs) fx)
  (pan:∀e,x= .error e→∀τ' H',(∀t,(∀(k:Nat) o,ops[k]?=some o→o.dst≠some t)→τ' t=τ₀ t)→Q (.panic (mkp e)) ⟨n,τ',H'++DN is 0 H,D⟩):Dr P ops n τ₀ D Q opn k τ H rd ef effs fx:=by
 have hop:DL P ⟨dst,.call c,ty,pos,aft,none⟩ (ev τ) H (fun r H'=>∃T',Oa mkv mkp C x r T'∧(match r with | .val _=>H'=MZ H is T' | .panic _=>H'=T'++DN is 0 H)):=by
  refine DL.permR (GC hc hf (DQ hnd hg) (h.args hA) (.inl O)) ?_;rintro r H1 ⟨T',hR,rfl⟩;cases r with
  | val v=>obtain⟨a,h1,h2,h3⟩:=hR;exact⟨_,(Nc hnd hg (hl a T' h3)).symm,T',⟨a,h1,h2,h3⟩,rfl⟩
  | panic v=>exact⟨_,List.Perm.refl _,T',hR,rfl⟩
 by_cases hx:∃a T',x= .ok a∧C a T'
 ·obtain⟨a,T',hx,hC⟩:=hx;refine Dr.opn _ [] ho hn Aw hop haft ⟨mkv a,_,T',⟨a,hx,O,hC⟩,O⟩ ?_ ?_ ?_ ?_
  ·rintro v H' ⟨T',⟨a',h1,h2,h3⟩,rfl⟩;exact(next a' T' h1 h3).1
  ·rintro v H' ⟨T',⟨a',h1,h2,h3⟩,rfl⟩;subst h2;exact(next a' T' h1 h3).2.1
  ·rintro v H' ⟨T',⟨a',h1,h2,h3⟩,rfl⟩;subst h2;exact(next a' T' h1 h3).2.2
  rintro v H' ⟨T',⟨e,h1,h2⟩,rfl⟩ τ' hτ;subst h2;exact pan e h1 τ' T' hτ
 refine Dr.pan _ ho hn Aw hop haft chk hfx ?_ owe ?_
 ·rintro v H' ⟨T',⟨a',h1,h2,h3⟩,rfl⟩;exact hx ⟨a',T',h1,h3⟩
 rintro v H' ⟨T',⟨e,h1,h2⟩,rfl⟩ τ' hτ;subst h2;exact pan e h1 τ' T' hτ
end
theorem Ds:∀xs:List AV,Ff xs xs
 | []=>HW
 | x::xs=>aw (we rfl) (Ds xs)
def u5 (ops:Array Oper) (t:Nat):Bool:=ops.toList.all fun o=>match o.dst with | some u=> !(Nat.beq u t) | none=>true
theorem TR {ops:Array Oper}{t:Nat}(h:u5 ops t=true) (k:Nat) (o:Oper) (ho:ops[k]?=some o):o.dst≠some t:=by
 intro e;have hm:o∈ops.toList:=by
  rw[←Array.getElem?_toList] at ho;exact List.mem_of_getElem? ho
 have:=List.all_eq_true.1 h o hm;simp[e] at this
theorem LD {L Hs:List A4}{is:List Nat}(X:List A4) (hn:is.Nodup) (hg:GF L is Hs):(X++L).Perm (Hs++(X++DN is 0 L)):=by
 have h:=(DQ hn hg).append_left X;refine h.trans ?_;rw[←List.append_assoc,←List.append_assoc];exact List.perm_append_comm.append_right _
theorem D7.eq {P:Program}{f:FuncId}{caps:List AV}{m:OA}{H X:List A4}{R:List A4→Prop}(h:D7 P f caps m H (fun H'=>H'=X)) (hq:R X):D7 P f caps m H R:=by
 refine⟨h.1,fun F w vs u hH hr hm=>?_⟩;refine(h.2 F w vs u hH hr hm).mono ?_;rintro e u' w' ⟨v,H',F',h1,h2,rfl,h3,h4⟩;exact⟨v,_,F',h1,h2,hq,h3,h4⟩
end Go.Abs
namespace Go.Eu
open Go.Abs
mutual
def Vp:Tm→Prop
 | .mk k i _ _ ks=>(k=0→0≤i∧i<1099511627776)∧Uh ks
def Uh:List Tm→Prop
 | []=>True
 | t::ts=>Vp t∧Uh ts
end
theorem Nh:∀{ts:List Tm}{i:Nat}{t:Tm},Uh ts→ts[i]?=some t→Vp t
 | [],i,t,_,h=>by simp at h
 | a::ts,0,t,hn,h=>by simp at h;subst h;exact hn.1
 | a::ts,i+1,t,hn,h=>by simp at h;exact Nh hn.2 h
def QK:Tm→Tm
 | .mk k i n l _=> .mk k i n l []
def Ix (i:Int):Except Int Tm:=if i > 65535 then .error 24 else .ok (Cs i)
def Zf (n m:Int):Except Int Int:=if wr (n+m) > 4096 then .error 5 else .ok (wr (n+m))
def YW (b fr:Int) (t:Tm) (d:Int):Except Int Tm :=
 if t.index - d<fr then .ok (QK t) else if b<0∧t.index - d<fr - b then .error 24 else Ix (t.index+b)
def RZ {α β:Type}(f:α→β):Except Int α→Except Int β
 | .error e=> .error e
 | .ok x=> .ok (f x)
def Eb {α β:Type}(x:Except Int α) (f:α→Except Int β):Except Int β :=
 match x with
 | .error e=> .error e
 | .ok x=>f x
def KV (rep:Tm→Int→Except Int Tm) (s:Unit) (t:Tm) (d:Int):Except Int ((Tm×Bool)×Unit) :=
 if t.kind=0 then RZ (fun x=>((x,true),())) (rep t d) else .ok ((QK t,false),())
mutual
def EE {σ:Type}(vis:σ→Tm→Int→Except Int ((Tm×Bool)×σ)):Tm→Int→σ→Except Int (Tm×σ)
 | .mk k i n l ks,d,s=>Eb (vis s (.mk k i n l ks) d) fun r =>
   if r.1.2=true then .ok (r.1.1,r.2) else Eb (Dv vis k 0 ks d r.2) fun q=> .ok (PD r.1.1 q.1,q.2)
def Dv {σ:Type}(vis:σ→Tm→Int→Except Int ((Tm×Bool)×σ)) (k:Int):Nat→List Tm→Int→σ→Except Int (List Tm×σ)
 | _,[],_,s=> .ok ([],s)
 | j,t::ts,d,s=>Eb (EE vis t (d+below k j) s) fun r=>Eb (Dv vis k (j+1) ts d r.2) fun q=> .ok (r.1::q.1,q.2)
end
section
variable {σ:Type}{vis:σ→Tm→Int→Except Int ((Tm×Bool)×σ)}
theorem Fe {t:Tm}{d:Int}{s q:σ}{o:Tm}(h:vis s t d= .ok ((o,true),q)):EE vis t d s= .ok (o,q):=by
 obtain⟨k,i,n,l,ks⟩:=t;simp[EE,h,Eb]
theorem HH {t:Tm}{d e:Int}{s:σ}(h:vis s t d= .error e):EE vis t d s= .error e:=by
 obtain⟨k,i,n,l,ks⟩:=t;simp[EE,h,Eb]
theorem IF {k i d:Int}{n:ByteArray}{l:List CW}{ks:List Tm}{s q q':σ}{o:Tm}{ys:List Tm}(h:vis s (.mk k i n l ks) d= .ok ((o,false),q)) (hk:Dv vis k 0 ks d q= .ok (ys,q')):EE vis (.mk k i n l ks) d s= .ok (PD o ys,q'):=by
 simp[EE,h,Eb,hk]
theorem JA {k i d e:Int}{n:ByteArray}{l:List CW}{ks:List Tm}{s q:σ}{o:Tm}(h:vis s (.mk k i n l ks) d= .ok ((o,false),q)) (hk:Dv vis k 0 ks d q= .error e):EE vis (.mk k i n l ks) d s= .error e:=by
 simp[EE,h,Eb,hk]
def TO (vis:σ→Tm→Int→Except Int ((Tm×Bool)×σ)) (k:Int) (ts:List Tm) (d:Int) (q0:σ) (i:Nat) (ys:List Tm) (q:σ):Prop :=
 ys.length=i∧Dv vis k 0 ts d q0=Eb (Dv vis k i (ts.drop i) d q) fun r=> .ok (ys++r.1,r.2)
theorem TO.zero (k:Int) (ts:List Tm) (d:Int) (q0:σ):TO vis k ts d q0 0 [] q0:=by
 refine⟨O,?_⟩;simp only[List.drop_zero,List.nil_append];cases Dv vis k 0 ts d q0<;>rfl
theorem TO.err {k d e:Int}{ts ys:List Tm}{q0 q:σ}{i:Nat}{x:Tm}(h:TO vis k ts d q0 i ys q) (hx:ts[i]?=some x) (hb:EE vis x (d+below k i) q= .error e):Dv vis k 0 ts d q0= .error e:=by
 rw[h.2,Cd hx,Dv,hb];rfl
theorem TO.succ {k d:Int}{ts ys:List Tm}{q0 q q':σ}{i:Nat}{x y:Tm}(h:TO vis k ts d q0 i ys q) (hx:ts[i]?=some x) (hb:EE vis x (d+below k i) q= .ok (y,q')):TO vis k ts d q0 (i+1) (ys++[y]) q':=by
 refine⟨by simp[h.1],?_⟩;rw[h.2,Cd hx,Dv,hb];simp only[Eb];cases Dv vis k (i+1) (ts.drop (i+1)) d q'<;>simp
theorem TO.fin {k d:Int}{ts ys:List Tm}{q0 q:σ}{i:Nat}(h:TO vis k ts d q0 i ys q) (hi:ts.length≤i):Dv vis k 0 ts d q0= .ok (ys,q):=by
 rw[h.2,List.drop_eq_nil_of_le hi,Dv];simp[Eb]
end
theorem aL {ys:List Tm}{i m:Nat}{x:Tm}(h:ys.length=i) (hm:0<m):(ys++List.replicate m BN).set i x=(ys++[x])++List.replicate (m - 1) BN:=by
 subst h;cases m with
 | zero=>omega
 | succ m=>simp[List.replicate_succ]
section
variable {b fr d k i:Int}{n:ByteArray}{l:List CW}{ks:List Tm}
theorem Xa (h:i - d<fr):YW b fr (.mk k i n l ks) d= .ok (.mk k i n l []):=by simp[YW,Tm.index,QK,h]
theorem eb (h:¬i - d<fr) (h2:b<0) (h3:i - d<fr - b):YW b fr (.mk k i n l ks) d= .error 24:=by unfold YW;exact(if_neg h).trans (if_pos ⟨h2,h3⟩)
theorem XZ (h:¬i - d<fr) (h2:¬(b<0∧i - d<fr - b)):YW b fr (.mk k i n l ks) d=Ix (i+b):=by unfold YW;exact(if_neg h).trans (if_neg h2)
variable {rep:Tm→Int→Except Int Tm}{s:Unit}
theorem LH {e:Int}(h:k=0) (hr:rep (.mk k i n l ks) d= .error e):KV rep s (.mk k i n l ks) d= .error e:=by unfold KV;exact(if_pos h).trans (by rw[hr];rfl)
theorem Kg {x:Tm}(h:k=0) (hr:rep (.mk k i n l ks) d= .ok x):KV rep s (.mk k i n l ks) d= .ok ((x,true),()):=by unfold KV;exact(if_pos h).trans (by rw[hr];rfl)
theorem Lz (h:k≠0):KV rep s (.mk k i n l ks) d= .ok ((.mk k i n l [],false),()):=by unfold KV;exact(if_neg h).trans rfl
end
def Io (b fr:Int) (t:Tm):Except Int Tm:=RZ Prod.fst (EE (KV (YW b fr)) t 0 ())
theorem UM {α β:Type}{f:α→β}{x:Except Int α}{a:α}(h:x= .ok a):RZ f x= .ok (f a):=by rw[h];rfl
theorem QD {α β:Type}{f:α→β}{x:Except Int α}{e:Int}(h:x= .error e):RZ f x= .error e:=by rw[h];rfl
def J5 (vs:List Tm) (dp ti d:Int):Int:=if 0≤wr (wr (ti - d) - dp)∧wr (wr (ti - d) - dp)<(vs.length:Int) then wr (wr (ti - d) - dp) else -1
theorem kM {vs:List Tm}{dp ti d:Int}(h1:0≤wr (wr (ti - d) - dp)) (h2:wr (wr (ti - d) - dp)<(vs.length:Int)):J5 vs dp ti d=wr (wr (ti - d) - dp):=if_pos ⟨h1,h2⟩
theorem oO {vs:List Tm}{dp ti d:Int}(h:¬(0≤wr (wr (ti - d) - dp)∧wr (wr (ti - d) - dp)<(vs.length:Int))):J5 vs dp ti d= -1:=if_neg h
theorem XR {vs:List Tm}{dp ti d:Int}(h:0≤J5 vs dp ti d):J5 vs dp ti d<(vs.length:Int):=by
 unfold J5 at *;split<;>omega
def XJ (vs:List Tm) (sz:List Int) (dp:Int) (t:Tm) (d:Int):Int :=
 if t.kind=0∧0≤J5 vs dp t.index d then sz.getD (J5 vs dp t.index d).toNat 0 else 1
def To (vs:List Tm) (sz:List Int) (dp:Int) (n:Int) (t:Tm) (d:Int):Except Int ((Tm×Bool)×Int) :=
 RZ (fun m=>((BN,decide (t.kind=0)),m)) (Zf n (XJ vs sz dp t d))
def MJ (vs:List Tm) (dp:Int) (t:Tm) (d:Int):Except Int Tm :=
 if 0≤J5 vs dp t.index d then Io (wr (dp+d)) 0 (vs.getD (J5 vs dp t.index d).toNat BN)
 else if wr (t.index - d)<dp then .ok (QK t) else Ix (wr (t.index - vs.length))
def Kt (vs:List Tm) (dp:Int) (t:Tm):Except Int Tm :=
 Eb (EE (To vs (vs.map fun v=>(size v:Int)) dp) t 0 0) fun _=>RZ Prod.fst (EE (KV (MJ vs dp)) t 0 ())
def He (t:Tm) (vs:List Tm) (dp:Int):Tm×Int :=
 match Kt vs dp t with
 | .error e=>(BN,e)
 | .ok x=>if FU x > 200 then (BN,7) else (x,0)
section
variable {vs:List Tm}{sz:List Int}{dp n d k i r m e:Int}{nm:ByteArray}{l:List CW}{ks:List Tm}
theorem Rs (hm:XJ vs sz dp (.mk k i nm l ks) d=m) (hz:Zf n m= .ok r):To vs sz dp n (.mk k i nm l ks) d= .ok ((BN,decide (k=0)),r):=by
 subst hm;exact UM hz
theorem PU (hm:XJ vs sz dp (.mk k i nm l ks) d=m) (hz:Zf n m= .error e):To vs sz dp n (.mk k i nm l ks) d= .error e:=by
 subst hm;exact QD hz
theorem S0 (h:k=0∧0≤J5 vs dp i d) (hx:sz[(J5 vs dp i d).toNat]?=some m):XJ vs sz dp (.mk k i nm l ks) d=m:=by
 unfold XJ;refine(if_pos h).trans ?_;rw[List.getD_eq_getElem?_getD];exact(congrArg (fun o=>Option.getD o 0) hx)
theorem R8 (h:¬(k=0∧0≤J5 vs dp i d)):XJ vs sz dp (.mk k i nm l ks) d=1:=by
 unfold XJ;exact if_neg h
theorem TH {v:Tm}(h:0≤J5 vs dp i d) (hx:vs[(J5 vs dp i d).toNat]?=some v):MJ vs dp (.mk k i nm l ks) d=Io (wr (dp+d)) 0 v:=by
 unfold MJ;refine(if_pos h).trans ?_;rw[List.getD_eq_getElem?_getD];exact(congrArg (fun o=>Io (wr (dp+d)) 0 (Option.getD o BN)) hx)
theorem ZK (h:¬0≤J5 vs dp i d) (h2:wr (i - d)<dp):MJ vs dp (.mk k i nm l ks) d= .ok (.mk k i nm l []):=by
 unfold MJ;exact(if_neg h).trans ((if_pos h2).trans rfl)
theorem Xp (h:¬0≤J5 vs dp i d) (h2:¬wr (i - d)<dp):MJ vs dp (.mk k i nm l ks) d=Ix (wr (i - vs.length)):=by
 unfold MJ;exact(if_neg h).trans (if_neg h2)
end
theorem Jm {t:Tm}{vs:List Tm}{dp e:Int}(h:Kt vs dp t= .error e):He t vs dp=(BN,e):=by unfold He;rw[h]
theorem RY {t x:Tm}{vs:List Tm}{dp:Int}(h:Kt vs dp t= .ok x) (hd:FU x > 200):He t vs dp=(BN,7):=by unfold He;rw[h];exact if_pos hd
theorem WV {t x:Tm}{vs:List Tm}{dp:Int}(h:Kt vs dp t= .ok x) (hd:¬FU x > 200):He t vs dp=(x,0):=by unfold He;rw[h];exact if_neg hd
theorem Nq {t x:Tm}{vs:List Tm}{dp:Int}{a:Tm×Int}{b:Unit}(h1:EE (To vs (vs.map fun v=>(size v:Int)) dp) t 0 0= .ok a) (h2:EE (KV (MJ vs dp)) t 0 ()= .ok (x,b)):Kt vs dp t= .ok x:=by
 unfold Kt;rw[h1];exact UM h2
theorem RP {t:Tm}{vs:List Tm}{dp e:Int}(h1:EE (To vs (vs.map fun v=>(size v:Int)) dp) t 0 0= .error e):Kt vs dp t= .error e:=by
 unfold Kt;rw[h1];rfl
theorem RF {t:Tm}{vs:List Tm}{dp e:Int}{a:Tm×Int}(h1:EE (To vs (vs.map fun v=>(size v:Int)) dp) t 0 0= .ok a) (h2:EE (KV (MJ vs dp)) t 0 ()= .error e):Kt vs dp t= .error e:=by
 unfold Kt;rw[h1];exact QD h2
theorem bp:∀{ts:List Tm},(∀t∈ts,Nd t)→Mt ts
 | [],_=>trivial
 | t::ts,h=>⟨h t Av,bp fun x hx=>h x (by simp[hx])⟩
section
variable {σ:Type}{vis:σ→Tm→Int→Except Int ((Tm×Bool)×σ)}
mutual
theorem Qk (hv:∀s t d r,Nd t→Vp t→vis s t d= .ok r→Nd r.1.1):∀(t:Tm) (d:Int) (s:σ) (r:Tm×σ),Nd t→Vp t→EE vis t d s= .ok r→Nd r.1
 | .mk k i n l ks,d,s,r,h1,h2,h=>by
  unfold EE Eb at h;split at h
  ·cases h
  rename_i r1 hr;have hn:=hv _ _ _ _ h1 h2 hr;simp only at h;split at h
  ·injection h with h;subst h;exact hn
  split at h
  ·cases h
  rename_i q hq;injection h with h;subst h;obtain⟨g1,g2⟩:=Tg hv ks k 0 d r1.2 q h1.2.2.2.2.1 h2.2 hq;obtain⟨⟨o,dn⟩,q1⟩:=r1;obtain⟨ok,oi,on,ol,os⟩:=o;exact⟨hn.1,hn.2.1,hn.2.2.1,by rw[g2];exact h1.2.2.2.1,g1,hn.2.2.2.2.2⟩
theorem Tg (hv:∀s t d r,Nd t→Vp t→vis s t d= .ok r→Nd r.1.1):∀(ts:List Tm) (k:Int) (j:Nat) (d:Int) (s:σ) (r:List Tm×σ),Mt ts→Uh ts→Dv vis k j ts d s= .ok r→Mt r.1∧r.1.length=ts.length
 | [],k,j,d,s,r,h1,h2,h=>by
  unfold Dv at h;injection h with h;subst h;exact⟨trivial,rfl⟩
 | t::ts,k,j,d,s,r,h1,h2,h=>by
  unfold Dv Eb at h;split at h
  ·cases h
  rename_i r1 hr;simp only at h;split at h
  ·cases h
  rename_i q hq;injection h with h;subst h;obtain⟨g1,g2⟩:=Tg hv ts k (j+1) d r1.2 q h1.2 h2.2 hq;exact⟨⟨Qk hv t _ _ _ h1.1 h2.1 hr,g1⟩,by simp[g2]⟩
end
end
theorem TM {t:Tm}(h:Nd t):Nd (QK t):=by
 obtain⟨k,i,n,l,ks⟩:=t;exact⟨h.1,h.2.1,h.2.2.1,by decide,trivial,h.2.2.2.2.2⟩
theorem ZR {i:Int}{x:Tm}(hi: -9223372036854775808≤i) (h:Ix i= .ok x):Nd x:=by
 unfold Ix at h;split at h
 ·cases h
 injection h with h;subst h;exact⟨by decide,by decide,by simp,by decide,trivial,⟨by decide,by decide⟩,⟨hi,by omega⟩⟩
theorem e6 {rep:Tm→Int→Except Int Tm}(hr:∀t d x,Nd t→Vp t→t.kind=0→rep t d= .ok x→Nd x):∀(s:Unit) (t:Tm) (d:Int) (r:(Tm×Bool)×Unit),Nd t→Vp t→KV rep s t d= .ok r→Nd r.1.1:=by
 intro s t d r h1 h2 h;unfold KV at h;split at h
 ·rename_i hk;unfold RZ at h;split at h
  ·cases h
  rename_i x hx;injection h with h;subst h;exact hr t d x h1 h2 hk hx
 injection h with h;subst h;exact TM h1
theorem gf {b fr:Int}{t x:Tm}(hb:JZ b) (h1:Nd t) (h2:Vp t) (h:Io b fr t= .ok x):Nd x:=by
 unfold Io RZ at h;split at h
 ·cases h
 rename_i r hr;injection h with h;subst h;refine Qk (e6 ?_) t 0 () r h1 h2 hr;intro t d x g1 g2 g3 g;obtain⟨k,i,n,l,ks⟩:=t;have hi:=g2.1 g3;unfold YW at g;split at g
 ·injection g with g;subst g;exact TM g1
 split at g
 ·cases g
 exact ZR (by have:=hb.1;simp only[Tm.index];omega) g
theorem qq {vs:List Tm}{dp:Int}{t x:Tm}{u:Unit}(hv:Mt vs) (hp:Uh vs) (h1:Nd t) (h2:Vp t) (h:EE (KV (MJ vs dp)) t 0 ()= .ok (x,u)):Nd x:=by
 refine Qk (e6 ?_) t 0 () (x,u) h1 h2 h;intro t d x g1 g2 g3 g;unfold MJ at g;split at g
 ·rename_i h0;have hl:=XR h0;obtain⟨v,hx⟩:=A1 (l:=vs) (i:=(J5 vs dp t.index d).toNat) Au;rw[List.getD_eq_getElem?_getD,hx] at g;exact gf (ah _) (DU hv hx) (Nh hp hx) g
 split at g
 ·injection g with g;subst g;exact TM g1
 exact ZR (ah _).1 g
theorem sr {vs:List Tm}{i:Nat}{x:Tm}(hx:vs[i]?=some x):(((vs.take i).map fun v=>(size v:Int))++List.replicate (vs.length - i) 0).set i (size x:Int)=((vs.take (i+1)).map fun v=>(size v:Int))++List.replicate (vs.length - (i+1)) 0:=by
 have hi:i<vs.length:=by
  rcases Nat.lt_or_ge i vs.length with h | h
  ·exact h
  rw[List.getElem?_eq_none h] at hx;cases hx
 obtain⟨m,hm⟩:∃m,vs.length - i=m+1:=⟨vs.length - i - 1,by omega⟩;have hl:((vs.take i).map fun v=>(size v:Int)).length=i:=by simp;omega
 rw[List.take_add_one,hx,hm,show vs.length - (i+1)=m by omega,List.replicate_succ,List.set_append_right _ _ Au,hl];simp
theorem v8 {vs:List Tm}{i:Nat}(h:vs.length≤i):((vs.take i).map fun v=>(size v:Int))++List.replicate (vs.length - i) 0=vs.map fun v=>(size v:Int):=by
 rw[List.take_of_length_le h,show vs.length - i=0 by omega];simp
theorem SA {k i:Int}{n:ByteArray}{l:List CW}{ks:List Tm}(h:Wt (.mk k i n l ks)) (hk:k=0):ks=[]:=by
 have:=h.1;subst hk;cases ks with
 | nil=>rfl
 | cons a b=>simp[arity] at this;omega
def Ek (x:Tm×Int):Except Int (Tm×Unit):=if x.2=0 then .ok (x.1,()) else .error x.2
def F8 (x:List Tm×Int):Except Int (List Tm×Unit):=if x.2=0 then .ok (x.1,()) else .error x.2
theorem Zz {er e:Int}(h:er≠0):Gm er e=er:=by unfold Gm;rw[if_neg h]
theorem fE {er i:Int}(h:er≠0):MY er i=er:=by unfold MY;split<;>simp[Zz h]
mutual
theorem WY (b fr:Int):∀(t:Tm) (d er:Int),er≠0→(CS b fr d er t).2=er
 | .mk k i n l ks,d,er,h=>by
  unfold CS;split
  ·split
   ·rfl
   split
   ·exact Zz h
   exact fE h
  exact Ir b fr k ks d 0 er h
theorem Ir (b fr k:Int):∀(ts:List Tm) (d:Int) (j:Nat) (er:Int),er≠0→(Cq b fr k d j er ts).2=er
 | [],d,j,er,h=>rfl
 | t::ts,d,j,er,h=>by
  unfold Cq;simp only;rw[WY b fr t _ er h];exact Ir b fr k ts d (j+1) er h
end
mutual
theorem Vz (b:Int) (hb:0≤b) (hb2:b<4398046511104):∀(t:Tm) (d:Int),Wt t→Vp t→0≤d→d+size t<2199023255552→EE (KV (YW b 0)) t d ()=Ek (CS b 0 d 0 t)
 | .mk k i n l ks,d,h1,h2,h3,h4=>by
  by_cases hk:k=0
  ·have hks:=SA h1 hk;have hi:=h2.1 hk;have e1:wr (0+d)=d:=by rw[Int.zero_add];exact EK (by unfold JZ;omega)
   have e2:wr (i+b)=i+b:=EK (by unfold JZ;omega);by_cases hlo:i - d<0
   ·rw[Fe (Kg hk (Xa hlo))];unfold CS;rw[if_pos hk,e1,if_pos Au];subst hks;rfl
   have hsh:YW b 0 (.mk k i n l ks) d=Ix (i+b):=XZ hlo Au;unfold CS;rw[if_pos hk,e1,if_neg Au,e2,if_neg Au];by_cases hbig:i+b > 65535
   ·rw[HH (LH hk (hsh.trans (if_pos hbig)))];unfold Ek MY Gm;simp[hbig]
   rw[Fe (Kg hk (hsh.trans (if_neg hbig)))];unfold Ek MY;simp[hbig]
  have hs:d+BB ks<2199023255551:=by simp only[size] at h4;omega
  have hL:=Sb b hb hb2 k ks d 0 h1.2.2 h2.2 h3 hs;unfold CS;rw[if_neg hk];unfold F8 at hL;unfold Ek;by_cases he:(Cq b 0 k d 0 0 ks).2=0
  ·rw[if_pos he] at hL;rw[if_pos he];exact IF (Lz hk) hL
  rw[if_neg he] at hL;rw[if_neg he];exact JA (Lz hk) hL
theorem Sb (b:Int) (hb:0≤b) (hb2:b<4398046511104) (k:Int):∀(ts:List Tm) (d:Int) (j:Nat),Ma ts→Uh ts→0≤d→d+BB ts<2199023255551→Dv (KV (YW b 0)) k j ts d ()=F8 (Cq b 0 k d j 0 ts)
 | [],d,j,h1,h2,h3,h4=>rfl
 | t::ts,d,j,h1,h2,h3,h4=>by
  have hbl:=Ct k j;simp only[BB] at h4;have hT:=Vz b hb hb2 t (d+below k j) h1.1 h2.1 Au Au;have hL:=Sb b hb hb2 k ts d (j+1) h1.2 h2.2 h3 Au;unfold Dv Cq;rw[hT];unfold Ek F8 Eb;by_cases he:(CS b 0 (d+below k j) 0 t).2=0
  ·rw[if_pos he];simp only;rw[hL,he];unfold F8;by_cases hq:(Cq b 0 k d (j+1) 0 ts).2=0
   ·rw[if_pos hq,if_pos hq]
   rw[if_neg hq,if_neg hq]
  rw[if_neg he];simp only;rw[Ir b 0 k ts d (j+1) _ he,if_neg he]
end
theorem gO {b:Int}{v:Tm}(hb:0≤b) (hb2:b<4398046511104) (h1:Wt v) (h2:Vp v) (h3:size v<1099511627776):Io b 0 v=if (CS b 0 0 0 v).2=0 then .ok (CS b 0 0 0 v).1 else .error (CS b 0 0 0 v).2:=by
 unfold Io;rw[Vz b hb hb2 v 0 h1 h2 Au Au];unfold Ek;split<;>rfl
section
variable {vs:List Tm}{d er nd k i:Int}{n:ByteArray}{l:List CW}{ks:List Tm}
theorem OQ {t:Tm}(h:nd > 4096):B2 vs d er nd t=(t,er,nd):=by
 obtain⟨k,i,n,l,ks⟩:=t;unfold B2;rw[if_pos h]
theorem Kj (h:nd > 4096):∀(ts:List Tm) (d:Int) (j:Nat),Cc vs k d j er nd ts=(ts,er,nd)
 | [],d,j=>rfl
 | t::ts,d,j=>by unfold Cc;rw[OQ h];simp only;rw[Kj h ts d (j+1)]
theorem ON {v:Tm}(h:nd≤4096) (hk:k=0) (h1:i≥d) (h2:i - d<(vs.length:Int)) (hv:vs[(i - d).toNat]?=some v):B2 vs d er nd (.mk k i n l ks)=((CS d 0 0 er v).1,(CS d 0 0 er v).2,wr (nd+FF v)):=by
 unfold B2;rw[if_neg Au,if_pos ⟨hk,h1,h2⟩,List.getD_eq_getElem?_getD,hv];rfl
theorem Q2 (h:nd≤4096) (hk:k=0) (h1:i≥d) (h2:¬i - d<(vs.length:Int)):B2 vs d er nd (.mk k i n l ks)=(Cs (wr (i - vs.length)),MY er (wr (i - vs.length)),wr (nd+1)):=by
 unfold B2;rw[if_neg Au,if_neg Au,if_pos hk,if_pos h1]
theorem OP (h:nd≤4096) (hk:k=0) (h1:¬i≥d):B2 vs d er nd (.mk k i n l ks)=(.mk k i n l ks,er,wr (nd+1)):=by
 unfold B2;rw[if_neg Au,if_neg Au,if_pos hk,if_neg h1]
theorem NK (h:nd≤4096) (hk:k≠0):B2 vs d er nd (.mk k i n l ks)=((.mk k i n l (Cc vs k d 0 er (wr (nd+1)) ks).1),(Cc vs k d 0 er (wr (nd+1)) ks).2):=by
 unfold B2;rw[if_neg Au,if_neg Au,if_neg hk]
end
mutual
theorem gh (vs:List Tm):∀(t:Tm) (d er nd:Int),er≠0→(B2 vs d er nd t).2.1=er
 | .mk k i n l ks,d,er,nd,h=>by
  unfold B2;split
  ·rfl
  split
  ·exact WY _ _ _ _ _ h
  split
  ·split
   ·exact fE h
   rfl
  exact Ld vs k ks d 0 er _ h
theorem Ld (vs:List Tm) (k:Int):∀(ts:List Tm) (d:Int) (j:Nat) (er nd:Int),er≠0→(Cc vs k d j er nd ts).2.1=er
 | [],d,j,er,nd,h=>rfl
 | t::ts,d,j,er,nd,h=>by
  unfold Cc;simp only;rw[gh vs t _ er nd h];exact Ld vs k ts d (j+1) er _ h
end
structure Rr (vs:List Tm) (dp:Int):Prop where
 wt:Ma vs
 vp:Uh vs
 sz:∀x∈vs,size x<1099511627776
 len:vs.length<1099511627776
 lo:0≤dp
 hi:dp≤65536
theorem Rr.size {vs:List Tm}{dp:Int}(V:Rr vs dp):∀x∈vs,(size x:Int)≤1099511627776:=fun x hx=>by have:=V.sz x hx;omega
theorem dQ {vs:List Tm}{dp i d:Int}(V:Rr vs dp) (h1:0≤i) (h2:i<1099511627776) (h3:0≤d) (h4:d<2199023255552):J5 vs dp i d=if dp+d≤i∧i - (dp+d)<(vs.length:Int) then i - (dp+d) else -1:=by
 have:=V.lo;have:=V.hi;have e1:wr (i - d)=i - d:=EK (by unfold JZ;omega);have e2:wr (i - d - dp)=i - (dp+d):=by rw[EK (by unfold JZ;omega)];omega
 unfold J5;rw[e1,e2];by_cases h:dp+d≤i∧i - (dp+d)<(vs.length:Int)
 ·rw[if_pos h,if_pos Au]
 rw[if_neg h,if_neg Au]
theorem dg {n m:Int}(h1:0≤n) (h2:n≤4096) (h3:0≤m) (h4:m≤1099511627776):Zf n m=if n+m > 4096 then .error 5 else .ok (n+m):=by
 unfold Zf;rw[show wr (n+m)=n+m from EK (by unfold JZ;omega)]
def tv {α:Type}(x:Except Int (α×Int)) (m:Int):Prop:=(m > 4096→x= .error 5)∧(m≤4096→∃z,x= .ok (z,m))
def tJ (vs:List Tm):List Int:=vs.map fun v=>(size v:Int)
theorem o9 {vs:List Tm}{i:Nat}{v:Tm}(h:vs[i]?=some v):(tJ vs)[i]?=some (size v:Int):=by simp[tJ,h]
mutual
theorem fA {vs:List Tm}{dp:Int}(V:Rr vs dp):∀(t:Tm) (d er nd:Int),Wt t→Vp t→0≤d→d+size t<2199023255552→0≤nd→nd≤4096→tv (EE (To vs (tJ vs) dp) t d nd) (B2 vs (dp+d) er nd t).2.2
 | .mk k i n l ks,d,er,nd,h1,h2,h3,h4,h5,h6=>by
  have hone:∀m:Int,0≤m→m≤1099511627776→XJ vs (tJ vs) dp (.mk k i n l ks) d=m→k=0→tv (EE (To vs (tJ vs) dp) (.mk k i n l ks) d nd) (wr (nd+m)):=by
   intro m g1 g2 g3 hk;have ha:=dg h5 h6 g1 g2;rw[show wr (nd+m)=nd+m from EK (by unfold JZ;omega)];refine⟨fun h=>?_,fun h=>?_⟩
   ·rw[if_pos h] at ha;exact HH (PU g3 ha)
   rw[if_neg Au] at ha;refine⟨BN,Fe ?_⟩;rw[Rs g3 ha,hk];rfl
  by_cases hk:k=0
  ·have hi:=h2.1 hk;have hd:d<2199023255552:=by have:=size_pos (Tm.mk k i n l ks);omega
   have hv:=dQ V hi.1 hi.2 h3 hd;by_cases hin:dp+d≤i∧i - (dp+d)<(vs.length:Int)
   ·rw[if_pos hin] at hv;obtain⟨v,hx⟩:=A1 (l:=vs) (i:=(i - (dp+d)).toNat) Au;have hsv:=V.sz v (List.mem_of_getElem? hx);rw[ON h6 hk hin.1 hin.2 hx,PZ Au];exact hone _ Au Au (S0 ⟨hk,by omega⟩ (by rw[hv];exact o9 hx)) hk
   rw[if_neg hin] at hv;have hc:=hone 1 Au Au (R8 Au) hk;by_cases hge:i≥dp+d
   ·rw[Q2 h6 hk hge Au];exact hc
   rw[OP h6 hk hge];exact hc
  rw[NK h6 hk];have hs:d+BB ks<2199023255551:=by simp only[size] at h4;omega
  have e1:wr (nd+1)=nd+1:=EK (by unfold JZ;omega);have ha:=dg (m:=1) h5 h6 Au Au;have hn:XJ vs (tJ vs) dp (.mk k i n l ks) d=1:=R8 Au;have hdec:decide (k=0)=false:=by simp[hk]
  simp only;rw[e1];by_cases hbig:nd+1 > 4096
  ·rw[Kj hbig];rw[if_pos hbig] at ha;exact⟨fun _=>HH (PU hn ha),fun h=>by simp only at h;omega⟩
  rw[if_neg hbig] at ha;have hc:=Rs (l:=l) hn ha;rw[hdec] at hc;obtain⟨g1,g2⟩:=Zp V k ks d 0 er (nd+1) h1.2.2 h2.2 h3 hs Au Au;refine⟨fun h=>JA hc (g1 h),fun h=>?_⟩;obtain⟨z,hz⟩:=g2 h;exact⟨_,IF hc hz⟩
theorem Zp {vs:List Tm}{dp:Int}(V:Rr vs dp) (k:Int):∀(ts:List Tm) (d:Int) (j:Nat) (er nd:Int),Ma ts→Uh ts→0≤d→d+BB ts<2199023255551→0≤nd→nd≤4096→tv (Dv (To vs (tJ vs) dp) k j ts d nd) (Cc vs k (dp+d) j er nd ts).2.2
 | [],d,j,er,nd,h1,h2,h3,h4,h5,h6=>⟨fun h=>by simp only[Cc] at h;omega,fun _=>⟨_,rfl⟩⟩
 | t::ts,d,j,er,nd,h1,h2,h3,h4,h5,h6=>by
  have hbl:=Ct k j;simp only[BB] at h4;obtain⟨g1,g2⟩:=fA V t (d+below k j) er nd h1.1 h2.1 Au Au h5 h6;have hm:=(Km 1099511627776 Au Au t vs (dp+d+below k j) er nd h1.1 V.wt V.size h5 Au).1;rw[show dp+(d+below k j)=dp+d+below k j by omega] at g1 g2;unfold Dv Cc;simp only;by_cases hbig:(B2 vs (dp+d+below k j) er nd t).2.2 > 4096
  ·rw[g1 hbig,Kj hbig];exact⟨fun _=>O,fun h=>by simp only at h;omega⟩
  obtain⟨z,hz⟩:=g2 Au;rw[hz];obtain⟨f1,f2⟩:=Zp V k ts d (j+1) (B2 vs (dp+d+below k j) er nd t).2.1 (B2 vs (dp+d+below k j) er nd t).2.2 h1.2 h2.2 h3 Au Au Au;refine⟨fun h=>?_,fun h=>?_⟩
  ·simp only[Eb];rw[f1 h]
  obtain⟨y,hy⟩:=f2 h;exact⟨z::y,by simp only[Eb];rw[hy]⟩
end
mutual
theorem dh {vs:List Tm}{dp:Int}(V:Rr vs dp):∀(t:Tm) (d nd:Int),Wt t→Vp t→0≤d→d+size t<2199023255552→0≤nd→(B2 vs (dp+d) 0 nd t).2.2≤4096→EE (KV (MJ vs dp)) t d ()=Ek ((B2 vs (dp+d) 0 nd t).1,(B2 vs (dp+d) 0 nd t).2.1)
 | .mk k i n l ks,d,nd,h1,h2,h3,h4,h5,h6=>by
  have h7:nd≤4096:=by
   rcases Int.lt_or_le 4096 nd with h | h
   ·rw[OQ h] at h6;simp only at h6;omega
   exact h
  have:=V.lo;have:=V.hi;have:=V.len;by_cases hk:k=0
  ·have hi:=h2.1 hk;have hks:=SA h1 hk;have hd:d<2199023255552:=by have:=size_pos (Tm.mk k i n l ks);omega
   have hv:=dQ V hi.1 hi.2 h3 hd;by_cases hin:dp+d≤i∧i - (dp+d)<(vs.length:Int)
   ·rw[if_pos hin] at hv;obtain⟨v,hx⟩:=A1 (l:=vs) (i:=(i - (dp+d)).toNat) Au;have hsv:=V.sz v (List.mem_of_getElem? hx);rw[ON h7 hk hin.1 hin.2 hx];have hr:MJ vs dp (.mk k i n l ks) d=Io (wr (dp+d)) 0 v:=TH Au (by rw[hv];exact hx);rw[show wr (dp+d)=dp+d from EK (by unfold JZ;omega),gO Au Au (Pg V.wt hx) (Nh V.vp hx) hsv] at hr;unfold Ek;by_cases he:(CS (dp+d) 0 0 0 v).2=0
    ·rw[if_pos he] at hr;rw[if_pos he];exact Fe (Kg hk hr)
    rw[if_neg he] at hr;rw[if_neg he];exact HH (LH hk hr)
   rw[if_neg hin] at hv;have e1:wr (i - d)=i - d:=EK (by unfold JZ;omega);by_cases hge:i≥dp+d
   ·rw[Q2 h7 hk hge Au];have hr:MJ vs dp (.mk k i n l ks) d=Ix (wr (i - vs.length)):=Xp Au (by rw[e1];omega);unfold Ix at hr;unfold Ek MY Gm;by_cases hbig:wr (i - vs.length) > 65535
    ·rw[if_pos hbig] at hr;simp only[hbig,if_true];exact HH (LH hk hr)
    rw[if_neg hbig] at hr;simp only[hbig,if_false,if_true];exact Fe (Kg hk hr)
   rw[OP h7 hk hge];have hr:MJ vs dp (.mk k i n l ks) d= .ok (.mk k i n l []):=ZK Au (by rw[e1];omega);subst hks;exact Fe (Kg hk hr)
  rw[NK h7 hk] at h6 ⊢;have hs:d+BB ks<2199023255551:=by simp only[size] at h4;omega
  have e1:wr (nd+1)=nd+1:=EK (by unfold JZ;omega);simp only at h6 ⊢;rw[e1] at h6 ⊢;have hL:=ZX V k ks d 0 (nd+1) h1.2.2 h2.2 h3 hs Au h6;unfold F8 at hL;unfold Ek;by_cases he:(Cc vs k (dp+d) 0 0 (nd+1) ks).2.1=0
  ·rw[if_pos he] at hL;rw[if_pos he];exact IF (Lz hk) hL
  rw[if_neg he] at hL;rw[if_neg he];exact JA (Lz hk) hL
theorem ZX {vs:List Tm}{dp:Int}(V:Rr vs dp) (k:Int):∀(ts:List Tm) (d:Int) (j:Nat) (nd:Int),Ma ts→Uh ts→0≤d→d+BB ts<2199023255551→0≤nd→(Cc vs k (dp+d) j 0 nd ts).2.2≤4096→Dv (KV (MJ vs dp)) k j ts d ()=F8 ((Cc vs k (dp+d) j 0 nd ts).1,(Cc vs k (dp+d) j 0 nd ts).2.1)
 | [],d,j,nd,h1,h2,h3,h4,h5,h6=>rfl
 | t::ts,d,j,nd,h1,h2,h3,h4,h5,h6=>by
  have hbl:=Ct k j;simp only[BB] at h4;have h7:nd≤4096:=by
   rcases Int.lt_or_le 4096 nd with h | h
   ·rw[Kj h] at h6;simp only at h6;omega
   exact h
  have hm:=(Km 1099511627776 Au Au t vs (dp+d+below k j) 0 nd h1.1 V.wt V.size h5 Au);unfold Cc at h6;simp only at h6;have hm2:=(L4 1099511627776 Au Au ts vs k (dp+d) (j+1) (B2 vs (dp+d+below k j) 0 nd t).2.1 (B2 vs (dp+d+below k j) 0 nd t).2.2 h1.2 V.wt V.size Au hm.2.1).1;have hT:=dh V t (d+below k j) nd h1.1 h2.1 Au Au h5 (by rw[show dp+(d+below k j)=dp+d+below k j by omega];omega);rw[show dp+(d+below k j)=dp+d+below k j by omega] at hT;unfold Dv Cc;rw[hT];simp only;unfold Ek F8 Eb;by_cases he:(B2 vs (dp+d+below k j) 0 nd t).2.1=0
  ·have hL:=ZX V k ts d (j+1) (B2 vs (dp+d+below k j) 0 nd t).2.2 h1.2 h2.2 h3 Au Au (by rw[he] at h6;exact h6);simp only;rw[if_pos he];simp only;rw[hL,he];unfold F8;by_cases hq:(Cc vs k (dp+d) (j+1) 0 (B2 vs (dp+d+below k j) 0 nd t).2.2 ts).2.1=0
   ·simp only[hq,if_true]
   simp only[hq,if_false]
  simp only;rw[if_neg he];simp only;rw[Ld vs k ts (dp+d) (j+1) _ _ he,if_neg he]
end
theorem im {t:Tm}{vs:List Tm}{dp:Int}(V:Rr vs dp) (h1:Wt t) (h2:Vp t) (h3:size t<1099511627776):He t vs dp=CA t vs dp:=by
 have:=V.lo;have:=V.hi;have hmin:min dp 65536=dp:=by omega
 obtain⟨g1,g2⟩:=fA V t 0 0 0 h1 h2 Au Au Au Au;rw[Int.add_zero] at g1 g2;unfold CA;rw[hmin];by_cases hbig:(B2 vs dp 0 0 t).2.2 > 4096
 ·rw[if_pos hbig];exact Jm (RP (g1 hbig))
 rw[if_neg hbig];obtain⟨z,hz⟩:=g2 Au;have hr:=dh V t 0 0 h1 h2 Au Au Au (by rw[Int.add_zero];omega);rw[Int.add_zero] at hr;unfold Ek at hr;simp only at hr;by_cases he:(B2 vs dp 0 0 t).2.1=0
 ·rw[if_pos he] at hr;rw[if_neg Au];by_cases hd:FU (B2 vs dp 0 0 t).1 > 200
  ·rw[if_pos hd];exact RY (Nq hz hr) hd
  rw[if_neg hd];exact WV (Nq hz hr) hd
 rw[if_neg he] at hr;rw[if_pos he];exact Jm (RF hz hr)
theorem j6 {i:Int}(h0:0≤i) (h1:i≤65535):Vp (Cs i):=⟨fun _=>⟨h0,by omega⟩,trivial⟩
theorem Wm:Vp BN:=⟨fun _=>⟨by omega,by omega⟩,trivial⟩
mutual
theorem Vh (b:Int) (hb:0≤b) (hb2:b<4398046511104):∀(t:Tm) (d:Int),Vp t→0≤d→d+size t<4398046511104→(CS b 0 d 0 t).2=0→Vp (CS b 0 d 0 t).1
 | .mk k i n l ks,d,h,hd,hd2,he=>by
  by_cases hk:k=0
  ·have hi:=h.1 hk;have e1:wr (0+d)=d:=by rw[Int.zero_add];exact EK (by unfold JZ;omega)
   have e2:wr (i+b)=i+b:=EK (by unfold JZ;omega);unfold CS at he ⊢;rw[if_pos hk,e1,e2] at he ⊢;by_cases hlo:i<d
   ·rw[if_pos hlo];exact h
   rw[if_neg hlo,if_neg Au] at he ⊢;unfold MY Gm at he;by_cases hbig:i+b > 65535
   ·simp[hbig] at he
   exact j6 Au Au
  unfold CS at he ⊢;rw[if_neg hk] at he ⊢;simp only[size] at hd2;exact⟨fun h=>absurd h hk,Tf b hb hb2 k ks d 0 h.2 hd Au he⟩
theorem Tf (b:Int) (hb:0≤b) (hb2:b<4398046511104) (k:Int):∀(ts:List Tm) (d:Int) (j:Nat),Uh ts→0≤d→d+BB ts<4398046511103→(Cq b 0 k d j 0 ts).2=0→Uh (Cq b 0 k d j 0 ts).1
 | [],d,j,h,hd,hd2,he=>trivial
 | t::ts,d,j,h,hd,hd2,he=>by
  have hbl:=Ct k j;simp only[BB] at hd2;unfold Cq at he ⊢;simp only at he ⊢;have h0:(CS b 0 (d+below k j) 0 t).2=0:=by
   rcases Decidable.em ((CS b 0 (d+below k j) 0 t).2=0) with h | h
   ·exact h
   rw[Ir b 0 k ts d (j+1) _ h] at he;exact he
  rw[h0] at he ⊢;exact⟨Vh b hb hb2 t _ h.1 Au Au h0,Tf b hb hb2 k ts d (j+1) h.2 hd Au he⟩
end
mutual
theorem V6 {vs:List Tm}{dp:Int}(V:Rr vs dp):∀(t:Tm) (d nd:Int),Vp t→0≤d→d+size t<2199023255552→(B2 vs (dp+d) 0 nd t).2.1=0→Vp (B2 vs (dp+d) 0 nd t).1
 | .mk k i n l ks,d,nd,h,h3,h4,he=>by
  have:=V.lo;have:=V.hi;have:=V.len;rcases Int.lt_or_le 4096 nd with h7 | h7
  ·rw[OQ h7];exact h
  by_cases hk:k=0
  ·have hi:=h.1 hk;by_cases hin:dp+d≤i∧i - (dp+d)<(vs.length:Int)
   ·obtain⟨v,hx⟩:=A1 (l:=vs) (i:=(i - (dp+d)).toNat) Au;have hsv:=V.sz v (List.mem_of_getElem? hx);rw[ON h7 hk hin.1 hin.2 hx] at he ⊢;exact Vh _ Au Au v 0 (Nh V.vp hx) Au Au he
   by_cases hge:i≥dp+d
   ·rw[Q2 h7 hk hge Au] at he ⊢;have e:wr (i - vs.length)=i - vs.length:=EK (by unfold JZ;omega);simp only[e] at he ⊢;unfold MY Gm at he;by_cases hbig:i - (vs.length:Int) > 65535
    ·simp[hbig] at he
    exact j6 Au Au
   rw[OP h7 hk hge];exact h
  rw[NK h7 hk] at he ⊢;simp only[size] at h4;exact⟨fun h=>absurd h hk,UR V k ks d 0 _ h.2 h3 Au he⟩
theorem UR {vs:List Tm}{dp:Int}(V:Rr vs dp) (k:Int):∀(ts:List Tm) (d:Int) (j:Nat) (nd:Int),Uh ts→0≤d→d+BB ts<2199023255551→(Cc vs k (dp+d) j 0 nd ts).2.1=0→Uh (Cc vs k (dp+d) j 0 nd ts).1
 | [],d,j,nd,h,h3,h4,he=>trivial
 | t::ts,d,j,nd,h,h3,h4,he=>by
  have hbl:=Ct k j;simp only[BB] at h4;unfold Cc at he ⊢;simp only at he ⊢;have h0:(B2 vs (dp+d+below k j) 0 nd t).2.1=0:=by
   rcases Decidable.em ((B2 vs (dp+d+below k j) 0 nd t).2.1=0) with h | h
   ·exact h
   rw[Ld vs k ts _ (j+1) _ _ h] at he;exact he
  rw[h0] at he ⊢;rw[show dp+d+below k j=dp+(d+below k j) by omega] at he h0 ⊢;exact⟨V6 V t _ nd h.1 Au Au h0,UR V k ts d (j+1) _ h.2 h3 Au he⟩
end
theorem gX {vs:List Tm}{dp:Int}(V:Rr vs dp) {t:Tm}(h:Vp t) (hs:size t<1099511627776):Vp (CA t vs dp).1:=by
 have:=V.lo;have:=V.hi;have hmin:min dp 65536=dp:=by omega
 unfold CA;rw[hmin];split
 ·exact Wm
 split
 ·exact Wm
 rename_i hne;split
 ·exact Wm
 have:=V6 V t 0 0 h Au Au (by rw[Int.add_zero];exact Decidable.not_not.1 hne);rw[Int.add_zero] at this;exact this
structure R7 where
 dn:List (Int×Tm)
 op:List Int
 wk:Int
def Ks (F:R7→Tm→Except Int (Tm×R7)):R7→List Tm→Except Int (List Tm×R7)
 | st,[]=> .ok ([],st)
 | st,t::ts=>Eb (F st t) fun r=>Eb (Ks F r.2 ts) fun q=> .ok (r.1::q.1,q.2)
structure Ok (S:Nat) (t:Tm):Prop where
 nd:Nd t
 vp:Vp t
 wt:Wt t
 sz:size t≤S
section
variable {F:R7→Tm→Except Int (Tm×R7)}{ms:List Mv}{st st':R7}{i e:Int}{z:Tm}
end
def Ws (F:R7→Tm→Except Int (Tm×R7)) (ts:List Tm) (q0:R7) (i:Nat) (ys:List Tm) (q:R7):Prop :=
 ys.length=i∧Ks F q0 ts=Eb (Ks F q (ts.drop i)) fun r=> .ok (ys++r.1,r.2)
section
variable {F:R7→Tm→Except Int (Tm×R7)}{ts ys:List Tm}{q0 q q':R7}{i:Nat}{x y:Tm}{e:Int}
theorem Ws.zero (F:R7→Tm→Except Int (Tm×R7)) (ts:List Tm) (q0:R7):Ws F ts q0 0 [] q0:=by
 refine⟨O,?_⟩;simp only[List.drop_zero,Eb];cases Ks F q0 ts<;>simp
theorem Ws.err (h:Ws F ts q0 i ys q) (hx:ts[i]?=some x) (hb:F q x= .error e):Ks F q0 ts= .error e:=by
 rw[h.2,Cd hx,Ks,hb];rfl
theorem Ws.succ (h:Ws F ts q0 i ys q) (hx:ts[i]?=some x) (hb:F q x= .ok (y,q')):Ws F ts q0 (i+1) (ys++[y]) q':=by
 refine⟨by simp[h.1],?_⟩;rw[h.2,Cd hx,Ks,hb];simp only[Eb];cases Ks F q' (ts.drop (i+1))<;>simp
theorem Ws.fin (h:Ws F ts q0 i ys q) (hi:ts.length≤i):Ks F q0 ts= .ok (ys,q):=by
 rw[h.2,List.drop_eq_nil_of_le hi,Ks];simp[Eb]
end
section
variable {ms:List Mv}{n:Nat}{dn:List (Int×Tm)}{op:List Int}{wk e:Int}{t v vv z h:Tm}{us ls ks:List Tm}{st1 st2:R7}
end
end Go.Eu
namespace Go.Abs
def oZ {β:Type}(mkv:β→AV) (mkH:β→List A4):EH→List A4→Prop
 | .val v,H'=>∃b,v=mkv b∧H'=mkH b
 | .panic _,_=>False
section
variable {P:Program}{ops:Array Oper}{n:Nat}{τ₀ τ:Nat→AV}{D:List D1}{Q:Cj→BM→Prop}{opn:Nat→Bool}{k:Nat}{H:List A4}{dst:Option Tmp}{ty:TypeId}{pos:String}{aft:Array Edge}{c:Call}{f:Operand}{fid:FuncId}{first caps A:List AV}{β:Type}{mkv:β→AV}{mkH:β→List A4}
theorem fW {r:Option Nat}(ho:ops[k]?=some ⟨dst,.call c,ty,pos,aft,none⟩) (hd:Gj dst n=true)
  (hc:c.callee= .value f) (hf:(ev τ f= .p (.fn fid)∧first=[]∧caps=[])∨ev τ f= .fn (.func fid) first caps) (h:BL P fid A [] (oZ mkv mkH)) (hA:Ff (first++c.args.toList.map (ev τ)++caps) A)
  (next:∀b,AL P r ops (k+1) ⟨n,put τ dst (mkv b),mkH b++H,D⟩ Q):AL P r ops k ⟨n,τ,H,D⟩ Q :=
 Ji ho hd hc hf (Hs:=[]) (Hf:=H) Av (h.args hA) (.inl rfl) (fun v Hs' ⟨b,h1,h2⟩=>by subst h1;subst h2;exact next b) (fun _ _ h=>h.elim)
end
end Go.Abs
namespace Go.Eu
open Go.Abs
mutual
def TP (p:Int→Int→ByteArray→List CW→Prop):Tm→Prop
 | .mk k i n l ks=>p k i n l∧qD p ks
def qD (p:Int→Int→ByteArray→List CW→Prop):List Tm→Prop
 | []=>True
 | t::ts=>TP p t∧qD p ts
end
section
variable {p q:Int→Int→ByteArray→List CW→Prop}
mutual
theorem TP.imp (h:∀k i n l,p k i n l→q k i n l):∀(t:Tm),TP p t→TP q t
 | .mk k i n l ks,ht=>⟨h _ _ _ _ ht.1,qD.imp h ks ht.2⟩
theorem qD.imp (h:∀k i n l,p k i n l→q k i n l):∀(ts:List Tm),qD p ts→qD q ts
 | [],_=>trivial
 | t::ts,ht=>⟨TP.imp h t ht.1,qD.imp h ts ht.2⟩
end
end
def yL (ms:List Mv) (D:List Int) (k i:Int) (n:ByteArray) (l:List CW):Prop:=known ms (.mk k i n l [])=true→i∈D
abbrev KM (ms:List Mv) (D:List Int):Tm→Prop:=TP (yL ms D)
abbrev wy (ms:List Mv) (D:List Int):List Tm→Prop:=qD (yL ms D)
theorem KM.mono {ms:List Mv}{D D':List Int}(h:∀i∈D,i∈D') {t:Tm}(ht:KM ms D t):KM ms D' t:=TP.imp (fun k i n l g e=>h _ (g e)) t ht
theorem wy.mono {ms:List Mv}{D D':List Int}(h:∀i∈D,i∈D') {t:List Tm}(ht:wy ms D t):wy ms D' t:=qD.imp (fun k i n l g e=>h _ (g e)) t ht
theorem KM.head {ms:List Mv}{D:List Int}{h:Tm}(hk:known ms h=true) (ht:KM ms D h):h.index∈D:=by
 obtain⟨k,i,n,l,ks⟩:=h;exact ht.1 hk
theorem KM.kids {ms:List Mv}{D:List Int}{h:Tm}(ht:KM ms D h):wy ms D h.kids:=by
 obtain⟨k,i,n,l,ks⟩:=h;exact ht.2
inductive Ord (ms:List Mv):List Int→Prop
 | nil:Ord ms []
 | snoc {D:List Int} {i:Int}:Ord ms D→i ∉ D→KM ms D (valueOf ms i)→Ord ms (D++[i])
theorem Ord.pre {ms:List Mv}{D:List Int}(h:Ord ms D):∀i∈D,∃D',Ord ms D'∧(∀j∈D',j∈D)∧i ∉ D'∧KM ms D' (valueOf ms i):=by
 induction h with
 | nil=>intro i hi;simp at hi
 | @snoc D j h1 h2 h3 ih =>
  intro i hi;rcases List.mem_append.1 hi with hi | hi
  ·obtain⟨D',a,b,c,d⟩:=ih i hi;exact⟨D',a,fun j hj=>List.mem_append_left _ (b j hj),c,d⟩
  simp at hi;subst hi;exact⟨D,h1,fun j hj=>List.mem_append_left _ hj,h2,h3⟩
section
variable {F F':Dm→Tm→Tm×Int×Dm}
end
def wC (st:R7):List Int:=st.dn.map Prod.fst
def xS (ms:List Mv) (t v:Tm):Prop:=∃n ab c d,X6 ms n ab c t=(v,0,d)∧d.over=false
structure xO (ms:List Mv) (ab:List Int) (st:R7):Prop where
 op:∀i,i∈st.op↔i∈wC st∨i∈ab
 ord:Ord ms (wC st)
 dis:∀i∈wC st,i ∉ ab
 val:∀p∈st.dn,xS ms (valueOf ms p.1) p.2
 ok:∀p∈st.dn,Ok 4096 p.2
 w0:0≤st.wk
def pot (ms:List Mv) (B:Nat) (st:R7):Int:=st.wk+(B*free ms st.op:Nat)
structure Step (ms:List Mv) (B:Nat) (ab:List Int) (st st':R7) (s:Nat):Prop where
 inv:xO ms ab st'
 mono:∀i∈wC st,i∈wC st'
 pot:pot ms B st'≤pot ms B st+s
theorem Step.trans {ms:List Mv}{B:Nat}{ab:List Int}{a b c:R7}{s s':Nat}(h:Step ms B ab a b s) (h':Step ms B ab b c s'):Step ms B ab a c (s+s') :=
 ⟨h'.inv,fun i hi=>h'.mono i (h.mono i hi),by have:=h.pot;have:=h'.pot;omega⟩
theorem Step.le {ms:List Mv}{B:Nat}{ab:List Int}{a b:R7}{s s':Nat}(h:Step ms B ab a b s) (hs:s≤s'):Step ms B ab a b s':=⟨h.inv,h.mono,by have:=h.pot;omega⟩
abbrev wide:Nat:=9223372036854775808
structure uf (l:CW):Prop where
 vars:l.vars.length<wide
 c:JZ l.const
 v:∀v∈l.vars,JZ v.index∧JZ v.plus
mutual
def Wd:Tm→Prop
 | .mk k i n ls ks=>n.size<wide∧ls.length<wide∧(∀l∈ls,uf l)∧ks.length<wide∧nY ks∧JZ k∧JZ i
def nY:List Tm→Prop
 | []=>True
 | t::ts=>Wd t∧nY ts
end
theorem Rw:∀{ts:List Tm}{i:Nat}{t:Tm},nY ts→ts[i]?=some t→Wd t
 | [],i,t,_,h=>by simp at h
 | a::ts,0,t,hn,h=>by simp at h;subst h;exact hn.1
 | a::ts,i+1,t,hn,h=>by simp at h;exact Rw hn.2 h
mutual
def Fw:Tm→Prop
 | .mk k i n ls ks=>n.size≤200∧ls.length≤20∧(∀l∈ls,l.vars.length≤20)∧vb ks
def vb:List Tm→Prop
 | []=>True
 | t::ts=>Fw t∧vb ts
end
theorem jX:∀{ts:List Tm},(∀t∈ts,Fw t)→vb ts
 | [],_=>trivial
 | t::ts,h=>⟨h t Av,jX fun x hx=>h x (by simp[hx])⟩
def gU:Tm→Prop
 | .mk k i n ls ks=>n.size≤200∧ls.length≤20∧(∀l∈ls,l.vars.length≤20)∧BB ks≤200∧Mt ks∧vb ks
theorem tG {t:Tm}(h:Wd t) (hf:gU t):Nd t:=by
 obtain⟨k,i,n,ls,ks⟩:=t;obtain⟨h1,h2,h3,h4,h5⟩:=hf;have:=Fk ks;exact⟨by simp only[DZ];omega,by simp only[DZ];omega,fun l hl=>⟨by have:=h3 l hl;simp only[DZ];omega,(h.2.2.1 l hl).c,(h.2.2.1 l hl).v⟩,by simp only[DZ];omega,h5.1,h.2.2.2.2.2⟩
mutual
theorem Q4:∀(t:Tm) (most:Int),-1152921504606846976≤most→most≤1152921504606846976→(size t:Int)≤1152921504606846976→0≤E8 t most∧E8 t most<size t∧(E8 t most≤most→E8 t most+1=size t)
 | .mk k i n l ks,most,h1,h2,h3=>by
  simp only[size] at h3 ⊢;unfold E8;have:=Qq ks most 0 h1 h2 Au Au;exact⟨this.1,by omega,fun h=>by have:=this.2.2 h;omega⟩
theorem Qq:∀(ts:List Tm) (most n:Int),-1152921504606846976≤most→most≤1152921504606846976→0≤n→n+BB ts≤1152921504606846976→n≤E1 ts most n∧E1 ts most n≤n+BB ts∧(E1 ts most n≤most→E1 ts most n=n+BB ts)
 | [],most,n,h1,h2,h3,h4=>by simp[E1,BB]
 | t::ts,most,n,h1,h2,h3,h4=>by
  simp only[BB] at h4 ⊢;have hp:=size_pos t;unfold E1;by_cases hm:n > most
  ·rw[if_pos hm];exact⟨by omega,by omega,by omega⟩
  rw[if_neg hm];have e1:wr (most - n)=most - n:=EK ⟨by omega,by omega⟩;have hT:=Q4 t (most - n) Au Au Au;rw[e1];have e2:wr (1+E8 t (most - n))=1+E8 t (most - n):=EK ⟨by omega,by omega⟩;rw[e2];have e3:wr (n+(1+E8 t (most - n)))=n+(1+E8 t (most - n)):=EK ⟨by omega,by omega⟩;rw[e3];have hL:=Qq ts most (n+(1+E8 t (most - n))) h1 h2 Au Au;refine⟨by omega,by omega,fun h=>?_⟩;have:=hL.2.2 h;have:=hT.2.2 Au;omega
end
theorem jq {t:Tm}(h:gU t):size t≤201:=by
 obtain⟨k,i,n,ls,ks⟩:=t;have:=h.2.2.2.1;simp only[size];omega
theorem WW:∀(ts:List Tm) (most n:Int),0≤most→most≤1000→0≤n→n≤3000→(∀t∈ts,size t≤201)→n≤E1 ts most n
 | [],most,n,h1,h2,h3,h4,hs=>by simp[E1]
 | t::ts,most,n,h1,h2,h3,h4,hs=>by
  have ht:=hs t Av;unfold E1;by_cases hm:n > most
  ·rw[if_pos hm];omega
  rw[if_neg hm];have e1:wr (most - n)=most - n:=EK ⟨by omega,by omega⟩;have hT:=Q4 t (most - n) Au Au Au;rw[e1];have e2:wr (1+E8 t (most - n))=1+E8 t (most - n):=EK ⟨by omega,by omega⟩;rw[e2];have e3:wr (n+(1+E8 t (most - n)))=n+(1+E8 t (most - n)):=EK ⟨by omega,by omega⟩;rw[e3];have hge:=WW ts most (n+(1+E8 t (most - n))) h1 h2 Au Au (fun x hx=>hs x (by simp[hx]));omega
theorem Vv:∀(ts:List Tm) (most n:Int),0≤most→most≤1000→0≤n→n≤3000→(∀t∈ts,size t≤201)→E1 ts most n≤most→E1 ts most n=n+BB ts
 | [],most,n,h1,h2,h3,h4,hs,h=>by simp[E1,BB]
 | t::ts,most,n,h1,h2,h3,h4,hs,h=>by
  have ht:=hs t Av;simp only[BB];unfold E1 at h ⊢;by_cases hm:n > most
  ·rw[if_pos hm] at h;omega
  rw[if_neg hm] at h ⊢;have e1:wr (most - n)=most - n:=EK ⟨by omega,by omega⟩;have hT:=Q4 t (most - n) Au Au Au;rw[e1] at h ⊢;have e2:wr (1+E8 t (most - n))=1+E8 t (most - n):=EK ⟨by omega,by omega⟩;rw[e2] at h ⊢;have e3:wr (n+(1+E8 t (most - n)))=n+(1+E8 t (most - n)):=EK ⟨by omega,by omega⟩;rw[e3] at h ⊢;have hL:=Vv ts most (n+(1+E8 t (most - n))) h1 h2 Au Au (fun x hx=>hs x (by simp[hx])) h;have hge:=WW ts most (n+(1+E8 t (most - n))) h1 h2 Au Au (fun x hx=>hs x (by simp[hx]));have:=hT.2.2 Au;omega
structure ao (l:List Tm):Prop where
 sz:BB l≤200
 nd:Mt l
 fw:vb l
theorem nw {l:List Tm}{m:Nat}(hm:l.length≤m) (hw:nY l) (hl:l.length<wide) (h:E1 l 200 0≤200) (hc:∀j,j<m→∀t,l[j]?=some t→gU t):ao l:=by
 have hf:∀t∈l,gU t:=fun t ht=>by
  obtain⟨i,hi⟩:=L9 ht;exact hc i (by have:=(List.getElem?_eq_some_iff.1 hi).1;omega) t hi
 have:=Vv l 200 0 Au Au Au Au (fun t ht=>jq (hf t ht)) h;exact⟨by omega,bp fun t ht=>by
  obtain⟨i,hi⟩:=L9 ht;exact tG (Rw hw hi) (hf t ht),jX fun t ht=>by
  obtain⟨k,i,n,ls,ks⟩:=t;have h5:=hf _ ht;exact⟨h5.1,h5.2.1,h5.2.2.1,h5.2.2.2.2.2⟩⟩
theorem Y8 {l:List Tm}{m:Int}(hf:ao l) (hm:0≤m∧m≤1000) (h:E1 l m 0≤m):(BB l:Int)≤m:=by
 have:=hf.sz;have:=(Qq l m 0 Au Au Au Au).2.2 h;omega
theorem Ok.mono {B B':Nat}{t:Tm}(h:Ok B t) (hb:B≤B'):Ok B' t:=⟨h.nd,h.vp,h.wt,Nat.le_trans h.sz hb⟩
end Go.Eu
