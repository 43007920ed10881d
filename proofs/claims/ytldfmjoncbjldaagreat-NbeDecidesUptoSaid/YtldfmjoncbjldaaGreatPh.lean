/- Part of the proofs: an abstract program logic, plain models and contracts of functions. -/
import Derived.Test.YtldfmjoncbjldaaGreatPe
import Derived.Shelf.SlIterI.Nil
import Derived.Test.YtldfmjoncbjldaaGreatPg
set_option linter.unusedVariables false
set_option linter.unusedSimpArgs false
namespace Go.Eu
open Go.Abs
section
variable {F:Nat→Prop}{w:World}
theorem X6:∀{M:List (Int×Int)}{es:List MapEntry},D5 F w (Ek (Hy M)) es→es.map (·.key)=M.map fun p=>Value.int .i64 p.1
 | [],es,h=>by
  simp only[Hy,Ek,List.map_nil,D5] at h;subst h;rfl
 | (k,v)::M,es,h=>by
  simp only[Hy,Ek,List.map_cons,D5] at h;obtain⟨e,es',rfl,hk,_,hr⟩:=h;simp only[Br] at hk;have:=X6 (M:=M) (es:=es') (by simpa only[Hy,Ek] using hr);simp[hk,this]
end
def Uw (_:Value):Option (DataW Unit×List MemPlace):=some (.nil,[])
theorem sQ {P:Program}{k:TypeId}(hk:P.underlying k=some (.int .i64)) {x:MapEntry}{n:Int}(hx:x.key= .int .i64 n) (hw:(Lit.int .i64 n).wf=true):WideElems.rd P k Uw x=some (.int .i64 n,.nil):=by
 unfold WideElems.rd;rw[hx,Maps.keyOf_int_mk hk hw];rfl
theorem nQ {n:Int}(h: -65536≤n∧n<8):(Lit.int .i64 n).wf=true:=by
 simp[Lit.wf,IntKind.min,IntKind.max,IntKind.signed,IntKind.bits];omega
theorem qO {P:Program}{kT:TypeId}(hk:P.underlying kT=some (.int .i64)) {w:World}{m:Nat}{ents:Array MapEntry}{clk:Nat}{M:List (Int×Int)}(hb:w.heap[m]?=some (.map ents clk)) (hs:MapKept.Stamped ents clk) (he:ents.toList.map (·.key)=M.map fun p=>Value.int .i64 p.1) (hM:M.length<1000000) (hr:∀k∈M.map Prod.fst,-65536≤k∧k<8) :
  w.ownsMap P kT Uw m ents.size (.map ((ents.toList.map (WideElems.rg P kT Uw)).foldr DataW.insert []))∧(intKeys (.map ((ents.toList.map (WideElems.rg P kT Uw)).foldr DataW.insert []):DataW Unit)).Perm (M.map Prod.fst)∧Maps.size (.map ((ents.toList.map (WideElems.rg P kT Uw)).foldr DataW.insert []):DataW Unit)=M.length:=by
 have hlen:ents.size=M.length:=by
  have:=congrArg List.length he;simpa using this
 have hx:∀x∈ents.toList,∃n:Int,x.key= .int .i64 n∧n∈M.map Prod.fst:=fun x hx=>by
  have:x.key∈M.map fun p=>Value.int .i64 p.1:=he▸List.mem_map_of_mem hx;obtain⟨p,hp,e⟩:=List.mem_map.1 this;exact⟨p.1,e.symm,List.mem_map_of_mem hp⟩
 have hrd:∀x∈ents.toList,∀n:Int,x.key= .int .i64 n→n∈M.map Prod.fst→WideElems.rd P kT Uw x=some (.int .i64 n,.nil):=fun x _ n h1 h2=>sQ hk h1 (nQ (hr n h2));have hfit:WideElems.Fit P kT Uw ents clk:=⟨by rw[hlen];unfold maxLen;omega,hs,fun x hx'=>by
  obtain⟨n,h1,h2⟩:=hx x hx';exact⟨_,hrd x hx' n h1 h2⟩⟩
 have hmap:(ents.toList.map (WideElems.rg P kT Uw)).map (fun p=>intOf p.1)=M.map Prod.fst:=by
  have h1:(ents.toList.map (WideElems.rg P kT Uw)).map (fun p=>intOf p.1)=(ents.toList.map (·.key)).map fun v=>match v with | .int _ n=>n | _=>0:=by
   rw[List.map_map,List.map_map];refine List.map_congr_left fun x hx'=>?_;obtain⟨n,h1,h2⟩:=hx x hx';simp only[Function.comp,WideElems.rg,hrd x hx' n h1 h2,Option.getD_some,intOf,h1]
  rw[h1,he,List.map_map];rfl
 have hp:=WideShapes.sorted_perm (ents.toList.map (WideElems.rg P kT Uw));refine⟨⟨ents,clk,hb,hfit,Nat.le_refl _,O⟩,?_,?_⟩
 ·simp only[intKeys];rw[←hmap];exact hp.map _
 rw[Maps.size_eq,hp.length_eq,List.length_map,Array.length_toList,hlen]
theorem VU {F:Nat→Prop}{w:World}{g:Nat}{e:TypeId}{cur:Array Value}(hg:w.heap[g]?=some (.cells cur e (0,0))):∀(zs:List Int) (o:Nat),o+zs.length≤cur.size→(cur.toList.drop o).take zs.length=zs.map encZ→Bl F w g 1 o (zs.map Fz)
 | [],o,_,_=>by simp[Bl]
 | z::zs,o,hl,ht=>by
  simp only[List.length_cons] at hl ht;have ho:o<cur.toList.length:=by simp;omega
  rw[List.drop_eq_getElem_cons ho,List.take_succ_cons,List.map_cons] at ht;injection ht with h1 h2;simp only[List.map_cons,Bl,Fz,CM];refine⟨O,⟨⟨.int .i64 z,?_,by simp only[Br]⟩,trivial⟩,VU hg zs (o+1) Au h2⟩;unfold World.cell?;rw[hg];simp only[Option.isSome_none,Bool.false_eq_true,if_false];have ho':o<cur.size:=by simpa using ho
  rw[Array.getElem?_eq_getElem ho'];simpa using h1
theorem Rp {P:Program}{fS fK:FuncId}{kT eT:TypeId}(hk:P.underlying kT=some (.int .i64)) (hen:Ck P fS=true)
  (hs:∀(Bm b nn:Nat) (D0:DataW Unit) (R:Value→Option (DataW Unit×List MemPlace)) (w:World),Bm<w.heap.size→w.cell? ⟨Bm,0,none⟩=some (.map (some b))→w.ownsMap P kT R b nn D0→Maps.size D0≤maxLen→Maps.size D0*8≤140737488355328 →
   Calls P fS #[.func (.func fK) #[] #[.pointer (some ⟨Bm,0,none⟩)]] w fun e w'=>∃(v:Value) (ss:List Int),e= .returned v∧ss.Perm (intKeys D0)∧w'.ownsRow w.heap.size eT 1 v ss.length ((ss.mergeSort (fun x y=>decide (x≤y))).map encZ)∧(v= .slice none 0 0↔ss=[])∧RowKit.Below w.heap.size w w')
  (b m:Nat) (M:List (Int×Int)) (hM:M.length<1000000) (hr:∀k∈M.map Prod.fst,-65536≤k∧k<8) :
  BL P fS [.fn (.func fK) [] [.ptr b 0]] [.box b [.map m],.map m (Ek (Hy M))] (Gm (.p (.lst ((Gz (M.map Prod.fst)).map Fz))) [.box b [.map m],.map m (Ek (Hy M))]):=by
 refine⟨hen,fun F w vs hH hv=>?_⟩;simp only[Bf,Bz] at hv;obtain⟨u,us,rfl,⟨fs,cs,rfl,rfl,⟨c,cs',rfl,rfl,rfl⟩⟩,rfl⟩:=hv;obtain⟨bs,T,hb,hbr⟩:=hH.obj (.box b [.map m]) Av;simp only[Bf,Bz] at hbr;obtain⟨v1,vs1,rfl,rfl,rfl⟩:=hbr;obtain⟨ents,clk,hm,hst,hent⟩:=hH.obj (.map m (Ek (Hy M))) Av;have hbl:b<w.heap.size:=(Array.getElem?_eq_some_iff.1 hb).1;have hcell:w.cell? ⟨b,0,none⟩=some (.map (some m)):=by
  unfold World.cell?;rw[hb];simp
 obtain⟨ho,hperm,hsz⟩:=qO hk hm hst (X6 hent) hM hr;refine(hs b m _ _ _ w hbl hcell ho (by rw[hsz];unfold maxLen;omega) (by rw[hsz];omega)).mono ?_;rintro e w' ⟨v,ss,rfl,hss,hrow,hnil,hbel⟩;have hsort:ss.mergeSort (fun x y=>decide (x≤y))=Gz (M.map Prod.fst):=mergeSort_of_perm_i (hss.trans hperm);have hlen:ss.length=(Gz (M.map Prod.fst)).length:=by rw[←hsort,List.length_mergeSort]
 rw[hsort] at hrow;have hst':Dq F w F w':=⟨hbel.size,fun k hk1 hk2=>hbel.block k hk2,fun k hk1 _=>hk1⟩;refine⟨.val (.p (.lst ((Gz (M.map Prod.fst)).map Fz))),_,F,⟨O,O⟩,⟨v,O,?_⟩,⟨hH.sub,hH.nodup,fun o ho'=>?_,fun k hk=>Nat.lt_of_lt_of_le (hH.bd k hk) hbel.size⟩,⟨hbel.size,fun k hk _=>hbel.block k hk,fun k hk _=>hk,fun k hk=> .inl hk,fun o ho' k hk=> .inl ⟨o,ho',hk⟩,hbel.os,hbel.output,hbel.tape⟩⟩
 ·simp only[Bz,Br];rcases hrow.2 with ⟨rfl,hz⟩ | ⟨g,cap,cur,rfl,hbase,hg,r1,r2,r3,r4⟩
  ·have hz':Gz (M.map Prod.fst)=[]:=List.eq_nil_of_length_eq_zero Au;exact .inl ⟨by rw[hz'];rfl,none,0,rfl⟩
  refine .inr ⟨g,0,cap,1,?_,fun hF=>by have:=hH.bd g hF;omega,(Array.getElem?_eq_some_iff.1 hg).1,?_,?_⟩
  ·rw[List.length_map,hlen]
  ·rw[List.length_map];omega
  refine VU hg _ 0 Au ?_;rw[List.drop_zero,←hlen];simpa using r4
 have same:∀k,o.key=some k→w'.heap[k]?=w.heap[k]?:=fun k hk=>hbel.block k (hH.bd k (hH.sub o ho' k hk));exact JV.mono hst' o same (hH.obj o ho')
end Go.Eu
