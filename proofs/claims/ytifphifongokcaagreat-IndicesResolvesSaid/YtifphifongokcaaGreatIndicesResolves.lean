/- For every list of booleans, list of terms and term, IndicesResolves returns true and leaves its arguments as they were. -/
import Derived.Test.YtifphifongokcaaGreatPc
import Derived.Test.YtifphifongokcaaGreatPf
import Derived.Test.YtifphifongokcaaGreatPh
set_option linter.unusedVariables false
set_option linter.unusedSimpArgs false
namespace Go.Proofs.YtifphifongokcaaGreat
open Go.Abs Go.Eu Go.ChangeShapes Go.WideShapes Go.ChangeAt Go.RowKit
theorem gN:∀t∈Tryz.f4.params.toList,Tryz.prog.readableRec t=true∧t<Tryz.prog.types.size:=by
 rw[Tryz.params4];intro t ht;simp only[List.mem_cons,List.not_mem_nil,or_false] at ht;rcases ht with rfl | rfl | rfl
 ·exact⟨by kernel_rfl,of_decide_eq_true Ad⟩
 ·exact⟨by kernel_rfl,of_decide_eq_true Ad⟩
 exact⟨by kernel_rfl,of_decide_eq_true Ad⟩
set_option maxRecDepth 100000 in
theorem HJ (os:Os) (started:os.Started) (H:Type) (enc:TypeId×Value→H) :
  ReturnsInHanded {} Tryz.checked os 4 .any (Rows.indicesResolvesSpec.pre6 enc Tryz.prog Tryz.f4 Rows.indicesResolvesRow.domain false) (Rows.indicesResolvesSpec.post enc Tryz.prog Tryz.f4 false true false false):=by
 refine returnsInHanded_of_change (C:=Tryz.checked) own started Ad Tryz.func4
  (ChangeSpec.witness6 (enc:=enc) (C:=Tryz.checked) false ⟨#[],#[.slice none 0 0,.slice none 0 0,.agg #[.int .i64 0,.int .i64 0,.string ⟨#[]⟩,.slice none 0 0,.slice none 0 0]],[]⟩ 8 Ad Ad Ad Ad) ?_
 intro W base args ds gs before hval0 hW hcnd _;have hval:∀(j:Nat) t v,Tryz.f4.params[j]?=some t→args[j]?=some v→Value.okWide Tryz.prog W .any base t v:=hval0;have hW':=hW;obtain⟨p,q,hA0,hV,hps,hfz,hnd⟩:=hW;have hA:DataW.TrodAll enc Tryz.prog W 0 (fun _=>true) true Tryz.f4.params.toList args.toList ds p:=hA0;rw[Tryz.params4] at hA hval;obtain⟨v0,NC,d0,ds0,p0,q0,hargs,hds,hp0,h0,r0⟩:=trodAll_cons hA;obtain⟨v1,vs1,d1,ds1,p1,q1,rfl,rfl,hp1,h1,r1⟩:=trodAll_cons r0;obtain⟨v2,vs2,d2,ds2,p2,q2,rfl,rfl,hp2,h2,r2⟩:=trodAll_cons r1;obtain⟨rfl,rfl,_⟩:=trodAll_nil r2;obtain rfl:args=#[v0,v1,v2]:=by cases args;simp_all
 subst hds;obtain⟨rfl,_⟩:=trodVars_none hV;obtain⟨l0,a0,c0⟩:=Zl jV (hval 0 47 v0 rfl rfl) h0;obtain⟨l1,a1,b1,c1⟩:=ZI ia (hval 1 23 v1 rfl rfl) h1;obtain⟨l2,b2,c2⟩:=dL ia (hval 2 25 v2 rfl rfl) h2;refine(Ra (Pc l0 l1 l2 a0 b1 a1 b2 Ty) (w:=W) (vs:=[v0,v1,v2]) ⟨_,_,O,c0,⟨_,_,O,c1,⟨_,_,O,c2,O⟩⟩⟩).mono fun e W' ⟨he,hb⟩=>?_;subst he;exact⟨_,O,Q3 laidOut (tB:=4) Ad Ad O (gN) hW' O O O hb⟩
theorem indicesResolves_holds:Rows.IndicesResolvesSaid :=
 OpenClaim.holds_of_wide 4 Tryz.f4 rfl rfl rfl rfl rfl rfl rfl ⟨rfl,rfl,rfl,rfl,rfl⟩ rfl rfl rfl rfl rfl Ad Tryz.func4 Ad
  (of_decide_eq_true Ad) (by unfold Func.isWrapper;first | (rw[if_pos (by decide +kernel)];kernel_rfl) | (rw[if_neg (by decide +kernel)];exact⟨rfl,rfl⟩))
  (fun os started H enc _=>HJ os started H enc)
end Go.Proofs.YtifphifongokcaaGreat
