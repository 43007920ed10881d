/- For every term, NbeExpands returns true and leaves its arguments as they were. -/
import Derived.Test.YtldfmjoncbjldaaGreatPc
import Derived.Test.YtldfmjoncbjldaaGreatPg
set_option linter.unusedVariables false
set_option linter.unusedSimpArgs false
namespace Go.Proofs.YtldfmjoncbjldaaGreat
open Go.Abs Go.Eu Go.ChangeShapes Go.WideShapes Go.ChangeAt Go.RowKit
theorem dE:∀t∈Tryz.f9.params.toList,Tryz.prog.readableRec t=true∧t<Tryz.prog.types.size:=by
 rw[Tryz.params9];intro t ht;simp only[List.mem_cons,List.not_mem_nil,or_false] at ht;rcases ht with rfl | rfl
 ·exact⟨by kernel_rfl,of_decide_eq_true AW⟩
 exact⟨by kernel_rfl,of_decide_eq_true AW⟩
set_option maxRecDepth 100000 in
theorem HW (os:Os) (started:os.Started) (H:Type) (enc:TypeId×Value→H) :
  ReturnsInHanded {} Tryz.checked os 9 .any (Rows.nbeExpandsSpec.pre6 enc Tryz.prog Tryz.f9 Rows.nbeExpandsRow.domain false) (Rows.nbeExpandsSpec.post enc Tryz.prog Tryz.f9 false true false false):=by
 refine returnsInHanded_of_change (C:=Tryz.checked) own started AW Tryz.func9
  (ChangeSpec.witness6 (enc:=enc) (C:=Tryz.checked) false ⟨#[],#[.agg #[.int .i64 0,.int .i64 0,.string ⟨#[]⟩,.slice none 0 0,.slice none 0 0],.agg #[.int .i64 0,.int .i64 0,.string ⟨#[]⟩,.slice none 0 0,.slice none 0 0]],[]⟩ 8 AW AW AW AW) ?_
 intro W base args ds gs before hval0 hW hcnd _;have hval:∀(j:Nat) t v,Tryz.f9.params[j]?=some t→args[j]?=some v→Value.okWide Tryz.prog W .any base t v:=hval0;have hW':=hW;obtain⟨p,q,hA0,hV,hps,hfz,hnd⟩:=hW;have hA:DataW.TrodAll enc Tryz.prog W 0 (fun _=>true) true Tryz.f9.params.toList args.toList ds p:=hA0;rw[Tryz.params9] at hA hval;obtain⟨v0,vs0,d0,ds0,p0,q0,hargs,hds,hp0,h0,r0⟩:=trodAll_cons hA;obtain⟨v1,vs1,d1,ds1,p1,q1,rfl,rfl,hp1,h1,r1⟩:=trodAll_cons r0;obtain⟨rfl,rfl,_⟩:=trodAll_nil r1;obtain rfl:args=#[v0,v1]:=by cases args;simp_all
 subst hds;obtain⟨rfl,_⟩:=trodVars_none hV;obtain⟨l0,b0,c0⟩:=WU eB (hval 0 26 v0 rfl rfl) h0;obtain⟨l1,b1,c1⟩:=WU eB (hval 1 26 v1 rfl rfl) h1;refine(Pe (Pa l0 l1 b0 b1) (w:=W) (vs:=[v0,v1]) ⟨_,_,O,c0,⟨_,_,O,c1,O⟩⟩).mono fun e W' ⟨he,hb⟩=>?_;subst he;exact⟨_,O,PA laidOut (tB:=4) AW AW O (dE) hW' O O O hb⟩
theorem nbeExpands_holds:Rows.NbeExpandsSaid :=
 OpenClaim.holds_of_wide 9 Tryz.f9 rfl rfl rfl rfl rfl rfl rfl ⟨rfl,rfl,rfl,rfl,rfl⟩ rfl rfl rfl rfl rfl AW Tryz.func9 AW
  (of_decide_eq_true AW) (by unfold Func.isWrapper;first | (rw[if_pos (by decide +kernel)];kernel_rfl) | (rw[if_neg (by decide +kernel)];exact⟨rfl,rfl⟩))
  (fun os started H enc _=>HW os started H enc)
end Go.Proofs.YtldfmjoncbjldaaGreat
