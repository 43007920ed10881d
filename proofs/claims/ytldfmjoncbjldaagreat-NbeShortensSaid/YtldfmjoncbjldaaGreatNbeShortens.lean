/- For every term, NbeShortens returns true and leaves its arguments as they were. -/
import Derived.Test.YtldfmjoncbjldaaGreatPc
import Derived.Test.YtldfmjoncbjldaaGreatPg
set_option linter.unusedVariables false
set_option linter.unusedSimpArgs false
namespace Go.Proofs.YtldfmjoncbjldaaGreat
open Go.Abs Go.Eu Go.ChangeShapes Go.WideShapes Go.ChangeAt Go.RowKit
theorem cZ:∀t∈Tryz.f5.params.toList,Tryz.prog.readableRec t=true∧t<Tryz.prog.types.size:=by
 rw[Tryz.params5];intro t ht;simp only[List.mem_cons,List.not_mem_nil,or_false] at ht;rcases ht with rfl;exact⟨by kernel_rfl,of_decide_eq_true AZ⟩
set_option maxRecDepth 100000 in
theorem HQ (os:Os) (started:os.Started) (H:Type) (enc:TypeId×Value→H) :
  ReturnsInHanded {} Tryz.checked os 5 .any (Rows.nbeShortensSpec.pre6 enc Tryz.prog Tryz.f5 Rows.nbeShortensRow.domain false) (Rows.nbeShortensSpec.post enc Tryz.prog Tryz.f5 false true false false):=by
 refine returnsInHanded_of_change (C:=Tryz.checked) own started AZ Tryz.func5
  (ChangeSpec.witness6 (enc:=enc) (C:=Tryz.checked) false ⟨#[],#[.agg #[.int .i64 0,.int .i64 0,.string ⟨#[]⟩,.slice none 0 0,.slice none 0 0]],[]⟩ 8 AZ AZ AZ AZ) ?_
 intro W base args ds gs before hval0 hW hcnd _;have hval:∀(j:Nat) t v,Tryz.f5.params[j]?=some t→args[j]?=some v→Value.okWide Tryz.prog W .any base t v:=hval0;have hW':=hW;obtain⟨p,q,hA0,hV,hps,hfz,hnd⟩:=hW;have hA:DataW.TrodAll enc Tryz.prog W 0 (fun _=>true) true Tryz.f5.params.toList args.toList ds p:=hA0;rw[Tryz.params5] at hA hval;obtain⟨v0,vs0,d0,ds0,p0,q0,hargs,hds,hp0,h0,r0⟩:=trodAll_cons hA;obtain⟨rfl,rfl,_⟩:=trodAll_nil r0;obtain rfl:args=#[v0]:=by cases args;simp_all
 subst hds;obtain⟨rfl,_⟩:=trodVars_none hV;obtain⟨l0,b0,c0⟩:=Ze eA (hval 0 26 v0 rfl rfl) h0;refine(PR (Nu l0 b0) (w:=W) (vs:=[v0]) ⟨_,_,O,c0,O⟩).mono fun e W' ⟨he,hb⟩=>?_;subst he;exact⟨_,O,Om laidOut (tB:=4) AZ AZ O (cZ) hW' O O O hb⟩
theorem nbeShortens_holds:Rows.NbeShortensSaid :=
 OpenClaim.holds_of_wide 5 Tryz.f5 rfl rfl rfl rfl rfl rfl rfl ⟨rfl,rfl,rfl,rfl,rfl⟩ rfl rfl rfl rfl rfl AZ Tryz.func5 AZ
  (of_decide_eq_true AZ) (by unfold Func.isWrapper;first | (rw[if_pos (by decide +kernel)];kernel_rfl) | (rw[if_neg (by decide +kernel)];exact⟨rfl,rfl⟩))
  (fun os started H enc _=>HQ os started H enc)
end Go.Proofs.YtldfmjoncbjldaaGreat
