/- For every environment, list of metavariables, context and term of bulk at most 1048576, MetasUses returns true and leaves its arguments as they were. -/
import Derived.Test.YtajnpndfkbnkoaaGreatPc
import Derived.Test.YtajnpndfkbnkoaaGreatPg
set_option linter.unusedVariables false
set_option linter.unusedSimpArgs false
namespace Go.Proofs.YtajnpndfkbnkoaaGreat
open Go.Abs Go.Eu Go.ChangeShapes Go.WideShapes Go.ChangeAt Go.RowKit
theorem gj:∀t∈Tryz.f4.params.toList,Tryz.prog.readableRec t=true∧t<Tryz.prog.types.size:=by
 rw[Tryz.params4];intro t ht;simp only[List.mem_cons,List.not_mem_nil,or_false] at ht;rcases ht with rfl | rfl
 ·exact⟨by kernel_rfl,of_decide_eq_true Ab⟩
 exact⟨by kernel_rfl,of_decide_eq_true Ab⟩
theorem Mz (os:Os) {H:Type}(enc:TypeId×Value→H):∃places,DataW.whole enc Tryz.prog ((Je os).forCall (fun _ _=>0) ⟨#[],#[.agg #[.slice none 0 0,.slice none 0 0,.slice none 0 0],.agg #[.int .i64 0,.int .i64 0,.string ⟨#[]⟩,.slice none 0 0,.slice none 0 0]],[]⟩).memory Tryz.f4.params.toList (Rows.OpenSpec.upto Rows.metasUsesSpec).vars false (#[.agg #[.slice none 0 0,.slice none 0 0,.slice none 0 0],.agg #[.int .i64 0,.int .i64 0,.string ⟨#[]⟩,.slice none 0 0,.slice none 0 0]]:Array Value).toList 8=some ([.agg [.nil,.nil,.nil],.agg [.lit (.int .i64 0),.lit (.int .i64 0),.lit (.string []),.nil,.nil]],[],places) :=
 ⟨[],by kernel_rfl⟩
set_option maxRecDepth 100000 in
theorem LY (os:Os) (started:os.Started) (H:Type) (enc:TypeId×Value→H) (F:Stop.Interp) :
  ReturnsInHanded {} Tryz.checked os 4 .any ((Rows.OpenSpec.upto Rows.metasUsesSpec).preRow enc Tryz.prog Tryz.f4 Rows.metasUsesUptoRow.domain false Rows.metasUsesUptoRow.laid) (((Rows.OpenSpec.upto Rows.metasUsesSpec).at F).post enc Tryz.prog Tryz.f4 false true false false):=by
 have ⟨places,hx⟩:=Mz os enc;refine returnsInHanded_of_row (C:=Tryz.checked) (s:=(Rows.OpenSpec.upto Rows.metasUsesSpec)) own started Ab Tryz.func4
  (witness_row_atRef (enc:=enc) (C:=Tryz.checked) false (Je os) #[.agg #[.slice none 0 0,.slice none 0 0,.slice none 0 0],.agg #[.int .i64 0,.int .i64 0,.string ⟨#[]⟩,.slice none 0 0,.slice none 0 0]] rfl Ab Ab Ab
   (OpenSpec.preRow_of_cond 8 hx Ab (fun k hk=>by cases hk;kernel_rfl) Ab (YY os _))) ?_
 intro W base args ds gs before hval0 hW _ hcd hwt hL0 _ _;have hU:Rows.uptoSmall H (ds++gs)=true:=hcd _ rfl;have hval:∀(j:Nat) t v,Tryz.f4.params[j]?=some t→args[j]?=some v→Value.okWide Tryz.prog W .any base t v:=hval0;have hW':=hW;have ⟨p,q,hA0,hV,hps,hfz,hnd⟩:=hW';have hA:DataW.TrodAll enc Tryz.prog W 0 (fun _=>true) true Tryz.f4.params.toList args.toList ds p:=hA0;rw[Tryz.params4] at hA hval;have ⟨v0,vs0,d0,ds0,p0,q0,hargs,hds,hp0,h0,r0⟩:=trodAll_cons hA;obtain⟨v1,vs1,d1,ds1,p1,q1,rfl,rfl,hp1,h1,r1⟩:=trodAll_cons r0;obtain⟨rfl,rfl,_⟩:=trodAll_nil r1;obtain rfl:args=#[v0,v1]:=by cases args;simp_all
 subst hds;obtain⟨rfl,_⟩:=trodVars_none hV;have ⟨l0,a0,c0⟩:=fo (blk H) jY iq jj fY cY gO (hval 0 26 v0 rfl rfl) h0 (Zy hU (i:=0) rfl);have ⟨l1,b1,c1⟩:=gE iq (hval 1 29 v1 rfl rfl) h1;refine(Tg (Zn l0 l1 a0 b1) (w:=W) (vs:=[v0,v1]) ⟨_,_,O,c0,⟨_,_,O,c1,O⟩⟩).mono fun e W' ⟨he,hb⟩=>?_;subst he;exact⟨_,O,Tq laidOut (s:=Rows.metasUsesSpec) (tB:=4) Ab Ab O (gj) hW O O O hb⟩
theorem metasUses_holds:Rows.MetasUsesUptoSaid :=
 OpenClaim.holds_of_cond 4 Tryz.f4 rfl rfl rfl rfl rfl rfl rfl ⟨rfl,rfl,rfl,rfl,rfl⟩ rfl rfl rfl rfl rfl Ab Tryz.func4 Ab
  (of_decide_eq_true Ab) (by unfold Func.isWrapper;first | (rw[if_pos (by decide +kernel)];kernel_rfl) | (rw[if_neg (by decide +kernel)];exact⟨rfl,rfl⟩))
  (fun os started H enc _ F=>by rw[OpenClaim.pre_eq_preRow];exact LY os started H enc F)
end Go.Proofs.YtajnpndfkbnkoaaGreat
