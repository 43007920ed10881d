/- For every declaration, boolean and number of bulk at most 1048576, RecursorParts returns true and leaves its arguments as they were. -/
import Derived.Test.YtifphifongokcaaGreatPc
import Derived.Test.YtifphifongokcaaGreatPi
set_option linter.unusedVariables false
set_option linter.unusedSimpArgs false
namespace Go.Proofs.YtifphifongokcaaGreat
open Go.Abs Go.Eu Go.ChangeShapes Go.WideShapes Go.ChangeAt Go.RowKit
theorem jI:∀t∈Tryz.f3.params.toList,Tryz.prog.readableRec t=true∧t<Tryz.prog.types.size:=by
 rw[Tryz.params3];intro t ht;simp only[List.mem_cons,List.not_mem_nil,or_false] at ht;rcases ht with rfl | rfl | rfl
 ·exact⟨by kernel_rfl,of_decide_eq_true Ai⟩
 ·exact⟨by kernel_rfl,of_decide_eq_true Ai⟩
 exact⟨by kernel_rfl,of_decide_eq_true Ai⟩
theorem J0 (os:Os) {H:Type}(enc:TypeId×Value→H):∃places,DataW.whole enc Tryz.prog ((Js os).forCall (fun _ _=>0) ⟨#[],#[.agg #[.int .i64 0,.string ⟨#[]⟩,.int .i64 0,.int .i64 0,.int .i64 0,.string ⟨#[]⟩,.slice none 0 0,.slice none 0 0,.int .i64 0,.int .i64 0,.string ⟨#[]⟩,.slice none 0 0,.slice none 0 0,.int .i64 0,.slice none 0 0,.int .i64 0,.int .i64 0,.int .i64 0,.string ⟨#[]⟩,.slice none 0 0,.slice none 0 0,.slice none 0 0,.slice none 0 0],.bool false,.int .i64 0],[]⟩).memory Tryz.f3.params.toList (Rows.OpenSpec.upto Rows.recursorPartsSpec).vars false (#[.agg #[.int .i64 0,.string ⟨#[]⟩,.int .i64 0,.int .i64 0,.int .i64 0,.string ⟨#[]⟩,.slice none 0 0,.slice none 0 0,.int .i64 0,.int .i64 0,.string ⟨#[]⟩,.slice none 0 0,.slice none 0 0,.int .i64 0,.slice none 0 0,.int .i64 0,.int .i64 0,.int .i64 0,.string ⟨#[]⟩,.slice none 0 0,.slice none 0 0,.slice none 0 0,.slice none 0 0],.bool false,.int .i64 0]:Array Value).toList 8=some ([.agg [.lit (.int .i64 0),.lit (.string []),.lit (.int .i64 0),.agg [.lit (.int .i64 0),.lit (.int .i64 0),.lit (.string []),.nil,.nil],.agg [.lit (.int .i64 0),.lit (.int .i64 0),.lit (.string []),.nil,.nil],.lit (.int .i64 0),.nil,.agg [.lit (.int .i64 0),.agg [.lit (.int .i64 0),.lit (.int .i64 0),.lit (.string []),.nil,.nil],.nil],.nil],.lit (.bool false),.lit (.int .i64 0)],[],places) :=
 ⟨[],by kernel_rfl⟩
set_option maxRecDepth 100000 in
theorem JO (os:Os) (started:os.Started) (H:Type) (enc:TypeId×Value→H) (F:Stop.Interp) :
  ReturnsInHanded {} Tryz.checked os 3 .any ((Rows.OpenSpec.upto Rows.recursorPartsSpec).preRow enc Tryz.prog Tryz.f3 Rows.recursorPartsUptoRow.domain false Rows.recursorPartsUptoRow.laid) (((Rows.OpenSpec.upto Rows.recursorPartsSpec).at F).post enc Tryz.prog Tryz.f3 false true false false):=by
 obtain⟨places,hx⟩:=J0 os enc;refine returnsInHanded_of_row (C:=Tryz.checked) (s:=(Rows.OpenSpec.upto Rows.recursorPartsSpec)) own started Ai Tryz.func3
  (witness_row_atRef (enc:=enc) (C:=Tryz.checked) false (Js os) #[.agg #[.int .i64 0,.string ⟨#[]⟩,.int .i64 0,.int .i64 0,.int .i64 0,.string ⟨#[]⟩,.slice none 0 0,.slice none 0 0,.int .i64 0,.int .i64 0,.string ⟨#[]⟩,.slice none 0 0,.slice none 0 0,.int .i64 0,.slice none 0 0,.int .i64 0,.int .i64 0,.int .i64 0,.string ⟨#[]⟩,.slice none 0 0,.slice none 0 0,.slice none 0 0,.slice none 0 0],.bool false,.int .i64 0] rfl Ai Ai Ai
   (OpenSpec.preRow_of_cond 8 hx Ai (fun k hk=>by cases hk;kernel_rfl) Ai (XA os _))) ?_
 intro W base args ds gs before hval0 hW _ hcd hwt hL0 _ _;have hU:Rows.uptoSmall H (ds++gs)=true:=hcd _ rfl;have hval:∀(j:Nat) t v,Tryz.f3.params[j]?=some t→args[j]?=some v→Value.okWide Tryz.prog W .any base t v:=hval0;have hW':=hW;obtain⟨p,q,hA0,hV,hps,hfz,hnd⟩:=hW';have hA:DataW.TrodAll enc Tryz.prog W 0 (fun _=>true) true Tryz.f3.params.toList args.toList ds p:=hA0;rw[Tryz.params3] at hA hval;obtain⟨v0,vs0,d0,ds0,p0,q0,hargs,hds,hp0,h0,r0⟩:=trodAll_cons hA;obtain⟨v1,vs1,d1,ds1,p1,q1,rfl,rfl,hp1,h1,r1⟩:=trodAll_cons r0;obtain⟨v2,vs2,d2,ds2,p2,q2,rfl,rfl,hp2,h2,r2⟩:=trodAll_cons r1;obtain⟨rfl,rfl,_⟩:=trodAll_nil r2;obtain rfl:args=#[v0,v1,v2]:=by cases args;simp_all
 subst hds;obtain⟨rfl,_⟩:=trodVars_none hV;obtain⟨l0,b0,c0⟩:=gR (blk H) nR l5 (hval 0 31 v0 rfl rfl) h0 (Yt hU (i:=0) rfl);obtain⟨l1,c1⟩:=gV uB (hval 1 4 v1 rfl rfl) h1;obtain⟨l2,b2,c2⟩:=gU l5 (hval 2 3 v2 rfl rfl) h2;refine(Sr (Vk l0 l1 l2 b0  ) (w:=W) (vs:=[v0,v1,v2]) ⟨_,_,O,c0,⟨_,_,O,c1,⟨_,_,O,c2,O⟩⟩⟩).mono fun e W' ⟨he,hb⟩=>?_;subst he;exact⟨_,O,TE laidOut (s:=Rows.recursorPartsSpec) (tB:=4) Ai Ai O (jI) hW O O O hb⟩
theorem recursorParts_holds:Rows.RecursorPartsUptoSaid :=
 OpenClaim.holds_of_cond 3 Tryz.f3 rfl rfl rfl rfl rfl rfl rfl ⟨rfl,rfl,rfl,rfl,rfl⟩ rfl rfl rfl rfl rfl e6 Tryz.func3 VT ZY aG
  (fun os started H enc _ F=>by rw[OpenClaim.pre_eq_preRow];exact JO os started H enc F)
end Go.Proofs.YtifphifongokcaaGreat
