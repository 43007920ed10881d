/- For every environment and terms of bulk at most 1048576, ReduceSelects returns true and leaves its arguments as they were. -/
import Derived.Test.YtboammbpdaoojaaGreatPc
import Derived.Test.YtboammbpdaoojaaGreatPj
set_option linter.unusedVariables false
set_option linter.unusedSimpArgs false
namespace Go.Proofs.YtboammbpdaoojaaGreat
open Go.Abs Go.Eu Go.ChangeShapes Go.WideShapes Go.ChangeAt Go.RowKit
theorem rh:∀t∈Tryz.f9.params.toList,Tryz.prog.readableRec t=true∧t<Tryz.prog.types.size:=by
 rw[Tryz.params9];intro t ht;simp only[List.mem_cons,List.not_mem_nil,or_false] at ht;rcases ht with rfl | rfl | rfl
 ·exact⟨by kernel_rfl,of_decide_eq_true Aj⟩
 ·exact⟨by kernel_rfl,of_decide_eq_true Aj⟩
 exact⟨by kernel_rfl,of_decide_eq_true Aj⟩
theorem Mt (os:Os) {H:Type}(enc:TypeId×Value→H):∃places,DataW.whole enc Tryz.prog ((Ma os).forCall (fun _ _=>0) ⟨#[],#[.slice none 0 0,.int .u8 0,.slice none 0 0],[]⟩).memory Tryz.f9.params.toList (Rows.OpenSpec.upto Rows.reduceSelectsSpec).vars false (#[.slice none 0 0,.int .u8 0,.slice none 0 0]:Array Value).toList 8=some ([.nil,.lit (.int .u8 0),.nil],[],places) :=
 ⟨[],by kernel_rfl⟩
set_option maxRecDepth 100000 in
theorem L5 (os:Os) (started:os.Started) (H:Type) (enc:TypeId×Value→H) (F:Stop.Interp) :
  ReturnsInHanded {} Tryz.checked os 9 .any ((Rows.OpenSpec.upto Rows.reduceSelectsSpec).preRow enc Tryz.prog Tryz.f9 Rows.reduceSelectsUptoRow.domain false Rows.reduceSelectsUptoRow.laid) (((Rows.OpenSpec.upto Rows.reduceSelectsSpec).at F).post enc Tryz.prog Tryz.f9 false true false false):=by
 obtain⟨places,hx⟩:=Mt os enc;refine returnsInHanded_of_row (C:=Tryz.checked) (s:=(Rows.OpenSpec.upto Rows.reduceSelectsSpec)) own started Aj Tryz.func9
  (witness_row_atRef (enc:=enc) (C:=Tryz.checked) false (Ma os) #[.slice none 0 0,.int .u8 0,.slice none 0 0] rfl Aj Aj Aj
   (OpenSpec.preRow_of_cond 8 hx Aj (fun k hk=>by cases hk;kernel_rfl) Aj (ep os _))) ?_
 intro W base args ds gs before hval0 hW _ hcd hwt hL0 _ _;have hU:Rows.uptoSmall H (ds++gs)=true:=hcd _ rfl;have hval:∀(j:Nat) t v,Tryz.f9.params[j]?=some t→args[j]?=some v→Value.okWide Tryz.prog W .any base t v:=hval0;have hW':=hW;obtain⟨p,q,hA0,hV,hps,hfz,hnd⟩:=hW';have hA:DataW.TrodAll enc Tryz.prog W 0 (fun _=>true) true Tryz.f9.params.toList args.toList ds p:=hA0;rw[Tryz.params9] at hA hval;obtain⟨v0,vs0,d0,ds0,p0,q0,hargs,hds,hp0,h0,r0⟩:=trodAll_cons hA;obtain⟨v1,vs1,d1,ds1,p1,q1,rfl,rfl,hp1,h1,r1⟩:=trodAll_cons r0;obtain⟨v2,vs2,d2,ds2,p2,q2,rfl,rfl,hp2,h2,r2⟩:=trodAll_cons r1;obtain⟨rfl,rfl,_⟩:=trodAll_nil r2;obtain rfl:args=#[v0,v1,v2]:=by cases args;simp_all
 subst hds;obtain⟨rfl,_⟩:=trodVars_none hV;obtain⟨l0,a0,c0⟩:=lx (blk H) uN tA (hval 0 22 v0 rfl rfl) h0 (je hU (i:=0) rfl);obtain⟨l1,b1,c1⟩:=ke uF (hval 1 5 v1 rfl rfl) h1;obtain⟨l2,a2,b2,c2⟩:=ka tA (hval 2 24 v2 rfl rfl) h2;refine(W8 (Xt l0 l1 l2 a0 b1 b2 a2) (w:=W) (vs:=[v0,v1,v2]) ⟨_,_,O,c0,⟨_,_,O,c1,⟨_,_,O,c2,O⟩⟩⟩).mono fun e W' ⟨he,hb⟩=>?_;subst he;exact⟨_,O,XW laidOut (s:=Rows.reduceSelectsSpec) (tB:=4) Aj Aj O (rh) hW O O O hb⟩
theorem reduceSelects_holds:Rows.ReduceSelectsUptoSaid :=
 OpenClaim.holds_of_cond 9 Tryz.f9 rfl rfl rfl rfl rfl rfl rfl ⟨rfl,rfl,rfl,rfl,rfl⟩ rfl rfl rfl rfl rfl Aj Tryz.func9 Aj
  (of_decide_eq_true Aj) (by unfold Func.isWrapper;first | (rw[if_pos (by decide +kernel)];kernel_rfl) | (rw[if_neg (by decide +kernel)];exact⟨rfl,rfl⟩))
  (fun os started H enc _ F=>by rw[OpenClaim.pre_eq_preRow];exact L5 os started H enc F)
end Go.Proofs.YtboammbpdaoojaaGreat
