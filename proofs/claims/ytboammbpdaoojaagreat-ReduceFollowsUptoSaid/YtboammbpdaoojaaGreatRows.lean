/-
  NARROWER THAN 'FOR EVERY INPUT', by the rows' own cells (each row's printed sentence says how): ReduceWhnf: loops · ReduceSteps: loops · ReduceBlocks: loops · ReduceEnds: loops · ReduceUnfolds: loops · ReduceFollows: loops · ReduceSelects: loops.
  DERIVED. THE GIVEN ROWS OF THIS SEAT. 7 by the template 'for every input the law returns true; each argument reads behind the call as it read before'; 0 by the template 'total and deterministic' (their statements: YtboammbpdaoojaaGreatTotals.lean).
  GIVEN WITH THE SEED: the statements are not yours to turn. If you find one false, say at which input.
  Laid BY PROGRAM, IN A SANDBOX (cutbox-rows.mjs): the forced cells as the released guide's own fill.sh prints them over the translation 3c09bfa109d95617… (all of the seat's roots in one cut). By AI agents, Wed Nov 11 2026. No macro, syntax, notation, axiom, sorry.
-/
import Derived.Test.YtboammbpdaoojaaGreatChecked
import GoSem.Claim
import GoSem.ClaimJoined
import GoSem.ClaimMapViews
import Derived.JoinedTies
import Derived.KernelRfl
namespace Go.Proofs.YtboammbpdaoojaaGreat
/- THE CELL 'sum', in the pinned program and in every row, IS THE sha256 OF THE DUMP (.gsa) THAT YtboammbpdaoojaaGreatProg.lean LOADS. Nothing in Lean hashes anything: it is a label: what it is worth is what the hold of that sum in a sandbox is worth. -/
noncomputable def Tryz.pinned : Pinned := { name := "ytboammbpdaoojaagreat", sum := "3c09bfa109d95617569094b8277f1545596d51bba782dbddb2ab63319a317672", checked := Tryz.checked }
namespace Rows
def none {H : Type} : Left H := { results := [], args := [] }

/-- 'euclidlaw08.ReduceWhnf': WHATEVER THE INPUT: true; the input reads as it did. -/
def reduceWhnfSpec : ChangeSpec := { name := "reduceWhnf", fn := fun _ => fun
  | [d1, d2] => { results := [.lit (.bool true)], args := [d1, d2] }
  | _ => none }
def reduceWhnfRow : OpenClaim := { program := "ytboammbpdaoojaagreat", sum := "3c09bfa109d95617569094b8277f1545596d51bba782dbddb2ab63319a317672", func := "euclid/euclidlaw08.ReduceWhnf", spec := "reduceWhnf", unfollowed := true, recurses := true, loops := true, apart := false }
def ReduceWhnfSaid : Prop := reduceWhnfRow.holds Tryz.pinned (OpenSpec.ofChange reduceWhnfSpec)

/-- ITS FALSE NEIGHBOUR: 'it returns false'. Refute it at one input. -/
def reduceWhnfWrong : ChangeSpec := { name := "reduceWhnf", fn := fun _ => fun
  | [d1, d2] => { results := [.lit (.bool false)], args := [d1, d2] }
  | _ => none }
def ReduceWhnfWrongFalsely : Prop := reduceWhnfRow.holds Tryz.pinned (OpenSpec.ofChange reduceWhnfWrong)

/-- 'euclidlaw08.ReduceSteps': WHATEVER THE INPUT: true; the input reads as it did. -/
def reduceStepsSpec : ChangeSpec := { name := "reduceSteps", fn := fun _ => fun
  | [d1, d2] => { results := [.lit (.bool true)], args := [d1, d2] }
  | _ => none }
def reduceStepsRow : OpenClaim := { program := "ytboammbpdaoojaagreat", sum := "3c09bfa109d95617569094b8277f1545596d51bba782dbddb2ab63319a317672", func := "euclid/euclidlaw08.ReduceSteps", spec := "reduceSteps", unfollowed := true, recurses := true, loops := true, apart := false }
def ReduceStepsSaid : Prop := reduceStepsRow.holds Tryz.pinned (OpenSpec.ofChange reduceStepsSpec)

/-- ITS FALSE NEIGHBOUR: 'it returns false'. Refute it at one input. -/
def reduceStepsWrong : ChangeSpec := { name := "reduceSteps", fn := fun _ => fun
  | [d1, d2] => { results := [.lit (.bool false)], args := [d1, d2] }
  | _ => none }
def ReduceStepsWrongFalsely : Prop := reduceStepsRow.holds Tryz.pinned (OpenSpec.ofChange reduceStepsWrong)

/-- 'euclidlaw08.ReduceBlocks': WHATEVER THE INPUT: true; the input reads as it did. -/
def reduceBlocksSpec : ChangeSpec := { name := "reduceBlocks", fn := fun _ => fun
  | [d1, d2] => { results := [.lit (.bool true)], args := [d1, d2] }
  | _ => none }
def reduceBlocksRow : OpenClaim := { program := "ytboammbpdaoojaagreat", sum := "3c09bfa109d95617569094b8277f1545596d51bba782dbddb2ab63319a317672", func := "euclid/euclidlaw08.ReduceBlocks", spec := "reduceBlocks", unfollowed := true, recurses := true, loops := true, apart := false }
def ReduceBlocksSaid : Prop := reduceBlocksRow.holds Tryz.pinned (OpenSpec.ofChange reduceBlocksSpec)

/-- ITS FALSE NEIGHBOUR: 'it returns false'. Refute it at one input. -/
def reduceBlocksWrong : ChangeSpec := { name := "reduceBlocks", fn := fun _ => fun
  | [d1, d2] => { results := [.lit (.bool false)], args := [d1, d2] }
  | _ => none }
def ReduceBlocksWrongFalsely : Prop := reduceBlocksRow.holds Tryz.pinned (OpenSpec.ofChange reduceBlocksWrong)

/-- 'euclidlaw08.ReduceEnds': WHATEVER THE INPUT: true; the input reads as it did. -/
def reduceEndsSpec : ChangeSpec := { name := "reduceEnds", fn := fun _ => fun
  | [d1, d2] => { results := [.lit (.bool true)], args := [d1, d2] }
  | _ => none }
def reduceEndsRow : OpenClaim := { program := "ytboammbpdaoojaagreat", sum := "3c09bfa109d95617569094b8277f1545596d51bba782dbddb2ab63319a317672", func := "euclid/euclidlaw08.ReduceEnds", spec := "reduceEnds", unfollowed := true, recurses := true, loops := true, apart := false }
def ReduceEndsSaid : Prop := reduceEndsRow.holds Tryz.pinned (OpenSpec.ofChange reduceEndsSpec)

/-- ITS FALSE NEIGHBOUR: 'it returns false'. Refute it at one input. -/
def reduceEndsWrong : ChangeSpec := { name := "reduceEnds", fn := fun _ => fun
  | [d1, d2] => { results := [.lit (.bool false)], args := [d1, d2] }
  | _ => none }
def ReduceEndsWrongFalsely : Prop := reduceEndsRow.holds Tryz.pinned (OpenSpec.ofChange reduceEndsWrong)

/-- 'euclidlaw08.ReduceUnfolds': WHATEVER THE INPUT: true; the input reads as it did. -/
def reduceUnfoldsSpec : ChangeSpec := { name := "reduceUnfolds", fn := fun _ => fun
  | [d1, d2, d3] => { results := [.lit (.bool true)], args := [d1, d2, d3] }
  | _ => none }
def reduceUnfoldsRow : OpenClaim := { program := "ytboammbpdaoojaagreat", sum := "3c09bfa109d95617569094b8277f1545596d51bba782dbddb2ab63319a317672", func := "euclid/euclidlaw08.ReduceUnfolds", spec := "reduceUnfolds", unfollowed := true, recurses := true, loops := true, apart := false }
def ReduceUnfoldsSaid : Prop := reduceUnfoldsRow.holds Tryz.pinned (OpenSpec.ofChange reduceUnfoldsSpec)

/-- ITS FALSE NEIGHBOUR: 'it returns false'. Refute it at one input. -/
def reduceUnfoldsWrong : ChangeSpec := { name := "reduceUnfolds", fn := fun _ => fun
  | [d1, d2, d3] => { results := [.lit (.bool false)], args := [d1, d2, d3] }
  | _ => none }
def ReduceUnfoldsWrongFalsely : Prop := reduceUnfoldsRow.holds Tryz.pinned (OpenSpec.ofChange reduceUnfoldsWrong)

/-- 'euclidlaw08.ReduceFollows': WHATEVER THE INPUT: true; the input reads as it did. -/
def reduceFollowsSpec : ChangeSpec := { name := "reduceFollows", fn := fun _ => fun
  | [d1, d2] => { results := [.lit (.bool true)], args := [d1, d2] }
  | _ => none }
def reduceFollowsRow : OpenClaim := { program := "ytboammbpdaoojaagreat", sum := "3c09bfa109d95617569094b8277f1545596d51bba782dbddb2ab63319a317672", func := "euclid/euclidlaw08.ReduceFollows", spec := "reduceFollows", unfollowed := true, recurses := true, loops := true, apart := false }
def ReduceFollowsSaid : Prop := reduceFollowsRow.holds Tryz.pinned (OpenSpec.ofChange reduceFollowsSpec)

/-- ITS FALSE NEIGHBOUR: 'it returns false'. Refute it at one input. -/
def reduceFollowsWrong : ChangeSpec := { name := "reduceFollows", fn := fun _ => fun
  | [d1, d2] => { results := [.lit (.bool false)], args := [d1, d2] }
  | _ => none }
def ReduceFollowsWrongFalsely : Prop := reduceFollowsRow.holds Tryz.pinned (OpenSpec.ofChange reduceFollowsWrong)

/-- 'euclidlaw08.ReduceSelects': WHATEVER THE INPUT: true; the input reads as it did. -/
def reduceSelectsSpec : ChangeSpec := { name := "reduceSelects", fn := fun _ => fun
  | [d1, d2, d3] => { results := [.lit (.bool true)], args := [d1, d2, d3] }
  | _ => none }
def reduceSelectsRow : OpenClaim := { program := "ytboammbpdaoojaagreat", sum := "3c09bfa109d95617569094b8277f1545596d51bba782dbddb2ab63319a317672", func := "euclid/euclidlaw08.ReduceSelects", spec := "reduceSelects", unfollowed := true, recurses := true, loops := true, apart := false }
def ReduceSelectsSaid : Prop := reduceSelectsRow.holds Tryz.pinned (OpenSpec.ofChange reduceSelectsSpec)

/-- ITS FALSE NEIGHBOUR: 'it returns false'. Refute it at one input. -/
def reduceSelectsWrong : ChangeSpec := { name := "reduceSelects", fn := fun _ => fun
  | [d1, d2, d3] => { results := [.lit (.bool false)], args := [d1, d2, d3] }
  | _ => none }
def ReduceSelectsWrongFalsely : Prop := reduceSelectsRow.holds Tryz.pinned (OpenSpec.ofChange reduceSelectsWrong)

/- THE SECOND FORM. 'bulk': how many values and letters a reading holds, each counted each time it is reached (what is shared counts as often as it is met; a slice's spare places count too). A statement '..UptoSaid' is the law's where the arguments, and the package variables that the reading takes, are together of bulk at most 1048576: NARROWER than '..Said'. Prove '..Said' where nothing that the law and all that it calls make is longer than what came in: it says more and counts as full. Else prove '..UptoSaid'. A law counts once. -/
mutual
def uptoBulk {H : Type} : DataW H → Nat
  | .lit (.string bytes) => bytes.length + 1
  | .lit _ => 1
  | .nil => 1
  | .ptr d => uptoBulk d + 1
  | .slice elems spare => uptoBulkAll elems + uptoBulkAll spare + 1
  | .agg parts => uptoBulkAll parts + 1
  | .iface _ d => uptoBulk d + 1
  | .map entries => uptoBulkEntries entries + 1
  | .held _ => 1
def uptoBulkAll {H : Type} : List (DataW H) → Nat
  | [] => 0
  | d :: r => uptoBulk d + uptoBulkAll r
def uptoBulkEntries {H : Type} : List (Lit × DataW H) → Nat
  | [] => 0
  | x :: r => uptoBulkEntry x + uptoBulkEntries r
def uptoBulkEntry {H : Type} : Lit × DataW H → Nat
  | (.string bytes, d) => bytes.length + uptoBulk d + 1
  | (_, d) => uptoBulk d + 1
 end
def uptoSmall : (H : Type) → List (DataW H) → Bool := fun _ ds => decide (uptoBulkAll ds ≤ 1048576)
def OpenSpec.upto (s : _root_.Go.ChangeSpec) : _root_.Go.OpenSpec := { _root_.Go.OpenSpec.ofChange s with cond := some uptoSmall }

/-- 'euclidlaw08.ReduceWhnf', WHERE WHAT IT READS IS OF BULK AT MOST 1048576: true; the input reads as it did. -/
def reduceWhnfUptoRow : OpenClaim := { program := "ytboammbpdaoojaagreat", sum := "3c09bfa109d95617569094b8277f1545596d51bba782dbddb2ab63319a317672", func := "euclid/euclidlaw08.ReduceWhnf", spec := "reduceWhnf", unfollowed := true, recurses := true, loops := true, apart := false, narrowed := true }
def ReduceWhnfUptoSaid : Prop := reduceWhnfUptoRow.holds Tryz.pinned (OpenSpec.upto reduceWhnfSpec)

/-- 'euclidlaw08.ReduceSteps', WHERE WHAT IT READS IS OF BULK AT MOST 1048576: true; the input reads as it did. -/
def reduceStepsUptoRow : OpenClaim := { program := "ytboammbpdaoojaagreat", sum := "3c09bfa109d95617569094b8277f1545596d51bba782dbddb2ab63319a317672", func := "euclid/euclidlaw08.ReduceSteps", spec := "reduceSteps", unfollowed := true, recurses := true, loops := true, apart := false, narrowed := true }
def ReduceStepsUptoSaid : Prop := reduceStepsUptoRow.holds Tryz.pinned (OpenSpec.upto reduceStepsSpec)

/-- 'euclidlaw08.ReduceBlocks', WHERE WHAT IT READS IS OF BULK AT MOST 1048576: true; the input reads as it did. -/
def reduceBlocksUptoRow : OpenClaim := { program := "ytboammbpdaoojaagreat", sum := "3c09bfa109d95617569094b8277f1545596d51bba782dbddb2ab63319a317672", func := "euclid/euclidlaw08.ReduceBlocks", spec := "reduceBlocks", unfollowed := true, recurses := true, loops := true, apart := false, narrowed := true }
def ReduceBlocksUptoSaid : Prop := reduceBlocksUptoRow.holds Tryz.pinned (OpenSpec.upto reduceBlocksSpec)

/-- 'euclidlaw08.ReduceEnds', WHERE WHAT IT READS IS OF BULK AT MOST 1048576: true; the input reads as it did. -/
def reduceEndsUptoRow : OpenClaim := { program := "ytboammbpdaoojaagreat", sum := "3c09bfa109d95617569094b8277f1545596d51bba782dbddb2ab63319a317672", func := "euclid/euclidlaw08.ReduceEnds", spec := "reduceEnds", unfollowed := true, recurses := true, loops := true, apart := false, narrowed := true }
def ReduceEndsUptoSaid : Prop := reduceEndsUptoRow.holds Tryz.pinned (OpenSpec.upto reduceEndsSpec)

/-- 'euclidlaw08.ReduceUnfolds', WHERE WHAT IT READS IS OF BULK AT MOST 1048576: true; the input reads as it did. -/
def reduceUnfoldsUptoRow : OpenClaim := { program := "ytboammbpdaoojaagreat", sum := "3c09bfa109d95617569094b8277f1545596d51bba782dbddb2ab63319a317672", func := "euclid/euclidlaw08.ReduceUnfolds", spec := "reduceUnfolds", unfollowed := true, recurses := true, loops := true, apart := false, narrowed := true }
def ReduceUnfoldsUptoSaid : Prop := reduceUnfoldsUptoRow.holds Tryz.pinned (OpenSpec.upto reduceUnfoldsSpec)

/-- 'euclidlaw08.ReduceFollows', WHERE WHAT IT READS IS OF BULK AT MOST 1048576: true; the input reads as it did. -/
def reduceFollowsUptoRow : OpenClaim := { program := "ytboammbpdaoojaagreat", sum := "3c09bfa109d95617569094b8277f1545596d51bba782dbddb2ab63319a317672", func := "euclid/euclidlaw08.ReduceFollows", spec := "reduceFollows", unfollowed := true, recurses := true, loops := true, apart := false, narrowed := true }
def ReduceFollowsUptoSaid : Prop := reduceFollowsUptoRow.holds Tryz.pinned (OpenSpec.upto reduceFollowsSpec)

/-- 'euclidlaw08.ReduceSelects', WHERE WHAT IT READS IS OF BULK AT MOST 1048576: true; the input reads as it did. -/
def reduceSelectsUptoRow : OpenClaim := { program := "ytboammbpdaoojaagreat", sum := "3c09bfa109d95617569094b8277f1545596d51bba782dbddb2ab63319a317672", func := "euclid/euclidlaw08.ReduceSelects", spec := "reduceSelects", unfollowed := true, recurses := true, loops := true, apart := false, narrowed := true }
def ReduceSelectsUptoSaid : Prop := reduceSelectsUptoRow.holds Tryz.pinned (OpenSpec.upto reduceSelectsSpec)

end Rows
end Go.Proofs.YtboammbpdaoojaaGreat
