/-
  NARROWER THAN 'FOR EVERY INPUT', by the rows' own cells (each row's printed sentence says how): NbeNorms: loops · NbeDecides: loops · NbeShortens: loops · NbeStable: loops · NbeInside: loops · NbeSubstitutes: loops · NbeExpands: loops.
  DERIVED. THE GIVEN ROWS OF THIS SEAT. 7 by the template 'for every input the law returns true; each argument reads behind the call as it read before'; 0 by the template 'total and deterministic' (their statements: YtldfmjoncbjldaaGreatTotals.lean).
  GIVEN WITH THE SEED: the statements are not yours to turn. If you find one false, say at which input.
  Laid BY PROGRAM, IN A SANDBOX (cutbox-rows.mjs): the forced cells as the released guide's own fill.sh prints them over the translation 32977073d317faa3… (all of the seat's roots in one cut). By AI agents, Wed Nov 11 2026. No macro, syntax, notation, axiom, sorry.
-/
import Derived.Test.YtldfmjoncbjldaaGreatChecked
import GoSem.Claim
import GoSem.ClaimJoined
import GoSem.ClaimMapViews
import Derived.JoinedTies
import Derived.KernelRfl
namespace Go.Proofs.YtldfmjoncbjldaaGreat
/- THE CELL 'sum', in the pinned program and in every row, IS THE sha256 OF THE DUMP (.gsa) THAT YtldfmjoncbjldaaGreatProg.lean LOADS. Nothing in Lean hashes anything: it is a label: what it is worth is what the hold of that sum in a sandbox is worth. -/
noncomputable def Tryz.pinned : Pinned := { name := "ytldfmjoncbjldaagreat", sum := "32977073d317faa3e6bdc1426d434b7978f22c03f5d4a9d4e594b7b1136ba75c", checked := Tryz.checked }
namespace Rows
def none {H : Type} : Left H := { results := [], args := [] }

/-- 'euclidlaw09.NbeNorms': WHATEVER THE INPUT: true; the input reads as it did. -/
def nbeNormsSpec : ChangeSpec := { name := "nbeNorms", fn := fun _ => fun
  | [d1, d2] => { results := [.lit (.bool true)], args := [d1, d2] }
  | _ => none }
def nbeNormsRow : OpenClaim := { program := "ytldfmjoncbjldaagreat", sum := "32977073d317faa3e6bdc1426d434b7978f22c03f5d4a9d4e594b7b1136ba75c", func := "euclid/euclidlaw09.NbeNorms", spec := "nbeNorms", unfollowed := true, recurses := true, loops := true, apart := false }
def NbeNormsSaid : Prop := nbeNormsRow.holds Tryz.pinned (OpenSpec.ofChange nbeNormsSpec)

/-- ITS FALSE NEIGHBOUR: 'it returns false'. Refute it at one input. -/
def nbeNormsWrong : ChangeSpec := { name := "nbeNorms", fn := fun _ => fun
  | [d1, d2] => { results := [.lit (.bool false)], args := [d1, d2] }
  | _ => none }
def NbeNormsWrongFalsely : Prop := nbeNormsRow.holds Tryz.pinned (OpenSpec.ofChange nbeNormsWrong)

/-- 'euclidlaw09.NbeDecides': WHATEVER THE INPUT: true; the input reads as it did. -/
def nbeDecidesSpec : ChangeSpec := { name := "nbeDecides", fn := fun _ => fun
  | [d1, d2] => { results := [.lit (.bool true)], args := [d1, d2] }
  | _ => none }
def nbeDecidesRow : OpenClaim := { program := "ytldfmjoncbjldaagreat", sum := "32977073d317faa3e6bdc1426d434b7978f22c03f5d4a9d4e594b7b1136ba75c", func := "euclid/euclidlaw09.NbeDecides", spec := "nbeDecides", unfollowed := true, recurses := true, loops := true, apart := false }
def NbeDecidesSaid : Prop := nbeDecidesRow.holds Tryz.pinned (OpenSpec.ofChange nbeDecidesSpec)

/-- ITS FALSE NEIGHBOUR: 'it returns false'. Refute it at one input. -/
def nbeDecidesWrong : ChangeSpec := { name := "nbeDecides", fn := fun _ => fun
  | [d1, d2] => { results := [.lit (.bool false)], args := [d1, d2] }
  | _ => none }
def NbeDecidesWrongFalsely : Prop := nbeDecidesRow.holds Tryz.pinned (OpenSpec.ofChange nbeDecidesWrong)

/-- 'euclidlaw09.NbeShortens': WHATEVER THE INPUT: true; the input reads as it did. -/
def nbeShortensSpec : ChangeSpec := { name := "nbeShortens", fn := fun _ => fun
  | [d] => { results := [.lit (.bool true)], args := [d] }
  | _ => none }
def nbeShortensRow : OpenClaim := { program := "ytldfmjoncbjldaagreat", sum := "32977073d317faa3e6bdc1426d434b7978f22c03f5d4a9d4e594b7b1136ba75c", func := "euclid/euclidlaw09.NbeShortens", spec := "nbeShortens", unfollowed := true, recurses := true, loops := true, apart := false }
def NbeShortensSaid : Prop := nbeShortensRow.holds Tryz.pinned (OpenSpec.ofChange nbeShortensSpec)

/-- ITS FALSE NEIGHBOUR: 'it returns false'. Refute it at one input. -/
def nbeShortensWrong : ChangeSpec := { name := "nbeShortens", fn := fun _ => fun
  | [d] => { results := [.lit (.bool false)], args := [d] }
  | _ => none }
def NbeShortensWrongFalsely : Prop := nbeShortensRow.holds Tryz.pinned (OpenSpec.ofChange nbeShortensWrong)

/-- 'euclidlaw09.NbeStable': WHATEVER THE INPUT: true; the input reads as it did. -/
def nbeStableSpec : ChangeSpec := { name := "nbeStable", fn := fun _ => fun
  | [d1, d2] => { results := [.lit (.bool true)], args := [d1, d2] }
  | _ => none }
def nbeStableRow : OpenClaim := { program := "ytldfmjoncbjldaagreat", sum := "32977073d317faa3e6bdc1426d434b7978f22c03f5d4a9d4e594b7b1136ba75c", func := "euclid/euclidlaw09.NbeStable", spec := "nbeStable", unfollowed := true, recurses := true, loops := true, apart := false }
def NbeStableSaid : Prop := nbeStableRow.holds Tryz.pinned (OpenSpec.ofChange nbeStableSpec)

/-- ITS FALSE NEIGHBOUR: 'it returns false'. Refute it at one input. -/
def nbeStableWrong : ChangeSpec := { name := "nbeStable", fn := fun _ => fun
  | [d1, d2] => { results := [.lit (.bool false)], args := [d1, d2] }
  | _ => none }
def NbeStableWrongFalsely : Prop := nbeStableRow.holds Tryz.pinned (OpenSpec.ofChange nbeStableWrong)

/-- 'euclidlaw09.NbeInside': WHATEVER THE INPUT: true; the input reads as it did. -/
def nbeInsideSpec : ChangeSpec := { name := "nbeInside", fn := fun _ => fun
  | [d1, d2, d3] => { results := [.lit (.bool true)], args := [d1, d2, d3] }
  | _ => none }
def nbeInsideRow : OpenClaim := { program := "ytldfmjoncbjldaagreat", sum := "32977073d317faa3e6bdc1426d434b7978f22c03f5d4a9d4e594b7b1136ba75c", func := "euclid/euclidlaw09.NbeInside", spec := "nbeInside", unfollowed := true, recurses := true, loops := true, apart := false }
def NbeInsideSaid : Prop := nbeInsideRow.holds Tryz.pinned (OpenSpec.ofChange nbeInsideSpec)

/-- ITS FALSE NEIGHBOUR: 'it returns false'. Refute it at one input. -/
def nbeInsideWrong : ChangeSpec := { name := "nbeInside", fn := fun _ => fun
  | [d1, d2, d3] => { results := [.lit (.bool false)], args := [d1, d2, d3] }
  | _ => none }
def NbeInsideWrongFalsely : Prop := nbeInsideRow.holds Tryz.pinned (OpenSpec.ofChange nbeInsideWrong)

/-- 'euclidlaw09.NbeSubstitutes': WHATEVER THE INPUT: true; the input reads as it did. -/
def nbeSubstitutesSpec : ChangeSpec := { name := "nbeSubstitutes", fn := fun _ => fun
  | [d1, d2, d3] => { results := [.lit (.bool true)], args := [d1, d2, d3] }
  | _ => none }
def nbeSubstitutesRow : OpenClaim := { program := "ytldfmjoncbjldaagreat", sum := "32977073d317faa3e6bdc1426d434b7978f22c03f5d4a9d4e594b7b1136ba75c", func := "euclid/euclidlaw09.NbeSubstitutes", spec := "nbeSubstitutes", unfollowed := true, recurses := true, loops := true, apart := false }
def NbeSubstitutesSaid : Prop := nbeSubstitutesRow.holds Tryz.pinned (OpenSpec.ofChange nbeSubstitutesSpec)

/-- ITS FALSE NEIGHBOUR: 'it returns false'. Refute it at one input. -/
def nbeSubstitutesWrong : ChangeSpec := { name := "nbeSubstitutes", fn := fun _ => fun
  | [d1, d2, d3] => { results := [.lit (.bool false)], args := [d1, d2, d3] }
  | _ => none }
def NbeSubstitutesWrongFalsely : Prop := nbeSubstitutesRow.holds Tryz.pinned (OpenSpec.ofChange nbeSubstitutesWrong)

/-- 'euclidlaw09.NbeExpands': WHATEVER THE INPUT: true; the input reads as it did. -/
def nbeExpandsSpec : ChangeSpec := { name := "nbeExpands", fn := fun _ => fun
  | [d1, d2] => { results := [.lit (.bool true)], args := [d1, d2] }
  | _ => none }
def nbeExpandsRow : OpenClaim := { program := "ytldfmjoncbjldaagreat", sum := "32977073d317faa3e6bdc1426d434b7978f22c03f5d4a9d4e594b7b1136ba75c", func := "euclid/euclidlaw09.NbeExpands", spec := "nbeExpands", unfollowed := true, recurses := true, loops := true, apart := false }
def NbeExpandsSaid : Prop := nbeExpandsRow.holds Tryz.pinned (OpenSpec.ofChange nbeExpandsSpec)

/-- ITS FALSE NEIGHBOUR: 'it returns false'. Refute it at one input. -/
def nbeExpandsWrong : ChangeSpec := { name := "nbeExpands", fn := fun _ => fun
  | [d1, d2] => { results := [.lit (.bool false)], args := [d1, d2] }
  | _ => none }
def NbeExpandsWrongFalsely : Prop := nbeExpandsRow.holds Tryz.pinned (OpenSpec.ofChange nbeExpandsWrong)

/- THE SECOND FORM. 'bulk': how many values and letters a reading holds, each counted each time it is reached (what is shared counts as often as it is met; a slice's spare places count too). A statement '..UptoSaid' is the law's where the arguments, and the package variables that the reading takes, are together of bulk at most 1048576: NARROWER than '..Said'. Prove '..Said' where nothing that the law and all that it calls make is longer than what came in: it says more and counts as full. Else prove '..UptoSaid'. A law counts once. -/
mutual
def uptoBulk {H : Type} : DataW H → Nat
  | .lit (.string bytes) => bytes.length + 1
  | .lit _ => 1
  | .nil => 1
  | .ptr d => uptoBulk d + 1
  | .slice elems spare => uptoBulkAll elems + uptoBulkAll spare + 1
  | .agg parts => uptoBulkAll parts + 1
  | .iface _ d => uptoBulk d + 1
  | .map entries => uptoBulkEntries entries + 1
  | .held _ => 1
def uptoBulkAll {H : Type} : List (DataW H) → Nat
  | [] => 0
  | d :: r => uptoBulk d + uptoBulkAll r
def uptoBulkEntries {H : Type} : List (Lit × DataW H) → Nat
  | [] => 0
  | x :: r => uptoBulkEntry x + uptoBulkEntries r
def uptoBulkEntry {H : Type} : Lit × DataW H → Nat
  | (.string bytes, d) => bytes.length + uptoBulk d + 1
  | (_, d) => uptoBulk d + 1
 end
def uptoSmall : (H : Type) → List (DataW H) → Bool := fun _ ds => decide (uptoBulkAll ds ≤ 1048576)
def OpenSpec.upto (s : _root_.Go.ChangeSpec) : _root_.Go.OpenSpec := { _root_.Go.OpenSpec.ofChange s with cond := some uptoSmall }

/-- 'euclidlaw09.NbeNorms', WHERE WHAT IT READS IS OF BULK AT MOST 1048576: true; the input reads as it did. -/
def nbeNormsUptoRow : OpenClaim := { program := "ytldfmjoncbjldaagreat", sum := "32977073d317faa3e6bdc1426d434b7978f22c03f5d4a9d4e594b7b1136ba75c", func := "euclid/euclidlaw09.NbeNorms", spec := "nbeNorms", unfollowed := true, recurses := true, loops := true, apart := false, narrowed := true }
def NbeNormsUptoSaid : Prop := nbeNormsUptoRow.holds Tryz.pinned (OpenSpec.upto nbeNormsSpec)

/-- 'euclidlaw09.NbeDecides', WHERE WHAT IT READS IS OF BULK AT MOST 1048576: true; the input reads as it did. -/
def nbeDecidesUptoRow : OpenClaim := { program := "ytldfmjoncbjldaagreat", sum := "32977073d317faa3e6bdc1426d434b7978f22c03f5d4a9d4e594b7b1136ba75c", func := "euclid/euclidlaw09.NbeDecides", spec := "nbeDecides", unfollowed := true, recurses := true, loops := true, apart := false, narrowed := true }
def NbeDecidesUptoSaid : Prop := nbeDecidesUptoRow.holds Tryz.pinned (OpenSpec.upto nbeDecidesSpec)

/-- 'euclidlaw09.NbeShortens', WHERE WHAT IT READS IS OF BULK AT MOST 1048576: true; the input reads as it did. -/
def nbeShortensUptoRow : OpenClaim := { program := "ytldfmjoncbjldaagreat", sum := "32977073d317faa3e6bdc1426d434b7978f22c03f5d4a9d4e594b7b1136ba75c", func := "euclid/euclidlaw09.NbeShortens", spec := "nbeShortens", unfollowed := true, recurses := true, loops := true, apart := false, narrowed := true }
def NbeShortensUptoSaid : Prop := nbeShortensUptoRow.holds Tryz.pinned (OpenSpec.upto nbeShortensSpec)

/-- 'euclidlaw09.NbeStable', WHERE WHAT IT READS IS OF BULK AT MOST 1048576: true; the input reads as it did. -/
def nbeStableUptoRow : OpenClaim := { program := "ytldfmjoncbjldaagreat", sum := "32977073d317faa3e6bdc1426d434b7978f22c03f5d4a9d4e594b7b1136ba75c", func := "euclid/euclidlaw09.NbeStable", spec := "nbeStable", unfollowed := true, recurses := true, loops := true, apart := false, narrowed := true }
def NbeStableUptoSaid : Prop := nbeStableUptoRow.holds Tryz.pinned (OpenSpec.upto nbeStableSpec)

/-- 'euclidlaw09.NbeInside', WHERE WHAT IT READS IS OF BULK AT MOST 1048576: true; the input reads as it did. -/
def nbeInsideUptoRow : OpenClaim := { program := "ytldfmjoncbjldaagreat", sum := "32977073d317faa3e6bdc1426d434b7978f22c03f5d4a9d4e594b7b1136ba75c", func := "euclid/euclidlaw09.NbeInside", spec := "nbeInside", unfollowed := true, recurses := true, loops := true, apart := false, narrowed := true }
def NbeInsideUptoSaid : Prop := nbeInsideUptoRow.holds Tryz.pinned (OpenSpec.upto nbeInsideSpec)

/-- 'euclidlaw09.NbeSubstitutes', WHERE WHAT IT READS IS OF BULK AT MOST 1048576: true; the input reads as it did. -/
def nbeSubstitutesUptoRow : OpenClaim := { program := "ytldfmjoncbjldaagreat", sum := "32977073d317faa3e6bdc1426d434b7978f22c03f5d4a9d4e594b7b1136ba75c", func := "euclid/euclidlaw09.NbeSubstitutes", spec := "nbeSubstitutes", unfollowed := true, recurses := true, loops := true, apart := false, narrowed := true }
def NbeSubstitutesUptoSaid : Prop := nbeSubstitutesUptoRow.holds Tryz.pinned (OpenSpec.upto nbeSubstitutesSpec)

/-- 'euclidlaw09.NbeExpands', WHERE WHAT IT READS IS OF BULK AT MOST 1048576: true; the input reads as it did. -/
def nbeExpandsUptoRow : OpenClaim := { program := "ytldfmjoncbjldaagreat", sum := "32977073d317faa3e6bdc1426d434b7978f22c03f5d4a9d4e594b7b1136ba75c", func := "euclid/euclidlaw09.NbeExpands", spec := "nbeExpands", unfollowed := true, recurses := true, loops := true, apart := false, narrowed := true }
def NbeExpandsUptoSaid : Prop := nbeExpandsUptoRow.holds Tryz.pinned (OpenSpec.upto nbeExpandsSpec)

end Rows
end Go.Proofs.YtldfmjoncbjldaaGreat
