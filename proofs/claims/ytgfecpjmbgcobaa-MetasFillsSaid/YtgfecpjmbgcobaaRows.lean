/-
  NARROWER THAN 'FOR EVERY INPUT', by the rows' own cells (each row's printed sentence says how): MetasFills: loops · MetasSettles: loops · MetasCreates: loops.
  DERIVED. THE GIVEN ROWS OF THIS SEAT. 3 by the template 'for every input the law returns true; each argument reads behind the call as it read before'; 0 by the template 'total and deterministic' (their statements: YtgfecpjmbgcobaaTotals.lean).
  GIVEN WITH THE SEED: the statements are not yours to turn. If you find one false, say at which input.
  Laid BY PROGRAM, IN A SANDBOX (cutbox-rows.mjs): the forced cells as the released guide's own fill.sh prints them over the translation 0d392b4c8529bef6… (all of the seat's roots in one cut). By AI agents, Wed Nov 11 2026. No macro, syntax, notation, axiom, sorry.
-/
import Derived.Test.YtgfecpjmbgcobaaChecked
import GoSem.Claim
import GoSem.ClaimJoined
import GoSem.ClaimMapViews
import Derived.JoinedTies
import Derived.KernelRfl
namespace Go.Proofs.Ytgfecpjmbgcobaa
/- THE CELL 'sum', in the pinned program and in every row, IS THE sha256 OF THE DUMP (.gsa) THAT YtgfecpjmbgcobaaProg.lean LOADS. Nothing in Lean hashes anything: it is a label: what it is worth is what the hold of that sum in a sandbox is worth. -/
noncomputable def Try.pinned : Pinned := { name := "ytgfecpjmbgcobaa", sum := "0d392b4c8529bef67e343d416106bef8df85d3904cc8fa99a7ee1c6d32e0f7de", checked := Try.checked }
namespace Rows
def none {H : Type} : Left H := { results := [], args := [] }

/-- 'euclidlaw28.MetasFills': WHATEVER THE INPUT: true; the input reads as it did. -/
def metasFillsSpec : ChangeSpec := { name := "metasFills", fn := fun _ => fun
  | [d1, d2] => { results := [.lit (.bool true)], args := [d1, d2] }
  | _ => none }
def metasFillsRow : OpenClaim := { program := "ytgfecpjmbgcobaa", sum := "0d392b4c8529bef67e343d416106bef8df85d3904cc8fa99a7ee1c6d32e0f7de", func := "euclid/euclidlaw28.MetasFills", spec := "metasFills", unfollowed := true, recurses := true, loops := true, apart := false }
def MetasFillsSaid : Prop := metasFillsRow.holds Try.pinned (OpenSpec.ofChange metasFillsSpec)

/-- ITS FALSE NEIGHBOUR: 'it returns false'. Refute it at one input. -/
def metasFillsWrong : ChangeSpec := { name := "metasFills", fn := fun _ => fun
  | [d1, d2] => { results := [.lit (.bool false)], args := [d1, d2] }
  | _ => none }
def MetasFillsWrongFalsely : Prop := metasFillsRow.holds Try.pinned (OpenSpec.ofChange metasFillsWrong)

/-- 'euclidlaw28.MetasSettles': WHATEVER THE INPUT: true; the input reads as it did. -/
def metasSettlesSpec : ChangeSpec := { name := "metasSettles", fn := fun _ => fun
  | [d1, d2] => { results := [.lit (.bool true)], args := [d1, d2] }
  | _ => none }
def metasSettlesRow : OpenClaim := { program := "ytgfecpjmbgcobaa", sum := "0d392b4c8529bef67e343d416106bef8df85d3904cc8fa99a7ee1c6d32e0f7de", func := "euclid/euclidlaw28.MetasSettles", spec := "metasSettles", unfollowed := true, recurses := true, loops := true, apart := false }
def MetasSettlesSaid : Prop := metasSettlesRow.holds Try.pinned (OpenSpec.ofChange metasSettlesSpec)

/-- ITS FALSE NEIGHBOUR: 'it returns false'. Refute it at one input. -/
def metasSettlesWrong : ChangeSpec := { name := "metasSettles", fn := fun _ => fun
  | [d1, d2] => { results := [.lit (.bool false)], args := [d1, d2] }
  | _ => none }
def MetasSettlesWrongFalsely : Prop := metasSettlesRow.holds Try.pinned (OpenSpec.ofChange metasSettlesWrong)

/-- 'euclidlaw28.MetasCreates': WHATEVER THE INPUT: true; the input reads as it did. -/
def metasCreatesSpec : ChangeSpec := { name := "metasCreates", fn := fun _ => fun
  | [d1, d2, d3] => { results := [.lit (.bool true)], args := [d1, d2, d3] }
  | _ => none }
def metasCreatesRow : OpenClaim := { program := "ytgfecpjmbgcobaa", sum := "0d392b4c8529bef67e343d416106bef8df85d3904cc8fa99a7ee1c6d32e0f7de", func := "euclid/euclidlaw28.MetasCreates", spec := "metasCreates", unfollowed := true, recurses := true, loops := true, apart := false }
def MetasCreatesSaid : Prop := metasCreatesRow.holds Try.pinned (OpenSpec.ofChange metasCreatesSpec)

/-- ITS FALSE NEIGHBOUR: 'it returns false'. Refute it at one input. -/
def metasCreatesWrong : ChangeSpec := { name := "metasCreates", fn := fun _ => fun
  | [d1, d2, d3] => { results := [.lit (.bool false)], args := [d1, d2, d3] }
  | _ => none }
def MetasCreatesWrongFalsely : Prop := metasCreatesRow.holds Try.pinned (OpenSpec.ofChange metasCreatesWrong)

/- THE SECOND FORM. 'bulk': how many values and letters a reading holds, each counted each time it is reached (what is shared counts as often as it is met; a slice's spare places count too). A statement '..UptoSaid' is the law's where the arguments, and the package variables that the reading takes, are together of bulk at most 1048576: NARROWER than '..Said'. Prove '..Said' where nothing that the law and all that it calls make is longer than what came in: it says more and counts as full. Else prove '..UptoSaid'. A law counts once. -/
mutual
def uptoBulk {H : Type} : DataW H → Nat
  | .lit (.string bytes) => bytes.length + 1
  | .lit _ => 1
  | .nil => 1
  | .ptr d => uptoBulk d + 1
  | .slice elems spare => uptoBulkAll elems + uptoBulkAll spare + 1
  | .agg parts => uptoBulkAll parts + 1
  | .iface _ d => uptoBulk d + 1
  | .map entries => uptoBulkEntries entries + 1
  | .held _ => 1
def uptoBulkAll {H : Type} : List (DataW H) → Nat
  | [] => 0
  | d :: r => uptoBulk d + uptoBulkAll r
def uptoBulkEntries {H : Type} : List (Lit × DataW H) → Nat
  | [] => 0
  | x :: r => uptoBulkEntry x + uptoBulkEntries r
def uptoBulkEntry {H : Type} : Lit × DataW H → Nat
  | (.string bytes, d) => bytes.length + uptoBulk d + 1
  | (_, d) => uptoBulk d + 1
 end
def uptoSmall : (H : Type) → List (DataW H) → Bool := fun _ ds => decide (uptoBulkAll ds ≤ 1048576)
def OpenSpec.upto (s : _root_.Go.ChangeSpec) : _root_.Go.OpenSpec := { _root_.Go.OpenSpec.ofChange s with cond := some uptoSmall }

/-- 'euclidlaw28.MetasFills', WHERE WHAT IT READS IS OF BULK AT MOST 1048576: true; the input reads as it did. -/
def metasFillsUptoRow : OpenClaim := { program := "ytgfecpjmbgcobaa", sum := "0d392b4c8529bef67e343d416106bef8df85d3904cc8fa99a7ee1c6d32e0f7de", func := "euclid/euclidlaw28.MetasFills", spec := "metasFills", unfollowed := true, recurses := true, loops := true, apart := false, narrowed := true }
def MetasFillsUptoSaid : Prop := metasFillsUptoRow.holds Try.pinned (OpenSpec.upto metasFillsSpec)

/-- 'euclidlaw28.MetasSettles', WHERE WHAT IT READS IS OF BULK AT MOST 1048576: true; the input reads as it did. -/
def metasSettlesUptoRow : OpenClaim := { program := "ytgfecpjmbgcobaa", sum := "0d392b4c8529bef67e343d416106bef8df85d3904cc8fa99a7ee1c6d32e0f7de", func := "euclid/euclidlaw28.MetasSettles", spec := "metasSettles", unfollowed := true, recurses := true, loops := true, apart := false, narrowed := true }
def MetasSettlesUptoSaid : Prop := metasSettlesUptoRow.holds Try.pinned (OpenSpec.upto metasSettlesSpec)

/-- 'euclidlaw28.MetasCreates', WHERE WHAT IT READS IS OF BULK AT MOST 1048576: true; the input reads as it did. -/
def metasCreatesUptoRow : OpenClaim := { program := "ytgfecpjmbgcobaa", sum := "0d392b4c8529bef67e343d416106bef8df85d3904cc8fa99a7ee1c6d32e0f7de", func := "euclid/euclidlaw28.MetasCreates", spec := "metasCreates", unfollowed := true, recurses := true, loops := true, apart := false, narrowed := true }
def MetasCreatesUptoSaid : Prop := metasCreatesUptoRow.holds Try.pinned (OpenSpec.upto metasCreatesSpec)

end Rows
end Go.Proofs.Ytgfecpjmbgcobaa
