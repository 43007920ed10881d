/-
  NARROWER THAN 'FOR EVERY INPUT', by the rows' own cells (each row's printed sentence says how): RecursorParts: loops · IndicesResolves: loops.
  DERIVED. THE GIVEN ROWS OF THIS SEAT. 2 by the template 'for every input the law returns true; each argument reads behind the call as it read before'; 0 by the template 'total and deterministic' (their statements: YtifphifongokcaaGreatTotals.lean).
  GIVEN WITH THE SEED: the statements are not yours to turn. If you find one false, say at which input.
  Laid BY PROGRAM, IN A SANDBOX (cutbox-rows.mjs): the forced cells as the released guide's own fill.sh prints them over the translation 38eba415f291ceac… (all of the seat's roots in one cut). By AI agents, Wed Nov 11 2026. No macro, syntax, notation, axiom, sorry.
-/
import Derived.Test.YtifphifongokcaaGreatChecked
import GoSem.Claim
import GoSem.ClaimJoined
import GoSem.ClaimMapViews
import Derived.JoinedTies
import Derived.KernelRfl
namespace Go.Proofs.YtifphifongokcaaGreat
/- THE CELL 'sum', in the pinned program and in every row, IS THE sha256 OF THE DUMP (.gsa) THAT YtifphifongokcaaGreatProg.lean LOADS. Nothing in Lean hashes anything: it is a label: what it is worth is what the hold of that sum in a sandbox is worth. -/
noncomputable def Tryz.pinned : Pinned := { name := "ytifphifongokcaagreat", sum := "38eba415f291ceacd3231d65f2a2fc0134a2869d9ae41a5f0baa7b95eebca9a3", checked := Tryz.checked }
namespace Rows
def none {H : Type} : Left H := { results := [], args := [] }

/-- 'euclidlaw15.RecursorParts': WHATEVER THE INPUT: true; the input reads as it did. -/
def recursorPartsSpec : ChangeSpec := { name := "recursorParts", fn := fun _ => fun
  | [d1, d2, d3] => { results := [.lit (.bool true)], args := [d1, d2, d3] }
  | _ => none }
def recursorPartsRow : OpenClaim := { program := "ytifphifongokcaagreat", sum := "38eba415f291ceacd3231d65f2a2fc0134a2869d9ae41a5f0baa7b95eebca9a3", func := "euclid/euclidlaw15.RecursorParts", spec := "recursorParts", unfollowed := true, recurses := true, loops := true, apart := false }
def RecursorPartsSaid : Prop := recursorPartsRow.holds Tryz.pinned (OpenSpec.ofChange recursorPartsSpec)

/-- ITS FALSE NEIGHBOUR: 'it returns false'. Refute it at one input. -/
def recursorPartsWrong : ChangeSpec := { name := "recursorParts", fn := fun _ => fun
  | [d1, d2, d3] => { results := [.lit (.bool false)], args := [d1, d2, d3] }
  | _ => none }
def RecursorPartsWrongFalsely : Prop := recursorPartsRow.holds Tryz.pinned (OpenSpec.ofChange recursorPartsWrong)

/-- 'euclidlaw16.IndicesResolves': WHATEVER THE INPUT: true; the input reads as it did. -/
def indicesResolvesSpec : ChangeSpec := { name := "indicesResolves", fn := fun _ => fun
  | [d1, d2, d3] => { results := [.lit (.bool true)], args := [d1, d2, d3] }
  | _ => none }
def indicesResolvesRow : OpenClaim := { program := "ytifphifongokcaagreat", sum := "38eba415f291ceacd3231d65f2a2fc0134a2869d9ae41a5f0baa7b95eebca9a3", func := "euclid/euclidlaw16.IndicesResolves", spec := "indicesResolves", unfollowed := true, recurses := true, loops := true, apart := false }
def IndicesResolvesSaid : Prop := indicesResolvesRow.holds Tryz.pinned (OpenSpec.ofChange indicesResolvesSpec)

/-- ITS FALSE NEIGHBOUR: 'it returns false'. Refute it at one input. -/
def indicesResolvesWrong : ChangeSpec := { name := "indicesResolves", fn := fun _ => fun
  | [d1, d2, d3] => { results := [.lit (.bool false)], args := [d1, d2, d3] }
  | _ => none }
def IndicesResolvesWrongFalsely : Prop := indicesResolvesRow.holds Tryz.pinned (OpenSpec.ofChange indicesResolvesWrong)

/- THE SECOND FORM. 'bulk': how many values and letters a reading holds, each counted each time it is reached (what is shared counts as often as it is met; a slice's spare places count too). A statement '..UptoSaid' is the law's where the arguments, and the package variables that the reading takes, are together of bulk at most 1048576: NARROWER than '..Said'. Prove '..Said' where nothing that the law and all that it calls make is longer than what came in: it says more and counts as full. Else prove '..UptoSaid'. A law counts once. -/
mutual
def uptoBulk {H : Type} : DataW H → Nat
  | .lit (.string bytes) => bytes.length + 1
  | .lit _ => 1
  | .nil => 1
  | .ptr d => uptoBulk d + 1
  | .slice elems spare => uptoBulkAll elems + uptoBulkAll spare + 1
  | .agg parts => uptoBulkAll parts + 1
  | .iface _ d => uptoBulk d + 1
  | .map entries => uptoBulkEntries entries + 1
  | .held _ => 1
def uptoBulkAll {H : Type} : List (DataW H) → Nat
  | [] => 0
  | d :: r => uptoBulk d + uptoBulkAll r
def uptoBulkEntries {H : Type} : List (Lit × DataW H) → Nat
  | [] => 0
  | x :: r => uptoBulkEntry x + uptoBulkEntries r
def uptoBulkEntry {H : Type} : Lit × DataW H → Nat
  | (.string bytes, d) => bytes.length + uptoBulk d + 1
  | (_, d) => uptoBulk d + 1
 end
def uptoSmall : (H : Type) → List (DataW H) → Bool := fun _ ds => decide (uptoBulkAll ds ≤ 1048576)
def OpenSpec.upto (s : _root_.Go.ChangeSpec) : _root_.Go.OpenSpec := { _root_.Go.OpenSpec.ofChange s with cond := some uptoSmall }

/-- 'euclidlaw15.RecursorParts', WHERE WHAT IT READS IS OF BULK AT MOST 1048576: true; the input reads as it did. -/
def recursorPartsUptoRow : OpenClaim := { program := "ytifphifongokcaagreat", sum := "38eba415f291ceacd3231d65f2a2fc0134a2869d9ae41a5f0baa7b95eebca9a3", func := "euclid/euclidlaw15.RecursorParts", spec := "recursorParts", unfollowed := true, recurses := true, loops := true, apart := false, narrowed := true }
def RecursorPartsUptoSaid : Prop := recursorPartsUptoRow.holds Tryz.pinned (OpenSpec.upto recursorPartsSpec)

/-- 'euclidlaw16.IndicesResolves', WHERE WHAT IT READS IS OF BULK AT MOST 1048576: true; the input reads as it did. -/
def indicesResolvesUptoRow : OpenClaim := { program := "ytifphifongokcaagreat", sum := "38eba415f291ceacd3231d65f2a2fc0134a2869d9ae41a5f0baa7b95eebca9a3", func := "euclid/euclidlaw16.IndicesResolves", spec := "indicesResolves", unfollowed := true, recurses := true, loops := true, apart := false, narrowed := true }
def IndicesResolvesUptoSaid : Prop := indicesResolvesUptoRow.holds Tryz.pinned (OpenSpec.upto indicesResolvesSpec)

end Rows
end Go.Proofs.YtifphifongokcaaGreat
