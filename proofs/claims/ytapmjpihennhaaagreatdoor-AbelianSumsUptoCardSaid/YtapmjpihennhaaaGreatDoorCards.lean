/-
  DERIVED. GIVEN WITH THE SEED: THE CARDS: each row of YtapmjpihennhaaaGreatDoorRows.lean that lists a variable, with what it lists TIED to the program's text (the seventh form; the later family's looks); each row that meets fmt, with fmt's text TOLD by the authors' own Lean function (tested against real Go, not proved from fmt's source: count such statements apart). THE CARD IS WHAT COUNTS. Prove the row's statement (the work); the ties are given (YtapmjpihennhaaaGreatDoorTie.lean); close each card by the builder's one call (the guide's Derived/Test/ToyasCard.lean, 'card_holds'). Laid BY PROGRAM, IN A SANDBOX (cutbox-door.mjs). By AI agents, Wed Nov 11 2026. No macro, syntax, notation, axiom, sorry.
-/
import Derived.Test.YtapmjpihennhaaaGreatDoorRows
import GoSem.ClaimSeven
namespace Go.Proofs.YtapmjpihennhaaaGreatDoor
namespace Rows

/-- THE TIED CARD OF 'euclidlaw40.AbelianBuilds'. -/
def abelianBuildsCard : Claim7 := { stood := { row := abelianBuildsRow, standIns := [], harness := (true, "6826ea5ef11cc71001295c1f2104621f9b3dcd21ec1ca71840e3a67dcfcfae49"), looks := false }, kinds := [], alts := [], laidByText := true, laidKinds := [.data, .data, .data, .data, .pinned, .pinned, .pinned, .pinned, .pinned, .pinned], laidTests := true, laidLooks := .later }
def AbelianBuildsCardSaid : Prop := Claim7.holds Tryz.pinned (.plain (OpenSpec.ofChange abelianBuildsSpec)) abelianBuildsCard

/-- THE TIED CARD OF 'euclidlaw40.AbelianSums'. -/
def abelianSumsCard : Claim7 := { stood := { row := abelianSumsRow, standIns := [], harness := (true, "6826ea5ef11cc71001295c1f2104621f9b3dcd21ec1ca71840e3a67dcfcfae49"), looks := false }, kinds := [], alts := [], laidByText := true, laidKinds := [.data, .data, .data, .data, .pinned, .pinned, .pinned, .pinned, .pinned, .pinned], laidTests := true, laidLooks := .later }
def AbelianSumsCardSaid : Prop := Claim7.holds Tryz.pinned (.plain (OpenSpec.ofChange abelianSumsSpec)) abelianSumsCard

/-- THE TIED CARD OF 'euclidlaw40.AbelianValues'. -/
def abelianValuesCard : Claim7 := { stood := { row := abelianValuesRow, standIns := [], harness := (true, "6826ea5ef11cc71001295c1f2104621f9b3dcd21ec1ca71840e3a67dcfcfae49"), looks := false }, kinds := [], alts := [], laidByText := true, laidKinds := [.data, .data, .data, .data, .pinned, .pinned, .pinned, .pinned, .pinned, .pinned], laidTests := true, laidLooks := .later }
def AbelianValuesCardSaid : Prop := Claim7.holds Tryz.pinned (.plain (OpenSpec.ofChange abelianValuesSpec)) abelianValuesCard

/-- THE TIED CARD OF 'euclidlaw40.AbelianAdds'. -/
def abelianAddsCard : Claim7 := { stood := { row := abelianAddsRow, standIns := [], harness := (true, "6826ea5ef11cc71001295c1f2104621f9b3dcd21ec1ca71840e3a67dcfcfae49"), looks := false }, kinds := [], alts := [], laidByText := true, laidKinds := [.data, .data, .data, .data, .pinned, .pinned, .pinned, .pinned, .pinned, .pinned], laidTests := true, laidLooks := .later }
def AbelianAddsCardSaid : Prop := Claim7.holds Tryz.pinned (.plain (OpenSpec.ofChange abelianAddsSpec)) abelianAddsCard

/-- THE TIED CARD OF 'euclidlaw40.AbelianForms'. -/
def abelianFormsCard : Claim7 := { stood := { row := abelianFormsRow, standIns := [], harness := (true, "6826ea5ef11cc71001295c1f2104621f9b3dcd21ec1ca71840e3a67dcfcfae49"), looks := false }, kinds := [], alts := [], laidByText := true, laidKinds := [.data, .data, .data, .data, .pinned, .pinned, .pinned, .pinned, .pinned, .pinned], laidTests := true, laidLooks := .later }
def AbelianFormsCardSaid : Prop := Claim7.holds Tryz.pinned (.plain (OpenSpec.ofChange abelianFormsSpec)) abelianFormsCard

/-- THE TIED CARD OF 'euclidlaw40.AbelianReturns'. -/
def abelianReturnsCard : Claim7 := { stood := { row := abelianReturnsRow, standIns := [], harness := (true, "6826ea5ef11cc71001295c1f2104621f9b3dcd21ec1ca71840e3a67dcfcfae49"), looks := false }, kinds := [], alts := [], laidByText := true, laidKinds := [.data, .data, .data, .data, .pinned, .pinned, .pinned, .pinned, .pinned, .pinned], laidTests := true, laidLooks := .later }
def AbelianReturnsCardSaid : Prop := Claim7.holds Tryz.pinned (.plain (OpenSpec.ofChange abelianReturnsSpec)) abelianReturnsCard

/-- THE SECOND FORM's CARD OF 'euclidlaw40.AbelianBuilds'. -/
def abelianBuildsUptoCard : Claim7 := { stood := { row := abelianBuildsUptoRow, standIns := [], harness := (true, "6826ea5ef11cc71001295c1f2104621f9b3dcd21ec1ca71840e3a67dcfcfae49"), looks := false }, kinds := [], alts := [], laidByText := true, laidKinds := [.data, .data, .data, .data, .pinned, .pinned, .pinned, .pinned, .pinned, .pinned], laidTests := true, laidLooks := .later }
def AbelianBuildsUptoCardSaid : Prop := Claim7.holds Tryz.pinned (.plain (OpenSpec.upto abelianBuildsSpec)) abelianBuildsUptoCard

/-- THE SECOND FORM's CARD OF 'euclidlaw40.AbelianSums'. -/
def abelianSumsUptoCard : Claim7 := { stood := { row := abelianSumsUptoRow, standIns := [], harness := (true, "6826ea5ef11cc71001295c1f2104621f9b3dcd21ec1ca71840e3a67dcfcfae49"), looks := false }, kinds := [], alts := [], laidByText := true, laidKinds := [.data, .data, .data, .data, .pinned, .pinned, .pinned, .pinned, .pinned, .pinned], laidTests := true, laidLooks := .later }
def AbelianSumsUptoCardSaid : Prop := Claim7.holds Tryz.pinned (.plain (OpenSpec.upto abelianSumsSpec)) abelianSumsUptoCard

/-- THE SECOND FORM's CARD OF 'euclidlaw40.AbelianValues'. -/
def abelianValuesUptoCard : Claim7 := { stood := { row := abelianValuesUptoRow, standIns := [], harness := (true, "6826ea5ef11cc71001295c1f2104621f9b3dcd21ec1ca71840e3a67dcfcfae49"), looks := false }, kinds := [], alts := [], laidByText := true, laidKinds := [.data, .data, .data, .data, .pinned, .pinned, .pinned, .pinned, .pinned, .pinned], laidTests := true, laidLooks := .later }
def AbelianValuesUptoCardSaid : Prop := Claim7.holds Tryz.pinned (.plain (OpenSpec.upto abelianValuesSpec)) abelianValuesUptoCard

/-- THE SECOND FORM's CARD OF 'euclidlaw40.AbelianAdds'. -/
def abelianAddsUptoCard : Claim7 := { stood := { row := abelianAddsUptoRow, standIns := [], harness := (true, "6826ea5ef11cc71001295c1f2104621f9b3dcd21ec1ca71840e3a67dcfcfae49"), looks := false }, kinds := [], alts := [], laidByText := true, laidKinds := [.data, .data, .data, .data, .pinned, .pinned, .pinned, .pinned, .pinned, .pinned], laidTests := true, laidLooks := .later }
def AbelianAddsUptoCardSaid : Prop := Claim7.holds Tryz.pinned (.plain (OpenSpec.upto abelianAddsSpec)) abelianAddsUptoCard

/-- THE SECOND FORM's CARD OF 'euclidlaw40.AbelianForms'. -/
def abelianFormsUptoCard : Claim7 := { stood := { row := abelianFormsUptoRow, standIns := [], harness := (true, "6826ea5ef11cc71001295c1f2104621f9b3dcd21ec1ca71840e3a67dcfcfae49"), looks := false }, kinds := [], alts := [], laidByText := true, laidKinds := [.data, .data, .data, .data, .pinned, .pinned, .pinned, .pinned, .pinned, .pinned], laidTests := true, laidLooks := .later }
def AbelianFormsUptoCardSaid : Prop := Claim7.holds Tryz.pinned (.plain (OpenSpec.upto abelianFormsSpec)) abelianFormsUptoCard

/-- THE SECOND FORM's CARD OF 'euclidlaw40.AbelianReturns'. -/
def abelianReturnsUptoCard : Claim7 := { stood := { row := abelianReturnsUptoRow, standIns := [], harness := (true, "6826ea5ef11cc71001295c1f2104621f9b3dcd21ec1ca71840e3a67dcfcfae49"), looks := false }, kinds := [], alts := [], laidByText := true, laidKinds := [.data, .data, .data, .data, .pinned, .pinned, .pinned, .pinned, .pinned, .pinned], laidTests := true, laidLooks := .later }
def AbelianReturnsUptoCardSaid : Prop := Claim7.holds Tryz.pinned (.plain (OpenSpec.upto abelianReturnsSpec)) abelianReturnsUptoCard
end Rows
end Go.Proofs.YtapmjpihennhaaaGreatDoor
