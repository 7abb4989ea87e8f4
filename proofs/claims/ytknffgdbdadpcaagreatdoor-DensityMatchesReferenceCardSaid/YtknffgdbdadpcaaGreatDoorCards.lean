/-
  DERIVED. GIVEN WITH THE SEED: THE CARDS: each row of YtknffgdbdadpcaaGreatDoorRows.lean that lists a variable, with what it lists TIED to the program's text (the seventh form; the later family's looks); each row that meets fmt, with fmt's text TOLD by the authors' own Lean function (tested against real Go, not proved from fmt's source: count such statements apart). THE CARD IS WHAT COUNTS. Prove the row's statement (the work); the ties are given (YtknffgdbdadpcaaGreatDoorTie.lean); close each card by the builder's one call (the guide's Derived/Test/ToyasCard.lean, 'card_holds'). Laid BY PROGRAM, IN A SANDBOX (cutbox-door.mjs). By AI agents, Wed Nov 11 2026. No macro, syntax, notation, axiom, sorry.
-/
import Derived.Test.YtknffgdbdadpcaaGreatDoorRows
import GoSem.ClaimSeven
namespace Go.Proofs.YtknffgdbdadpcaaGreatDoor
namespace Rows

/-- THE TIED CARD OF 'algoristlaw40.DensityMatchesReference'. -/
def densityMatchesReferenceCard : Claim7 := { stood := { row := densityMatchesReferenceRow, standIns := [], harness := (true, "25a03a603f8707827fc6e1d4175895c932bbffddf4b849d62aedf37d33f535ae"), looks := false }, kinds := [], alts := [], laidByText := true, laidKinds := [.data, .data, .data, .data], laidTests := true, laidLooks := .later }
def DensityMatchesReferenceCardSaid : Prop := Claim7.holds Tryz.pinned (.plain (OpenSpec.ofChange densityMatchesReferenceSpec)) densityMatchesReferenceCard

/-- THE TIED CARD OF 'algoristlaw40.DensityDirichlet'. -/
def densityDirichletCard : Claim7 := { stood := { row := densityDirichletRow, standIns := [], harness := (true, "25a03a603f8707827fc6e1d4175895c932bbffddf4b849d62aedf37d33f535ae"), looks := false }, kinds := [], alts := [], laidByText := true, laidKinds := [.data, .data, .data, .data], laidTests := true, laidLooks := .later }
def DensityDirichletCardSaid : Prop := Claim7.holds Tryz.pinned (.plain (OpenSpec.ofChange densityDirichletSpec)) densityDirichletCard

/-- THE TIED CARD OF 'algoristlaw40.DensityClass'. -/
def densityClassCard : Claim7 := { stood := { row := densityClassRow, standIns := [], harness := (true, "25a03a603f8707827fc6e1d4175895c932bbffddf4b849d62aedf37d33f535ae"), looks := false }, kinds := [], alts := [], laidByText := true, laidKinds := [.data, .data, .data, .data], laidTests := true, laidLooks := .later }
def DensityClassCardSaid : Prop := Claim7.holds Tryz.pinned (.plain (OpenSpec.ofChange densityClassSpec)) densityClassCard

/-- THE TIED CARD OF 'algoristlaw40.DensityGenera'. -/
def densityGeneraCard : Claim7 := { stood := { row := densityGeneraRow, standIns := [], harness := (true, "25a03a603f8707827fc6e1d4175895c932bbffddf4b849d62aedf37d33f535ae"), looks := false }, kinds := [], alts := [], laidByText := true, laidKinds := [.data, .data, .data, .data], laidTests := true, laidLooks := .later }
def DensityGeneraCardSaid : Prop := Claim7.holds Tryz.pinned (.plain (OpenSpec.ofChange densityGeneraSpec)) densityGeneraCard

/-- THE SECOND FORM's CARD OF 'algoristlaw40.DensityMatchesReference'. -/
def densityMatchesReferenceUptoCard : Claim7 := { stood := { row := densityMatchesReferenceUptoRow, standIns := [], harness := (true, "25a03a603f8707827fc6e1d4175895c932bbffddf4b849d62aedf37d33f535ae"), looks := false }, kinds := [], alts := [], laidByText := true, laidKinds := [.data, .data, .data, .data], laidTests := true, laidLooks := .later }
def DensityMatchesReferenceUptoCardSaid : Prop := Claim7.holds Tryz.pinned (.plain (OpenSpec.upto densityMatchesReferenceSpec)) densityMatchesReferenceUptoCard

/-- THE SECOND FORM's CARD OF 'algoristlaw40.DensityDirichlet'. -/
def densityDirichletUptoCard : Claim7 := { stood := { row := densityDirichletUptoRow, standIns := [], harness := (true, "25a03a603f8707827fc6e1d4175895c932bbffddf4b849d62aedf37d33f535ae"), looks := false }, kinds := [], alts := [], laidByText := true, laidKinds := [.data, .data, .data, .data], laidTests := true, laidLooks := .later }
def DensityDirichletUptoCardSaid : Prop := Claim7.holds Tryz.pinned (.plain (OpenSpec.upto densityDirichletSpec)) densityDirichletUptoCard

/-- THE SECOND FORM's CARD OF 'algoristlaw40.DensityClass'. -/
def densityClassUptoCard : Claim7 := { stood := { row := densityClassUptoRow, standIns := [], harness := (true, "25a03a603f8707827fc6e1d4175895c932bbffddf4b849d62aedf37d33f535ae"), looks := false }, kinds := [], alts := [], laidByText := true, laidKinds := [.data, .data, .data, .data], laidTests := true, laidLooks := .later }
def DensityClassUptoCardSaid : Prop := Claim7.holds Tryz.pinned (.plain (OpenSpec.upto densityClassSpec)) densityClassUptoCard

/-- THE SECOND FORM's CARD OF 'algoristlaw40.DensityGenera'. -/
def densityGeneraUptoCard : Claim7 := { stood := { row := densityGeneraUptoRow, standIns := [], harness := (true, "25a03a603f8707827fc6e1d4175895c932bbffddf4b849d62aedf37d33f535ae"), looks := false }, kinds := [], alts := [], laidByText := true, laidKinds := [.data, .data, .data, .data], laidTests := true, laidLooks := .later }
def DensityGeneraUptoCardSaid : Prop := Claim7.holds Tryz.pinned (.plain (OpenSpec.upto densityGeneraSpec)) densityGeneraUptoCard
end Rows
end Go.Proofs.YtknffgdbdadpcaaGreatDoor
