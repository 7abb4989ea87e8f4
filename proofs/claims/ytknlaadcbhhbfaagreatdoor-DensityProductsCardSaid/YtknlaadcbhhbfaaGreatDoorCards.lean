/-
  DERIVED. GIVEN WITH THE SEED: THE CARDS: each row of YtknlaadcbhhbfaaGreatDoorRows.lean that lists a variable, with what it lists TIED to the program's text (the seventh form; the later family's looks); each row that meets fmt, with fmt's text TOLD by the authors' own Lean function (tested against real Go, not proved from fmt's source: count such statements apart). THE CARD IS WHAT COUNTS. Prove the row's statement (the work); the ties are given (YtknlaadcbhhbfaaGreatDoorTie.lean); close each card by the builder's one call (the guide's Derived/Test/ToyasCard.lean, 'card_holds'). Laid BY PROGRAM, IN A SANDBOX (cutbox-door.mjs). By AI agents, Wed Nov 11 2026. No macro, syntax, notation, axiom, sorry.
-/
import Derived.Test.YtknlaadcbhhbfaaGreatDoorRows
import GoSem.ClaimSeven
namespace Go.Proofs.YtknlaadcbhhbfaaGreatDoor
namespace Rows

/-- THE TIED CARD OF 'algoristlaw40.DensityProducts'. -/
def densityProductsCard : Claim7 := { stood := { row := densityProductsRow, standIns := [], harness := (true, "aa1e32a3ce1bafda8bf7ddadc9f69e776718f1c0713554d818656e4db10a01d4"), looks := false }, kinds := [], alts := [], laidByText := true, laidKinds := [.data, .data, .data, .data], laidTests := true, laidLooks := .later }
def DensityProductsCardSaid : Prop := Claim7.holds Tryz.pinned (.plain (OpenSpec.ofChange densityProductsSpec)) densityProductsCard

/-- THE TIED CARD OF 'algoristlaw40.DensityInert'. -/
def densityInertCard : Claim7 := { stood := { row := densityInertRow, standIns := [], harness := (true, "aa1e32a3ce1bafda8bf7ddadc9f69e776718f1c0713554d818656e4db10a01d4"), looks := false }, kinds := [], alts := [], laidByText := true, laidKinds := [.data, .data, .data, .data], laidTests := true, laidLooks := .later }
def DensityInertCardSaid : Prop := Claim7.holds Tryz.pinned (.plain (OpenSpec.ofChange densityInertSpec)) densityInertCard

/-- THE TIED CARD OF 'algoristlaw40.DensityClass'. -/
def densityClassCard : Claim7 := { stood := { row := densityClassRow, standIns := [], harness := (true, "aa1e32a3ce1bafda8bf7ddadc9f69e776718f1c0713554d818656e4db10a01d4"), looks := false }, kinds := [], alts := [], laidByText := true, laidKinds := [.data, .data, .data, .data], laidTests := true, laidLooks := .later }
def DensityClassCardSaid : Prop := Claim7.holds Tryz.pinned (.plain (OpenSpec.ofChange densityClassSpec)) densityClassCard

/-- THE SECOND FORM's CARD OF 'algoristlaw40.DensityProducts'. -/
def densityProductsUptoCard : Claim7 := { stood := { row := densityProductsUptoRow, standIns := [], harness := (true, "aa1e32a3ce1bafda8bf7ddadc9f69e776718f1c0713554d818656e4db10a01d4"), looks := false }, kinds := [], alts := [], laidByText := true, laidKinds := [.data, .data, .data, .data], laidTests := true, laidLooks := .later }
def DensityProductsUptoCardSaid : Prop := Claim7.holds Tryz.pinned (.plain (OpenSpec.upto densityProductsSpec)) densityProductsUptoCard

/-- THE SECOND FORM's CARD OF 'algoristlaw40.DensityInert'. -/
def densityInertUptoCard : Claim7 := { stood := { row := densityInertUptoRow, standIns := [], harness := (true, "aa1e32a3ce1bafda8bf7ddadc9f69e776718f1c0713554d818656e4db10a01d4"), looks := false }, kinds := [], alts := [], laidByText := true, laidKinds := [.data, .data, .data, .data], laidTests := true, laidLooks := .later }
def DensityInertUptoCardSaid : Prop := Claim7.holds Tryz.pinned (.plain (OpenSpec.upto densityInertSpec)) densityInertUptoCard

/-- THE SECOND FORM's CARD OF 'algoristlaw40.DensityClass'. -/
def densityClassUptoCard : Claim7 := { stood := { row := densityClassUptoRow, standIns := [], harness := (true, "aa1e32a3ce1bafda8bf7ddadc9f69e776718f1c0713554d818656e4db10a01d4"), looks := false }, kinds := [], alts := [], laidByText := true, laidKinds := [.data, .data, .data, .data], laidTests := true, laidLooks := .later }
def DensityClassUptoCardSaid : Prop := Claim7.holds Tryz.pinned (.plain (OpenSpec.upto densityClassSpec)) densityClassUptoCard
end Rows
end Go.Proofs.YtknlaadcbhhbfaaGreatDoor
