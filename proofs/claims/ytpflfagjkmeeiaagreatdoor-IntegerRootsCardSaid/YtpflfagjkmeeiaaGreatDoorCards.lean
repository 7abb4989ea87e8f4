/-
  DERIVED. GIVEN WITH THE SEED: THE CARDS: each row of YtpflfagjkmeeiaaGreatDoorRows.lean that lists a variable, with what it lists TIED to the program's text (the seventh form; the later family's looks); each row that meets fmt, with fmt's text TOLD by the authors' own Lean function (tested against real Go, not proved from fmt's source: count such statements apart). THE CARD IS WHAT COUNTS. Prove the row's statement (the work); the ties are given (YtpflfagjkmeeiaaGreatDoorTie.lean); close each card by the builder's one call (the guide's Derived/Test/ToyasCard.lean, 'card_holds'). Laid BY PROGRAM, IN A SANDBOX (cutbox-door.mjs). By AI agents, Wed Nov 11 2026. No macro, syntax, notation, axiom, sorry.
-/
import Derived.Test.YtpflfagjkmeeiaaGreatDoorRows
import GoSem.ClaimSeven
namespace Go.Proofs.YtpflfagjkmeeiaaGreatDoor
namespace Rows

/-- THE TIED CARD OF 'algoristlaw01.IntegerMatchesReference'. -/
def integerMatchesReferenceCard : Claim7 := { stood := { row := integerMatchesReferenceRow, standIns := [], harness := (true, "4ae5e4d3c563e76160a538bae3639014b6521190665b4be1e4a5772a17a58f7e"), looks := false }, kinds := [], alts := [], laidByText := true, laidKinds := [.data, .data, .data], laidTests := true, laidLooks := .later }
def IntegerMatchesReferenceCardSaid : Prop := Claim7.holds Tryz.pinned (.plain (OpenSpec.ofChange integerMatchesReferenceSpec)) integerMatchesReferenceCard

/-- THE TIED CARD OF 'algoristlaw01.IntegerRoots'. -/
def integerRootsCard : Claim7 := { stood := { row := integerRootsRow, standIns := [], harness := (true, "4ae5e4d3c563e76160a538bae3639014b6521190665b4be1e4a5772a17a58f7e"), looks := false }, kinds := [], alts := [], laidByText := true, laidKinds := [.data, .data, .data], laidTests := true, laidLooks := .later }
def IntegerRootsCardSaid : Prop := Claim7.holds Tryz.pinned (.plain (OpenSpec.ofChange integerRootsSpec)) integerRootsCard

/-- THE SECOND FORM's CARD OF 'algoristlaw01.IntegerMatchesReference'. -/
def integerMatchesReferenceUptoCard : Claim7 := { stood := { row := integerMatchesReferenceUptoRow, standIns := [], harness := (true, "4ae5e4d3c563e76160a538bae3639014b6521190665b4be1e4a5772a17a58f7e"), looks := false }, kinds := [], alts := [], laidByText := true, laidKinds := [.data, .data, .data], laidTests := true, laidLooks := .later }
def IntegerMatchesReferenceUptoCardSaid : Prop := Claim7.holds Tryz.pinned (.plain (OpenSpec.upto integerMatchesReferenceSpec)) integerMatchesReferenceUptoCard

/-- THE SECOND FORM's CARD OF 'algoristlaw01.IntegerRoots'. -/
def integerRootsUptoCard : Claim7 := { stood := { row := integerRootsUptoRow, standIns := [], harness := (true, "4ae5e4d3c563e76160a538bae3639014b6521190665b4be1e4a5772a17a58f7e"), looks := false }, kinds := [], alts := [], laidByText := true, laidKinds := [.data, .data, .data], laidTests := true, laidLooks := .later }
def IntegerRootsUptoCardSaid : Prop := Claim7.holds Tryz.pinned (.plain (OpenSpec.upto integerRootsSpec)) integerRootsUptoCard
end Rows
end Go.Proofs.YtpflfagjkmeeiaaGreatDoor
