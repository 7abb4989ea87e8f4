/-
  DERIVED. GIVEN WITH THE SEED: THE CARDS: each row of YtenhciieboegbaaGreatDoorRows.lean that lists a variable, with what it lists TIED to the program's text (the seventh form; the later family's looks); each row that meets fmt, with fmt's text TOLD by the authors' own Lean function (tested against real Go, not proved from fmt's source: count such statements apart). THE CARD IS WHAT COUNTS. Prove the row's statement (the work); the ties are given (YtenhciieboegbaaGreatDoorTie.lean); close each card by the builder's one call (the guide's Derived/Test/ToyasCard.lean, 'card_holds'). Laid BY PROGRAM, IN A SANDBOX (cutbox-door.mjs). By AI agents, Wed Nov 11 2026. No macro, syntax, notation, axiom, sorry.
-/
import Derived.Test.YtenhciieboegbaaGreatDoorRows
import GoSem.ClaimSeven
namespace Go.Proofs.YtenhciieboegbaaGreatDoor
namespace Rows

/-- THE TIED CARD OF 'algoristlaw42.NotebookMatchesReference'. -/
def notebookMatchesReferenceCard : Claim7 := { stood := { row := notebookMatchesReferenceRow, standIns := [], harness := (true, "0f616b49d8b4ebf092d6e434318c0ac676ac0ec0e0d786a6c1f944f27b5f76e4"), looks := true }, kinds := [], alts := [], laidByText := true, laidKinds := [.data, .data, .data, .data, .pinned], laidTests := true, laidLooks := .later }
def NotebookMatchesReferenceCardSaid : Prop := Claim7.holds Tryz.pinned (.plain (OpenSpec.ofChange notebookMatchesReferenceSpec)) notebookMatchesReferenceCard

/-- THE TIED CARD OF 'algoristlaw42.NotebookLimits'. -/
def notebookLimitsCard : Claim7 := { stood := { row := notebookLimitsRow, standIns := [], harness := (true, "0f616b49d8b4ebf092d6e434318c0ac676ac0ec0e0d786a6c1f944f27b5f76e4"), looks := true }, kinds := [], alts := [], laidByText := true, laidKinds := [.data, .data, .data, .data, .pinned], laidTests := true, laidLooks := .later }
def NotebookLimitsCardSaid : Prop := Claim7.holds Tryz.pinned (.plain (OpenSpec.ofChange notebookLimitsSpec)) notebookLimitsCard

/-- THE TIED CARD OF 'algoristlaw42.NotebookReads'. -/
def notebookReadsCard : Claim7 := { stood := { row := notebookReadsRow, standIns := [], harness := (true, "0f616b49d8b4ebf092d6e434318c0ac676ac0ec0e0d786a6c1f944f27b5f76e4"), looks := true }, kinds := [], alts := [], laidByText := true, laidKinds := [.data, .data, .data, .data, .pinned], laidTests := true, laidLooks := .later }
def NotebookReadsCardSaid : Prop := Claim7.holds Tryz.pinned (.plain (OpenSpec.ofChange notebookReadsSpec)) notebookReadsCard

/-- THE TIED CARD OF 'algoristlaw42.NotebookRounds'. -/
def notebookRoundsCard : Claim7 := { stood := { row := notebookRoundsRow, standIns := [], harness := (true, "0f616b49d8b4ebf092d6e434318c0ac676ac0ec0e0d786a6c1f944f27b5f76e4"), looks := true }, kinds := [], alts := [], laidByText := true, laidKinds := [.data, .data, .data, .data, .pinned], laidTests := true, laidLooks := .later }
def NotebookRoundsCardSaid : Prop := Claim7.holds Tryz.pinned (.plain (OpenSpec.ofChange notebookRoundsSpec)) notebookRoundsCard

/-- THE TIED CARD OF 'algoristlaw42.NotebookJoins'. -/
def notebookJoinsCard : Claim7 := { stood := { row := notebookJoinsRow, standIns := [], harness := (true, "0f616b49d8b4ebf092d6e434318c0ac676ac0ec0e0d786a6c1f944f27b5f76e4"), looks := true }, kinds := [], alts := [], laidByText := true, laidKinds := [.data, .data, .data, .data, .pinned], laidTests := true, laidLooks := .later }
def NotebookJoinsCardSaid : Prop := Claim7.holds Tryz.pinned (.plain (OpenSpec.ofChange notebookJoinsSpec)) notebookJoinsCard

/-- THE TIED CARD OF 'algoristlaw42.NotebookUses'. -/
def notebookUsesCard : Claim7 := { stood := { row := notebookUsesRow, standIns := [], harness := (true, "0f616b49d8b4ebf092d6e434318c0ac676ac0ec0e0d786a6c1f944f27b5f76e4"), looks := true }, kinds := [], alts := [], laidByText := true, laidKinds := [.data, .data, .data, .data, .pinned], laidTests := true, laidLooks := .later }
def NotebookUsesCardSaid : Prop := Claim7.holds Tryz.pinned (.plain (OpenSpec.ofChange notebookUsesSpec)) notebookUsesCard

/-- THE SECOND FORM's CARD OF 'algoristlaw42.NotebookMatchesReference'. -/
def notebookMatchesReferenceUptoCard : Claim7 := { stood := { row := notebookMatchesReferenceUptoRow, standIns := [], harness := (true, "0f616b49d8b4ebf092d6e434318c0ac676ac0ec0e0d786a6c1f944f27b5f76e4"), looks := true }, kinds := [], alts := [], laidByText := true, laidKinds := [.data, .data, .data, .data, .pinned], laidTests := true, laidLooks := .later }
def NotebookMatchesReferenceUptoCardSaid : Prop := Claim7.holds Tryz.pinned (.plain (OpenSpec.upto notebookMatchesReferenceSpec)) notebookMatchesReferenceUptoCard

/-- THE SECOND FORM's CARD OF 'algoristlaw42.NotebookLimits'. -/
def notebookLimitsUptoCard : Claim7 := { stood := { row := notebookLimitsUptoRow, standIns := [], harness := (true, "0f616b49d8b4ebf092d6e434318c0ac676ac0ec0e0d786a6c1f944f27b5f76e4"), looks := true }, kinds := [], alts := [], laidByText := true, laidKinds := [.data, .data, .data, .data, .pinned], laidTests := true, laidLooks := .later }
def NotebookLimitsUptoCardSaid : Prop := Claim7.holds Tryz.pinned (.plain (OpenSpec.upto notebookLimitsSpec)) notebookLimitsUptoCard

/-- THE SECOND FORM's CARD OF 'algoristlaw42.NotebookReads'. -/
def notebookReadsUptoCard : Claim7 := { stood := { row := notebookReadsUptoRow, standIns := [], harness := (true, "0f616b49d8b4ebf092d6e434318c0ac676ac0ec0e0d786a6c1f944f27b5f76e4"), looks := true }, kinds := [], alts := [], laidByText := true, laidKinds := [.data, .data, .data, .data, .pinned], laidTests := true, laidLooks := .later }
def NotebookReadsUptoCardSaid : Prop := Claim7.holds Tryz.pinned (.plain (OpenSpec.upto notebookReadsSpec)) notebookReadsUptoCard

/-- THE SECOND FORM's CARD OF 'algoristlaw42.NotebookRounds'. -/
def notebookRoundsUptoCard : Claim7 := { stood := { row := notebookRoundsUptoRow, standIns := [], harness := (true, "0f616b49d8b4ebf092d6e434318c0ac676ac0ec0e0d786a6c1f944f27b5f76e4"), looks := true }, kinds := [], alts := [], laidByText := true, laidKinds := [.data, .data, .data, .data, .pinned], laidTests := true, laidLooks := .later }
def NotebookRoundsUptoCardSaid : Prop := Claim7.holds Tryz.pinned (.plain (OpenSpec.upto notebookRoundsSpec)) notebookRoundsUptoCard

/-- THE SECOND FORM's CARD OF 'algoristlaw42.NotebookJoins'. -/
def notebookJoinsUptoCard : Claim7 := { stood := { row := notebookJoinsUptoRow, standIns := [], harness := (true, "0f616b49d8b4ebf092d6e434318c0ac676ac0ec0e0d786a6c1f944f27b5f76e4"), looks := true }, kinds := [], alts := [], laidByText := true, laidKinds := [.data, .data, .data, .data, .pinned], laidTests := true, laidLooks := .later }
def NotebookJoinsUptoCardSaid : Prop := Claim7.holds Tryz.pinned (.plain (OpenSpec.upto notebookJoinsSpec)) notebookJoinsUptoCard

/-- THE SECOND FORM's CARD OF 'algoristlaw42.NotebookUses'. -/
def notebookUsesUptoCard : Claim7 := { stood := { row := notebookUsesUptoRow, standIns := [], harness := (true, "0f616b49d8b4ebf092d6e434318c0ac676ac0ec0e0d786a6c1f944f27b5f76e4"), looks := true }, kinds := [], alts := [], laidByText := true, laidKinds := [.data, .data, .data, .data, .pinned], laidTests := true, laidLooks := .later }
def NotebookUsesUptoCardSaid : Prop := Claim7.holds Tryz.pinned (.plain (OpenSpec.upto notebookUsesSpec)) notebookUsesUptoCard
end Rows
end Go.Proofs.YtenhciieboegbaaGreatDoor
