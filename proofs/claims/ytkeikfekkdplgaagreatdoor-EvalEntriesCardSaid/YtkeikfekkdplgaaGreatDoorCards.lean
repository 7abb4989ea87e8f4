/-
  DERIVED. GIVEN WITH THE SEED: THE CARDS: each row of YtkeikfekkdplgaaGreatDoorRows.lean that lists a variable, with what it lists TIED to the program's text (the seventh form; the later family's looks); each row that meets fmt, with fmt's text TOLD by the authors' own Lean function (tested against real Go, not proved from fmt's source: count such statements apart). THE CARD IS WHAT COUNTS. Prove the row's statement (the work); the ties are given (YtkeikfekkdplgaaGreatDoorTie.lean); close each card by the builder's one call (the guide's Derived/Test/ToyasCard.lean, 'card_holds'). Laid BY PROGRAM, IN A SANDBOX (cutbox-door.mjs). By AI agents, Wed Nov 11 2026. No macro, syntax, notation, axiom, sorry.
-/
import Derived.Test.YtkeikfekkdplgaaGreatDoorRows
import GoSem.ClaimSeven
namespace Go.Proofs.YtkeikfekkdplgaaGreatDoor
namespace Rows

/-- THE TIED CARD OF 'algoristlaw43.EvalMatchesReference'. -/
def evalMatchesReferenceCard : Claim7 := { stood := { row := evalMatchesReferenceRow, standIns := [], harness := (true, "10a3a2e8441c1dd02f0225976b9acb6db270dcaaae7d39dee3469ca86965f23e"), looks := true }, kinds := [], alts := [], laidByText := true, laidKinds := [.data, .data, .data, .data, .pinned], laidTests := true, laidLooks := .later }
def EvalMatchesReferenceCardSaid : Prop := Claim7.holds Tryz.pinned (.plain (OpenSpec.ofChange evalMatchesReferenceSpec)) evalMatchesReferenceCard

/-- THE TIED CARD OF 'algoristlaw43.EvalExact'. -/
def evalExactCard : Claim7 := { stood := { row := evalExactRow, standIns := [], harness := (true, "10a3a2e8441c1dd02f0225976b9acb6db270dcaaae7d39dee3469ca86965f23e"), looks := true }, kinds := [], alts := [], laidByText := true, laidKinds := [.data, .data, .data, .data, .pinned], laidTests := true, laidLooks := .later }
def EvalExactCardSaid : Prop := Claim7.holds Tryz.pinned (.plain (OpenSpec.ofChange evalExactSpec)) evalExactCard

/-- THE TIED CARD OF 'algoristlaw43.EvalMore'. -/
def evalMoreCard : Claim7 := { stood := { row := evalMoreRow, standIns := [], harness := (true, "10a3a2e8441c1dd02f0225976b9acb6db270dcaaae7d39dee3469ca86965f23e"), looks := true }, kinds := [], alts := [], laidByText := true, laidKinds := [.data, .data, .data, .data, .pinned], laidTests := true, laidLooks := .later }
def EvalMoreCardSaid : Prop := Claim7.holds Tryz.pinned (.plain (OpenSpec.ofChange evalMoreSpec)) evalMoreCard

/-- THE TIED CARD OF 'algoristlaw43.EvalEntries'. -/
def evalEntriesCard : Claim7 := { stood := { row := evalEntriesRow, standIns := [], harness := (true, "10a3a2e8441c1dd02f0225976b9acb6db270dcaaae7d39dee3469ca86965f23e"), looks := true }, kinds := [], alts := [], laidByText := true, laidKinds := [.data, .data, .data, .data, .pinned], laidTests := true, laidLooks := .later }
def EvalEntriesCardSaid : Prop := Claim7.holds Tryz.pinned (.plain (OpenSpec.ofChange evalEntriesSpec)) evalEntriesCard

/-- THE TIED CARD OF 'algoristlaw43.EvalHyps'. -/
def evalHypsCard : Claim7 := { stood := { row := evalHypsRow, standIns := [], harness := (true, "10a3a2e8441c1dd02f0225976b9acb6db270dcaaae7d39dee3469ca86965f23e"), looks := true }, kinds := [], alts := [], laidByText := true, laidKinds := [.data, .data, .data, .data, .pinned], laidTests := true, laidLooks := .later }
def EvalHypsCardSaid : Prop := Claim7.holds Tryz.pinned (.plain (OpenSpec.ofChange evalHypsSpec)) evalHypsCard

/-- THE TIED CARD OF 'algoristlaw43.EvalOperations'. -/
def evalOperationsCard : Claim7 := { stood := { row := evalOperationsRow, standIns := [], harness := (true, "10a3a2e8441c1dd02f0225976b9acb6db270dcaaae7d39dee3469ca86965f23e"), looks := true }, kinds := [], alts := [], laidByText := true, laidKinds := [.data, .data, .data, .data, .pinned], laidTests := true, laidLooks := .later }
def EvalOperationsCardSaid : Prop := Claim7.holds Tryz.pinned (.plain (OpenSpec.ofChange evalOperationsSpec)) evalOperationsCard

/-- THE TIED CARD OF 'algoristlaw43.EvalSearches'. -/
def evalSearchesCard : Claim7 := { stood := { row := evalSearchesRow, standIns := [], harness := (true, "10a3a2e8441c1dd02f0225976b9acb6db270dcaaae7d39dee3469ca86965f23e"), looks := true }, kinds := [], alts := [], laidByText := true, laidKinds := [.data, .data, .data, .data, .pinned], laidTests := true, laidLooks := .later }
def EvalSearchesCardSaid : Prop := Claim7.holds Tryz.pinned (.plain (OpenSpec.ofChange evalSearchesSpec)) evalSearchesCard

/-- THE SECOND FORM's CARD OF 'algoristlaw43.EvalMatchesReference'. -/
def evalMatchesReferenceUptoCard : Claim7 := { stood := { row := evalMatchesReferenceUptoRow, standIns := [], harness := (true, "10a3a2e8441c1dd02f0225976b9acb6db270dcaaae7d39dee3469ca86965f23e"), looks := true }, kinds := [], alts := [], laidByText := true, laidKinds := [.data, .data, .data, .data, .pinned], laidTests := true, laidLooks := .later }
def EvalMatchesReferenceUptoCardSaid : Prop := Claim7.holds Tryz.pinned (.plain (OpenSpec.upto evalMatchesReferenceSpec)) evalMatchesReferenceUptoCard

/-- THE SECOND FORM's CARD OF 'algoristlaw43.EvalExact'. -/
def evalExactUptoCard : Claim7 := { stood := { row := evalExactUptoRow, standIns := [], harness := (true, "10a3a2e8441c1dd02f0225976b9acb6db270dcaaae7d39dee3469ca86965f23e"), looks := true }, kinds := [], alts := [], laidByText := true, laidKinds := [.data, .data, .data, .data, .pinned], laidTests := true, laidLooks := .later }
def EvalExactUptoCardSaid : Prop := Claim7.holds Tryz.pinned (.plain (OpenSpec.upto evalExactSpec)) evalExactUptoCard

/-- THE SECOND FORM's CARD OF 'algoristlaw43.EvalMore'. -/
def evalMoreUptoCard : Claim7 := { stood := { row := evalMoreUptoRow, standIns := [], harness := (true, "10a3a2e8441c1dd02f0225976b9acb6db270dcaaae7d39dee3469ca86965f23e"), looks := true }, kinds := [], alts := [], laidByText := true, laidKinds := [.data, .data, .data, .data, .pinned], laidTests := true, laidLooks := .later }
def EvalMoreUptoCardSaid : Prop := Claim7.holds Tryz.pinned (.plain (OpenSpec.upto evalMoreSpec)) evalMoreUptoCard

/-- THE SECOND FORM's CARD OF 'algoristlaw43.EvalEntries'. -/
def evalEntriesUptoCard : Claim7 := { stood := { row := evalEntriesUptoRow, standIns := [], harness := (true, "10a3a2e8441c1dd02f0225976b9acb6db270dcaaae7d39dee3469ca86965f23e"), looks := true }, kinds := [], alts := [], laidByText := true, laidKinds := [.data, .data, .data, .data, .pinned], laidTests := true, laidLooks := .later }
def EvalEntriesUptoCardSaid : Prop := Claim7.holds Tryz.pinned (.plain (OpenSpec.upto evalEntriesSpec)) evalEntriesUptoCard

/-- THE SECOND FORM's CARD OF 'algoristlaw43.EvalHyps'. -/
def evalHypsUptoCard : Claim7 := { stood := { row := evalHypsUptoRow, standIns := [], harness := (true, "10a3a2e8441c1dd02f0225976b9acb6db270dcaaae7d39dee3469ca86965f23e"), looks := true }, kinds := [], alts := [], laidByText := true, laidKinds := [.data, .data, .data, .data, .pinned], laidTests := true, laidLooks := .later }
def EvalHypsUptoCardSaid : Prop := Claim7.holds Tryz.pinned (.plain (OpenSpec.upto evalHypsSpec)) evalHypsUptoCard

/-- THE SECOND FORM's CARD OF 'algoristlaw43.EvalOperations'. -/
def evalOperationsUptoCard : Claim7 := { stood := { row := evalOperationsUptoRow, standIns := [], harness := (true, "10a3a2e8441c1dd02f0225976b9acb6db270dcaaae7d39dee3469ca86965f23e"), looks := true }, kinds := [], alts := [], laidByText := true, laidKinds := [.data, .data, .data, .data, .pinned], laidTests := true, laidLooks := .later }
def EvalOperationsUptoCardSaid : Prop := Claim7.holds Tryz.pinned (.plain (OpenSpec.upto evalOperationsSpec)) evalOperationsUptoCard

/-- THE SECOND FORM's CARD OF 'algoristlaw43.EvalSearches'. -/
def evalSearchesUptoCard : Claim7 := { stood := { row := evalSearchesUptoRow, standIns := [], harness := (true, "10a3a2e8441c1dd02f0225976b9acb6db270dcaaae7d39dee3469ca86965f23e"), looks := true }, kinds := [], alts := [], laidByText := true, laidKinds := [.data, .data, .data, .data, .pinned], laidTests := true, laidLooks := .later }
def EvalSearchesUptoCardSaid : Prop := Claim7.holds Tryz.pinned (.plain (OpenSpec.upto evalSearchesSpec)) evalSearchesUptoCard
end Rows
end Go.Proofs.YtkeikfekkdplgaaGreatDoor
