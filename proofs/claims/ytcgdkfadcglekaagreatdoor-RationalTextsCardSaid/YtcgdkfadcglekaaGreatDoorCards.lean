/-
  DERIVED. GIVEN WITH THE SEED: THE CARDS: each row of YtcgdkfadcglekaaGreatDoorRows.lean that lists a variable, with what it lists TIED to the program's text (the seventh form; the later family's looks); each row that meets fmt, with fmt's text TOLD by the authors' own Lean function (tested against real Go, not proved from fmt's source: count such statements apart). THE CARD IS WHAT COUNTS. Prove the row's statement (the work); the ties are given (YtcgdkfadcglekaaGreatDoorTie.lean); close each card by the builder's one call (the guide's Derived/Test/ToyasCard.lean, 'card_holds'). Laid BY PROGRAM, IN A SANDBOX (cutbox-door.mjs). By AI agents, Wed Nov 11 2026. No macro, syntax, notation, axiom, sorry.
-/
import Derived.Test.YtcgdkfadcglekaaGreatDoorRows
import GoSem.ClaimSeven
namespace Go.Proofs.YtcgdkfadcglekaaGreatDoor
namespace Rows

/-- THE TIED CARD OF 'algoristlaw02.RationalTexts'. -/
def rationalTextsCard : Claim7 := { stood := { row := rationalTextsRow, standIns := [], harness := (true, "af9a9553f5608912c36baec691bb0dae43fd743bff1905d533351b771b16df69"), looks := false }, kinds := [], alts := [], laidByText := true, laidKinds := [.data, .data, .data], laidTests := true, laidLooks := .later }
def RationalTextsCardSaid : Prop := Claim7.holds Tryz.pinned (.plain (OpenSpec.ofChange rationalTextsSpec)) rationalTextsCard

/-- THE TIED CARD OF 'algoristlaw02.RationalSimplest'. -/
def rationalSimplestCard : Claim7 := { stood := { row := rationalSimplestRow, standIns := [], harness := (true, "af9a9553f5608912c36baec691bb0dae43fd743bff1905d533351b771b16df69"), looks := false }, kinds := [], alts := [], laidByText := true, laidKinds := [.data, .data, .data], laidTests := true, laidLooks := .later }
def RationalSimplestCardSaid : Prop := Claim7.holds Tryz.pinned (.plain (OpenSpec.ofChange rationalSimplestSpec)) rationalSimplestCard

/-- THE TIED CARD OF 'algoristlaw02.RationalOrder'. -/
def rationalOrderCard : Claim7 := { stood := { row := rationalOrderRow, standIns := [], harness := (true, "af9a9553f5608912c36baec691bb0dae43fd743bff1905d533351b771b16df69"), looks := false }, kinds := [], alts := [], laidByText := true, laidKinds := [.data, .data, .data], laidTests := true, laidLooks := .later }
def RationalOrderCardSaid : Prop := Claim7.holds Tryz.pinned (.plain (OpenSpec.ofChange rationalOrderSpec)) rationalOrderCard

/-- THE TIED CARD OF 'algoristlaw02.RationalValid'. -/
def rationalValidCard : Claim7 := { stood := { row := rationalValidRow, standIns := [], harness := (true, "af9a9553f5608912c36baec691bb0dae43fd743bff1905d533351b771b16df69"), looks := false }, kinds := [], alts := [], laidByText := true, laidKinds := [.data, .data, .data], laidTests := true, laidLooks := .later }
def RationalValidCardSaid : Prop := Claim7.holds Tryz.pinned (.plain (OpenSpec.ofChange rationalValidSpec)) rationalValidCard

/-- THE TIED CARD OF 'algoristlaw02.RationalIntegers'. -/
def rationalIntegersCard : Claim7 := { stood := { row := rationalIntegersRow, standIns := [], harness := (true, "af9a9553f5608912c36baec691bb0dae43fd743bff1905d533351b771b16df69"), looks := false }, kinds := [], alts := [], laidByText := true, laidKinds := [.data, .data, .data], laidTests := true, laidLooks := .later }
def RationalIntegersCardSaid : Prop := Claim7.holds Tryz.pinned (.plain (OpenSpec.ofChange rationalIntegersSpec)) rationalIntegersCard

/-- THE TIED CARD OF 'algoristlaw02.RationalMatchesReference'. -/
def rationalMatchesReferenceCard : Claim7 := { stood := { row := rationalMatchesReferenceRow, standIns := [], harness := (true, "af9a9553f5608912c36baec691bb0dae43fd743bff1905d533351b771b16df69"), looks := false }, kinds := [], alts := [], laidByText := true, laidKinds := [.data, .data, .data], laidTests := true, laidLooks := .later }
def RationalMatchesReferenceCardSaid : Prop := Claim7.holds Tryz.pinned (.plain (OpenSpec.ofChange rationalMatchesReferenceSpec)) rationalMatchesReferenceCard

/-- THE TIED CARD OF 'algoristlaw02.RationalField'. -/
def rationalFieldCard : Claim7 := { stood := { row := rationalFieldRow, standIns := [], harness := (true, "af9a9553f5608912c36baec691bb0dae43fd743bff1905d533351b771b16df69"), looks := false }, kinds := [], alts := [], laidByText := true, laidKinds := [.data, .data, .data], laidTests := true, laidLooks := .later }
def RationalFieldCardSaid : Prop := Claim7.holds Tryz.pinned (.plain (OpenSpec.ofChange rationalFieldSpec)) rationalFieldCard

/-- THE TIED CARD OF 'algoristlaw02.RationalMeets'. -/
def rationalMeetsCard : Claim7 := { stood := { row := rationalMeetsRow, standIns := [], harness := (true, "af9a9553f5608912c36baec691bb0dae43fd743bff1905d533351b771b16df69"), looks := false }, kinds := [], alts := [], laidByText := true, laidKinds := [.data, .data, .data], laidTests := true, laidLooks := .later }
def RationalMeetsCardSaid : Prop := Claim7.holds Tryz.pinned (.plain (OpenSpec.ofChange rationalMeetsSpec)) rationalMeetsCard

/-- THE TIED CARD OF 'algoristlaw02.RationalIntervals'. -/
def rationalIntervalsCard : Claim7 := { stood := { row := rationalIntervalsRow, standIns := [], harness := (true, "af9a9553f5608912c36baec691bb0dae43fd743bff1905d533351b771b16df69"), looks := false }, kinds := [], alts := [], laidByText := true, laidKinds := [.data, .data, .data], laidTests := true, laidLooks := .later }
def RationalIntervalsCardSaid : Prop := Claim7.holds Tryz.pinned (.plain (OpenSpec.ofChange rationalIntervalsSpec)) rationalIntervalsCard

/-- THE SECOND FORM's CARD OF 'algoristlaw02.RationalTexts'. -/
def rationalTextsUptoCard : Claim7 := { stood := { row := rationalTextsUptoRow, standIns := [], harness := (true, "af9a9553f5608912c36baec691bb0dae43fd743bff1905d533351b771b16df69"), looks := false }, kinds := [], alts := [], laidByText := true, laidKinds := [.data, .data, .data], laidTests := true, laidLooks := .later }
def RationalTextsUptoCardSaid : Prop := Claim7.holds Tryz.pinned (.plain (OpenSpec.upto rationalTextsSpec)) rationalTextsUptoCard

/-- THE SECOND FORM's CARD OF 'algoristlaw02.RationalSimplest'. -/
def rationalSimplestUptoCard : Claim7 := { stood := { row := rationalSimplestUptoRow, standIns := [], harness := (true, "af9a9553f5608912c36baec691bb0dae43fd743bff1905d533351b771b16df69"), looks := false }, kinds := [], alts := [], laidByText := true, laidKinds := [.data, .data, .data], laidTests := true, laidLooks := .later }
def RationalSimplestUptoCardSaid : Prop := Claim7.holds Tryz.pinned (.plain (OpenSpec.upto rationalSimplestSpec)) rationalSimplestUptoCard

/-- THE SECOND FORM's CARD OF 'algoristlaw02.RationalOrder'. -/
def rationalOrderUptoCard : Claim7 := { stood := { row := rationalOrderUptoRow, standIns := [], harness := (true, "af9a9553f5608912c36baec691bb0dae43fd743bff1905d533351b771b16df69"), looks := false }, kinds := [], alts := [], laidByText := true, laidKinds := [.data, .data, .data], laidTests := true, laidLooks := .later }
def RationalOrderUptoCardSaid : Prop := Claim7.holds Tryz.pinned (.plain (OpenSpec.upto rationalOrderSpec)) rationalOrderUptoCard

/-- THE SECOND FORM's CARD OF 'algoristlaw02.RationalValid'. -/
def rationalValidUptoCard : Claim7 := { stood := { row := rationalValidUptoRow, standIns := [], harness := (true, "af9a9553f5608912c36baec691bb0dae43fd743bff1905d533351b771b16df69"), looks := false }, kinds := [], alts := [], laidByText := true, laidKinds := [.data, .data, .data], laidTests := true, laidLooks := .later }
def RationalValidUptoCardSaid : Prop := Claim7.holds Tryz.pinned (.plain (OpenSpec.upto rationalValidSpec)) rationalValidUptoCard

/-- THE SECOND FORM's CARD OF 'algoristlaw02.RationalIntegers'. -/
def rationalIntegersUptoCard : Claim7 := { stood := { row := rationalIntegersUptoRow, standIns := [], harness := (true, "af9a9553f5608912c36baec691bb0dae43fd743bff1905d533351b771b16df69"), looks := false }, kinds := [], alts := [], laidByText := true, laidKinds := [.data, .data, .data], laidTests := true, laidLooks := .later }
def RationalIntegersUptoCardSaid : Prop := Claim7.holds Tryz.pinned (.plain (OpenSpec.upto rationalIntegersSpec)) rationalIntegersUptoCard

/-- THE SECOND FORM's CARD OF 'algoristlaw02.RationalMatchesReference'. -/
def rationalMatchesReferenceUptoCard : Claim7 := { stood := { row := rationalMatchesReferenceUptoRow, standIns := [], harness := (true, "af9a9553f5608912c36baec691bb0dae43fd743bff1905d533351b771b16df69"), looks := false }, kinds := [], alts := [], laidByText := true, laidKinds := [.data, .data, .data], laidTests := true, laidLooks := .later }
def RationalMatchesReferenceUptoCardSaid : Prop := Claim7.holds Tryz.pinned (.plain (OpenSpec.upto rationalMatchesReferenceSpec)) rationalMatchesReferenceUptoCard

/-- THE SECOND FORM's CARD OF 'algoristlaw02.RationalField'. -/
def rationalFieldUptoCard : Claim7 := { stood := { row := rationalFieldUptoRow, standIns := [], harness := (true, "af9a9553f5608912c36baec691bb0dae43fd743bff1905d533351b771b16df69"), looks := false }, kinds := [], alts := [], laidByText := true, laidKinds := [.data, .data, .data], laidTests := true, laidLooks := .later }
def RationalFieldUptoCardSaid : Prop := Claim7.holds Tryz.pinned (.plain (OpenSpec.upto rationalFieldSpec)) rationalFieldUptoCard

/-- THE SECOND FORM's CARD OF 'algoristlaw02.RationalMeets'. -/
def rationalMeetsUptoCard : Claim7 := { stood := { row := rationalMeetsUptoRow, standIns := [], harness := (true, "af9a9553f5608912c36baec691bb0dae43fd743bff1905d533351b771b16df69"), looks := false }, kinds := [], alts := [], laidByText := true, laidKinds := [.data, .data, .data], laidTests := true, laidLooks := .later }
def RationalMeetsUptoCardSaid : Prop := Claim7.holds Tryz.pinned (.plain (OpenSpec.upto rationalMeetsSpec)) rationalMeetsUptoCard

/-- THE SECOND FORM's CARD OF 'algoristlaw02.RationalIntervals'. -/
def rationalIntervalsUptoCard : Claim7 := { stood := { row := rationalIntervalsUptoRow, standIns := [], harness := (true, "af9a9553f5608912c36baec691bb0dae43fd743bff1905d533351b771b16df69"), looks := false }, kinds := [], alts := [], laidByText := true, laidKinds := [.data, .data, .data], laidTests := true, laidLooks := .later }
def RationalIntervalsUptoCardSaid : Prop := Claim7.holds Tryz.pinned (.plain (OpenSpec.upto rationalIntervalsSpec)) rationalIntervalsUptoCard
end Rows
end Go.Proofs.YtcgdkfadcglekaaGreatDoor
