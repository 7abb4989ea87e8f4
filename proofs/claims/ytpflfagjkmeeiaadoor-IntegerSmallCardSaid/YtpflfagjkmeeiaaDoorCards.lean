/-
  DERIVED. GIVEN WITH THE SEED: THE CARDS: each row of YtpflfagjkmeeiaaDoorRows.lean that lists a variable, with what it lists TIED to the program's text (the seventh form; the later family's looks); each row that meets fmt, with fmt's text TOLD by the authors' own Lean function (tested against real Go, not proved from fmt's source: count such statements apart). THE CARD IS WHAT COUNTS. Prove the row's statement (the work); the ties are given (YtpflfagjkmeeiaaDoorTie.lean); close each card by the builder's one call (the guide's Derived/Test/ToyasCard.lean, 'card_holds'). Laid BY PROGRAM, IN A SANDBOX (cutbox-door.mjs). By AI agents, Wed Nov 11 2026. No macro, syntax, notation, axiom, sorry.
-/
import Derived.Test.YtpflfagjkmeeiaaDoorRows
import GoSem.ClaimSeven
namespace Go.Proofs.YtpflfagjkmeeiaaDoor
namespace Rows

/-- THE TIED CARD OF 'algoristlaw01.IntegerDivides'. -/
def integerDividesCard : Claim7 := { stood := { row := integerDividesRow, standIns := [], harness := (true, "e4c149011022221a6df6e4a0f55796a608a67cad22d3eb18c75f7d2e5cbbd8cb"), looks := false }, kinds := [], alts := [], laidByText := true, laidKinds := [.data, .data, .data], laidTests := true, laidLooks := .later }
def IntegerDividesCardSaid : Prop := Claim7.holds Tryd.pinned (.plain (OpenSpec.ofChange integerDividesSpec)) integerDividesCard

/-- THE TIED CARD OF 'algoristlaw01.IntegerCommon'. -/
def integerCommonCard : Claim7 := { stood := { row := integerCommonRow, standIns := [], harness := (true, "e4c149011022221a6df6e4a0f55796a608a67cad22d3eb18c75f7d2e5cbbd8cb"), looks := false }, kinds := [], alts := [], laidByText := true, laidKinds := [.data, .data, .data], laidTests := true, laidLooks := .later }
def IntegerCommonCardSaid : Prop := Claim7.holds Tryd.pinned (.plain (OpenSpec.ofChange integerCommonSpec)) integerCommonCard

/-- THE TIED CARD OF 'algoristlaw01.IntegerPowers'. -/
def integerPowersCard : Claim7 := { stood := { row := integerPowersRow, standIns := [], harness := (true, "e4c149011022221a6df6e4a0f55796a608a67cad22d3eb18c75f7d2e5cbbd8cb"), looks := false }, kinds := [], alts := [], laidByText := true, laidKinds := [.data, .data, .data], laidTests := true, laidLooks := .later }
def IntegerPowersCardSaid : Prop := Claim7.holds Tryd.pinned (.plain (OpenSpec.ofChange integerPowersSpec)) integerPowersCard

/-- THE TIED CARD OF 'algoristlaw01.IntegerTexts'. -/
def integerTextsCard : Claim7 := { stood := { row := integerTextsRow, standIns := [], harness := (true, "e4c149011022221a6df6e4a0f55796a608a67cad22d3eb18c75f7d2e5cbbd8cb"), looks := false }, kinds := [], alts := [], laidByText := true, laidKinds := [.data, .data, .data], laidTests := true, laidLooks := .later }
def IntegerTextsCardSaid : Prop := Claim7.holds Tryd.pinned (.plain (OpenSpec.ofChange integerTextsSpec)) integerTextsCard

/-- THE TIED CARD OF 'algoristlaw01.IntegerRing'. -/
def integerRingCard : Claim7 := { stood := { row := integerRingRow, standIns := [], harness := (true, "e4c149011022221a6df6e4a0f55796a608a67cad22d3eb18c75f7d2e5cbbd8cb"), looks := false }, kinds := [], alts := [], laidByText := true, laidKinds := [.data, .data, .data], laidTests := true, laidLooks := .later }
def IntegerRingCardSaid : Prop := Claim7.holds Tryd.pinned (.plain (OpenSpec.ofChange integerRingSpec)) integerRingCard

/-- THE TIED CARD OF 'algoristlaw01.IntegerSmall'. -/
def integerSmallCard : Claim7 := { stood := { row := integerSmallRow, standIns := [], harness := (true, "e4c149011022221a6df6e4a0f55796a608a67cad22d3eb18c75f7d2e5cbbd8cb"), looks := false }, kinds := [], alts := [], laidByText := true, laidKinds := [.data, .data, .data], laidTests := true, laidLooks := .later }
def IntegerSmallCardSaid : Prop := Claim7.holds Tryd.pinned (.plain (OpenSpec.ofChange integerSmallSpec)) integerSmallCard

/-- THE SECOND FORM's CARD OF 'algoristlaw01.IntegerDivides'. -/
def integerDividesUptoCard : Claim7 := { stood := { row := integerDividesUptoRow, standIns := [], harness := (true, "e4c149011022221a6df6e4a0f55796a608a67cad22d3eb18c75f7d2e5cbbd8cb"), looks := false }, kinds := [], alts := [], laidByText := true, laidKinds := [.data, .data, .data], laidTests := true, laidLooks := .later }
def IntegerDividesUptoCardSaid : Prop := Claim7.holds Tryd.pinned (.plain (OpenSpec.upto integerDividesSpec)) integerDividesUptoCard

/-- THE SECOND FORM's CARD OF 'algoristlaw01.IntegerCommon'. -/
def integerCommonUptoCard : Claim7 := { stood := { row := integerCommonUptoRow, standIns := [], harness := (true, "e4c149011022221a6df6e4a0f55796a608a67cad22d3eb18c75f7d2e5cbbd8cb"), looks := false }, kinds := [], alts := [], laidByText := true, laidKinds := [.data, .data, .data], laidTests := true, laidLooks := .later }
def IntegerCommonUptoCardSaid : Prop := Claim7.holds Tryd.pinned (.plain (OpenSpec.upto integerCommonSpec)) integerCommonUptoCard

/-- THE SECOND FORM's CARD OF 'algoristlaw01.IntegerPowers'. -/
def integerPowersUptoCard : Claim7 := { stood := { row := integerPowersUptoRow, standIns := [], harness := (true, "e4c149011022221a6df6e4a0f55796a608a67cad22d3eb18c75f7d2e5cbbd8cb"), looks := false }, kinds := [], alts := [], laidByText := true, laidKinds := [.data, .data, .data], laidTests := true, laidLooks := .later }
def IntegerPowersUptoCardSaid : Prop := Claim7.holds Tryd.pinned (.plain (OpenSpec.upto integerPowersSpec)) integerPowersUptoCard

/-- THE SECOND FORM's CARD OF 'algoristlaw01.IntegerTexts'. -/
def integerTextsUptoCard : Claim7 := { stood := { row := integerTextsUptoRow, standIns := [], harness := (true, "e4c149011022221a6df6e4a0f55796a608a67cad22d3eb18c75f7d2e5cbbd8cb"), looks := false }, kinds := [], alts := [], laidByText := true, laidKinds := [.data, .data, .data], laidTests := true, laidLooks := .later }
def IntegerTextsUptoCardSaid : Prop := Claim7.holds Tryd.pinned (.plain (OpenSpec.upto integerTextsSpec)) integerTextsUptoCard

/-- THE SECOND FORM's CARD OF 'algoristlaw01.IntegerRing'. -/
def integerRingUptoCard : Claim7 := { stood := { row := integerRingUptoRow, standIns := [], harness := (true, "e4c149011022221a6df6e4a0f55796a608a67cad22d3eb18c75f7d2e5cbbd8cb"), looks := false }, kinds := [], alts := [], laidByText := true, laidKinds := [.data, .data, .data], laidTests := true, laidLooks := .later }
def IntegerRingUptoCardSaid : Prop := Claim7.holds Tryd.pinned (.plain (OpenSpec.upto integerRingSpec)) integerRingUptoCard

/-- THE SECOND FORM's CARD OF 'algoristlaw01.IntegerSmall'. -/
def integerSmallUptoCard : Claim7 := { stood := { row := integerSmallUptoRow, standIns := [], harness := (true, "e4c149011022221a6df6e4a0f55796a608a67cad22d3eb18c75f7d2e5cbbd8cb"), looks := false }, kinds := [], alts := [], laidByText := true, laidKinds := [.data, .data, .data], laidTests := true, laidLooks := .later }
def IntegerSmallUptoCardSaid : Prop := Claim7.holds Tryd.pinned (.plain (OpenSpec.upto integerSmallSpec)) integerSmallUptoCard
end Rows
end Go.Proofs.YtpflfagjkmeeiaaDoor
