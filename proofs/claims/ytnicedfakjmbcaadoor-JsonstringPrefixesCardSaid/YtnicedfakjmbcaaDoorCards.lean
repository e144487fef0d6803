/-
  DERIVED. GIVEN WITH THE SEED: THE CARDS: each row of YtnicedfakjmbcaaDoorRows.lean that lists a variable, with what it lists TIED to the program's text (the seventh form; the later family's looks); each row that meets fmt, with fmt's text TOLD by the authors' own Lean function (tested against real Go, not proved from fmt's source: count such statements apart). THE CARD IS WHAT COUNTS. Prove the row's statement (the work); the ties are given (YtnicedfakjmbcaaDoorTie.lean); close each card by the builder's one call (the guide's Derived/Test/ToyasCard.lean, 'card_holds'). Laid BY PROGRAM, IN A SANDBOX (cutbox-door.mjs). By AI agents, Wed Nov 11 2026. No macro, syntax, notation, axiom, sorry.
-/
import Derived.Test.YtnicedfakjmbcaaDoorRows
import GoSem.ClaimSeven
namespace Go.Proofs.YtnicedfakjmbcaaDoor
namespace Rows

/-- THE TIED CARD OF 'feedvaultlaw01.TextDecodeMatchesReference'. -/
def textDecodeMatchesReferenceCard : Claim7 := { stood := { row := textDecodeMatchesReferenceRow, standIns := [], harness := (true, "3fda0f6aee7f5d6f18d6da475589f5e9c8a9b80ac2cbea5fcb4e4e83a3a9589b"), looks := false }, kinds := [], alts := [], laidByText := true, laidKinds := [.data, .data, .data, .pinned], laidTests := true, laidLooks := .later }
def TextDecodeMatchesReferenceCardSaid : Prop := Claim7.holds Tryd.pinned (.plain (OpenSpec.ofChange textDecodeMatchesReferenceSpec)) textDecodeMatchesReferenceCard

/-- THE TIED CARD OF 'feedvaultlaw01.TextCheckMatchesReference'. -/
def textCheckMatchesReferenceCard : Claim7 := { stood := { row := textCheckMatchesReferenceRow, standIns := [], harness := (true, "3fda0f6aee7f5d6f18d6da475589f5e9c8a9b80ac2cbea5fcb4e4e83a3a9589b"), looks := false }, kinds := [], alts := [], laidByText := true, laidKinds := [.data, .data, .data, .pinned], laidTests := true, laidLooks := .later }
def TextCheckMatchesReferenceCardSaid : Prop := Claim7.holds Tryd.pinned (.plain (OpenSpec.ofChange textCheckMatchesReferenceSpec)) textCheckMatchesReferenceCard

/-- THE TIED CARD OF 'feedvaultlaw01.TextClassesMatchReference'. -/
def textClassesMatchReferenceCard : Claim7 := { stood := { row := textClassesMatchReferenceRow, standIns := [], harness := (true, "3fda0f6aee7f5d6f18d6da475589f5e9c8a9b80ac2cbea5fcb4e4e83a3a9589b"), looks := false }, kinds := [], alts := [], laidByText := true, laidKinds := [.data, .data, .data, .pinned], laidTests := true, laidLooks := .later }
def TextClassesMatchReferenceCardSaid : Prop := Claim7.holds Tryd.pinned (.plain (OpenSpec.ofChange textClassesMatchReferenceSpec)) textClassesMatchReferenceCard

/-- THE TIED CARD OF 'feedvaultlaw01.TextNames'. -/
def textNamesCard : Claim7 := { stood := { row := textNamesRow, standIns := [], harness := (true, "3fda0f6aee7f5d6f18d6da475589f5e9c8a9b80ac2cbea5fcb4e4e83a3a9589b"), looks := false }, kinds := [], alts := [], laidByText := true, laidKinds := [.data, .data, .data, .pinned], laidTests := true, laidLooks := .later }
def TextNamesCardSaid : Prop := Claim7.holds Tryd.pinned (.plain (OpenSpec.ofChange textNamesSpec)) textNamesCard

/-- THE TIED CARD OF 'feedvaultlaw01.TextCollapseMatchesReference'. -/
def textCollapseMatchesReferenceCard : Claim7 := { stood := { row := textCollapseMatchesReferenceRow, standIns := [], harness := (true, "3fda0f6aee7f5d6f18d6da475589f5e9c8a9b80ac2cbea5fcb4e4e83a3a9589b"), looks := false }, kinds := [], alts := [], laidByText := true, laidKinds := [.data, .data, .data, .pinned], laidTests := true, laidLooks := .later }
def TextCollapseMatchesReferenceCardSaid : Prop := Claim7.holds Tryd.pinned (.plain (OpenSpec.ofChange textCollapseMatchesReferenceSpec)) textCollapseMatchesReferenceCard

/-- THE TIED CARD OF 'feedvaultlaw01.TextCollapseComposes'. -/
def textCollapseComposesCard : Claim7 := { stood := { row := textCollapseComposesRow, standIns := [], harness := (true, "3fda0f6aee7f5d6f18d6da475589f5e9c8a9b80ac2cbea5fcb4e4e83a3a9589b"), looks := false }, kinds := [], alts := [], laidByText := true, laidKinds := [.data, .data, .data, .pinned], laidTests := true, laidLooks := .later }
def TextCollapseComposesCardSaid : Prop := Claim7.holds Tryd.pinned (.plain (OpenSpec.ofChange textCollapseComposesSpec)) textCollapseComposesCard

/-- THE TIED CARD OF 'feedvaultlaw01.TextCheckConcatenation'. -/
def textCheckConcatenationCard : Claim7 := { stood := { row := textCheckConcatenationRow, standIns := [], harness := (true, "3fda0f6aee7f5d6f18d6da475589f5e9c8a9b80ac2cbea5fcb4e4e83a3a9589b"), looks := false }, kinds := [], alts := [], laidByText := true, laidKinds := [.data, .data, .data, .pinned], laidTests := true, laidLooks := .later }
def TextCheckConcatenationCardSaid : Prop := Claim7.holds Tryd.pinned (.plain (OpenSpec.ofChange textCheckConcatenationSpec)) textCheckConcatenationCard

/-- THE TIED CARD OF 'feedvaultlaw10.JsonstringQuotes'. -/
def jsonstringQuotesCard : Claim7 := { stood := { row := jsonstringQuotesRow, standIns := [], harness := (true, "3fda0f6aee7f5d6f18d6da475589f5e9c8a9b80ac2cbea5fcb4e4e83a3a9589b"), looks := false }, kinds := [], alts := [], laidByText := true, laidKinds := [.data, .data, .pinned], laidTests := true, laidLooks := .later }
def JsonstringQuotesCardSaid : Prop := Claim7.holds Tryd.pinned (.plain (OpenSpec.ofChange jsonstringQuotesSpec)) jsonstringQuotesCard

/-- THE TIED CARD OF 'feedvaultlaw10.JsonstringParses'. -/
def jsonstringParsesCard : Claim7 := { stood := { row := jsonstringParsesRow, standIns := [], harness := (true, "3fda0f6aee7f5d6f18d6da475589f5e9c8a9b80ac2cbea5fcb4e4e83a3a9589b"), looks := false }, kinds := [], alts := [], laidByText := true, laidKinds := [.data, .data, .pinned], laidTests := true, laidLooks := .later }
def JsonstringParsesCardSaid : Prop := Claim7.holds Tryd.pinned (.plain (OpenSpec.ofChange jsonstringParsesSpec)) jsonstringParsesCard

/-- THE TIED CARD OF 'feedvaultlaw10.JsonstringRoundTrip'. -/
def jsonstringRoundTripCard : Claim7 := { stood := { row := jsonstringRoundTripRow, standIns := [], harness := (true, "3fda0f6aee7f5d6f18d6da475589f5e9c8a9b80ac2cbea5fcb4e4e83a3a9589b"), looks := false }, kinds := [], alts := [], laidByText := true, laidKinds := [.data, .data, .pinned], laidTests := true, laidLooks := .later }
def JsonstringRoundTripCardSaid : Prop := Claim7.holds Tryd.pinned (.plain (OpenSpec.ofChange jsonstringRoundTripSpec)) jsonstringRoundTripCard

/-- THE TIED CARD OF 'feedvaultlaw10.JsonstringConcatenation'. -/
def jsonstringConcatenationCard : Claim7 := { stood := { row := jsonstringConcatenationRow, standIns := [], harness := (true, "3fda0f6aee7f5d6f18d6da475589f5e9c8a9b80ac2cbea5fcb4e4e83a3a9589b"), looks := false }, kinds := [], alts := [], laidByText := true, laidKinds := [.data, .data, .pinned], laidTests := true, laidLooks := .later }
def JsonstringConcatenationCardSaid : Prop := Claim7.holds Tryd.pinned (.plain (OpenSpec.ofChange jsonstringConcatenationSpec)) jsonstringConcatenationCard

/-- THE TIED CARD OF 'feedvaultlaw10.JsonstringNumbers'. -/
def jsonstringNumbersCard : Claim7 := { stood := { row := jsonstringNumbersRow, standIns := [], harness := (true, "3fda0f6aee7f5d6f18d6da475589f5e9c8a9b80ac2cbea5fcb4e4e83a3a9589b"), looks := false }, kinds := [], alts := [], laidByText := true, laidKinds := [.data, .data, .pinned], laidTests := true, laidLooks := .later }
def JsonstringNumbersCardSaid : Prop := Claim7.holds Tryd.pinned (.plain (OpenSpec.ofChange jsonstringNumbersSpec)) jsonstringNumbersCard

/-- THE TIED CARD OF 'feedvaultlaw10.JsonstringPrefixes'. -/
def jsonstringPrefixesCard : Claim7 := { stood := { row := jsonstringPrefixesRow, standIns := [], harness := (true, "3fda0f6aee7f5d6f18d6da475589f5e9c8a9b80ac2cbea5fcb4e4e83a3a9589b"), looks := false }, kinds := [], alts := [], laidByText := true, laidKinds := [.data, .data, .pinned], laidTests := true, laidLooks := .later }
def JsonstringPrefixesCardSaid : Prop := Claim7.holds Tryd.pinned (.plain (OpenSpec.ofChange jsonstringPrefixesSpec)) jsonstringPrefixesCard

/-- THE SECOND FORM's CARD OF 'feedvaultlaw01.TextDecodeMatchesReference'. -/
def textDecodeMatchesReferenceUptoCard : Claim7 := { stood := { row := textDecodeMatchesReferenceUptoRow, standIns := [], harness := (true, "3fda0f6aee7f5d6f18d6da475589f5e9c8a9b80ac2cbea5fcb4e4e83a3a9589b"), looks := false }, kinds := [], alts := [], laidByText := true, laidKinds := [.data, .data, .data, .pinned], laidTests := true, laidLooks := .later }
def TextDecodeMatchesReferenceUptoCardSaid : Prop := Claim7.holds Tryd.pinned (.plain (OpenSpec.upto textDecodeMatchesReferenceSpec)) textDecodeMatchesReferenceUptoCard

/-- THE SECOND FORM's CARD OF 'feedvaultlaw01.TextCheckMatchesReference'. -/
def textCheckMatchesReferenceUptoCard : Claim7 := { stood := { row := textCheckMatchesReferenceUptoRow, standIns := [], harness := (true, "3fda0f6aee7f5d6f18d6da475589f5e9c8a9b80ac2cbea5fcb4e4e83a3a9589b"), looks := false }, kinds := [], alts := [], laidByText := true, laidKinds := [.data, .data, .data, .pinned], laidTests := true, laidLooks := .later }
def TextCheckMatchesReferenceUptoCardSaid : Prop := Claim7.holds Tryd.pinned (.plain (OpenSpec.upto textCheckMatchesReferenceSpec)) textCheckMatchesReferenceUptoCard

/-- THE SECOND FORM's CARD OF 'feedvaultlaw01.TextClassesMatchReference'. -/
def textClassesMatchReferenceUptoCard : Claim7 := { stood := { row := textClassesMatchReferenceUptoRow, standIns := [], harness := (true, "3fda0f6aee7f5d6f18d6da475589f5e9c8a9b80ac2cbea5fcb4e4e83a3a9589b"), looks := false }, kinds := [], alts := [], laidByText := true, laidKinds := [.data, .data, .data, .pinned], laidTests := true, laidLooks := .later }
def TextClassesMatchReferenceUptoCardSaid : Prop := Claim7.holds Tryd.pinned (.plain (OpenSpec.upto textClassesMatchReferenceSpec)) textClassesMatchReferenceUptoCard

/-- THE SECOND FORM's CARD OF 'feedvaultlaw01.TextNames'. -/
def textNamesUptoCard : Claim7 := { stood := { row := textNamesUptoRow, standIns := [], harness := (true, "3fda0f6aee7f5d6f18d6da475589f5e9c8a9b80ac2cbea5fcb4e4e83a3a9589b"), looks := false }, kinds := [], alts := [], laidByText := true, laidKinds := [.data, .data, .data, .pinned], laidTests := true, laidLooks := .later }
def TextNamesUptoCardSaid : Prop := Claim7.holds Tryd.pinned (.plain (OpenSpec.upto textNamesSpec)) textNamesUptoCard

/-- THE SECOND FORM's CARD OF 'feedvaultlaw01.TextCollapseMatchesReference'. -/
def textCollapseMatchesReferenceUptoCard : Claim7 := { stood := { row := textCollapseMatchesReferenceUptoRow, standIns := [], harness := (true, "3fda0f6aee7f5d6f18d6da475589f5e9c8a9b80ac2cbea5fcb4e4e83a3a9589b"), looks := false }, kinds := [], alts := [], laidByText := true, laidKinds := [.data, .data, .data, .pinned], laidTests := true, laidLooks := .later }
def TextCollapseMatchesReferenceUptoCardSaid : Prop := Claim7.holds Tryd.pinned (.plain (OpenSpec.upto textCollapseMatchesReferenceSpec)) textCollapseMatchesReferenceUptoCard

/-- THE SECOND FORM's CARD OF 'feedvaultlaw01.TextCollapseComposes'. -/
def textCollapseComposesUptoCard : Claim7 := { stood := { row := textCollapseComposesUptoRow, standIns := [], harness := (true, "3fda0f6aee7f5d6f18d6da475589f5e9c8a9b80ac2cbea5fcb4e4e83a3a9589b"), looks := false }, kinds := [], alts := [], laidByText := true, laidKinds := [.data, .data, .data, .pinned], laidTests := true, laidLooks := .later }
def TextCollapseComposesUptoCardSaid : Prop := Claim7.holds Tryd.pinned (.plain (OpenSpec.upto textCollapseComposesSpec)) textCollapseComposesUptoCard

/-- THE SECOND FORM's CARD OF 'feedvaultlaw01.TextCheckConcatenation'. -/
def textCheckConcatenationUptoCard : Claim7 := { stood := { row := textCheckConcatenationUptoRow, standIns := [], harness := (true, "3fda0f6aee7f5d6f18d6da475589f5e9c8a9b80ac2cbea5fcb4e4e83a3a9589b"), looks := false }, kinds := [], alts := [], laidByText := true, laidKinds := [.data, .data, .data, .pinned], laidTests := true, laidLooks := .later }
def TextCheckConcatenationUptoCardSaid : Prop := Claim7.holds Tryd.pinned (.plain (OpenSpec.upto textCheckConcatenationSpec)) textCheckConcatenationUptoCard

/-- THE SECOND FORM's CARD OF 'feedvaultlaw10.JsonstringQuotes'. -/
def jsonstringQuotesUptoCard : Claim7 := { stood := { row := jsonstringQuotesUptoRow, standIns := [], harness := (true, "3fda0f6aee7f5d6f18d6da475589f5e9c8a9b80ac2cbea5fcb4e4e83a3a9589b"), looks := false }, kinds := [], alts := [], laidByText := true, laidKinds := [.data, .data, .pinned], laidTests := true, laidLooks := .later }
def JsonstringQuotesUptoCardSaid : Prop := Claim7.holds Tryd.pinned (.plain (OpenSpec.upto jsonstringQuotesSpec)) jsonstringQuotesUptoCard

/-- THE SECOND FORM's CARD OF 'feedvaultlaw10.JsonstringParses'. -/
def jsonstringParsesUptoCard : Claim7 := { stood := { row := jsonstringParsesUptoRow, standIns := [], harness := (true, "3fda0f6aee7f5d6f18d6da475589f5e9c8a9b80ac2cbea5fcb4e4e83a3a9589b"), looks := false }, kinds := [], alts := [], laidByText := true, laidKinds := [.data, .data, .pinned], laidTests := true, laidLooks := .later }
def JsonstringParsesUptoCardSaid : Prop := Claim7.holds Tryd.pinned (.plain (OpenSpec.upto jsonstringParsesSpec)) jsonstringParsesUptoCard

/-- THE SECOND FORM's CARD OF 'feedvaultlaw10.JsonstringRoundTrip'. -/
def jsonstringRoundTripUptoCard : Claim7 := { stood := { row := jsonstringRoundTripUptoRow, standIns := [], harness := (true, "3fda0f6aee7f5d6f18d6da475589f5e9c8a9b80ac2cbea5fcb4e4e83a3a9589b"), looks := false }, kinds := [], alts := [], laidByText := true, laidKinds := [.data, .data, .pinned], laidTests := true, laidLooks := .later }
def JsonstringRoundTripUptoCardSaid : Prop := Claim7.holds Tryd.pinned (.plain (OpenSpec.upto jsonstringRoundTripSpec)) jsonstringRoundTripUptoCard

/-- THE SECOND FORM's CARD OF 'feedvaultlaw10.JsonstringConcatenation'. -/
def jsonstringConcatenationUptoCard : Claim7 := { stood := { row := jsonstringConcatenationUptoRow, standIns := [], harness := (true, "3fda0f6aee7f5d6f18d6da475589f5e9c8a9b80ac2cbea5fcb4e4e83a3a9589b"), looks := false }, kinds := [], alts := [], laidByText := true, laidKinds := [.data, .data, .pinned], laidTests := true, laidLooks := .later }
def JsonstringConcatenationUptoCardSaid : Prop := Claim7.holds Tryd.pinned (.plain (OpenSpec.upto jsonstringConcatenationSpec)) jsonstringConcatenationUptoCard

/-- THE SECOND FORM's CARD OF 'feedvaultlaw10.JsonstringNumbers'. -/
def jsonstringNumbersUptoCard : Claim7 := { stood := { row := jsonstringNumbersUptoRow, standIns := [], harness := (true, "3fda0f6aee7f5d6f18d6da475589f5e9c8a9b80ac2cbea5fcb4e4e83a3a9589b"), looks := false }, kinds := [], alts := [], laidByText := true, laidKinds := [.data, .data, .pinned], laidTests := true, laidLooks := .later }
def JsonstringNumbersUptoCardSaid : Prop := Claim7.holds Tryd.pinned (.plain (OpenSpec.upto jsonstringNumbersSpec)) jsonstringNumbersUptoCard

/-- THE SECOND FORM's CARD OF 'feedvaultlaw10.JsonstringPrefixes'. -/
def jsonstringPrefixesUptoCard : Claim7 := { stood := { row := jsonstringPrefixesUptoRow, standIns := [], harness := (true, "3fda0f6aee7f5d6f18d6da475589f5e9c8a9b80ac2cbea5fcb4e4e83a3a9589b"), looks := false }, kinds := [], alts := [], laidByText := true, laidKinds := [.data, .data, .pinned], laidTests := true, laidLooks := .later }
def JsonstringPrefixesUptoCardSaid : Prop := Claim7.holds Tryd.pinned (.plain (OpenSpec.upto jsonstringPrefixesSpec)) jsonstringPrefixesUptoCard
end Rows
end Go.Proofs.YtnicedfakjmbcaaDoor
