/-
  DERIVED. GIVEN WITH THE SEED: THE CARDS: each row of YtikjehgbfkndjaaDoorRows.lean that lists a variable, with what it lists TIED to the program's text (the seventh form; the later family's looks); each row that meets fmt, with fmt's text TOLD by the authors' own Lean function (tested against real Go, not proved from fmt's source: count such statements apart). THE CARD IS WHAT COUNTS. Prove the row's statement (the work); the ties are given (YtikjehgbfkndjaaDoorTie.lean); close each card by the builder's one call (the guide's Derived/Test/ToyasCard.lean, 'card_holds'). Laid BY PROGRAM, IN A SANDBOX (cutbox-door.mjs). By AI agents, Wed Nov 11 2026. No macro, syntax, notation, axiom, sorry.
-/
import Derived.Test.YtikjehgbfkndjaaDoorRows
import GoSem.ClaimSeven
namespace Go.Proofs.YtikjehgbfkndjaaDoor
namespace Rows

/-- THE TIED CARD OF 'feedvaulttop.TopDates'. -/
def topDatesCard : Claim7 := { stood := { row := topDatesRow, standIns := [], harness := (true, "14cd3e16de3ad27b78c54340a1b6dff01b7523a7e65c7c23d1e53dec157ae199"), looks := true }, kinds := [], alts := [], laidByText := true, laidKinds := [.data, .data, .data, .data, .sentinel, .sentinel, .data, .data, .pinned], laidTests := true, laidLooks := .later }
def TopDatesCardSaid : Prop := Claim7.holds Tryd.pinned (.plain (OpenSpec.ofChange topDatesSpec)) topDatesCard

/-- THE TIED CARD OF 'feedvaultlaw03.Rfc3339FormatMatchesReference'. -/
def rfc3339FormatMatchesReferenceCard : Claim7 := { stood := { row := rfc3339FormatMatchesReferenceRow, standIns := [], harness := (true, "14cd3e16de3ad27b78c54340a1b6dff01b7523a7e65c7c23d1e53dec157ae199"), looks := true }, kinds := [], alts := [], laidByText := true, laidKinds := [.data, .data, .data], laidTests := true, laidLooks := .later }
def Rfc3339FormatMatchesReferenceCardSaid : Prop := Claim7.holds Tryd.pinned (.plain (OpenSpec.ofChange rfc3339FormatMatchesReferenceSpec)) rfc3339FormatMatchesReferenceCard

/-- THE TIED CARD OF 'feedvaultlaw03.Rfc3339ParseMatchesReference'. -/
def rfc3339ParseMatchesReferenceCard : Claim7 := { stood := { row := rfc3339ParseMatchesReferenceRow, standIns := [], harness := (true, "14cd3e16de3ad27b78c54340a1b6dff01b7523a7e65c7c23d1e53dec157ae199"), looks := true }, kinds := [], alts := [], laidByText := true, laidKinds := [.data, .data, .data], laidTests := true, laidLooks := .later }
def Rfc3339ParseMatchesReferenceCardSaid : Prop := Claim7.holds Tryd.pinned (.plain (OpenSpec.ofChange rfc3339ParseMatchesReferenceSpec)) rfc3339ParseMatchesReferenceCard

/-- THE TIED CARD OF 'feedvaultlaw03.Rfc3339RoundTrip'. -/
def rfc3339RoundTripCard : Claim7 := { stood := { row := rfc3339RoundTripRow, standIns := [], harness := (true, "14cd3e16de3ad27b78c54340a1b6dff01b7523a7e65c7c23d1e53dec157ae199"), looks := true }, kinds := [], alts := [], laidByText := true, laidKinds := [.data, .data, .data], laidTests := true, laidLooks := .later }
def Rfc3339RoundTripCardSaid : Prop := Claim7.holds Tryd.pinned (.plain (OpenSpec.ofChange rfc3339RoundTripSpec)) rfc3339RoundTripCard

/-- THE TIED CARD OF 'feedvaultlaw03.Rfc3339Order'. -/
def rfc3339OrderCard : Claim7 := { stood := { row := rfc3339OrderRow, standIns := [], harness := (true, "14cd3e16de3ad27b78c54340a1b6dff01b7523a7e65c7c23d1e53dec157ae199"), looks := true }, kinds := [], alts := [], laidByText := true, laidKinds := [.data, .data, .data], laidTests := true, laidLooks := .later }
def Rfc3339OrderCardSaid : Prop := Claim7.holds Tryd.pinned (.plain (OpenSpec.ofChange rfc3339OrderSpec)) rfc3339OrderCard

/-- THE TIED CARD OF 'feedvaultlaw03.Rfc3339Offsets'. -/
def rfc3339OffsetsCard : Claim7 := { stood := { row := rfc3339OffsetsRow, standIns := [], harness := (true, "14cd3e16de3ad27b78c54340a1b6dff01b7523a7e65c7c23d1e53dec157ae199"), looks := true }, kinds := [], alts := [], laidByText := true, laidKinds := [.data, .data, .data], laidTests := true, laidLooks := .later }
def Rfc3339OffsetsCardSaid : Prop := Claim7.holds Tryd.pinned (.plain (OpenSpec.ofChange rfc3339OffsetsSpec)) rfc3339OffsetsCard

/-- THE TIED CARD OF 'feedvaultlaw03.Rfc3339Strict'. -/
def rfc3339StrictCard : Claim7 := { stood := { row := rfc3339StrictRow, standIns := [], harness := (true, "14cd3e16de3ad27b78c54340a1b6dff01b7523a7e65c7c23d1e53dec157ae199"), looks := true }, kinds := [], alts := [], laidByText := true, laidKinds := [.data, .data, .data], laidTests := true, laidLooks := .later }
def Rfc3339StrictCardSaid : Prop := Claim7.holds Tryd.pinned (.plain (OpenSpec.ofChange rfc3339StrictSpec)) rfc3339StrictCard

/-- THE SECOND FORM's CARD OF 'feedvaulttop.TopDates'. -/
def topDatesUptoCard : Claim7 := { stood := { row := topDatesUptoRow, standIns := [], harness := (true, "14cd3e16de3ad27b78c54340a1b6dff01b7523a7e65c7c23d1e53dec157ae199"), looks := true }, kinds := [], alts := [], laidByText := true, laidKinds := [.data, .data, .data, .data, .sentinel, .sentinel, .data, .data, .pinned], laidTests := true, laidLooks := .later }
def TopDatesUptoCardSaid : Prop := Claim7.holds Tryd.pinned (.plain (OpenSpec.upto topDatesSpec)) topDatesUptoCard

/-- THE SECOND FORM's CARD OF 'feedvaultlaw03.Rfc3339FormatMatchesReference'. -/
def rfc3339FormatMatchesReferenceUptoCard : Claim7 := { stood := { row := rfc3339FormatMatchesReferenceUptoRow, standIns := [], harness := (true, "14cd3e16de3ad27b78c54340a1b6dff01b7523a7e65c7c23d1e53dec157ae199"), looks := true }, kinds := [], alts := [], laidByText := true, laidKinds := [.data, .data, .data], laidTests := true, laidLooks := .later }
def Rfc3339FormatMatchesReferenceUptoCardSaid : Prop := Claim7.holds Tryd.pinned (.plain (OpenSpec.upto rfc3339FormatMatchesReferenceSpec)) rfc3339FormatMatchesReferenceUptoCard

/-- THE SECOND FORM's CARD OF 'feedvaultlaw03.Rfc3339ParseMatchesReference'. -/
def rfc3339ParseMatchesReferenceUptoCard : Claim7 := { stood := { row := rfc3339ParseMatchesReferenceUptoRow, standIns := [], harness := (true, "14cd3e16de3ad27b78c54340a1b6dff01b7523a7e65c7c23d1e53dec157ae199"), looks := true }, kinds := [], alts := [], laidByText := true, laidKinds := [.data, .data, .data], laidTests := true, laidLooks := .later }
def Rfc3339ParseMatchesReferenceUptoCardSaid : Prop := Claim7.holds Tryd.pinned (.plain (OpenSpec.upto rfc3339ParseMatchesReferenceSpec)) rfc3339ParseMatchesReferenceUptoCard

/-- THE SECOND FORM's CARD OF 'feedvaultlaw03.Rfc3339RoundTrip'. -/
def rfc3339RoundTripUptoCard : Claim7 := { stood := { row := rfc3339RoundTripUptoRow, standIns := [], harness := (true, "14cd3e16de3ad27b78c54340a1b6dff01b7523a7e65c7c23d1e53dec157ae199"), looks := true }, kinds := [], alts := [], laidByText := true, laidKinds := [.data, .data, .data], laidTests := true, laidLooks := .later }
def Rfc3339RoundTripUptoCardSaid : Prop := Claim7.holds Tryd.pinned (.plain (OpenSpec.upto rfc3339RoundTripSpec)) rfc3339RoundTripUptoCard

/-- THE SECOND FORM's CARD OF 'feedvaultlaw03.Rfc3339Order'. -/
def rfc3339OrderUptoCard : Claim7 := { stood := { row := rfc3339OrderUptoRow, standIns := [], harness := (true, "14cd3e16de3ad27b78c54340a1b6dff01b7523a7e65c7c23d1e53dec157ae199"), looks := true }, kinds := [], alts := [], laidByText := true, laidKinds := [.data, .data, .data], laidTests := true, laidLooks := .later }
def Rfc3339OrderUptoCardSaid : Prop := Claim7.holds Tryd.pinned (.plain (OpenSpec.upto rfc3339OrderSpec)) rfc3339OrderUptoCard

/-- THE SECOND FORM's CARD OF 'feedvaultlaw03.Rfc3339Offsets'. -/
def rfc3339OffsetsUptoCard : Claim7 := { stood := { row := rfc3339OffsetsUptoRow, standIns := [], harness := (true, "14cd3e16de3ad27b78c54340a1b6dff01b7523a7e65c7c23d1e53dec157ae199"), looks := true }, kinds := [], alts := [], laidByText := true, laidKinds := [.data, .data, .data], laidTests := true, laidLooks := .later }
def Rfc3339OffsetsUptoCardSaid : Prop := Claim7.holds Tryd.pinned (.plain (OpenSpec.upto rfc3339OffsetsSpec)) rfc3339OffsetsUptoCard

/-- THE SECOND FORM's CARD OF 'feedvaultlaw03.Rfc3339Strict'. -/
def rfc3339StrictUptoCard : Claim7 := { stood := { row := rfc3339StrictUptoRow, standIns := [], harness := (true, "14cd3e16de3ad27b78c54340a1b6dff01b7523a7e65c7c23d1e53dec157ae199"), looks := true }, kinds := [], alts := [], laidByText := true, laidKinds := [.data, .data, .data], laidTests := true, laidLooks := .later }
def Rfc3339StrictUptoCardSaid : Prop := Claim7.holds Tryd.pinned (.plain (OpenSpec.upto rfc3339StrictSpec)) rfc3339StrictUptoCard
end Rows
end Go.Proofs.YtikjehgbfkndjaaDoor
