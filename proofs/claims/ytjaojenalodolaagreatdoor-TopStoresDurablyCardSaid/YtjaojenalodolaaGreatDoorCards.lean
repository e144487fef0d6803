/-
  DERIVED. GIVEN WITH THE SEED: THE CARDS: each row of YtjaojenalodolaaGreatDoorRows.lean that lists a variable, with what it lists TIED to the program's text (the seventh form; the later family's looks); each row that meets fmt, with fmt's text TOLD by the authors' own Lean function (tested against real Go, not proved from fmt's source: count such statements apart). THE CARD IS WHAT COUNTS. Prove the row's statement (the work); the ties are given (YtjaojenalodolaaGreatDoorTie.lean); close each card by the builder's one call (the guide's Derived/Test/ToyasCard.lean, 'card_holds'). Laid BY PROGRAM, IN A SANDBOX (cutbox-door.mjs). By AI agents, Wed Nov 11 2026. No macro, syntax, notation, axiom, sorry.
-/
import Derived.Test.YtjaojenalodolaaGreatDoorRows
import GoSem.ClaimSeven
namespace Go.Proofs.YtjaojenalodolaaGreatDoor
namespace Rows

/-- THE TIED CARD OF 'feedvaulttop.TopStoresDurably'. -/
def topStoresDurablyCard : Claim7 := { stood := { row := topStoresDurablyRow, standIns := [], harness := (true, "27a62c8aa73181613b91213423a2d2e89ae4ebda82060f58ae4807da76343a8d"), looks := true }, kinds := [], alts := [], laidByText := true, laidKinds := [.data, .data, .data, .data, .sentinel, .sentinel, .listed, .data, .data, .pinned], laidTests := true, laidLooks := .later }
def TopStoresDurablyCardSaid : Prop := Claim7.holds Tryz.pinned (.plain (OpenSpec.ofChange topStoresDurablySpec)) topStoresDurablyCard

/-- THE SECOND FORM's CARD OF 'feedvaulttop.TopStoresDurably'. -/
def topStoresDurablyUptoCard : Claim7 := { stood := { row := topStoresDurablyUptoRow, standIns := [], harness := (true, "27a62c8aa73181613b91213423a2d2e89ae4ebda82060f58ae4807da76343a8d"), looks := true }, kinds := [], alts := [], laidByText := true, laidKinds := [.data, .data, .data, .data, .sentinel, .sentinel, .listed, .data, .data, .pinned], laidTests := true, laidLooks := .later }
def TopStoresDurablyUptoCardSaid : Prop := Claim7.holds Tryz.pinned (.plain (OpenSpec.upto topStoresDurablySpec)) topStoresDurablyUptoCard
end Rows
end Go.Proofs.YtjaojenalodolaaGreatDoor
