/-
  DERIVED. GIVEN WITH THE SEED: THE CARDS: each row of YtbodoncomeegpaaGreatDoorRows.lean that lists a variable, with what it lists TIED to the program's text (the seventh form; the later family's looks); each row that meets fmt, with fmt's text TOLD by the authors' own Lean function (tested against real Go, not proved from fmt's source: count such statements apart). THE CARD IS WHAT COUNTS. Prove the row's statement (the work); the ties are given (YtbodoncomeegpaaGreatDoorTie.lean); close each card by the builder's one call (the guide's Derived/Test/ToyasCard.lean, 'card_holds'). Laid BY PROGRAM, IN A SANDBOX (cutbox-door.mjs). By AI agents, Wed Nov 11 2026. No macro, syntax, notation, axiom, sorry.
-/
import Derived.Test.YtbodoncomeegpaaGreatDoorRows
import GoSem.ClaimSeven
namespace Go.Proofs.YtbodoncomeegpaaGreatDoor
namespace Rows

/-- THE TIED CARD OF 'feedvaulttop.TopRecovers'. -/
def topRecoversCard : Claim7 := { stood := { row := topRecoversRow, standIns := [], harness := (true, "da72cc6e010dfad2ec750d5b7e6cbd688e05d59d114246ccaeebb68405593291"), looks := true }, kinds := [], alts := [], laidByText := true, laidKinds := [.data, .data, .data, .data, .listed, .data, .data, .pinned], laidTests := true, laidLooks := .later }
def TopRecoversCardSaid : Prop := Claim7.holds Tryz.pinned (.plain (OpenSpec.ofChange topRecoversSpec)) topRecoversCard

/-- THE SECOND FORM's CARD OF 'feedvaulttop.TopRecovers'. -/
def topRecoversUptoCard : Claim7 := { stood := { row := topRecoversUptoRow, standIns := [], harness := (true, "da72cc6e010dfad2ec750d5b7e6cbd688e05d59d114246ccaeebb68405593291"), looks := true }, kinds := [], alts := [], laidByText := true, laidKinds := [.data, .data, .data, .data, .listed, .data, .data, .pinned], laidTests := true, laidLooks := .later }
def TopRecoversUptoCardSaid : Prop := Claim7.holds Tryz.pinned (.plain (OpenSpec.upto topRecoversSpec)) topRecoversUptoCard
end Rows
end Go.Proofs.YtbodoncomeegpaaGreatDoor
