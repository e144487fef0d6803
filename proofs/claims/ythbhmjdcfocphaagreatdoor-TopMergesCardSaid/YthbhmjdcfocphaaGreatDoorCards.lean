/-
  DERIVED. GIVEN WITH THE SEED: THE CARDS: each row of YthbhmjdcfocphaaGreatDoorRows.lean that lists a variable, with what it lists TIED to the program's text (the seventh form; the later family's looks); each row that meets fmt, with fmt's text TOLD by the authors' own Lean function (tested against real Go, not proved from fmt's source: count such statements apart). THE CARD IS WHAT COUNTS. Prove the row's statement (the work); the ties are given (YthbhmjdcfocphaaGreatDoorTie.lean); close each card by the builder's one call (the guide's Derived/Test/ToyasCard.lean, 'card_holds'). Laid BY PROGRAM, IN A SANDBOX (cutbox-door.mjs). By AI agents, Wed Nov 11 2026. No macro, syntax, notation, axiom, sorry.
-/
import Derived.Test.YthbhmjdcfocphaaGreatDoorRows
import GoSem.ClaimSeven
namespace Go.Proofs.YthbhmjdcfocphaaGreatDoor
namespace Rows

/-- THE TIED CARD OF 'feedvaulttop.TopMerges'. -/
def topMergesCard : Claim7 := { stood := { row := topMergesRow, standIns := [], harness := (true, "d635ef4b29ed4893eb9511cfc55e5a23a21edcebc06ca07d84118e10d9f8cd81"), looks := true }, kinds := [], alts := [], laidByText := true, laidKinds := [.data, .data, .data, .data, .sentinel, .sentinel, .listed, .data, .data, .data, .data, .pinned], laidTests := true, laidLooks := .later }
def TopMergesCardSaid : Prop := Claim7.holds Tryz.pinned (.plain (OpenSpec.ofChange topMergesSpec)) topMergesCard

/-- THE SECOND FORM's CARD OF 'feedvaulttop.TopMerges'. -/
def topMergesUptoCard : Claim7 := { stood := { row := topMergesUptoRow, standIns := [], harness := (true, "d635ef4b29ed4893eb9511cfc55e5a23a21edcebc06ca07d84118e10d9f8cd81"), looks := true }, kinds := [], alts := [], laidByText := true, laidKinds := [.data, .data, .data, .data, .sentinel, .sentinel, .listed, .data, .data, .data, .data, .pinned], laidTests := true, laidLooks := .later }
def TopMergesUptoCardSaid : Prop := Claim7.holds Tryz.pinned (.plain (OpenSpec.upto topMergesSpec)) topMergesUptoCard
end Rows
end Go.Proofs.YthbhmjdcfocphaaGreatDoor
