import Derived.Test.YtbodoncomeegpaaGreatDoorTxtW6
import Derived.Lib.OthersKept
namespace Go.Proofs.YtbodoncomeegpaaGreatDoor.Tx
open Go Go.RowKit Go.Proofs.YtbodoncomeegpaaGreatDoor

theorem iter_below {w w' : World} {k : Nat} {s : ByteArray} {pos : Nat} (hb : Below w.heap.size w w') (h : w.heap[k]? = some (.stringIter s pos)) : w'.heap[k]? = some (.stringIter s pos) := by
  rw [hb.block k ((Array.getElem?_eq_some_iff.1 h).1)]; exact h
end Go.Proofs.YtbodoncomeegpaaGreatDoor.Tx
