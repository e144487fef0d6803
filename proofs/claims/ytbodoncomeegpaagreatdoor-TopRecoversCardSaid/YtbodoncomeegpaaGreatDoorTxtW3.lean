import Derived.Test.YtbodoncomeegpaaGreatDoorTxtW2
import Derived.OwnWalk
import Derived.KernelRfl
namespace Go.Proofs.YtbodoncomeegpaaGreatDoor.Tx
open Go Go.RowKit Go.Proofs.YtbodoncomeegpaaGreatDoor

/-! ### the tables -/
def startArr : Array Value := (Txt.startTab.map fun z => Value.int .i32 z).toArray
def moreArr : Array Value := (Txt.moreTab.map fun z => Value.int .i32 z).toArray
def sLo (i : Nat) : Int := Txt.startTab.getD (2 * i) 0
def sHi (i : Nat) : Int := Txt.startTab.getD (2 * i + 1) 0
def mLo (i : Nat) : Int := Txt.moreTab.getD (2 * i) 0
def mHi (i : Nat) : Int := Txt.moreTab.getD (2 * i + 1) 0
theorem new_block (w : World) (o : Obj) : (w.alloc o).heap[w.heap.size]? = some o := by
  show (w.heap.push o)[w.heap.size]? = _
  rw [Array.getElem?_push, if_pos rfl]
theorem heap_below {w w' : World} {g : Nat} {o : Obj} (hb : Below w.heap.size w w') (h : w.heap[g]? = some o) : w'.heap[g]? = some o := by
  rw [hb.block g (lt_of_block h)]; exact h
theorem lt_of_cell {w : World} {a : Addr} {v : Value} (h : w.cell? a = some v) : a.block < w.heap.size := by
  unfold World.cell? at h
  cases e : w.heap[a.block]? with
  | none => rw [e] at h; simp at h
  | some o => exact lt_of_block e
theorem u8_below {w w' : World} {g3 g4 : Nat} (h : Lib.Utf8Tabs g3 g4 w) (hb : Below w.heap.size w w') : Lib.Utf8Tabs g3 g4 w' := by
  refine ⟨fun c hc => ?_, fun i hi => ⟨?_, ?_⟩⟩
  · have := h.1 c hc; rw [hb.cell (lt_of_cell this)]; exact this
  · have := (h.2 i hi).1; rw [hb.cell (lt_of_cell this)]; exact this
  · have := (h.2 i hi).2; rw [hb.cell (lt_of_cell this)]; exact this
theorem below_trans {a b c : World} (h : Below a.heap.size a b) (k : Below b.heap.size b c) : Below a.heap.size a c := h.trans (k.mono h.size)

theorem start_in (r : Int) (i : Nat) (h : i < 15) (h1 : sLo i ≤ r) (h2 : r ≤ sHi i) : Txt.startB r = true := by
  have e : i = 0 ∨ i = 1 ∨ i = 2 ∨ i = 3 ∨ i = 4 ∨ i = 5 ∨ i = 6 ∨ i = 7 ∨ i = 8 ∨ i = 9 ∨ i = 10 ∨ i = 11 ∨ i = 12 ∨ i = 13 ∨ i = 14 := by omega
  rcases e with rfl | rfl | rfl | rfl | rfl | rfl | rfl | rfl | rfl | rfl | rfl | rfl | rfl | rfl | rfl
  all_goals
    simp [sLo, sHi, Txt.startTab] at h1 h2
    exact startB_t (by omega)
theorem start_out (r : Int) (h : ∀ i, i < 15 → r < sLo i ∨ sHi i < r) : Txt.startB r = false := by
  have h0 := h 0 (by omega)
  have h1 := h 1 (by omega)
  have h2 := h 2 (by omega)
  have h3 := h 3 (by omega)
  have h4 := h 4 (by omega)
  have h5 := h 5 (by omega)
  have h6 := h 6 (by omega)
  have h7 := h 7 (by omega)
  have h8 := h 8 (by omega)
  have h9 := h 9 (by omega)
  have h10 := h 10 (by omega)
  have h11 := h 11 (by omega)
  have h12 := h 12 (by omega)
  have h13 := h 13 (by omega)
  have h14 := h 14 (by omega)
  clear h
  simp [sLo, sHi, Txt.startTab] at h0 h1 h2 h3 h4 h5 h6 h7 h8 h9 h10 h11 h12 h13 h14
  exact startB_f (by omega)
theorem more_in (r : Int) (i : Nat) (h : i < 5) (h1 : mLo i ≤ r) (h2 : r ≤ mHi i) : Txt.moreB r = true := by
  have e : i = 0 ∨ i = 1 ∨ i = 2 ∨ i = 3 ∨ i = 4 := by omega
  rcases e with rfl | rfl | rfl | rfl | rfl
  all_goals
    simp [mLo, mHi, Txt.moreTab] at h1 h2
    exact moreB_t (by omega)
theorem more_out (r : Int) (h : ∀ i, i < 5 → r < mLo i ∨ mHi i < r) : Txt.moreB r = false := by
  have h0 := h 0 (by omega)
  have h1 := h 1 (by omega)
  have h2 := h 2 (by omega)
  have h3 := h 3 (by omega)
  have h4 := h 4 (by omega)
  clear h
  simp [mLo, mHi, Txt.moreTab] at h0 h1 h2 h3 h4
  exact moreB_f (by omega)

def NoS (r : Int) (k : Nat) : Prop := ∀ i, i < k → r < sLo i ∨ sHi i < r
def NoM (r : Int) (k : Nat) : Prop := ∀ i, i < k → r < mLo i ∨ mHi i < r

end Go.Proofs.YtbodoncomeegpaaGreatDoor.Tx
