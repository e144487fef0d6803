/- Plain facts on listed variables: a table of pairs that reads as listed holds just these cells. -/
import Derived.Lib.LaidU8
import Derived.Lib.LaidTab
namespace Go.Proofs.YtjaojenalodolaaGreatDoor.Ld
open Go
theorem pairs_ext {l m : List Value} {n : Nat} (hl : l.length = 2 * n) (hm : m.length = 2 * n) (h : ∀ i, i < n → (l.drop (2 * i)).take 2 = (m.drop (2 * i)).take 2) : l = m := by
  apply List.ext_getElem?
  intro j
  by_cases hj : j < 2 * n
  · have e := congrArg (·[j % 2]?) (h (j / 2) (by omega))
    simp only [List.getElem?_take, List.getElem?_drop, if_pos (show j % 2 < 2 by omega), show 2 * (j / 2) + j % 2 = j by omega] at e
    exact e
  · rw [List.getElem?_eq_none (by omega), List.getElem?_eq_none (by omega)]
theorem cells_of_pairs {H : Type} {enc : TypeId × Value → H} {P : Program} {w : World} {base : Nat} {sp : Nat → Bool} {held : Bool} {fuel : Nat} {t e i : TypeId} {n : Nat} {k : IntKind} {cs : List Value} {zs : List Int} {ds : List (DataW H)} {p : List MemPlace}
    (ht : P.underlying t = some (.array n e)) (he : P.underlying e = some (.array 2 i)) (hi : P.underlying i = some (.int k)) (hce : P.cellsOf e = 2) (hci : P.cellsOf i = 1) (hct : P.cellsOf t = 2 * n)
    (hz : zs.length = 2 * n) (hds : ∀ j, j < n → ds[j]? = some (Lib.tabData k [zs.getD (2 * j) 0, zs.getD (2 * j + 1) 0]))
    (h : DataW.trod enc P w base sp held fuel t cs = some (.agg ds, p)) : cs = zs.map fun z => Value.int k z := by
  have hlen : cs.length = 2 * n := by
    have h0 := h
    cases fuel with
    | zero => simp [DataW.trod] at h0
    | succ f =>
      simp only [DataW.trod, ht] at h0
      split at h0
      · rename_i hl
        rw [← hct]; exact hl
      · cases h0
  refine pairs_ext hlen (by simpa using hz) fun j hj => ?_
  obtain ⟨f', d, q, hd, htr⟩ := Lib.array_elem ht h j hj
  rw [hds j hj] at hd
  cases hd
  rw [hce] at htr
  have := Lib.cells_of_tab he hi hci hce htr
  rw [Nat.mul_comm] at this
  rw [this]
  have h1 : 2 * j < zs.length := by omega
  have h2 : 2 * j + 1 < zs.length := by omega
  rw [← List.map_drop, ← List.map_take, List.drop_eq_getElem_cons h1, List.take_succ_cons, List.drop_eq_getElem_cons h2, List.take_succ_cons, List.take_zero]
  simp [List.getD_eq_getElem?_getD, List.getElem?_eq_getElem h1, List.getElem?_eq_getElem h2]
theorem block_of_var {P : Program} {w : World} {n : String} {g : Nat} {cs : Array Value} (hg : P.globalNamed n = some g) (h : w.var? P n = some cs) : ∃ t fr, w.heap[g]? = some (.cells cs t fr) := by
  simp only [World.var?, hg, Option.bind_some] at h
  split at h
  · rename_i c t fr hb
    cases h
    exact ⟨t, fr, hb⟩
  · cases h
end Go.Proofs.YtjaojenalodolaaGreatDoor.Ld
