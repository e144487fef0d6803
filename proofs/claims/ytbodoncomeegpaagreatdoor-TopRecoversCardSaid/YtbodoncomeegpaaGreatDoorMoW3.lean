/- The reference's checks of entries and feeds (feedvaultref13), walked. -/
import Derived.Test.YtbodoncomeegpaaGreatDoorMoW2
import Derived.Test.YtbodoncomeegpaaGreatDoorTxtW9
import Derived.Deep.RegionHeld3
namespace Go.Proofs.YtbodoncomeegpaaGreatDoor.Mw
open Go Go.RowKit Go.Proofs.YtbodoncomeegpaaGreatDoor Go.Proofs.YtbodoncomeegpaaGreatDoor.Rw
set_option linter.unusedVariables false

set_option maxRecDepth 100000
set_option maxHeartbeats 8000000
theorem rok_is (s : ByteArray) (w : World) (hs : s.size ≤ 140737488355327) :
    Calls Tryz.prog 34 #[.string s] w fun e w' => e = .returned (.bool (Mo.okS s)) ∧ Below w.heap.size w w' := Tx.rvalid_any s w hs
def e22 (b : Bool) : Int := if b = true then 0 else 22
theorem cells5 {w : World} {x0 x1 x2 x3 x4 : Value} {t : TypeId} : (w.alloc (.cells #[x0, x1, x2, x3, x4] t)).cell? ⟨w.heap.size, 0, none⟩ = some x0 ∧ (w.alloc (.cells #[x0, x1, x2, x3, x4] t)).cell? ⟨w.heap.size, 1, none⟩ = some x1 ∧ (w.alloc (.cells #[x0, x1, x2, x3, x4] t)).cell? ⟨w.heap.size, 2, none⟩ = some x2 ∧ (w.alloc (.cells #[x0, x1, x2, x3, x4] t)).cell? ⟨w.heap.size, 3, none⟩ = some x3 ∧ (w.alloc (.cells #[x0, x1, x2, x3, x4] t)).cell? ⟨w.heap.size, 4, none⟩ = some x4 := by
  unfold World.cell?
  simp only [heap_alloc_new]
  exact ⟨rfl, rfl, rfl, rfl, rfl⟩
theorem rcmpE_is (a b : Mo.En) (w : World) :
    Calls Tryz.prog 37 #[.agg (eCells a).toArray, .agg (eCells b).toArray] w fun e w' => e = .returned (.int .i64 (Mo.cmpE a b)) ∧ Below w.heap.size w w' := by
  obtain ⟨aid, at', al, ac, au⟩ := a
  obtain ⟨bid, bt, bl, bc, bu⟩ := b
  obtain ⟨x0, -, -, -, x4⟩ := cells5 (w := w) (x0 := .string aid) (x1 := .string at') (x2 := .string al) (x3 := .string ac) (x4 := .int .i64 au) (t := 47)
  have HB0 := Lib.hid ((Below.refl w.heap.size w).alloc (Nat.le_refl _) (.cells #[.string aid, .string at', .string al, .string ac, .int .i64 au] 47))
  have hc : Mo.cmpE ⟨aid, at', al, ac, au⟩ ⟨bid, bt, bl, bc, bu⟩ = if bu < au then -1 else if au < bu then 1 else Mo.cmpS aid bid := rfl
  rw [hc]
  clear hc
  show Calls Tryz.prog 37 #[.agg #[.string aid, .string at', .string al, .string ac, .int .i64 au], .agg #[.string bid, .string bt, .string bl, .string bc, .int .i64 bu]] w _
  have HX := Lib.hid (And.intro x0 x4)
  clear x0 x4
  generalize hw1 : (w.alloc (.cells #[.string aid, .string at', .string al, .string ac, .int .i64 au] 47)) = w1 at HB0 HX
  obtain ⟨y0, -, -, -, y4⟩ := cells5 (w := w1) (x0 := .string bid) (x1 := .string bt) (x2 := .string bl) (x3 := .string bc) (x4 := .int .i64 bu) (t := 47)
  have hb1 := (Below.refl w1.heap.size w1).alloc (Nat.le_refl _) (.cells #[.string bid, .string bt, .string bl, .string bc, .int .i64 bu] 47)
  have HB1 := Lib.hid (below_seq HB0.out hb1)
  have x0 := cell_under HX.out.1 hb1
  have x4 := cell_under HX.out.2 hb1
  have hsz : w1.heap.size = w.heap.size + 1 := by rw [← hw1]; show (w.heap.push _).size = _; simp
  rw [hsz] at y0 y4
  rw [← hw1] at x0 x4 y0 y4 HB1
  clear hw1 hb1 hsz HX HB0
  by_cases c1 : bu < au
  · rw [if_pos c1]
    go_enter Tryz.func37, Tryz.ntmps37
    go_wp2_with fail
    go_ret
    exact ⟨rfl, HB1.out⟩
  rw [if_neg c1]
  by_cases c2 : au < bu
  · rw [if_pos c2]
    go_enter Tryz.func37, Tryz.ntmps37
    go_wp2_with fail
    go_ret
    exact ⟨rfl, HB1.out⟩
  rw [if_neg c2]
  go_enter Tryz.func37, Tryz.ntmps37
  go_wp2_with fail
  refine (rcompare_is aid bid _).mono ?_
  rintro e w' ⟨rfl, rfl⟩
  go_wp2_with fail
  go_ret
  exact ⟨rfl, HB1.out⟩
end Go.Proofs.YtbodoncomeegpaaGreatDoor.Mw
