/- How the laws' arguments are opened. -/
import Derived.Test.YtjaojenalodolaaGreatDoorKV
import Derived.WalkKit
import Derived.ProofKit
import Derived.OpenShut
import Derived.ShutString
import Derived.ChangeOld
import Derived.Below
import Derived.SizedLaws
import Derived.ChangeSlices
import Derived.Deep.Grids
import Derived.Laws.IdiomArrays
import Derived.Lib.SmallJoins
namespace Go.Proofs.YtjaojenalodolaaGreatDoor.VfO
open Go Go.ChangeShapes Go.WideShapes Go.ChangeAt Go.RowKit Go.Proofs.YtjaojenalodolaaGreatDoor Go.Proofs.YtjaojenalodolaaGreatDoor.Vf Go.Proofs.YtjaojenalodolaaGreatDoor.Bs
set_option linter.unusedVariables false
theorem slice_at {P : Program} {w : World} {r : Reach} {base : Nat} {t e : TypeId} {v : Value} (ht : P.underlying t = some (.slice e)) (h : Value.okWide P w r base t v) : v = .slice none 0 0 ∨ ∃ g off len cap, v = .slice (some ⟨g, off, none⟩) len cap ∧ g < w.heap.size := by
  simp only [Value.okWide, ht, Cell.okWide] at h
  cases v with
  | slice a len cap =>
    cases a with
    | none =>
      left
      simp only [Cell.ok, ht] at h
      split at h <;> simp_all
    | some a =>
      right
      simp only [Cell.ok, ht] at h
      obtain ⟨-, -, -, h2, row, cells, h3, -⟩ := h
      obtain ⟨g, off, spot⟩ := a
      simp only at h2
      subst h2
      refine ⟨g, off, len, cap, rfl, ?_⟩
      unfold World.shape? at h3
      cases hb : w.heap[g]? with
      | none => simp [hb] at h3
      | some o => exact lt_of_heap hb
  | _ => simp_all [Cell.ok]
section
variable {H : Type} {enc : TypeId × Value → H} {W : World}
set_option maxRecDepth 100000 in
theorem bools_at {v : Value} {d : DataW H} {p : List MemPlace} {base : Nat} (hv : Value.okWide Tryz.prog W .any base 25 v) (h : DataW.Trod enc Tryz.prog W 0 (fun _ => true) true 25 v d p) {ts : List TypeId} {ds : List (DataW H)} {j : Nat} (hj : ts[j]? = some 25) (hd : ds[j]? = some d) (hsz : (DataW.weightsEach Tryz.prog ts ds).all (· ≤ reachBytes) = true) :
    ∃ ch, Bl W v ch ∧ ch.length ≤ 140737488355328 ∧ ∀ g, v.ownBlock = some g → g < W.heap.size := by
  obtain ⟨fuel, hf⟩ := h
  rcases slice_at Tryz.underlying25 hv with rfl | ⟨g, off, len, cap, rfl, hg⟩
  · exact ⟨[], Bl.emp W, by simp, fun g hg => by simp [Value.ownBlock] at hg⟩
  · rcases Go.Deep.open_bools Tryz.underlying25 Tryz.underlying4 (show Tryz.prog.cellsOf 4 = 1 by kernel_rfl) (show DataW.trod enc Tryz.prog W 0 (fun _ => true) true fuel 25 [.slice (some ⟨g, off, none⟩) len cap] = some (d, p) from by simpa [Value.cells] using hf) with ⟨hcs, _⟩ | ⟨a, len', cap', Bf, hcs, _, hl, hm, hx, hcell⟩
    · simp at hcs
    · simp only [List.cons.injEq, Value.slice.injEq, Option.some.injEq, and_true] at hcs
      obtain ⟨rfl, rfl, rfl⟩ := hcs
      simp only [Prod.mk.injEq] at hx
      obtain ⟨rfl, -⟩ := hx
      have hs := sized_slice hsz hj hd Tryz.underlying25
      have hby : Tryz.prog.bytesOf 4 = 1 := by kernel_rfl
      have h2 : reachBytes = 140737488351232 := by kernel_rfl
      refine ⟨(List.range len).map Bf, ⟨g, off, _, cap, by simp, fun _ => rfl, fun j hj => ?_⟩, ?_, fun g' hg' => by have e : g = g' := (by simpa [Value.ownBlock] using hg'); omega⟩
      · have hj2 : j < len := by simpa using hj
        have := hcell j (by omega)
        rw [show (⟨g, off, none⟩ : Addr).add j = ⟨g, off + j, none⟩ by simp [Addr.add]] at this
        simpa using this
      · rw [hby, Nat.mul_one, List.length_map, List.length_range] at hs
        simp only [List.length_map, List.length_range] at hs ⊢
        omega
set_option maxRecDepth 100000 in
theorem ints_at {v : Value} {d : DataW H} {p : List MemPlace} {base : Nat} (hv : Value.okWide Tryz.prog W .any base 26 v) (h : DataW.Trod enc Tryz.prog W 0 (fun _ => true) true 26 v d p) {ts : List TypeId} {ds : List (DataW H)} {j : Nat} (hj : ts[j]? = some 26) (hd : ds[j]? = some d) (hsz : (DataW.weightsEach Tryz.prog ts ds).all (· ≤ reachBytes) = true) :
    ∃ ls, Il W v ls ∧ ls.length ≤ 140737488355328 ∧ ∀ g, v.ownBlock = some g → g < W.heap.size := by
  obtain ⟨fuel, hf⟩ := h
  rcases slice_at Tryz.underlying26 hv with rfl | ⟨g, off, len, cap, rfl, hg⟩
  · exact ⟨[], Il.emp W, by simp, fun g hg => by simp [Value.ownBlock] at hg⟩
  · rcases Go.ChangeShapes.open_ints (k := .i64) Tryz.underlying26 Tryz.underlying3 (show Tryz.prog.cellsOf 3 = 1 by kernel_rfl) (show DataW.trod enc Tryz.prog W 0 (fun _ => true) true fuel 26 [.slice (some ⟨g, off, none⟩) len cap] = some (d, p) from by simpa [Value.cells] using hf) with ⟨hcs, _⟩ | ⟨a, len', cap', zs, hcs, _, hl, hm, hz, hx, hcell, hwz⟩
    · simp at hcs
    · simp only [List.cons.injEq, Value.slice.injEq, Option.some.injEq, and_true] at hcs
      obtain ⟨rfl, rfl, rfl⟩ := hcs
      simp only [Prod.mk.injEq] at hx
      obtain ⟨rfl, -⟩ := hx
      simp only [if_true] at hz
      have hs := sized_slice hsz hj hd Tryz.underlying26
      have hby : Tryz.prog.bytesOf 3 = 8 := by kernel_rfl
      have h2 : reachBytes = 140737488351232 := by kernel_rfl
      have hlen : (zs.take len).length = len := by rw [List.length_take]; omega
      refine ⟨zs.take len, ⟨g, off, _, cap, by rw [hlen], by rw [hlen]; exact hl, fun _ => rfl, fun j hj => ?_⟩, ?_, fun g' hg' => by have e : g = g' := (by simpa [Value.ownBlock] using hg'); omega⟩
      · have hj2 : j < len := by omega
        have := hcell j (by omega)
        rw [show (⟨g, off, none⟩ : Addr).add j = ⟨g, off + j, none⟩ by simp [Addr.add]] at this
        rw [List.getElem_take]
        rw [List.getD_eq_getElem?_getD, List.getElem?_eq_getElem (by omega)] at this
        simpa using this
      · rw [hlen]
        rw [hby] at hs
        simp [lits] at hs
        omega
end
end Go.Proofs.YtjaojenalodolaaGreatDoor.VfO
