/- Maps from strings to bool, that hold which strings were seen. -/
import Derived.Test.YtbodoncomeegpaaGreatDoorMoW10
import Derived.Maps.OwnSet
namespace Go.Proofs.YtbodoncomeegpaaGreatDoor.Mw
open Go Go.RowKit Go.Maps Go.Proofs.YtbodoncomeegpaaGreatDoor Go.Proofs.YtbodoncomeegpaaGreatDoor.Rw
set_option linter.unusedVariables false

set_option maxRecDepth 100000
set_option maxHeartbeats 16000000
theorem klaw : Keyed Tryz.prog 9 := string_keyed Tryz.underlying9
theorem kkey (k : ByteArray) (hk : k.size ≤ 140737488355327) : keyOf Tryz.prog 9 (.string k) = some (.string k.data.toList) :=
  Go.WideMaps.keyOf_string_mk Tryz.underlying9 (by unfold maxLen; omega)
/-- Block b is a map that holds true at the strings of f. -/
def Seen (w : World) (b n : Nat) (f : List UInt8 → Bool) : Prop := ∃ D : DataW Unit, w.ownsMap Tryz.prog 9 (plainElem Tryz.prog 4) b n D ∧ ∀ s, D.atKey (.string s) (.lit (.bool false)) = .lit (.bool (f s))
theorem Seen.congr {w : World} {b n : Nat} {f g : List UInt8 → Bool} (h : Seen w b n f) (e : ∀ s, f s = g s) : Seen w b n g := by
  obtain ⟨D, h1, h2⟩ := h
  exact ⟨D, h1, fun s => by rw [← e s]; exact h2 s⟩
theorem Seen.lt {w : World} {b n : Nat} {f : List UInt8 → Bool} (h : Seen w b n f) : b < w.heap.size := by
  obtain ⟨D, h1, h2⟩ := h
  exact h1.lt
theorem Seen.of_block {w w' : World} {b n : Nat} {f : List UInt8 → Bool} (h : Seen w b n f) (hb : w'.heap[b]? = w.heap[b]?) : Seen w' b n f := by
  obtain ⟨D, ⟨es, clock, hh, r⟩, h2⟩ := h
  exact ⟨D, ⟨es, clock, by rw [hb]; exact hh, r⟩, h2⟩
theorem Seen.below {w w' : World} {b n : Nat} {f : List UInt8 → Bool} (h : Seen w b n f) (hb : Below w.heap.size w w') : Seen w' b n f := h.of_block (hb.block b h.lt)
theorem Seen.new (w : World) : Seen (w.alloc (.map #[] 0)) w.heap.size 0 (fun _ => false) :=
  ⟨.map [], World.ownsMap_made _ _ _ _, fun s => rfl⟩
theorem Seen.look {w : World} {b n : Nat} {f : List UInt8 → Bool} (h : Seen w b n f) (k : ByteArray) (hk : k.size ≤ 140737488355327) {v : Bool} (hv : f k.data.toList = v) : (Instr.lookup 152 (.map (some b)) (.string k) false).run Tryz.prog w = .ok (.bool v) w := by
  obtain ⟨D, h1, h2⟩ := h
  obtain ⟨x, ps, hrun, hx⟩ := h1.lookup (t := 152) klaw Tryz.underlying152 (z := .bool false) (by kernel_rfl) (plainElem_bool Tryz.underlying4 false) (kkey k hk)
  rw [h2, hv] at hx
  unfold plainElem at hx
  rw [Tryz.underlying4] at hx
  cases x <;> simp at hx
  obtain ⟨rfl, -⟩ := hx
  exact hrun
theorem Seen.put {w : World} {b n : Nat} {f : List UInt8 → Bool} (h : Seen w b n f) (k : ByteArray) (hk : k.size ≤ 140737488355327) (hn : n < maxLen) :
    ∃ w', (Instr.mapUpdate 152 (.map (some b)) (.string k) (.bool true)).run Tryz.prog w = .ok () w' ∧ Seen w' b (n + 1) (fun s => s == k.data.toList || f s) ∧ w.grownBy w' (some b) := by
  obtain ⟨D, h1, h2⟩ := h
  obtain ⟨w', h3, h4, h5⟩ := h1.update (t := 152) klaw Tryz.underlying152 hn (kkey k hk) (plainElem_bool Tryz.underlying4 true)
  refine ⟨w', h3, ⟨_, h4, fun s => ?_⟩, h5⟩
  by_cases e : s = k.data.toList
  · subst e
    rw [atKey_put_same h1.isMap (show WideAt.IsKeyLit (.string k.data.toList) from trivial)]
    simp
  · rw [atKey_put_other (by simpa using e), h2]
    simp [e]
/-- A map that was laid behind W turns: W's blocks do not. -/
theorem below_grown {W u v : World} {b : Nat} (h : Below W.heap.size W u) (hb : W.heap.size ≤ b) (k : u.grownBy v (some b)) : Below W.heap.size W v :=
  ⟨k.os.trans h.os, k.tape.trans h.tape, k.output.trans h.output, Nat.le_trans h.size k.size, fun i hi => (k.block i (Nat.lt_of_lt_of_le hi h.size) (fun e => by cases e; omega)).trans (h.block i hi)⟩
/-! ### what a valid row gives -/
section
variable {α : Type} {chk : α → Bool} {cmp : α → α → Int} {id : α → ByteArray} {l : List α}
theorem ordB_at (h : Mo.ordB chk cmp id l = true) {k : Nat} (hk : k < l.length) : chk l[k] = true ∧ (∀ (h0 : 0 < k) (h1 : k - 1 < l.length), cmp l[k - 1] l[k] < 0) ∧ ((l.take k).any fun y => (id y).data.toList == (id l[k]).data.toList) = false := by
  have h1 : Mo.stepB chk cmp id l k = true := by
    cases e : Mo.stepB chk cmp id l k with
    | true => rfl
    | false => rw [Mo.ordB_false _ _ _ hk e] at h; cases h
  unfold Mo.stepB at h1
  rw [List.getElem?_eq_getElem hk] at h1
  simp only [Bool.and_eq_true, Bool.not_eq_true'] at h1
  obtain ⟨⟨h2, h3⟩, h4⟩ := h1
  refine ⟨h2, fun h0 h5 => ?_, ?_⟩
  · rw [if_neg (by omega), List.getElem?_eq_getElem h5] at h3
    exact of_decide_eq_true h3
  · simpa only [ByteArray.toList_eq] using h4
theorem any_take (p : List UInt8 → α → Bool) {k : Nat} (hk : k < l.length) (s : List UInt8) : ((l.take (k + 1)).any (p s)) = (p s l[k] || (l.take k).any (p s)) := by
  rw [List.take_add_one, List.getElem?_eq_getElem hk, List.any_append]
  simp [Bool.or_comm]
end
end Go.Proofs.YtbodoncomeegpaaGreatDoor.Mw
