/- Walks of the file system: slices.Clone of bytes, the state, record. -/
import Derived.Test.YtcobjjaicckgpaaVfW1
import Derived.Laws.AppendOwn
namespace Go.Proofs.Ytcobjjaicckgpaa.Vf
open Go Go.RowKit Go.Maps Go.Proofs.Ytcobjjaicckgpaa Go.Proofs.Ytcobjjaicckgpaa.Bs
set_option linter.unusedVariables false

/-- The value reads as these bytes: nil, or a row of bytes at offset 0. -/
def Rd (w : World) (v : Value) (l : List UInt8) : Prop :=
  (v = .slice none 0 0 ∧ l = []) ∨ ∃ (g cap : Nat) (cur : Array Value) (fr : Nat × Nat), v = .slice (some ⟨g, 0, none⟩) l.length cap ∧ w.heap[g]? = some (Obj.cells cur 5 fr) ∧ l.length ≤ cap ∧ cur.toList.take l.length = Lib.byteCells l
theorem Rd.kept {w w' : World} {v : Value} {l : List UInt8} (h : Rd w v l) (hk : ∀ (g : Nat) (cur : Array Value) (fr : Nat × Nat), w.heap[g]? = some (Obj.cells cur 5 fr) → w'.heap[g]? = w.heap[g]?) : Rd w' v l := by
  rcases h with h | ⟨g, cap, cur, fr, h1, h2, h3, h4⟩
  · exact .inl h
  · exact .inr ⟨g, cap, cur, fr, h1, by rw [hk g cur fr h2]; exact h2, h3, h4⟩
theorem infoU : (Try.prog.info? 5).map (fun i => (i.zero, i.size, i.bytes)) = some (some (.int .u8 0), 1, 1) := by kernel_rfl
theorem info_parts {t : TypeId} {z : Value} {s b : Nat} (h : (Try.prog.info? t).map (fun i => (i.zero, i.size, i.bytes)) = some (some z, s, b)) : ∃ i, Try.prog.info? t = some i ∧ i.zero = some z ∧ i.size = s ∧ i.bytes = b := by
  cases e : Try.prog.info? t with
  | none => rw [e] at h; cases h
  | some i =>
    rw [e] at h
    simp only [Option.map_some, Option.some.injEq, Prod.mk.injEq] at h
    exact ⟨i, rfl, h.1, h.2.1, h.2.2⟩
theorem own_none (w : World) (t : TypeId) (n : Nat) (hn : 0 < n) : (w.alloc (.cells #[] t)).ownsRow w.heap.size t n (.slice (some ⟨w.heap.size, 0, none⟩) 0 0) 0 [] :=
  ⟨by simp, .inr ⟨w.heap.size, 0, _, rfl, Nat.le_refl _, new_block w _, Nat.le_refl _, by unfold maxLen; omega, by simp, by simp⟩⟩
theorem Rd.of_own {w : World} {base : Nat} {v : Value} {l : List UInt8} (h : w.ownsRow base 5 1 v l.length (Lib.byteCells l)) : Rd w v l := by
  rcases h.2 with ⟨rfl, h0⟩ | ⟨g, cap, cur, rfl, _, hg, hc, _, _, htk⟩
  · exact .inl ⟨rfl, List.eq_nil_of_length_eq_zero h0⟩
  · exact .inr ⟨g, cap, cur, _, rfl, hg, hc, by simpa using htk⟩
theorem Rd.cells {w : World} {g : Nat} {l : List UInt8} {cur : Array Value} {fr : Nat × Nat} (h : w.heap[g]? = some (.cells cur 5 fr)) (ht : cur.toList.take l.length = Lib.byteCells l) (j : Nat) (u : Value) (hu : (Lib.byteCells l)[j]? = some u) : w.cell? ((⟨g, 0, none⟩ : Addr).add j) = some u := by
  have e : ((⟨g, 0, none⟩ : Addr).add j) = ⟨g, j, none⟩ := by simp [Addr.add]; omega
  rw [e]
  unfold World.cell?
  simp only [h]
  have hj : j < l.length := by
    rcases Nat.lt_or_ge j l.length with h1 | h1
    · exact h1
    · rw [List.getElem?_eq_none (by simpa [Lib.byteCells] using h1)] at hu; cases hu
  rw [← ht, List.getElem?_take, if_pos hj] at hu
  simpa using hu
set_option maxRecDepth 100000 in
set_option maxHeartbeats 4000000 in
theorem clone_is (v : Value) (l : List UInt8) (W : World) (hl : l.length ≤ 1000000) (hv : Rd W v l) :
    Calls Try.prog 41 #[v] W fun e w' => ∃ v', e = .returned v' ∧ Rd w' v' l ∧ (∀ g, v'.ownBlock = some g → W.heap.size ≤ g) ∧ Below W.heap.size W w' := by
  have hnil : ∀ (w : World) (a : Option Addr) (n c : Nat), (binOp .eql 30 (.slice a n c) (.slice none 0 0)).run Try.prog w = .ok (.bool a.isNone) w := fun w a n c => Lib.run_eql_slice_nil w _ _ a n c 0 0 Try.underlying30
  rcases hv with ⟨rfl, rfl⟩ | ⟨g, cap, cur, fr, rfl, hg, hc, ht⟩
  · go_enter Try.func41, Try.ntmps41
    go_wp2_with fail
    go_ret
    exact ⟨_, rfl, .inl ⟨rfl, rfl⟩, fun g hg => by simp [Value.ownBlock] at hg, Below.refl _ _⟩
  · obtain ⟨i0, hi, hz0, hz1, hz2⟩ := info_parts infoU
    have hg' : (W.alloc (.cells #[] 5)).heap[g]? = some (.cells cur 5 fr) := by rw [old_block _ _ _ (lt_of_heap hg)]; exact hg
    have ho := own_none W 5 1 (by decide)
    have HB0 := Lib.hid ((Below.refl W.heap.size W).alloc (Nat.le_refl _) (.cells #[] 5))
    have hsz : W.heap.size ≤ (W.alloc (.cells #[] 5)).heap.size := HB0.out.size
    go_enter Try.func41, Try.ntmps41
    go_wp2_with (at_builtin; refine wpList_append_own _ rfl _ _ 30 rfl W.heap.size 5 i0 (.int .u8 0) 1 1 Try.underlying30 hi hz0 hz1 hz2 rfl (by decide) _ _ _ rfl ho ⟨g, 0, none⟩ l.length cap (Lib.byteCells l) rfl (by simp [Lib.byteCells]) (Rd.cells hg' ht) ?a2 ?a3 ?a4 ?a5 ?_)
    case a2 => intro u hu; simp only [Lib.byteCells, List.mem_map] at hu; obtain ⟨c, _, rfl⟩ := hu; rfl
    case a3 => unfold maxLen; omega
    case a4 => omega
    case a5 => exact hsz
    intro v1 w1 hown hgrow _
    have HB1 := Lib.hid (HB0.out.grown hgrow hsz (fun k hk => (ho.lt k hk).1))
    have HR := Lib.hid (Rd.of_own (l := l) (base := W.heap.size) (by simpa using hown))
    have HG := Lib.hid (fun g (hg : v1.ownBlock = some g) => (hown.lt g hg).1)
    go_wp2_with fail
    go_ret
    exact ⟨_, rfl, HR.out, HG.out, HB1.out⟩
end Go.Proofs.Ytcobjjaicckgpaa.Vf
