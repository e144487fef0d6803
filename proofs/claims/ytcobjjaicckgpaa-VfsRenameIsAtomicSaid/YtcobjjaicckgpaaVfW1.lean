/- Walks of the file system: lookup, apply. -/
import Derived.Test.YtcobjjaicckgpaaBs
import Derived.Test.YtcobjjaicckgpaaVf
import Derived.StillTailTactics
namespace Go.Proofs.Ytcobjjaicckgpaa.Vf
open Go Go.RowKit Go.Maps Go.Proofs.Ytcobjjaicckgpaa Go.Proofs.Ytcobjjaicckgpaa.Bs
set_option linter.unusedVariables false

theorem law : Keyed Try.prog 9 := string_keyed Try.underlying9
theorem hkey (k : ByteArray) (hk : k.size ≤ 1000000) : keyOf Try.prog 9 (.string k) = some (.string k.data.toList) :=
  Go.WideMaps.keyOf_string_mk Try.underlying9 (by unfold maxLen; omega)
/-- Block b is the directory m. -/
def Dir (w : World) (b : Nat) (m : Nm) : Prop := ∃ n, w.ownsMap Try.prog 9 Rp b n (Dm m)
set_option maxRecDepth 100000 in
set_option maxHeartbeats 4000000 in
theorem lookup_is (F o b : Nat) (k : ByteArray) (m : Nm) (W : World) (hk : k.size ≤ 1000000) (hc : W.cell? ⟨F, o, none⟩ = some (.map (some b))) (hD : Dir W b m) :
    Calls Try.prog 35 #[.pointer (some ⟨F, o, none⟩), .string k] W fun e w' => e = .returned (.tuple #[fptrO (findS m k.data.toList), .bool (findS m k.data.toList).isSome]) ∧ w' = W := by
  obtain ⟨n, ho⟩ := hD
  obtain ⟨v, ps, hrun, hv⟩ := ho.look_ok (t := 58) law Try.underlying58 (z := .pointer none) (by kernel_rfl) Rp_nil (hkey k hk)
  have e := Rp_at m _ hv
  subst e
  rw [Dm_has] at hrun
  obtain ⟨V, hV⟩ : ∃ V, fptrO (findS m k.data.toList) = V := ⟨_, rfl⟩
  obtain ⟨B, hB⟩ : ∃ B, (findS m k.data.toList).isSome = B := ⟨_, rfl⟩
  rw [hV, hB] at hrun ⊢
  clear hV hB hv ho
  go_enter Try.func35, Try.ntmps35
  go_wp2_with fail
  go_ret2
  exact ⟨rfl, rfl⟩
theorem Dir.tight {w : World} {b : Nat} {m : Nm} (h : Dir w b m) : w.ownsMap Try.prog 9 Rp b m.length (Dm m) := by
  obtain ⟨n, es, clock, hb, F, hs, hD⟩ := h
  refine ⟨es, clock, hb, F, ?_, hD⟩
  have := congrArg Maps.size hD
  have e1 : Maps.size (Dm m) = m.length := by simp [Dm, Maps.size]
  rw [e1] at this
  simp [Maps.size, length_sorted] at this
  omega
theorem Dir.lt {w : World} {b : Nat} {m : Nm} (h : Dir w b m) : b < w.heap.size := by
  obtain ⟨n, h⟩ := h
  exact h.lt
theorem Dir.of_block {w w' : World} {b : Nat} {m : Nm} (h : Dir w b m) (hb : w'.heap[b]? = w.heap[b]?) : Dir w' b m := by
  obtain ⟨n, es, clock, hh, r⟩ := h
  exact ⟨n, es, clock, by rw [hb]; exact hh, r⟩
/-- Nothing but block b has turned; blocks may have been laid. -/
abbrev But (b : Nat) (w w' : World) : Prop := w.grownBy w' (some b)
theorem Dir.put {w : World} {b : Nat} {m : Nm} (h : Dir w b m) (k : ByteArray) (hk : k.size ≤ 1000000) (f : Nat) (hm : m.length ≤ 1000000) :
    ∃ w', (Instr.mapUpdate 58 (.map (some b)) (.string k) (fptr f)).run Try.prog w = .ok () w' ∧ Dir w' b (putS m k.data.toList f) ∧ But b w w' := by
  obtain ⟨w', h1, h2, h3⟩ := h.tight.update (t := 58) law Try.underlying58 (by unfold maxLen; omega) (hkey k hk) (Rp_ptr f)
  rw [Dm_put] at h2
  exact ⟨w', h1, ⟨_, h2⟩, h3⟩
theorem Dir.del {w : World} {b : Nat} {m : Nm} (h : Dir w b m) (k : ByteArray) (hk : k.size ≤ 1000000) (ty : TypeId) :
    ∃ w', (Builtin.delete_ #[58, 9] ty #[.map (some b), .string k]).run Try.prog w = .ok (.tuple #[]) w' ∧ Dir w' b (delS m k.data.toList) ∧ But b w w' := by
  obtain ⟨w', h1, h2, h3⟩ := h.tight.drop (t := 58) law Try.underlying58 (hkey k hk) ty
  rw [Dm_del] at h2
  exact ⟨w', h1, ⟨_, h2⟩, h3.grown⟩
theorem But.cell {b : Nat} {w w' : World} (h : But b w w') {a : Addr} {v : Value} (hc : w.cell? a = some v) (hn : a.block ≠ b) : w'.cell? a = some v := by
  have hlt := lt_of_cell hc
  unfold World.cell? at hc ⊢
  rw [h.block _ hlt (by simpa using hn)]
  exact hc
theorem But.trans {b : Nat} {u v w : World} (h : But b u v) (k : But b v w) : But b u w :=
  ⟨k.os.trans h.os, k.tape.trans h.tape, k.output.trans h.output, Nat.le_trans h.size k.size, fun i hi hn => (k.block i (Nat.lt_of_lt_of_le hi h.size) hn).trans (h.block i hi hn)⟩
theorem But.drew {b : Nat} {u v : World} (h : But b u v) : But b u v.drew := ⟨h.os, h.tape, h.output, h.size, h.block⟩
theorem Dir.ne {w : World} {b : Nat} {m : Nm} (h : Dir w b m) {a : Addr} {v : Value} (hc : w.cell? a = some v) : a.block ≠ b := by
  obtain ⟨n, es, clock, hh, r⟩ := h
  intro e
  unfold World.cell? at hc
  rw [e, hh] at hc
  simp at hc
def chg (c : ByteArray × ByteArray × Option Nat) : Value := .agg #[.string c.1, .string c.2.1, fptrO c.2.2]
def applyS (m : Nm) (f t : ByteArray) (x : Nat) : Nm :=
  let m1 := if f.toList.isEmpty = true then m else delS m f.data.toList
  if t.toList.isEmpty = true then m1 else putS m1 t.data.toList x
theorem del_len (m : Nm) (k : List UInt8) : (delS m k).length ≤ m.length := List.length_filter_le _ _
set_option maxRecDepth 100000 in
set_option maxHeartbeats 4000000 in
theorem apply_is (F o b x : Nat) (f t : ByteArray) (fv : Value) (m : Nm) (W : World) (hf : f.size ≤ 1000000) (ht : t.size ≤ 1000000) (hm : m.length ≤ 1000000) (hv : t.toList.isEmpty = false → fv = fptr x) (hc : W.cell? ⟨F, o, none⟩ = some (.map (some b))) (hD : Dir W b m) :
    Calls Try.prog 40 #[.pointer (some ⟨F, o, none⟩), .agg #[.string f, .string t, fv]] W fun e w' => e = .returned (.tuple #[]) ∧ Dir w' b (applyS m f t x) ∧ But b W w' := by
  have hlt := hD.lt
  have hB0 : But b W (W.alloc (.cells #[.string f, .string t, fv] 74)) := World.grownBy_alloc W _ _
  have hD0 : Dir (W.alloc (.cells #[.string f, .string t, fv] 74)) b m := hD.of_block (old_block _ _ _ hlt)
  have hF0 : (W.alloc (.cells #[.string f, .string t, fv] 74)).cell? ⟨F, o, none⟩ = some (.map (some b)) := hB0.cell hc (hD.ne hc)
  have hS := heap_alloc_new W (.cells #[.string f, .string t, fv] 74)
  have q0 : (W.alloc (.cells #[.string f, .string t, fv] 74)).cell? ⟨W.heap.size, 0, none⟩ = some (.string f) := by unfold World.cell?; simp only [hS]; rfl
  have q1 : (W.alloc (.cells #[.string f, .string t, fv] 74)).cell? ⟨W.heap.size, 1, none⟩ = some (.string t) := by unfold World.cell?; simp only [hS]; rfl
  have q2 : (W.alloc (.cells #[.string f, .string t, fv] 74)).cell? ⟨W.heap.size, 2, none⟩ = some fv := by unfold World.cell?; simp only [hS]; rfl
  have HB0 := Lib.hid hB0
  have HD0 := Lib.hid hD0
  have HN := Lib.hid (show W.heap.size ≠ b by omega)
  clear hS hB0 hD0 hc hD
  rcases g1 : f.toList.isEmpty with _ | _ <;> rcases g2 : t.toList.isEmpty with _ | _
  · have hv' := hv g2
    subst hv'
    go_enter Try.func40, Try.ntmps40
    go_wp2_with fail
    generalize (W.alloc (.cells #[.string f, .string t, fptr x] 74)) = w0 at hF0 q0 q1 q2 HB0 HD0 ⊢
    generalize W.heap.size = S at q0 q1 q2 HN ⊢
    go_still_tail 6, (by kernel_rfl)
    change wpList _ _ _ _ _ w0.drew
    obtain ⟨w1, hdel, hD1, hB1⟩ := Dir.del (w := w0.drew) (HD0.out.of_block rfl) f hf 0
    have hF1 := hB1.cell hF0 (HD0.out.ne hF0)
    have r1 := hB1.cell q1 HN.out
    have r2 := hB1.cell q2 HN.out
    have HB1 := Lib.hid (HB0.out.drew.trans hB1)
    have HD1 := Lib.hid hD1
    clear hF0 q0 q1 q2 HD0 HB0 hB1 hD1
    go_wp2_with fail
    go_still_tail 8, (by kernel_rfl)
    change wpList _ _ _ _ _ w1.drew
    obtain ⟨w2, hupd, hD2, hB2⟩ := Dir.put (w := w1.drew) (HD1.out.of_block rfl) t ht x (Nat.le_trans (del_len _ _) hm)
    clear hF1 r1 r2
    go_wp2_with fail
    go_end0
    exact ⟨rfl, by unfold applyS; rw [g1, g2]; exact hD2, HB1.out.drew.trans hB2⟩
  · go_enter Try.func40, Try.ntmps40
    go_wp2_with fail
    generalize (W.alloc (.cells #[.string f, .string t, fv] 74)) = w0 at hF0 q0 q1 q2 HB0 HD0 ⊢
    generalize W.heap.size = S at q0 q1 q2 HN ⊢
    go_still_tail 6, (by kernel_rfl)
    change wpList _ _ _ _ _ w0.drew
    obtain ⟨w1, hdel, hD1, hB1⟩ := Dir.del (w := w0.drew) (HD0.out.of_block rfl) f hf 0
    have r1 := hB1.cell q1 HN.out
    have HB1 := Lib.hid (HB0.out.drew.trans hB1)
    have HD1 := Lib.hid hD1
    clear hF0 q0 q1 q2 HD0 HB0 hB1 hD1
    go_wp2_with fail
    go_end0
    exact ⟨rfl, by unfold applyS; rw [g1, g2]; exact HD1.out, HB1.out⟩
  · have hv' := hv g2
    subst hv'
    go_enter Try.func40, Try.ntmps40
    go_wp2_with fail
    generalize (W.alloc (.cells #[.string f, .string t, fptr x] 74)) = w0 at hF0 q0 q1 q2 HB0 HD0 ⊢
    generalize W.heap.size = S at q0 q1 q2 HN ⊢
    go_still_tail 8, (by kernel_rfl)
    change wpList _ _ _ _ _ w0.drew
    obtain ⟨w2, hupd, hD2, hB2⟩ := Dir.put (w := w0.drew) (HD0.out.of_block rfl) t ht x hm
    clear hF0 q0 q1 q2
    go_wp2_with fail
    go_end0
    exact ⟨rfl, by unfold applyS; rw [g1, g2]; exact hD2, HB0.out.drew.trans hB2⟩
  · go_enter Try.func40, Try.ntmps40
    go_wp2_with fail
    go_end0
    exact ⟨rfl, by unfold applyS; rw [g1, g2]; exact HD0.out, HB0.out⟩
end Go.Proofs.Ytcobjjaicckgpaa.Vf
