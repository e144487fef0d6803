/- The program's model, walked: inTime, checked. -/
import Derived.Test.YtbodoncomeegpaaGreatDoorMoW7
namespace Go.Proofs.YtbodoncomeegpaaGreatDoor.Mw
open Go Go.RowKit Go.Proofs.YtbodoncomeegpaaGreatDoor Go.Proofs.YtbodoncomeegpaaGreatDoor.Rw
set_option linter.unusedVariables false

set_option maxRecDepth 100000
set_option maxHeartbeats 16000000
theorem rw_new (w : World) (l : List ByteArray) (t : TypeId) (cap : Nat) : Rw (w.alloc (.cells (l.map Value.string).toArray t)) (.slice (some ⟨w.heap.size, 0, none⟩) l.length cap) 1 (l.map sCell) := by
  refine ⟨w.heap.size, 0, _, cap, by simp, fun _ => rfl, fun j hj k hk => ?_⟩
  obtain rfl : k = 0 := by omega
  have hjl : j < l.length := by simpa using hj
  refine ⟨.string l[j], by simp [sCell], ?_⟩
  unfold World.cell?
  simp only [heap_alloc_new]
  simp [hjl]
theorem inTime_ok (t : Int) (w : World) (h : Mo.inT t = true) :
    Calls Tryz.prog 98 #[.int .i64 t] w fun e w' => e = .returned (.bool true) ∧ w' = w := by
  unfold Mo.inT at h
  simp only [Bool.and_eq_true] at h
  obtain ⟨h1, h2⟩ := h
  go_enter Tryz.func98, Tryz.ntmps98
  go_wp2_with fail
  go_ret
  exact ⟨rfl, rfl⟩
theorem checked_ok (w : World) :
    Calls Tryz.prog 68 #[.bool true] w fun e w' => e = .returned (.int .i64 0) ∧ w' = w := by
  go_enter Tryz.func68, Tryz.ntmps68
  go_wp2_with fail
  go_ret
  exact ⟨rfl, rfl⟩
theorem checkE_ok (e : Mo.En) (W : World) (hT : Lib.Utf8Tabs 2 3 W) (hb : EnB e) (he : Mo.okE e = true) :
    Calls Tryz.prog 100 #[.agg (eCells e).toArray] W fun x w' => x = .returned (.int .i64 0) ∧ Below W.heap.size W w' := by
  obtain ⟨i, t, l, c, u⟩ := e
  have HT := Lib.hid hT
  have HE := Lib.hid he
  have HBB := Lib.hid hb
  clear hT he hb
  obtain ⟨x0, x1, x2, x3, x4⟩ := cells5 (w := W) (x0 := .string i) (x1 := .string t) (x2 := .string l) (x3 := .string c) (x4 := .int .i64 u) (t := 47)
  have hne : (i.toList.isEmpty) = false := by
    have := HE.out
    unfold Mo.okE Mo.neS at this
    revert this
    cases i.toList.isEmpty <;> simp
  show Calls Tryz.prog 100 #[.agg #[.string i, .string t, .string l, .string c, .int .i64 u]] W _
  go_enter Tryz.func100, Tryz.ntmps100
  go_wp2_with fail
  refine (inTime_ok u _ (by
    have := HE.out
    unfold Mo.okE at this
    revert this
    cases Mo.inT u <;> simp)).mono ?_
  rintro e w1 ⟨rfl, rfl⟩
  go_wp2_with fail
  have HB1 := Lib.hid ((Below.refl W.heap.size W).alloc (Nat.le_refl _) (.cells #[.string i, .string t, .string l, .string c, .int .i64 u] 47))
  have HB2 := Lib.hid (HB1.out.alloc HB1.out.size (.cells #[.string i, .string t, .string l, .string c] 9))
  have hA : [i, t, l, c].all Mo.okS = true := by
    have := HE.out
    unfold Mo.okE at this
    revert this
    simp only [List.all_cons, List.all_nil]
    cases Mo.okS i <;> cases Mo.okS t <;> cases Mo.okS l <;> cases Mo.okS c <;> simp
  have HALL := all_is [i, t, l, c] _ _ (rw_new (W.alloc (.cells #[.string i, .string t, .string l, .string c, .int .i64 u] 47)) [i, t, l, c] 9 4) (Tx.u8_below HT.out HB2.out) (by simp) (by
    intro p hp
    have := HBB.out
    rcases List.mem_cons.1 hp with rfl | hp
    · exact this.id
    rcases List.mem_cons.1 hp with rfl | hp
    · exact this.title
    rcases List.mem_cons.1 hp with rfl | hp
    · exact this.link
    rcases List.mem_cons.1 hp with rfl | hp
    · exact this.content
    · cases hp)
  rw [hA] at HALL
  rw [show (W.alloc (.cells #[.string i, .string t, .string l, .string c, .int .i64 u] 47)).heap.size = W.heap.size + 1 from Array.size_push _] at HALL
  change Calls Tryz.prog 96 #[.slice (some ⟨W.heap.size + 1, 0, none⟩) 4 4] ((W.alloc (.cells #[.string i, .string t, .string l, .string c, .int .i64 u] 47)).alloc (.cells #[.string i, .string t, .string l, .string c] 9)) _ at HALL
  refine HALL.mono ?_
  rintro e w2 ⟨rfl, hb2⟩
  have HB3 := Lib.hid (HB2.out.trans (hb2.mono HB2.out.size))
  clear hb2 HALL hA
  go_wp2_with fail
  refine (checked_ok _).mono ?_
  rintro e w3 ⟨rfl, rfl⟩
  go_wp2_with fail
  go_ret
  exact ⟨rfl, HB3.out⟩
end Go.Proofs.YtbodoncomeegpaaGreatDoor.Mw
