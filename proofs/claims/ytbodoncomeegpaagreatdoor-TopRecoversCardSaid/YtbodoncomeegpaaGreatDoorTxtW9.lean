import Derived.Test.YtbodoncomeegpaaGreatDoorTxtW8
namespace Go.Proofs.YtbodoncomeegpaaGreatDoor.Tx
open Go Go.RowKit Go.Proofs.YtbodoncomeegpaaGreatDoor

def validB (l : List UInt8) : Bool := decide ((Txt.chk l).2 = 0) && (Txt.collapse l == l)
theorem check_is (s : ByteArray) (n : Nat) (x : Int) (w : World) (hs : s.size ≤ 140737488355327) (hT : Lib.Utf8Tabs 2 3 w) (h : Txt.chk s.data.toList = (n, x)) :
    Calls Tryz.prog 143 #[.string s] w fun e w' => e = .returned (.tuple #[.int .i64 n, .int .i64 x]) ∧ Below w.heap.size w w' := by
  have := check_any s w (by omega) hT
  rw [h] at this
  exact this
theorem rcheck_is (s : ByteArray) (n : Nat) (x : Int) (w : World) (hs : s.size ≤ 140737488355327) (h : Txt.chk s.data.toList = (n, x)) :
    Calls Tryz.prog 59 #[.string s] w fun e w' => e = .returned (.tuple #[.int .i64 n, .int .i64 x]) ∧ Below w.heap.size w w' := by
  have := rcheck_any s w (by omega)
  rw [h] at this
  exact this
theorem valid_any (s : ByteArray) (w : World) (hs : s.size ≤ 140737488355327) (hT : Lib.Utf8Tabs 2 3 w) :
    Calls Tryz.prog 125 #[.string s] w fun e w' => e = .returned (.bool (validB s.data.toList)) ∧ Below w.heap.size w w' := by
  have HT := Lib.hid hT
  clear hT
  obtain ⟨n, x, hc⟩ : ∃ n x, Txt.chk s.data.toList = (n, x) := ⟨_, _, rfl⟩
  have HC := Lib.hid hc
  by_cases hx : x = 0
  · subst hx
    have HE := Lib.hid (show validB s.data.toList = (Txt.collapse s.data.toList == s.toList) by unfold validB; rw [hc, Lib.toList_data]; rfl)
    clear hc
    go_enter Tryz.func125, Tryz.ntmps125
    go_wp2_with fail
    refine (check_is s n 0 _ hs HT.out HC.out).mono ?_
    rintro e w1 ⟨rfl, hb1⟩
    have HB1 := Lib.hid hb1
    clear hb1
    go_wp2_with fail
    refine (collapse_any s _ hs).mono ?_
    rintro e w2 ⟨rfl, hb2⟩
    have HB2 := Lib.hid (below_trans HB1.out hb2)
    clear hb2
    go_wp2_with fail
    go_ret
    exact ⟨ret_bool (by rw [HE.out]), HB2.out⟩
  · have hx2 : (x == 0) = false := by simpa using hx
    have HE := Lib.hid (show validB s.data.toList = false by unfold validB; rw [hc]; simp [hx])
    clear hc hx
    go_enter Tryz.func125, Tryz.ntmps125
    go_wp2_with fail
    refine (check_is s n x _ hs HT.out HC.out).mono ?_
    rintro e w1 ⟨rfl, hb1⟩
    have HB1 := Lib.hid hb1
    clear hb1
    go_wp2_with fail
    go_ret
    exact ⟨ret_bool (by rw [HE.out]), HB1.out⟩
theorem rvalid_any (s : ByteArray) (w : World) (hs : s.size ≤ 140737488355327) :
    Calls Tryz.prog 34 #[.string s] w fun e w' => e = .returned (.bool (validB s.data.toList)) ∧ Below w.heap.size w w' := by
  obtain ⟨n, x, hc⟩ : ∃ n x, Txt.chk s.data.toList = (n, x) := ⟨_, _, rfl⟩
  have HC := Lib.hid hc
  by_cases hx : x = 0
  · subst hx
    have HE := Lib.hid (show validB s.data.toList = (Txt.collapse s.data.toList == s.toList) by unfold validB; rw [hc, Lib.toList_data]; rfl)
    clear hc
    go_enter Tryz.func34, Tryz.ntmps34
    go_wp2_with fail
    refine (rcheck_is s n 0 _ hs HC.out).mono ?_
    rintro e w1 ⟨rfl, hb1⟩
    have HB1 := Lib.hid hb1
    clear hb1
    go_wp2_with fail
    refine (rcollapse_any s _ hs).mono ?_
    rintro e w2 ⟨rfl, hb2⟩
    have HB2 := Lib.hid (below_trans HB1.out hb2)
    clear hb2
    go_wp2_with fail
    go_ret
    exact ⟨ret_bool (by rw [HE.out]), HB2.out⟩
  · have hx2 : (x == 0) = false := by simpa using hx
    have HE := Lib.hid (show validB s.data.toList = false by unfold validB; rw [hc]; simp [hx])
    clear hc hx
    go_enter Tryz.func34, Tryz.ntmps34
    go_wp2_with fail
    refine (rcheck_is s n x _ hs HC.out).mono ?_
    rintro e w1 ⟨rfl, hb1⟩
    have HB1 := Lib.hid hb1
    clear hb1
    go_wp2_with fail
    go_ret
    exact ⟨ret_bool (by rw [HE.out]), HB1.out⟩

/-! ### the chapter's examples -/
theorem collapse_is (s : ByteArray) (r : List UInt8) (w : World) (hs : s.size ≤ 140737488355327) (h : Txt.collapse s.data.toList = r) :
    Calls Tryz.prog 144 #[.string s] w fun e w' => e = .returned (.string ⟨r.toArray⟩) ∧ Below w.heap.size w w' := by
  rw [← h]; exact collapse_any s w hs
end Go.Proofs.YtbodoncomeegpaaGreatDoor.Tx
