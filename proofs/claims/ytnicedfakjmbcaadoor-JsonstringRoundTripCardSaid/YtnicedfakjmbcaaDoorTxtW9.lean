import Derived.Test.YtnicedfakjmbcaaDoorTxtW8
namespace Go.Proofs.YtnicedfakjmbcaaDoor.Tx
open Go Go.RowKit Go.Proofs.YtnicedfakjmbcaaDoor

def validB (l : List UInt8) : Bool := decide ((Txt.chk l).2 = 0) && (Txt.collapse l == l)
theorem check_is (s : ByteArray) (n : Nat) (x : Int) (w : World) (hs : s.size ≤ 140737488355327) (hT : Lib.Utf8Tabs 2 3 w) (h : Txt.chk s.data.toList = (n, x)) :
    Calls Tryd.prog 19 #[.string s] w fun e w' => e = .returned (.tuple #[.int .i64 n, .int .i64 x]) ∧ Below w.heap.size w w' := by
  have := check_any s w (by omega) hT
  rw [h] at this
  exact this
theorem rcheck_is (s : ByteArray) (n : Nat) (x : Int) (w : World) (hs : s.size ≤ 140737488355327) (h : Txt.chk s.data.toList = (n, x)) :
    Calls Tryd.prog 20 #[.string s] w fun e w' => e = .returned (.tuple #[.int .i64 n, .int .i64 x]) ∧ Below w.heap.size w w' := by
  have := rcheck_any s w (by omega)
  rw [h] at this
  exact this
theorem valid_any (s : ByteArray) (w : World) (hs : s.size ≤ 140737488355327) (hT : Lib.Utf8Tabs 2 3 w) :
    Calls Tryd.prog 21 #[.string s] w fun e w' => e = .returned (.bool (validB s.data.toList)) ∧ Below w.heap.size w w' := by
  have HT := Lib.hid hT
  clear hT
  obtain ⟨n, x, hc⟩ : ∃ n x, Txt.chk s.data.toList = (n, x) := ⟨_, _, rfl⟩
  have HC := Lib.hid hc
  by_cases hx : x = 0
  · subst hx
    have HE := Lib.hid (show validB s.data.toList = (Txt.collapse s.data.toList == s.toList) by unfold validB; rw [hc, Lib.toList_data]; rfl)
    clear hc
    go_enter Tryd.func21, Tryd.ntmps21
    go_wp2_with fail
    refine (check_is s n 0 _ hs HT.out HC.out).mono ?_
    rintro e w1 ⟨rfl, hb1⟩
    have HB1 := Lib.hid hb1
    clear hb1
    go_wp2_with fail
    refine (collapse_any s _ hs).mono ?_
    rintro e w2 ⟨rfl, hb2⟩
    have HB2 := Lib.hid (below_trans HB1.out hb2)
    clear hb2
    go_wp2_with fail
    go_ret
    exact ⟨ret_bool (by rw [HE.out]), HB2.out⟩
  · have hx2 : (x == 0) = false := by simpa using hx
    have HE := Lib.hid (show validB s.data.toList = false by unfold validB; rw [hc]; simp [hx])
    clear hc hx
    go_enter Tryd.func21, Tryd.ntmps21
    go_wp2_with fail
    refine (check_is s n x _ hs HT.out HC.out).mono ?_
    rintro e w1 ⟨rfl, hb1⟩
    have HB1 := Lib.hid hb1
    clear hb1
    go_wp2_with fail
    go_ret
    exact ⟨ret_bool (by rw [HE.out]), HB1.out⟩
theorem rvalid_any (s : ByteArray) (w : World) (hs : s.size ≤ 140737488355327) :
    Calls Tryd.prog 22 #[.string s] w fun e w' => e = .returned (.bool (validB s.data.toList)) ∧ Below w.heap.size w w' := by
  obtain ⟨n, x, hc⟩ : ∃ n x, Txt.chk s.data.toList = (n, x) := ⟨_, _, rfl⟩
  have HC := Lib.hid hc
  by_cases hx : x = 0
  · subst hx
    have HE := Lib.hid (show validB s.data.toList = (Txt.collapse s.data.toList == s.toList) by unfold validB; rw [hc, Lib.toList_data]; rfl)
    clear hc
    go_enter Tryd.func22, Tryd.ntmps22
    go_wp2_with fail
    refine (rcheck_is s n 0 _ hs HC.out).mono ?_
    rintro e w1 ⟨rfl, hb1⟩
    have HB1 := Lib.hid hb1
    clear hb1
    go_wp2_with fail
    refine (rcollapse_any s _ hs).mono ?_
    rintro e w2 ⟨rfl, hb2⟩
    have HB2 := Lib.hid (below_trans HB1.out hb2)
    clear hb2
    go_wp2_with fail
    go_ret
    exact ⟨ret_bool (by rw [HE.out]), HB2.out⟩
  · have hx2 : (x == 0) = false := by simpa using hx
    have HE := Lib.hid (show validB s.data.toList = false by unfold validB; rw [hc]; simp [hx])
    clear hc hx
    go_enter Tryd.func22, Tryd.ntmps22
    go_wp2_with fail
    refine (rcheck_is s n x _ hs HC.out).mono ?_
    rintro e w1 ⟨rfl, hb1⟩
    have HB1 := Lib.hid hb1
    clear hb1
    go_wp2_with fail
    go_ret
    exact ⟨ret_bool (by rw [HE.out]), HB1.out⟩

/-! ### the chapter's examples -/
theorem collapse_is (s : ByteArray) (r : List UInt8) (w : World) (hs : s.size ≤ 140737488355327) (h : Txt.collapse s.data.toList = r) :
    Calls Tryd.prog 33 #[.string s] w fun e w' => e = .returned (.string ⟨r.toArray⟩) ∧ Below w.heap.size w w' := by
  rw [← h]; exact collapse_any s w hs
structure Tabs (w : World) : Prop where
  u : Lib.Utf8Tabs 2 3 w
  n : NameTabs w
theorem Tabs.below {w w' : World} (h : Tabs w) (hb : Below w.heap.size w w') : Tabs w' := ⟨u8_below h.u hb, h.n.below hb⟩
set_option maxRecDepth 100000 in
set_option maxHeartbeats 2000000 in
theorem alive_any (w : World) (hT : Tabs w) :
    Calls Tryd.prog 16 #[] w fun e w' => e = .returned (.bool true) ∧ Below w.heap.size w w' := by
  have HT := Lib.hid hT
  clear hT
  have e1 := Lib.hid (show Txt.chk [97, 98, 0] = (2, 6) by decide +kernel)
  have e2 := Lib.hid (show Txt.chk [97, 255] = (1, 5) by decide +kernel)
  have e3 := Lib.hid (show Txt.dec [195, 169] = (233, 2) by decide +kernel)
  go_enter Tryd.func16, Tryd.ntmps16
  go_wp2_with fail
  refine (check_is ⟨#[97, 98, 0]⟩ 2 6 _ (by decide) HT.out.u e1.out).mono ?_
  rintro e w1 ⟨rfl, hb⟩
  have HB1 := Lib.hid hb
  clear hb
  go_wp2_with fail
  refine (check_is ⟨#[97, 255]⟩ 1 5 _ (by decide) (HT.out.below HB1.out).u e2.out).mono ?_
  rintro e w2 ⟨rfl, hb⟩
  have HB2 := Lib.hid (below_trans HB1.out hb)
  clear hb
  go_wp2_with fail
  refine (decode_ok ⟨#[97, 195, 169]⟩ 1 233 2 _ (by decide) (HT.out.below HB2.out).u e3.out).mono ?_
  rintro e w3 ⟨rfl, hb⟩
  have HB3 := Lib.hid (below_trans HB2.out hb)
  clear hb
  go_wp2_with fail
  refine (collapse_is ⟨#[10, 97, 32, 32, 98, 9]⟩ [97, 32, 98] _ (by decide) (by decide +kernel)).mono ?_
  rintro e w4 ⟨rfl, hb⟩
  have HB4 := Lib.hid (below_trans HB3.out hb)
  clear hb
  go_wp2_with fail
  refine (Calls.mono (isname_any ⟨#[97, 45, 49]⟩ _ (by decide) (HT.out.below HB4.out).u (HT.out.below HB4.out).n) ?_)
  rw [show Txt.isNameB [97, 45, 49] = true by decide +kernel]
  rintro e w5 ⟨rfl, hb⟩
  have HB5 := Lib.hid (below_trans HB4.out hb)
  clear hb
  go_wp2_with fail
  refine (Calls.mono (isname_any ⟨#[97, 58, 98]⟩ _ (by decide) (HT.out.below HB5.out).u (HT.out.below HB5.out).n) ?_)
  rw [show Txt.isNameB [97, 58, 98] = false by decide +kernel]
  rintro e w6 ⟨rfl, hb⟩
  have HB6 := Lib.hid (below_trans HB5.out hb)
  clear hb
  go_wp2_with fail
  refine (Calls.mono (valid_any ⟨#[97, 32, 98]⟩ _ (by decide) (HT.out.below HB6.out).u) ?_)
  rw [show validB [97, 32, 98] = true by decide +kernel]
  rintro e w7 ⟨rfl, hb⟩
  have HB7 := Lib.hid (below_trans HB6.out hb)
  clear hb
  go_wp2_with fail
  refine (Calls.mono (char_any 9 _) ?_)
  rw [show Txt.isCharB 9 = true by decide +kernel]
  rintro e w' ⟨rfl, rfl⟩
  go_wp2_with fail
  refine (Calls.mono (start_any 95 _ (HT.out.below HB7.out).n) ?_)
  rw [show Txt.startB 95 = true by decide +kernel]
  rintro e w8 ⟨rfl, hb⟩
  have HB8 := Lib.hid (below_trans HB7.out hb)
  clear hb
  go_wp2_with fail
  refine (Calls.mono (name_any 46 _ (HT.out.below HB8.out).n) ?_)
  rw [show Txt.nameB 46 = true by decide +kernel]
  rintro e w9 ⟨rfl, hb⟩
  have HB9 := Lib.hid (below_trans HB8.out hb)
  clear hb
  go_wp2_with fail
  refine (Calls.mono (space_any 10 _) ?_)
  rw [show Txt.spB 10 = true by decide +kernel]
  rintro e w' ⟨rfl, rfl⟩
  go_wp2_with fail
  go_ret
  exact ⟨rfl, HB9.out⟩
end Go.Proofs.YtnicedfakjmbcaaDoor.Tx
