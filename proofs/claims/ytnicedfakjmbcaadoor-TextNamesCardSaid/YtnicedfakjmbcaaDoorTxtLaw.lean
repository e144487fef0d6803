import Derived.Test.YtnicedfakjmbcaaDoorTxtW9
namespace Go.Proofs.YtnicedfakjmbcaaDoor.Tx
open Go Go.RowKit Go.Proofs.YtnicedfakjmbcaaDoor

theorem toList_append (s t : ByteArray) : (s ++ t).data.toList = s.data.toList ++ t.data.toList := by simp
theorem chk_cat (s t : ByteArray) (n m : Nat) (x : Int) (h : Txt.chk s.data.toList = (n, 0)) (k : Txt.chk t.data.toList = (m, x)) : Txt.chk (s ++ t).data.toList = (s.size + m, x) := by
  rw [toList_append, Txt.chk_append _ _ _ (Nat.le_refl _) (by rw [h]), k]
  simp
theorem name_cat (s t : ByteArray) (h : Txt.isNameB s.data.toList = true) (k : Txt.isNameB t.data.toList = true) : Txt.isNameB (s ++ t).data.toList = true := by
  rw [toList_append]; exact Txt.name_append _ _ h k
theorem isname_is (s : ByteArray) (b : Bool) (w : World) (hs : s.size ≤ 140737488355327) (hT : Tabs w) (h : Txt.isNameB s.data.toList = b) :
    Calls Tryd.prog 31 #[.string s] w fun e w' => e = .returned (.bool b) ∧ Below w.heap.size w w' := by
  rw [← h]; exact isname_any s w (by omega) hT.u hT.n
theorem risname_is (s : ByteArray) (b : Bool) (w : World) (hs : s.size ≤ 140737488355327) (h : Txt.isNameB s.data.toList = b) :
    Calls Tryd.prog 32 #[.string s] w fun e w' => e = .returned (.bool b) ∧ Below w.heap.size w w' := by
  rw [← h]; exact risname_any s w (by omega)
theorem valid_is (s : ByteArray) (b : Bool) (w : World) (hs : s.size ≤ 140737488355327) (hT : Tabs w) (h : validB s.data.toList = b) :
    Calls Tryd.prog 21 #[.string s] w fun e w' => e = .returned (.bool b) ∧ Below w.heap.size w w' := by
  rw [← h]; exact valid_any s w hs hT.u
theorem rvalid_is (s : ByteArray) (b : Bool) (w : World) (hs : s.size ≤ 140737488355327) (h : validB s.data.toList = b) :
    Calls Tryd.prog 22 #[.string s] w fun e w' => e = .returned (.bool b) ∧ Below w.heap.size w w' := by
  rw [← h]; exact rvalid_any s w hs
theorem rcollapse_is (s : ByteArray) (r : List UInt8) (w : World) (hs : s.size ≤ 140737488355327) (h : Txt.collapse s.data.toList = r) :
    Calls Tryd.prog 34 #[.string s] w fun e w' => e = .returned (.string ⟨r.toArray⟩) ∧ Below w.heap.size w w' := by
  rw [← h]; exact rcollapse_any s w hs

set_option maxRecDepth 100000 in
set_option maxHeartbeats 2000000 in
theorem law_decode (s : ByteArray) (a : Int) (w : World) (hs : s.size ≤ 140737488355327) (hT : Tabs w) :
    Calls Tryd.prog 3 #[.string s, .int .i64 a] w fun e w' => e = .returned (.bool true) ∧ Below w.heap.size w w' := by
  have HT := Lib.hid hT
  clear hT
  by_cases hbig : 5000 < s.size
  · go_enter Tryd.func3, Tryd.ntmps3
    go_wp2_with fail
    refine (alive_any _ HT.out).mono ?_
    rintro e w1 ⟨rfl, hb⟩
    have HB1 := Lib.hid (hb)
    clear hb
    go_wp2_with fail
    go_ret
    exact ⟨rfl, HB1.out⟩
  by_cases hout : a < 0 ∨ (s.size : Int) ≤ a
  · have HO := Lib.hid hout
    clear hout
    go_enter Tryd.func3, Tryd.ntmps3
    go_wp2_with fail
    refine (decode_out s a _ HO.out).mono ?_
    rintro e w' ⟨rfl, rfl⟩
    go_wp2_with fail
    refine (rdecode_out s a _ HO.out).mono ?_
    rintro e w' ⟨rfl, rfl⟩
    go_wp2_with fail
    refine (alive_any _ HT.out).mono ?_
    rintro e w1 ⟨rfl, hb⟩
    have HB1 := Lib.hid (hb)
    clear hb
    go_wp2_with fail
    go_ret
    exact ⟨rfl, HB1.out⟩
  · obtain ⟨k, rfl⟩ : ∃ k : Nat, a = k := ⟨a.toNat, by omega⟩
    have hk : k < s.size := by omega
    obtain ⟨Rn, M, hd⟩ : ∃ Rn M, Txt.dec (s.data.toList.drop k) = (Rn, M) := ⟨_, _, rfl⟩
    obtain ⟨q1, q2, q3⟩ := step_at s k Rn M hd hk
    have HD := Lib.hid hd
    clear hd hout
    go_enter Tryd.func3, Tryd.ntmps3
    go_wp2_with fail
    refine (decode_ok s k Rn M _ hk HT.out.u HD.out).mono ?_
    rintro e w1 ⟨rfl, hb⟩
    have HB1 := Lib.hid (hb)
    clear hb
    go_wp2_with fail
    refine (rdecode_ok s k Rn M _ hk (by omega) HD.out).mono ?_
    rintro e w2 ⟨rfl, hb⟩
    have HB2 := Lib.hid (below_trans HB1.out hb)
    clear hb
    go_wp2_with fail
    refine (alive_any _ (HT.out.below HB2.out)).mono ?_
    rintro e w3 ⟨rfl, hb⟩
    have HB3 := Lib.hid (below_trans HB2.out hb)
    clear hb
    go_wp2_with fail
    go_ret
    exact ⟨rfl, HB3.out⟩

set_option maxRecDepth 100000 in
set_option maxHeartbeats 2000000 in
theorem law_check (s : ByteArray) (w : World) (hs : s.size ≤ 140737488355327) (hT : Tabs w) :
    Calls Tryd.prog 4 #[.string s] w fun e w' => e = .returned (.bool true) ∧ Below w.heap.size w w' := by
  have HT := Lib.hid hT
  clear hT
  by_cases hbig : 5000 < s.size
  · go_enter Tryd.func4, Tryd.ntmps4
    go_wp2_with fail
    refine (alive_any _ HT.out).mono ?_
    rintro e w1 ⟨rfl, hb⟩
    have HB1 := Lib.hid (hb)
    clear hb
    go_wp2_with fail
    go_ret
    exact ⟨rfl, HB1.out⟩
  obtain ⟨n, x, hc⟩ : ∃ n x, Txt.chk s.data.toList = (n, x) := ⟨_, _, rfl⟩
  obtain ⟨b, hv⟩ : ∃ b, validB s.data.toList = b := ⟨_, rfl⟩
  have HC := Lib.hid hc
  have HV := Lib.hid hv
  have hx : x = 0 ∨ x = 5 ∨ x = 6 := by have := Txt.chk_err s.data.toList; rw [hc] at this; exact this
  have x1 : 0 ≤ x := by omega
  have x2 : x ≤ 6 := by omega
  clear hc hv hx
  go_enter Tryd.func4, Tryd.ntmps4
  go_wp2_with fail
  refine (check_is s n x _ hs HT.out.u HC.out).mono ?_
  rintro e w1 ⟨rfl, hb⟩
  have HB1 := Lib.hid (hb)
  clear hb
  go_wp2_with fail
  refine (rcheck_is s n x _ hs HC.out).mono ?_
  rintro e w2 ⟨rfl, hb⟩
  have HB2 := Lib.hid (below_trans HB1.out hb)
  clear hb
  go_wp2_with fail
  refine (alive_any _ (HT.out.below HB2.out)).mono ?_
  rintro e w3 ⟨rfl, hb⟩
  have HB3 := Lib.hid (below_trans HB2.out hb)
  clear hb
  go_wp2_with fail
  refine (valid_is s b _ hs (HT.out.below HB3.out) HV.out).mono ?_
  rintro e w4 ⟨rfl, hb⟩
  have HB4 := Lib.hid (below_trans HB3.out hb)
  clear hb
  go_wp2_with fail
  refine (rvalid_is s b _ hs HV.out).mono ?_
  rintro e w5 ⟨rfl, hb⟩
  have HB5 := Lib.hid (below_trans HB4.out hb)
  clear hb
  go_wp2_with fail
  go_ret
  exact ⟨rfl, HB5.out⟩

set_option maxRecDepth 100000 in
set_option maxHeartbeats 2000000 in
theorem law_classes (r c : Int) (w : World) (r1 : -2147483648 ≤ r) (r2 : r ≤ 2147483647) (hT : Tabs w) :
    Calls Tryd.prog 5 #[.int .i32 r, .int .u8 c] w fun e w' => e = .returned (.bool true) ∧ Below w.heap.size w w' := by
  have HT := Lib.hid hT
  clear hT
  go_enter Tryd.func5, Tryd.ntmps5
  go_wp2_with fail
  refine (alive_any _ HT.out).mono ?_
  rintro e w1 ⟨rfl, hb⟩
  have HB1 := Lib.hid (hb)
  clear hb
  go_wp2_with fail
  refine (char_any _ _).mono ?_
  rintro e w' ⟨rfl, rfl⟩
  go_wp2_with fail
  refine (rchar_any _ _).mono ?_
  rintro e w' ⟨rfl, rfl⟩
  go_wp2_with fail
  refine (start_any _ _ (HT.out.below HB1.out).n).mono ?_
  rintro e w2 ⟨rfl, hb⟩
  have HB2 := Lib.hid (below_trans HB1.out hb)
  clear hb
  go_wp2_with fail
  refine (rstart_any _ _).mono ?_
  rintro e w' ⟨rfl, rfl⟩
  go_wp2_with fail
  refine (name_any _ _ (HT.out.below HB2.out).n).mono ?_
  rintro e w3 ⟨rfl, hb⟩
  have HB3 := Lib.hid (below_trans HB2.out hb)
  clear hb
  go_wp2_with fail
  refine (rname_any _ _).mono ?_
  rintro e w' ⟨rfl, rfl⟩
  go_wp2_with fail
  refine (space_any _ _).mono ?_
  rintro e w' ⟨rfl, rfl⟩
  go_wp2_with fail
  refine (rspace_any _ _).mono ?_
  rintro e w' ⟨rfl, rfl⟩
  go_wp2_with fail
  go_ret
  exact ⟨rfl, HB3.out⟩

set_option maxRecDepth 100000 in
set_option maxHeartbeats 2000000 in
theorem law_names (s t : ByteArray) (w : World) (hs : s.size ≤ 140737488355327) (ht : t.size ≤ 140737488355327) (hT : Tabs w) :
    Calls Tryd.prog 6 #[.string s, .string t] w fun e w' => e = .returned (.bool true) ∧ Below w.heap.size w w' := by
  have HT := Lib.hid hT
  clear hT
  by_cases hbig : 5000 < s.size + t.size
  · go_enter Tryd.func6, Tryd.ntmps6
    go_wp2_with fail
    refine (alive_any _ HT.out).mono ?_
    rintro e w1 ⟨rfl, hb⟩
    have HB1 := Lib.hid (hb)
    clear hb
    go_wp2_with fail
    go_ret
    exact ⟨rfl, HB1.out⟩
  have hst : (s ++ t).size ≤ 140737488355327 := by simp; omega
  rcases ha : Txt.isNameB s.data.toList with _ | _
  · obtain ⟨b, hv⟩ : ∃ b, Txt.isNameB t.data.toList = b := ⟨_, rfl⟩
    have HA := Lib.hid ha
    have HV := Lib.hid hv
    clear ha hv
    go_enter Tryd.func6, Tryd.ntmps6
    go_wp2_with fail
    refine (isname_is s false _ hs HT.out HA.out).mono ?_
    rintro e w1 ⟨rfl, hb⟩
    have HB1 := Lib.hid (hb)
    clear hb
    go_wp2_with fail
    refine (isname_is t b _ ht (HT.out.below HB1.out) HV.out).mono ?_
    rintro e w2 ⟨rfl, hb⟩
    have HB2 := Lib.hid (below_trans HB1.out hb)
    clear hb
    go_wp2_with fail
    refine (alive_any _ (HT.out.below HB2.out)).mono ?_
    rintro e w3 ⟨rfl, hb⟩
    have HB3 := Lib.hid (below_trans HB2.out hb)
    clear hb
    go_wp2_with fail
    refine (risname_is s false _ hs HA.out).mono ?_
    rintro e w4 ⟨rfl, hb⟩
    have HB4 := Lib.hid (below_trans HB3.out hb)
    clear hb
    go_wp2_with fail
    refine (risname_is t b _ ht HV.out).mono ?_
    rintro e w5 ⟨rfl, hb⟩
    have HB5 := Lib.hid (below_trans HB4.out hb)
    clear hb
    go_wp2_with fail
    go_ret
    exact ⟨rfl, HB5.out⟩
  · rcases hv : Txt.isNameB t.data.toList with _ | _
    · have HA := Lib.hid ha
      have HV := Lib.hid hv
      clear ha hv
      go_enter Tryd.func6, Tryd.ntmps6
      go_wp2_with fail
      refine (isname_is s true _ hs HT.out HA.out).mono ?_
      rintro e w1 ⟨rfl, hb⟩
      have HB1 := Lib.hid (hb)
      clear hb
      go_wp2_with fail
      refine (isname_is t false _ ht (HT.out.below HB1.out) HV.out).mono ?_
      rintro e w2 ⟨rfl, hb⟩
      have HB2 := Lib.hid (below_trans HB1.out hb)
      clear hb
      go_wp2_with fail
      refine (alive_any _ (HT.out.below HB2.out)).mono ?_
      rintro e w3 ⟨rfl, hb⟩
      have HB3 := Lib.hid (below_trans HB2.out hb)
      clear hb
      go_wp2_with fail
      refine (risname_is s true _ hs HA.out).mono ?_
      rintro e w4 ⟨rfl, hb⟩
      have HB4 := Lib.hid (below_trans HB3.out hb)
      clear hb
      go_wp2_with fail
      refine (risname_is t false _ ht HV.out).mono ?_
      rintro e w5 ⟨rfl, hb⟩
      have HB5 := Lib.hid (below_trans HB4.out hb)
      clear hb
      go_wp2_with fail
      go_ret
      exact ⟨rfl, HB5.out⟩
    · have HW := Lib.hid (name_cat s t ha hv)
      have HA := Lib.hid ha
      have HV := Lib.hid hv
      clear ha hv
      go_enter Tryd.func6, Tryd.ntmps6
      go_wp2_with fail
      refine (isname_is s true _ hs HT.out HA.out).mono ?_
      rintro e w1 ⟨rfl, hb⟩
      have HB1 := Lib.hid (hb)
      clear hb
      go_wp2_with fail
      refine (isname_is t true _ ht (HT.out.below HB1.out) HV.out).mono ?_
      rintro e w2 ⟨rfl, hb⟩
      have HB2 := Lib.hid (below_trans HB1.out hb)
      clear hb
      go_wp2_with fail
      refine (alive_any _ (HT.out.below HB2.out)).mono ?_
      rintro e w3 ⟨rfl, hb⟩
      have HB3 := Lib.hid (below_trans HB2.out hb)
      clear hb
      go_wp2_with fail
      refine (risname_is s true _ hs HA.out).mono ?_
      rintro e w4 ⟨rfl, hb⟩
      have HB4 := Lib.hid (below_trans HB3.out hb)
      clear hb
      go_wp2_with fail
      refine (risname_is t true _ ht HV.out).mono ?_
      rintro e w5 ⟨rfl, hb⟩
      have HB5 := Lib.hid (below_trans HB4.out hb)
      clear hb
      go_wp2_with fail
      refine (isname_is (s ++ t) true _ hst (HT.out.below HB5.out) HW.out).mono ?_
      rintro e w6 ⟨rfl, hb⟩
      have HB6 := Lib.hid (below_trans HB5.out hb)
      clear hb
      go_wp2_with fail
      go_ret
      exact ⟨rfl, HB6.out⟩

set_option maxRecDepth 100000 in
set_option maxHeartbeats 2000000 in
theorem law_collapse (s : ByteArray) (w : World) (hs : s.size ≤ 140737488355327) (hT : Tabs w) :
    Calls Tryd.prog 7 #[.string s] w fun e w' => e = .returned (.bool true) ∧ Below w.heap.size w w' := by
  have HT := Lib.hid hT
  clear hT
  by_cases hbig : 5000 < s.size
  · go_enter Tryd.func7, Tryd.ntmps7
    go_wp2_with fail
    refine (alive_any _ HT.out).mono ?_
    rintro e w1 ⟨rfl, hb⟩
    have HB1 := Lib.hid (hb)
    clear hb
    go_wp2_with fail
    go_ret
    exact ⟨rfl, HB1.out⟩
  obtain ⟨r, hr⟩ : ∃ r, Txt.collapse s.data.toList = r := ⟨_, rfl⟩
  have hl := Txt.collapse_le s.data.toList
  rw [hr] at hl
  have hrs : (⟨r.toArray⟩ : ByteArray).size ≤ 140737488355327 := by simp at hl; show r.toArray.size ≤ _; simp; omega
  have HR := Lib.hid hr
  have HI := Lib.hid (show Txt.collapse (⟨r.toArray⟩ : ByteArray).data.toList = r by rw [← hr]; exact Txt.collapse_idem _)
  clear hr hl
  go_enter Tryd.func7, Tryd.ntmps7
  go_wp2_with fail
  refine (collapse_is s r _ hs HR.out).mono ?_
  rintro e w1 ⟨rfl, hb⟩
  have HB1 := Lib.hid (hb)
  clear hb
  go_wp2_with fail
  refine (alive_any _ (HT.out.below HB1.out)).mono ?_
  rintro e w2 ⟨rfl, hb⟩
  have HB2 := Lib.hid (below_trans HB1.out hb)
  clear hb
  go_wp2_with fail
  refine (rcollapse_is s r _ hs HR.out).mono ?_
  rintro e w3 ⟨rfl, hb⟩
  have HB3 := Lib.hid (below_trans HB2.out hb)
  clear hb
  go_wp2_with fail
  refine (collapse_is ⟨r.toArray⟩ r _ hrs HI.out).mono ?_
  rintro e w4 ⟨rfl, hb⟩
  have HB4 := Lib.hid (below_trans HB3.out hb)
  clear hb
  go_wp2_with fail
  go_ret
  exact ⟨rfl, HB4.out⟩

set_option maxRecDepth 100000 in
set_option maxHeartbeats 2000000 in
theorem law_concat (s t : ByteArray) (w : World) (hs : s.size ≤ 140737488355327) (ht : t.size ≤ 140737488355327) (hT : Tabs w) :
    Calls Tryd.prog 9 #[.string s, .string t] w fun e w' => e = .returned (.bool true) ∧ Below w.heap.size w w' := by
  have HT := Lib.hid hT
  clear hT
  by_cases hbig : 5000 < s.size + t.size
  · go_enter Tryd.func9, Tryd.ntmps9
    go_wp2_with fail
    refine (alive_any _ HT.out).mono ?_
    rintro e w1 ⟨rfl, hb⟩
    have HB1 := Lib.hid (hb)
    clear hb
    go_wp2_with fail
    go_ret
    exact ⟨rfl, HB1.out⟩
  have hst : (s ++ t).size ≤ 140737488355327 := by simp; omega
  obtain ⟨n, x, hc⟩ : ∃ n x, Txt.chk s.data.toList = (n, x) := ⟨_, _, rfl⟩
  by_cases hx : x = 0
  · subst hx
    obtain ⟨m, y, hd⟩ : ∃ m y, Txt.chk t.data.toList = (m, y) := ⟨_, _, rfl⟩
    have hm : m ≤ t.size := by have := Txt.chk_bd t.data.toList; rw [hd] at this; simpa using this
    have HC := Lib.hid hc
    have HD := Lib.hid hd
    have HW := Lib.hid (chk_cat s t n m y hc hd)
    clear hc hd
    go_enter Tryd.func9, Tryd.ntmps9
    go_wp2_with fail
    refine (check_is s n 0 _ hs HT.out.u HC.out).mono ?_
    rintro e w1 ⟨rfl, hb⟩
    have HB1 := Lib.hid (hb)
    clear hb
    go_wp2_with fail
    refine (check_is (s ++ t) (s.size + m) y _ hst (HT.out.below HB1.out).u HW.out).mono ?_
    rintro e w2 ⟨rfl, hb⟩
    have HB2 := Lib.hid (below_trans HB1.out hb)
    clear hb
    go_wp2_with fail
    refine (check_is t m y _ ht (HT.out.below HB2.out).u HD.out).mono ?_
    rintro e w3 ⟨rfl, hb⟩
    have HB3 := Lib.hid (below_trans HB2.out hb)
    clear hb
    go_wp2_with fail
    refine (alive_any _ (HT.out.below HB3.out)).mono ?_
    rintro e w4 ⟨rfl, hb⟩
    have HB4 := Lib.hid (below_trans HB3.out hb)
    clear hb
    go_wp2_with fail
    go_ret
    exact ⟨rfl, HB4.out⟩
  · have hx2 : (x == 0) = false := by simpa using hx
    have HC := Lib.hid hc
    clear hc hx
    go_enter Tryd.func9, Tryd.ntmps9
    go_wp2_with fail
    refine (check_is s n x _ hs HT.out.u HC.out).mono ?_
    rintro e w1 ⟨rfl, hb⟩
    have HB1 := Lib.hid (hb)
    clear hb
    go_wp2_with fail
    refine (alive_any _ (HT.out.below HB1.out)).mono ?_
    rintro e w2 ⟨rfl, hb⟩
    have HB2 := Lib.hid (below_trans HB1.out hb)
    clear hb
    go_wp2_with fail
    go_ret
    exact ⟨rfl, HB2.out⟩

theorem idx_sp (k : Nat) (v : Int) (h : (k = 0 ∧ v = 9) ∨ (k = 1 ∧ v = 10) ∨ (k = 2 ∧ v = 13) ∨ (k = 3 ∧ v = 32)) (w : World) :
    (Instr.index 39 (.agg #[.int .u8 9, .int .u8 10, .int .u8 13, .int .u8 32]) (.int .u8 k)).run Tryd.prog w = .ok (.int .u8 v) w := by
  rcases h with ⟨rfl, rfl⟩ | ⟨rfl, rfl⟩ | ⟨rfl, rfl⟩ | ⟨rfl, rfl⟩
  all_goals
    change _ = _
    kernel_rfl
theorem sp_num (v : Int) (h : v = 9 ∨ v = 10 ∨ v = 13 ∨ v = 32) : (strOfNums [v]).data.toList = [UInt8.ofNat v.toNat] ∧ Txt.sp (UInt8.ofNat v.toNat) = true := by
  refine ⟨rfl, ?_⟩
  rcases h with rfl | rfl | rfl | rfl <;> decide
theorem composes (s t : ByteArray) (v : Int) (h : v = 9 ∨ v = 10 ∨ v = 13 ∨ v = 32) :
    Txt.collapse ((⟨(Txt.collapse s.data.toList).toArray⟩ : ByteArray) ++ strOfNums [v] ++ strOfNums [v] ++ (⟨(Txt.collapse t.data.toList).toArray⟩ : ByteArray)).data.toList = Txt.collapse (s ++ strOfNums [v] ++ t).data.toList := by
  obtain ⟨e, hsp⟩ := sp_num v h
  simp only [toList_append, e]
  exact (Txt.collapse_composes s.data.toList t.data.toList _ hsp).symm

theorem ba_of {A : ByteArray} {l : List UInt8} (h : A.data.toList = l) : (⟨l.toArray⟩ : ByteArray) = A := by
  obtain ⟨⟨d⟩⟩ := A
  subst h
  rfl
theorem collapse_ba (s A : ByteArray) (w : World) (hs : s.size ≤ 140737488355327) (h : Txt.collapse s.data.toList = A.data.toList) :
    Calls Tryd.prog 33 #[.string s] w fun e w' => e = .returned (.string A) ∧ Below w.heap.size w w' := by
  rw [← ba_of (A := A) rfl]; exact collapse_is s _ w hs h
theorem ba_ex (l : List UInt8) : ∃ A : ByteArray, l = A.data.toList ∧ A.size = l.length := ⟨⟨l.toArray⟩, rfl, by show l.toArray.size = _; simp⟩
set_option maxRecDepth 100000 in
set_option maxHeartbeats 2000000 in
theorem composes_at (s t : ByteArray) (c : Int) (k : Nat) (v : Int) (w : World) (c1 : 0 ≤ c) (c2 : c ≤ 255) (hs : s.size ≤ 140737488355327) (ht : t.size ≤ 140737488355327) (hT : Tabs w) (hbig : ¬ 5000 < s.size + t.size)
    (hm : c % 4 = k) (hv : (k = 0 ∧ v = 9) ∨ (k = 1 ∧ v = 10) ∨ (k = 2 ∧ v = 13) ∨ (k = 3 ∧ v = 32)) :
    Calls Tryd.prog 8 #[.string s, .string t, .int .u8 c] w fun e w' => e = .returned (.bool true) ∧ Below w.heap.size w w' := by
  have HT := Lib.hid hT
  clear hT
  have hix := idx_sp k v hv
  have hcv0 : (convert 40 9 (.slice (some ⟨w.heap.size, 0, none⟩) 1 1)).run Tryd.prog (w.alloc (.cells #[.int .u8 v] 5)) = _ := conv_new w [v] 1 rfl
  have hk : k ≤ 3 := by omega
  have hz0 := Lib.hid ((Below.refl w.heap.size w).alloc (Nat.le_refl _) (.cells #[.int .u8 v] 5))
  have hco := composes s t v (by omega)
  obtain ⟨S, hS, hS1⟩ : ∃ S : ByteArray, strOfNums [v] = S ∧ S.size = 1 := ⟨_, rfl, by simp [strOfNums_size]⟩
  rw [hS] at hco
  have hcv : (convert 40 9 (.slice (some ⟨w.heap.size, 0, none⟩) 1 1)).run Tryd.prog (w.alloc (.cells #[.int .u8 v] 5)) = .ok (.string S) (w.alloc (.cells #[.int .u8 v] 5)) := by rw [← hS]; exact hcv0
  clear hcv0 hS
  have la := Txt.collapse_le s.data.toList
  have lb := Txt.collapse_le t.data.toList
  obtain ⟨A, hA, sA⟩ := ba_ex (Txt.collapse s.data.toList)
  obtain ⟨B, hB, sB⟩ := ba_ex (Txt.collapse t.data.toList)
  obtain ⟨R, hR, sR⟩ := ba_ex (Txt.collapse (s ++ S ++ t).data.toList)
  rw [ba_of (A := A) hA.symm, ba_of (A := B) hB.symm, hR] at hco
  have a1 : A.size ≤ s.size := by rw [sA]; simpa using la
  have b1 : B.size ≤ t.size := by rw [sB]; simpa using lb
  have HA := Lib.hid hA
  have HB := Lib.hid hB
  have HR := Lib.hid hR
  have HCO := Lib.hid hco
  have S1 : S.size ≤ 1 := by omega
  have H1 := Lib.hid (show (s ++ S ++ t).size ≤ 140737488355327 by simp only [ByteArray.size_append]; omega)
  have H2 := Lib.hid (show (A ++ S ++ S ++ B).size ≤ 140737488355327 by simp only [ByteArray.size_append]; omega)
  clear hA hB hR hco la lb sA sB sR hS1
  go_enter Tryd.func8, Tryd.ntmps8
  go_wp2_with fail
  refine (alive_any _ (HT.out.below hz0.out)).mono ?_
  rintro e w1 ⟨rfl, hb⟩
  have HB1 := Lib.hid (below_trans hz0.out hb)
  clear hb
  go_wp2_with fail
  refine (collapse_ba _ R _ H1.out HR.out).mono ?_
  rintro e w2 ⟨rfl, hb⟩
  have HB2 := Lib.hid (below_trans HB1.out hb)
  clear hb
  go_wp2_with fail
  refine (collapse_ba s A _ hs HA.out).mono ?_
  rintro e w3 ⟨rfl, hb⟩
  have HB3 := Lib.hid (below_trans HB2.out hb)
  clear hb
  go_wp2_with fail
  refine (collapse_ba t B _ ht HB.out).mono ?_
  rintro e w4 ⟨rfl, hb⟩
  have HB4 := Lib.hid (below_trans HB3.out hb)
  clear hb
  go_wp2_with fail
  refine (collapse_ba _ R _ H2.out HCO.out).mono ?_
  rintro e w5 ⟨rfl, hb⟩
  have HB5 := Lib.hid (below_trans HB4.out hb)
  clear hb
  go_wp2_with fail
  go_ret
  exact ⟨rfl, HB5.out⟩

set_option maxRecDepth 100000 in
set_option maxHeartbeats 2000000 in
theorem law_composes (s t : ByteArray) (c : Int) (w : World) (c1 : 0 ≤ c) (c2 : c ≤ 255) (hs : s.size ≤ 140737488355327) (ht : t.size ≤ 140737488355327) (hT : Tabs w) :
    Calls Tryd.prog 8 #[.string s, .string t, .int .u8 c] w fun e w' => e = .returned (.bool true) ∧ Below w.heap.size w w' := by
  have HT := Lib.hid hT
  clear hT
  by_cases hbig : 5000 < s.size + t.size
  · go_enter Tryd.func8, Tryd.ntmps8
    go_wp2_with fail
    refine (alive_any _ HT.out).mono ?_
    rintro e w1 ⟨rfl, hb⟩
    have HB1 := Lib.hid (hb)
    clear hb
    go_wp2_with fail
    go_ret
    exact ⟨rfl, HB1.out⟩
  rcases (show c % 4 = ((0 : Nat) : Int) ∨ c % 4 = ((1 : Nat) : Int) ∨ c % 4 = ((2 : Nat) : Int) ∨ c % 4 = ((3 : Nat) : Int) by omega) with h | h | h | h
  · exact composes_at s t c 0 9 w c1 c2 hs ht HT.out hbig h (by omega)
  · exact composes_at s t c 1 10 w c1 c2 hs ht HT.out hbig h (by omega)
  · exact composes_at s t c 2 13 w c1 c2 hs ht HT.out hbig h (by omega)
  · exact composes_at s t c 3 32 w c1 c2 hs ht HT.out hbig h (by omega)
end Go.Proofs.YtnicedfakjmbcaaDoor.Tx
