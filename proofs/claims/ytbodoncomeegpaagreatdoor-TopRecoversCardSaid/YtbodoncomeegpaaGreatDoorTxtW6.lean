import Derived.Test.YtbodoncomeegpaaGreatDoorTxtW5
import Derived.Lib.OthersKept
namespace Go.Proofs.YtbodoncomeegpaaGreatDoor.Tx
open Go Go.RowKit Go.Proofs.YtbodoncomeegpaaGreatDoor

/-! ### the decoders, by what they find -/
theorem decode_bad (s : ByteArray) (k : Nat) (w : World) (h : k < s.size) (hT : Lib.Utf8Tabs 2 3 w) (hd : (Txt.dec (s.data.toList.drop k)).2 = 0) :
    Calls Tryz.prog 166 #[.string s, .int .i64 k] w fun e w' => e = .returned (.tuple #[.int .i32 0, .int .i64 0]) ∧ Below w.heap.size w w' := by
  have hc := decode_in s k w h hT
  rw [Txt.dec_zero hd] at hc
  exact hc
theorem decode_ok (s : ByteArray) (k R M : Nat) (w : World) (h : k < s.size) (hT : Lib.Utf8Tabs 2 3 w) (hd : Txt.dec (s.data.toList.drop k) = (R, M)) :
    Calls Tryz.prog 166 #[.string s, .int .i64 k] w fun e w' => e = .returned (.tuple #[.int .i32 R, .int .i64 M]) ∧ Below w.heap.size w w' := by
  have hc := decode_in s k w h hT
  rw [hd] at hc
  exact hc
theorem rdecode_bad (s : ByteArray) (k : Nat) (w : World) (h : k < s.size) (hs : s.size ≤ 9223372036854775807) (hd : (Txt.dec (s.data.toList.drop k)).2 = 0) :
    Calls Tryz.prog 88 #[.string s, .int .i64 k] w fun e w' => e = .returned (.tuple #[.int .i64 0, .int .i64 0]) ∧ Below w.heap.size w w' := by
  have hc := rdecode_in s k w h hs
  rw [Txt.dec_zero hd] at hc
  exact hc
theorem rdecode_ok (s : ByteArray) (k R M : Nat) (w : World) (h : k < s.size) (hs : s.size ≤ 9223372036854775807) (hd : Txt.dec (s.data.toList.drop k) = (R, M)) :
    Calls Tryz.prog 88 #[.string s, .int .i64 k] w fun e w' => e = .returned (.tuple #[.int .i64 R, .int .i64 M]) ∧ Below w.heap.size w w' := by
  have hc := rdecode_in s k w h hs
  rw [hd] at hc
  exact hc
theorem drop_len (s : ByteArray) (k : Nat) : (s.data.toList.drop k).length = s.size - k := by simp
/-- What a step from place k knows. -/
theorem step_at (s : ByteArray) (k R M : Nat) (hd : Txt.dec (s.data.toList.drop k) = (R, M)) (h : k < s.size) : k + M ≤ s.size ∧ R ≤ 1114111 ∧ M ≤ 4 := by
  have a := Txt.dec_le (s.data.toList.drop k)
  have b := Txt.dec_rune (s.data.toList.drop k)
  have c := Txt.dec_width (s.data.toList.drop k)
  rw [hd] at a b c
  rw [drop_len] at a
  exact ⟨by omega, b, c⟩

set_option maxHeartbeats 1000000 in
theorem check_any (s : ByteArray) (w : World) (hs : s.size ≤ 9223372036854775807) (hT : Lib.Utf8Tabs 2 3 w) :
    Calls Tryz.prog 143 #[.string s] w fun e w' => e = .returned (.tuple #[.int .i64 (Txt.chk s.data.toList).1, .int .i64 (Txt.chk s.data.toList).2]) ∧ Below w.heap.size w w' := by
  have HT := Lib.hid hT
  clear hT
  go_enter Tryz.func143, Tryz.ntmps143
  go_wp2
  go_loopw [4] (fun a wr => ∃ k : Nat, k ≤ s.size ∧ a = .int .i64 k ∧ Hid (Txt.chk s.data.toList = (k + (Txt.chk (s.data.toList.drop k)).1, (Txt.chk (s.data.toList.drop k)).2)) ∧ Below w.heap.size w wr) (fun a _ => s.size - (intOf a).toNat)
  case atStart => exact ⟨0, Nat.zero_le _, rfl, by simp [Hid], Below.refl _ _⟩
  case round =>
    obtain ⟨k, hk, rfl, hch, hb⟩ := hrel
    have HB := Lib.hid hb
    have hz := hb.size
    clear hb
    by_cases hlt : k < s.size
    · have hst := Txt.chk_step (s.data.toList.drop k) (drop_ne hlt)
      by_cases hbad : (Txt.dec (s.data.toList.drop k)).2 = 0
      · rw [if_pos hbad] at hst
        have HE := Lib.hid (show Txt.chk s.data.toList = (k, 5) by rw [hch.out, hst]; rfl)
        have HD := Lib.hid hbad
        clear hst hbad
        go_wp2_with (go_at_call 166; refine (decode_bad s k _ hlt (u8_below HT.out HB.out) HD.out).mono ?_; rintro e w1 ⟨rfl, hb1⟩)
        go_ret2
        exact ⟨ret_two (by rw [HE.out]) (by rw [HE.out]), below_trans HB.out (by assumption)⟩
      · rw [if_neg hbad] at hst
        obtain ⟨Rn, M, hd⟩ : ∃ Rn M, Txt.dec (s.data.toList.drop k) = (Rn, M) := ⟨_, _, rfl⟩
        obtain ⟨q1, q2, q3⟩ := step_at s k Rn M hd hlt
        rw [hd] at hst hbad
        have q4 : 1 ≤ M := by simp at hbad; omega
        have HD := Lib.hid hd
        clear hd hbad
        rcases hc : Txt.isCharB Rn with _ | _
        · rw [if_pos hc] at hst
          have HE := Lib.hid (show Txt.chk s.data.toList = (k, 6) by rw [hch.out, hst]; rfl)
          clear hst
          go_wp2_with fail
          refine (decode_ok s k Rn M _ hlt (u8_below HT.out HB.out) HD.out).mono ?_
          rintro e w1 ⟨rfl, hb1⟩
          have HB1 := Lib.hid (below_trans HB.out hb1)
          clear hb1
          go_wp2_with fail
          refine (char_any _ _).mono ?_
          rintro e w' ⟨rfl, rfl⟩
          go_wp2_with fail
          go_ret2
          exact ⟨ret_two (by rw [HE.out]) (by rw [HE.out]), HB1.out⟩
        · rw [if_neg (by rw [hc]; simp)] at hst
          have HE := Lib.hid (show Txt.chk s.data.toList = ((k + M) + (Txt.chk (s.data.toList.drop (k + M))).1, (Txt.chk (s.data.toList.drop (k + M))).2) by rw [hch.out, hst, List.drop_drop, Nat.add_assoc])
          clear hst
          go_wp2_with fail
          refine (decode_ok s k Rn M _ hlt (u8_below HT.out HB.out) HD.out).mono ?_
          rintro e w1 ⟨rfl, hb1⟩
          have HB1 := Lib.hid (below_trans HB.out hb1)
          clear hb1
          go_wp2_with fail
          refine (char_any _ _).mono ?_
          rintro e w' ⟨rfl, rfl⟩
          go_wp2_with fail
          go_roundw
          case rel => exact ⟨k + M, q1, by go_num, HE.out, HB1.out⟩
          case measure => simp [intOf]; omega
    · obtain rfl : k = s.size := by omega
      have HE := Lib.hid (show Txt.chk s.data.toList = (s.size, 0) by
        have e : s.data.toList.drop s.size = [] := List.drop_of_length_le (Nat.le_of_eq (by simp))
        rw [hch.out, e, Txt.chk_nil]; rfl)
      go_wp2
      go_ret2
      exact ⟨ret_two (by rw [HE.out]) (by rw [HE.out]), HB.out⟩

set_option maxHeartbeats 1000000 in
theorem rcheck_any (s : ByteArray) (w : World) (hs : s.size ≤ 9223372036854775807) :
    Calls Tryz.prog 59 #[.string s] w fun e w' => e = .returned (.tuple #[.int .i64 (Txt.chk s.data.toList).1, .int .i64 (Txt.chk s.data.toList).2]) ∧ Below w.heap.size w w' := by
  go_enter Tryz.func59, Tryz.ntmps59
  go_wp2
  go_loopw [4] (fun a wr => ∃ k : Nat, k ≤ s.size ∧ a = .int .i64 k ∧ Hid (Txt.chk s.data.toList = (k + (Txt.chk (s.data.toList.drop k)).1, (Txt.chk (s.data.toList.drop k)).2)) ∧ Below w.heap.size w wr) (fun a _ => s.size - (intOf a).toNat)
  case atStart => exact ⟨0, Nat.zero_le _, rfl, by simp [Hid], Below.refl _ _⟩
  case round =>
    obtain ⟨k, hk, rfl, hch, hb⟩ := hrel
    have HB := Lib.hid hb
    have hz := hb.size
    clear hb
    by_cases hlt : k < s.size
    · have hst := Txt.chk_step (s.data.toList.drop k) (drop_ne hlt)
      by_cases hbad : (Txt.dec (s.data.toList.drop k)).2 = 0
      · rw [if_pos hbad] at hst
        have HE := Lib.hid (show Txt.chk s.data.toList = (k, 5) by rw [hch.out, hst]; rfl)
        have HD := Lib.hid hbad
        clear hst hbad
        go_wp2_with (go_at_call 88; refine (rdecode_bad s k _ hlt hs HD.out).mono ?_; rintro e w1 ⟨rfl, hb1⟩)
        go_ret2
        exact ⟨ret_two (by rw [HE.out]) (by rw [HE.out]), below_trans HB.out (by assumption)⟩
      · rw [if_neg hbad] at hst
        obtain ⟨Rn, M, hd⟩ : ∃ Rn M, Txt.dec (s.data.toList.drop k) = (Rn, M) := ⟨_, _, rfl⟩
        obtain ⟨q1, q2, q3⟩ := step_at s k Rn M hd hlt
        rw [hd] at hst hbad
        have q4 : 1 ≤ M := by simp at hbad; omega
        have HD := Lib.hid hd
        clear hd hbad
        rcases hc : Txt.isCharB Rn with _ | _
        · rw [if_pos hc] at hst
          have HE := Lib.hid (show Txt.chk s.data.toList = (k, 6) by rw [hch.out, hst]; rfl)
          clear hst
          go_wp2_with fail
          refine (rdecode_ok s k Rn M _ hlt hs HD.out).mono ?_
          rintro e w1 ⟨rfl, hb1⟩
          have HB1 := Lib.hid (below_trans HB.out hb1)
          clear hb1
          go_wp2_with fail
          refine (rchar_any _ _).mono ?_
          rintro e w' ⟨rfl, rfl⟩
          go_wp2_with fail
          go_ret2
          exact ⟨ret_two (by rw [HE.out]) (by rw [HE.out]), HB1.out⟩
        · rw [if_neg (by rw [hc]; simp)] at hst
          have HE := Lib.hid (show Txt.chk s.data.toList = ((k + M) + (Txt.chk (s.data.toList.drop (k + M))).1, (Txt.chk (s.data.toList.drop (k + M))).2) by rw [hch.out, hst, List.drop_drop, Nat.add_assoc])
          clear hst
          go_wp2_with fail
          refine (rdecode_ok s k Rn M _ hlt hs HD.out).mono ?_
          rintro e w1 ⟨rfl, hb1⟩
          have HB1 := Lib.hid (below_trans HB.out hb1)
          clear hb1
          go_wp2_with fail
          refine (rchar_any _ _).mono ?_
          rintro e w' ⟨rfl, rfl⟩
          go_wp2_with fail
          go_roundw
          case rel => exact ⟨k + M, q1, by go_num, HE.out, HB1.out⟩
          case measure => simp [intOf]; omega
    · obtain rfl : k = s.size := by omega
      have HE := Lib.hid (show Txt.chk s.data.toList = (s.size, 0) by
        have e : s.data.toList.drop s.size = [] := List.drop_of_length_le (Nat.le_of_eq (by simp))
        rw [hch.out, e, Txt.chk_nil]; rfl)
      go_wp2
      go_ret2
      exact ⟨ret_two (by rw [HE.out]) (by rw [HE.out]), HB.out⟩

/-! ### names -/
end Go.Proofs.YtbodoncomeegpaaGreatDoor.Tx
