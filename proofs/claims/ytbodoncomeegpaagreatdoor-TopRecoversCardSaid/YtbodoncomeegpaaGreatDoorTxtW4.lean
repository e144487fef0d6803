import Derived.Test.YtbodoncomeegpaaGreatDoorTxtW3
import Derived.WalkSpells
import Derived.Laws.IdiomStrings
namespace Go.Proofs.YtbodoncomeegpaaGreatDoor.Tx
open Go Go.RowKit Go.Proofs.YtbodoncomeegpaaGreatDoor

/-! ### Decode of package text -/
theorem decodeGo_drop (s : ByteArray) (k : Nat) (h : k < s.size) : Lib.decodeGo (s.extract k s.size) = Lib.decodeL (s.data.toList.drop k) := by
  have e : (s.extract k s.size).data.toList = s.data.toList.drop k := Lib.extract_to_end s k
  have hs : (s.extract k s.size).size ≠ 0 := by simp; omega
  unfold Lib.decodeGo
  rw [if_neg hs, ← e]
  rfl
theorem drop_ne {s : ByteArray} {k : Nat} (h : k < s.size) : s.data.toList.drop k ≠ [] := by
  intro e
  have := congrArg List.length e
  simp at this
  have : s.data.size = s.size := rfl
  omega
theorem decode_out (s : ByteArray) (a : Int) (w : World) (h : a < 0 ∨ (s.size : Int) ≤ a) :
    Calls Tryz.prog 166 #[.string s, .int .i64 a] w fun e w' => e = .returned (.tuple #[.int .i32 0, .int .i64 0]) ∧ w = w' := by
  rcases h with h | h
  all_goals
    go_enter Tryz.func166, Tryz.ntmps166
    go_wp2
    go_ret2
    exact ⟨rfl, rfl⟩
set_option maxHeartbeats 1000000 in
theorem decode_in (s : ByteArray) (k : Nat) (w : World) (h : k < s.size) (hT : Lib.Utf8Tabs 2 3 w) :
    Calls Tryz.prog 166 #[.string s, .int .i64 k] w fun e w' => e = .returned (.tuple #[.int .i32 (Txt.dec (s.data.toList.drop k)).1, .int .i64 (Txt.dec (s.data.toList.drop k)).2]) ∧ Below w.heap.size w w' := by
  have hc := Tryz.utf8_DecodeRuneInString (s.extract k s.size) w hT
  rw [decodeGo_drop s k h] at hc
  have hne := drop_ne h
  obtain ⟨R, hR⟩ : ∃ R, (Lib.decodeL (s.data.toList.drop k)).1 = R := ⟨_, rfl⟩
  obtain ⟨M, hM⟩ : ∃ M, (Lib.decodeL (s.data.toList.drop k)).2 = M := ⟨_, rfl⟩
  have hp : Lib.decodeL (s.data.toList.drop k) = (R, M) := Prod.ext hR hM
  rw [hR, hM] at hc
  by_cases hb : R = 65533 ∧ M = 1
  · obtain ⟨rfl, rfl⟩ := hb
    have hd : Txt.dec (s.data.toList.drop k) = (0, 0) := by unfold Txt.dec; rw [if_neg hne, if_pos hp]
    rw [hd]
    have HC := Lib.hid hc
    clear hc hR hM hp hd hne
    go_enter Tryz.func166, Tryz.ntmps166
    go_wp2_with fail
    refine (HC.out).mono ?_
    rintro e w1 ⟨rfl, hb⟩
    have HB := Lib.hid hb
    clear hb
    go_wp2_with fail
    go_ret2
    exact ⟨rfl, HB.out⟩
  · have hd : Txt.dec (s.data.toList.drop k) = (R, M) := by
      unfold Txt.dec; rw [if_neg hne, hp, if_neg (by simp only [Prod.mk.injEq]; exact hb)]
    rw [hd]
    have HC := Lib.hid hc
    clear hc hR hM hp hd hne
    by_cases h1 : R = 65533
    · subst h1
      have h2 : ((M : Int) == 1) = false := by simp; omega
      clear hb
      go_enter Tryz.func166, Tryz.ntmps166
      go_wp2_with fail
      refine (HC.out).mono ?_
      rintro e w1 ⟨rfl, hb⟩
      have HB := Lib.hid hb
      clear hb
      go_wp2_with fail
      go_ret2
      exact ⟨rfl, HB.out⟩
    · have h2 : ((R : Int) == 65533) = false := by simp; omega
      clear hb h1
      go_enter Tryz.func166, Tryz.ntmps166
      go_wp2_with fail
      refine (HC.out).mono ?_
      rintro e w1 ⟨rfl, hb⟩
      have HB := Lib.hid hb
      clear hb
      go_wp2_with fail
      go_ret2
      exact ⟨rfl, HB.out⟩

/-! ### Encode of the reference -/
theorem encode_bad (r : Int) (w : World) (h : r < 0 ∨ 1114111 < r ∨ (55296 ≤ r ∧ r ≤ 57343)) :
    Calls Tryz.prog 120 #[.int .i64 r] w fun e w' => e = .returned (.string ⟨#[]⟩) ∧ Below w.heap.size w w' := by
  rcases h with h | h | ⟨h, h'⟩
  all_goals
    go_enter Tryz.func120, Tryz.ntmps120
    go_wp2
    go_ret
    exact ⟨rfl, Below.refl _ _⟩
theorem conv_new (w : World) (xs : List Int) (n : Nat) (hn : xs.length = n) :
    (convert 36 9 (.slice (some ⟨w.heap.size, 0, none⟩) n n)).run Tryz.prog (w.alloc (.cells (xs.map (Value.int .u8)).toArray 5)) = .ok (.string (strOfNums xs)) (w.alloc (.cells (xs.map (Value.int .u8)).toArray 5)) :=
  run_convert_bytes_arg (P := Tryz.prog) _ 36 5 Tryz.underlying36 Tryz.underlying5 w.heap.size 0 n n xs hn (fun i hi => by
    have h2 := new_block w (.cells (xs.map (Value.int .u8)).toArray 5)
    unfold World.cell?
    simp only [h2]
    simp [List.getElem?_eq_getElem (show i < xs.length by omega)]) 9 Tryz.underlying9
theorem enc_nums {r : Int} {xs : List Int} (hv : Lib.validRune r = true) (h : Lib.encodeRuneZ r = xs) : strOfNums xs = ⟨(Txt.enc r).toArray⟩ := by
  unfold Txt.enc Lib.encodeRune; rw [if_pos hv, h]; rfl
theorem enc_bad {r : Int} (h : Lib.validRune r = false) : Txt.enc r = [] := by unfold Txt.enc; simp [h]
theorem ret_str {a b : ByteArray} (h : a = b) : Ending.returned (.string a) = .returned (.string b) := by rw [h]
set_option maxRecDepth 100000
theorem encode_1 (r : Int) (w : World) (h : 0 ≤ r) (h' : r < 128) :
    Calls Tryz.prog 120 #[.int .i64 r] w fun e w' => e = .returned (.string ⟨(Txt.enc r).toArray⟩) ∧ Below w.heap.size w w' := by
  have hcv : (convert 36 9 (.slice (some ⟨w.heap.size, 0, none⟩) 1 1)).run Tryz.prog (w.alloc (.cells #[.int .u8 (r)] 5)) = _ := conv_new w [r] 1 rfl
  have HE := Lib.hid (enc_nums (r := r) (vr_t (by omega)) (Lib.encodeRuneZ_one (by omega) (by omega)))
  go_enter Tryz.func120, Tryz.ntmps120
  go_wp2
  go_ret
  exact ⟨ret_str HE.out, (Below.refl _ _).alloc (Nat.le_refl _) _⟩
theorem encode_2 (r : Int) (w : World) (h : 128 ≤ r) (h' : r < 2048) :
    Calls Tryz.prog 120 #[.int .i64 r] w fun e w' => e = .returned (.string ⟨(Txt.enc r).toArray⟩) ∧ Below w.heap.size w w' := by
  have hcv : (convert 36 9 (.slice (some ⟨w.heap.size, 0, none⟩) 2 2)).run Tryz.prog (w.alloc (.cells #[.int .u8 (192 + r / 64), .int .u8 (128 + r % 64)] 5)) = _ := conv_new w [192 + r / 64, 128 + r % 64] 2 rfl
  have HE := Lib.hid (enc_nums (r := r) (vr_t (by omega)) (Lib.encodeRuneZ_two (by omega) (by omega)))
  go_enter Tryz.func120, Tryz.ntmps120
  go_wp2
  go_ret
  exact ⟨ret_str HE.out, (Below.refl _ _).alloc (Nat.le_refl _) _⟩
theorem encode_3a (r : Int) (w : World) (h : 2048 ≤ r) (h' : r < 55296) :
    Calls Tryz.prog 120 #[.int .i64 r] w fun e w' => e = .returned (.string ⟨(Txt.enc r).toArray⟩) ∧ Below w.heap.size w w' := by
  have hcv : (convert 36 9 (.slice (some ⟨w.heap.size, 0, none⟩) 3 3)).run Tryz.prog (w.alloc (.cells #[.int .u8 (224 + r / 4096), .int .u8 (128 + r / 64 % 64), .int .u8 (128 + r % 64)] 5)) = _ := conv_new w [224 + r / 4096, 128 + r / 64 % 64, 128 + r % 64] 3 rfl
  have HE := Lib.hid (enc_nums (r := r) (vr_t (by omega)) (Lib.encodeRuneZ_three (by omega)))
  go_enter Tryz.func120, Tryz.ntmps120
  go_wp2
  go_ret
  exact ⟨ret_str HE.out, (Below.refl _ _).alloc (Nat.le_refl _) _⟩
theorem encode_3b (r : Int) (w : World) (h : 57343 < r) (h' : r < 65536) :
    Calls Tryz.prog 120 #[.int .i64 r] w fun e w' => e = .returned (.string ⟨(Txt.enc r).toArray⟩) ∧ Below w.heap.size w w' := by
  have hcv : (convert 36 9 (.slice (some ⟨w.heap.size, 0, none⟩) 3 3)).run Tryz.prog (w.alloc (.cells #[.int .u8 (224 + r / 4096), .int .u8 (128 + r / 64 % 64), .int .u8 (128 + r % 64)] 5)) = _ := conv_new w [224 + r / 4096, 128 + r / 64 % 64, 128 + r % 64] 3 rfl
  have HE := Lib.hid (enc_nums (r := r) (vr_t (by omega)) (Lib.encodeRuneZ_three (by omega)))
  go_enter Tryz.func120, Tryz.ntmps120
  go_wp2
  go_ret
  exact ⟨ret_str HE.out, (Below.refl _ _).alloc (Nat.le_refl _) _⟩
theorem encode_4 (r : Int) (w : World) (h : 65536 ≤ r) (h' : r ≤ 1114111) :
    Calls Tryz.prog 120 #[.int .i64 r] w fun e w' => e = .returned (.string ⟨(Txt.enc r).toArray⟩) ∧ Below w.heap.size w w' := by
  have hcv : (convert 36 9 (.slice (some ⟨w.heap.size, 0, none⟩) 4 4)).run Tryz.prog (w.alloc (.cells #[.int .u8 (240 + r / 262144), .int .u8 (128 + r / 4096 % 64), .int .u8 (128 + r / 64 % 64), .int .u8 (128 + r % 64)] 5)) = _ := conv_new w [240 + r / 262144, 128 + r / 4096 % 64, 128 + r / 64 % 64, 128 + r % 64] 4 rfl
  have HE := Lib.hid (enc_nums (r := r) (vr_t (by omega)) (Lib.encodeRuneZ_four (by omega) (by omega)))
  go_enter Tryz.func120, Tryz.ntmps120
  go_wp2
  go_ret
  exact ⟨ret_str HE.out, (Below.refl _ _).alloc (Nat.le_refl _) _⟩
theorem encode_any (r : Int) (w : World) :
    Calls Tryz.prog 120 #[.int .i64 r] w fun e w' => e = .returned (.string ⟨(Txt.enc r).toArray⟩) ∧ Below w.heap.size w w' := by
  by_cases h0 : r < 0 ∨ 1114111 < r ∨ (55296 ≤ r ∧ r ≤ 57343)
  · have e : Txt.enc r = [] := enc_bad (vr_f (by omega))
    rw [e]
    exact encode_bad r w h0
  · by_cases h1 : r < 128
    · exact encode_1 r w (by omega) h1
    · by_cases h2 : r < 2048
      · exact encode_2 r w (by omega) h2
      · by_cases h3 : r < 55296
        · exact encode_3a r w (by omega) h3
        · by_cases h4 : r < 65536
          · exact encode_3b r w (by omega) h4
          · exact encode_4 r w (by omega) (by omega)
end Go.Proofs.YtbodoncomeegpaaGreatDoor.Tx
