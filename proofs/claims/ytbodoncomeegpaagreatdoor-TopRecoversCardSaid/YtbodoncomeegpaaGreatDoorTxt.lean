/- Plain facts on bytes and runes: decoding one rune, the check of a text, names, collapsed white space. No program in sight. -/
import Derived.Lib.TrimUEq
import Derived.Lib.MapLaws
import Derived.Lib.ValidU
import Derived.Lib.RuneBytes
import Derived.Lib.QuoteLoop
namespace Go.Proofs.YtbodoncomeegpaaGreatDoor.Txt
open Go

/-! ### one rune -/
def dec (l : List UInt8) : Nat × Nat := if l = [] then (0, 0) else if Lib.decodeL l = (65533, 1) then (0, 0) else Lib.decodeL l
def enc (r : Int) : List UInt8 := if Lib.validRune r = true then Lib.encodeRune r else []

theorem dec_nil : dec [] = (0, 0) := rfl
theorem dec_cons_ne {l : List UInt8} (h : (dec l).2 ≠ 0) : l ≠ [] ∧ Lib.decodeL l ≠ (65533, 1) ∧ dec l = Lib.decodeL l := by
  unfold dec at h ⊢
  by_cases h1 : l = []
  · simp [h1] at h
  · by_cases h2 : Lib.decodeL l = (65533, 1)
    · simp [h1, h2] at h
    · exact ⟨h1, h2, by simp [h1, h2]⟩
theorem dec_zero {l : List UInt8} (h : (dec l).2 = 0) : dec l = (0, 0) := by
  unfold dec at h ⊢
  by_cases h1 : l = []
  · simp [h1]
  · by_cases h2 : Lib.decodeL l = (65533, 1)
    · simp [h1, h2]
    · simp [h1, h2] at h
      have := Lib.decodeL_width l
      omega
theorem dec_le (l : List UInt8) : (dec l).2 ≤ l.length := by
  by_cases h : (dec l).2 = 0
  · omega
  · obtain ⟨h1, _, h3⟩ := dec_cons_ne h
    rw [h3]; exact Lib.decodeL_le l h1
theorem dec_rune (l : List UInt8) : (dec l).1 ≤ 1114111 := by
  unfold dec; split
  · simp
  · split
    · simp
    · exact Lib.decodeL_rune l
theorem nth_lt (l : List UInt8) (i : Nat) : (l.getD i 0).toNat < 256 := UInt8.toNat_lt _
/-- The value that a decoder by the width k would give. -/
def rval (l : List UInt8) (k : Nat) : Nat :=
  if k = 1 then (l.getD 0 0).toNat
  else if k = 2 then (l.getD 0 0).toNat % 32 * 64 + (l.getD 1 0).toNat % 64
  else if k = 3 then ((l.getD 0 0).toNat % 16 * 64 + (l.getD 1 0).toNat % 64) * 64 + (l.getD 2 0).toNat % 64
  else (((l.getD 0 0).toNat % 8 * 64 + (l.getD 1 0).toNat % 64) * 64 + (l.getD 2 0).toNat % 64) * 64 + (l.getD 3 0).toNat % 64

def encN (r : Nat) : List Nat :=
  if r < 128 then [r] else if r < 2048 then [192 + r / 64, 128 + r % 64]
  else if r < 55296 ∨ (57343 < r ∧ r < 65536) then [224 + r / 4096, 128 + r / 64 % 64, 128 + r % 64]
  else if 65535 < r ∧ r ≤ 1114111 then [240 + r / 262144, 128 + r / 4096 % 64, 128 + r / 64 % 64, 128 + r % 64] else []
theorem toNat_u8 {x : Nat} (h : x < 256) : (x.toUInt8).toNat = x := by simp [Nat.toUInt8]; omega
theorem enc_toNat (r : Nat) : (enc (r : Int)).map UInt8.toNat = encN r := by
  unfold enc Lib.validRune Lib.encodeRune encN
  by_cases h1 : r < 128
  · rw [if_pos (by simp; omega), Lib.encodeRuneZ_one (by omega) (by omega), if_pos h1]
    simp only [List.map_cons, List.map_nil]
    rw [toNat_u8 (by omega)]; simp
  · rw [if_neg h1]
    by_cases h2 : r < 2048
    · rw [if_pos (by simp; omega), Lib.encodeRuneZ_two (by omega) (by omega), if_pos h2]
      simp only [List.map_cons, List.map_nil]
      rw [toNat_u8 (by omega), toNat_u8 (by omega)]
      simp only [List.cons.injEq, and_true]; omega
    · rw [if_neg h2]
      by_cases h3 : r < 55296 ∨ (57343 < r ∧ r < 65536)
      · rw [if_pos (by simp; omega), Lib.encodeRuneZ_three (by omega), if_pos h3]
        simp only [List.map_cons, List.map_nil]
        rw [toNat_u8 (by omega), toNat_u8 (by omega), toNat_u8 (by omega)]
        simp only [List.cons.injEq, and_true]; omega
      · rw [if_neg h3]
        by_cases h4 : 65535 < r ∧ r ≤ 1114111
        · rw [if_pos (by simp; omega), Lib.encodeRuneZ_four (by omega) (by omega), if_pos h4]
          simp only [List.map_cons, List.map_nil]
          rw [toNat_u8 (by omega), toNat_u8 (by omega), toNat_u8 (by omega), toNat_u8 (by omega)]
          simp only [List.cons.injEq, and_true]; omega
        · rw [if_neg h4, if_neg (by simp; omega)]; rfl
theorem map_toNat_inj {a b : List UInt8} (h : a.map UInt8.toNat = b.map UInt8.toNat) : a = b :=
  (List.map_inj_right (fun _ _ h => UInt8.toNat_inj.1 h)).1 h
theorem take_toNat (l : List UInt8) (k : Nat) (h : k ≤ l.length) : (l.take k).map UInt8.toNat = (List.range k).map fun i => (l.getD i 0).toNat := by
  apply List.ext_getElem
  · simp; omega
  · intro i h1 h2
    simp at h1 h2
    simp [List.getElem?_eq_getElem (show i < l.length by omega)]
theorem ltake1 (l : List UInt8) (h : 1 ≤ l.length) : (l.take 1).map UInt8.toNat = [(l.getD 0 0).toNat] := take_toNat l 1 h
theorem ltake2 (l : List UInt8) (h : 2 ≤ l.length) : (l.take 2).map UInt8.toNat = [(l.getD 0 0).toNat, (l.getD 1 0).toNat] := take_toNat l 2 h
theorem ltake3 (l : List UInt8) (h : 3 ≤ l.length) : (l.take 3).map UInt8.toNat = [(l.getD 0 0).toNat, (l.getD 1 0).toNat, (l.getD 2 0).toNat] := take_toNat l 3 h
theorem ltake4 (l : List UInt8) (h : 4 ≤ l.length) : (l.take 4).map UInt8.toNat = [(l.getD 0 0).toNat, (l.getD 1 0).toNat, (l.getD 2 0).toNat, (l.getD 3 0).toNat] := take_toNat l 4 h

/-- Which decodings are by which width, in numbers. -/
theorem decN_cases (n b0 b1 b2 b3 : Nat) (h0 : b0 < 256) (h1 : b1 < 256) :
    (Lib.decodeN n b0 b1 b2 b3 = (b0, 1) ∧ b0 < 128) ∨
    (Lib.decodeN n b0 b1 b2 b3 = (b0 % 32 * 64 + b1 % 64, 2) ∧ 2 ≤ n ∧ 128 ≤ b0 % 32 * 64 + b1 % 64 ∧ b0 / 32 = 6 ∧ b1 / 64 = 2) ∨
    (Lib.decodeN n b0 b1 b2 b3 = (b0 % 16 * 4096 + b1 % 64 * 64 + b2 % 64, 3) ∧ 3 ≤ n ∧ 2048 ≤ b0 % 16 * 4096 + b1 % 64 * 64 + b2 % 64 ∧ (b0 % 16 * 4096 + b1 % 64 * 64 + b2 % 64 < 55296 ∨ 57343 < b0 % 16 * 4096 + b1 % 64 * 64 + b2 % 64) ∧ b0 / 16 = 14 ∧ b1 / 64 = 2 ∧ b2 / 64 = 2) ∨
    (Lib.decodeN n b0 b1 b2 b3 = (b0 % 8 * 262144 + b1 % 64 * 4096 + b2 % 64 * 64 + b3 % 64, 4) ∧ 4 ≤ n ∧ 65536 ≤ b0 % 8 * 262144 + b1 % 64 * 4096 + b2 % 64 * 64 + b3 % 64 ∧ b0 % 8 * 262144 + b1 % 64 * 4096 + b2 % 64 * 64 + b3 % 64 ≤ 1114111 ∧ b0 / 8 = 30 ∧ b1 / 64 = 2 ∧ b2 / 64 = 2 ∧ b3 / 64 = 2) ∨
    (Lib.decodeN n b0 b1 b2 b3 = (65533, 1) ∧ 128 ≤ b0 ∧ ¬ (2 ≤ n ∧ 128 ≤ b0 % 32 * 64 + b1 % 64 ∧ b0 / 32 = 6 ∧ b1 / 64 = 2) ∧
      ¬ (3 ≤ n ∧ 2048 ≤ b0 % 16 * 4096 + b1 % 64 * 64 + b2 % 64 ∧ (b0 % 16 * 4096 + b1 % 64 * 64 + b2 % 64 < 55296 ∨ 57343 < b0 % 16 * 4096 + b1 % 64 * 64 + b2 % 64) ∧ b0 / 16 = 14 ∧ b1 / 64 = 2 ∧ b2 / 64 = 2) ∧
      ¬ (4 ≤ n ∧ 65536 ≤ b0 % 8 * 262144 + b1 % 64 * 4096 + b2 % 64 * 64 + b3 % 64 ∧ b0 % 8 * 262144 + b1 % 64 * 4096 + b2 % 64 * 64 + b3 % 64 ≤ 1114111 ∧ b0 / 8 = 30 ∧ b1 / 64 = 2 ∧ b2 / 64 = 2 ∧ b3 / 64 = 2)) := by
  by_cases c1 : b0 < 128
  · left; exact ⟨Lib.decodeN_ascii _ _ _ _ _ c1, c1⟩
  · right
    unfold Lib.decodeN
    rw [if_neg c1]
    by_cases c2 : b0 / 32 = 6 ∧ (1 < n ∧ b1 / 64 = 2)
    · rw [if_pos c2]
      by_cases d2 : b0 % 32 * 64 + b1 % 64 ≥ 128
      · rw [if_pos d2]; left; exact ⟨rfl, by omega, d2, c2.1, c2.2.2⟩
      · rw [if_neg d2]; right; right; right; exact ⟨rfl, by omega, by omega, by omega, by omega⟩
    · rw [if_neg c2]
      by_cases c3 : b0 / 16 = 14 ∧ (1 < n ∧ b1 / 64 = 2) ∧ (2 < n ∧ b2 / 64 = 2)
      · rw [if_pos c3]
        by_cases d3 : b0 % 16 * 4096 + b1 % 64 * 64 + b2 % 64 ≥ 2048 ∧ (b0 % 16 * 4096 + b1 % 64 * 64 + b2 % 64 < 55296 ∨ (57344 ≤ b0 % 16 * 4096 + b1 % 64 * 64 + b2 % 64 ∧ b0 % 16 * 4096 + b1 % 64 * 64 + b2 % 64 ≤ 1114111))
        · rw [if_pos d3]; right; left; exact ⟨rfl, by omega, d3.1, by omega, c3.1, c3.2.1.2, c3.2.2.2⟩
        · rw [if_neg d3]; right; right; right; exact ⟨rfl, by omega, by omega, by omega, by omega⟩
      · rw [if_neg c3]
        by_cases c4 : b0 / 8 = 30 ∧ (1 < n ∧ b1 / 64 = 2) ∧ (2 < n ∧ b2 / 64 = 2) ∧ (3 < n ∧ b3 / 64 = 2)
        · rw [if_pos c4]
          by_cases d4 : b0 % 8 * 262144 + b1 % 64 * 4096 + b2 % 64 * 64 + b3 % 64 ≥ 65536 ∧ (b0 % 8 * 262144 + b1 % 64 * 4096 + b2 % 64 * 64 + b3 % 64 < 55296 ∨ (57344 ≤ b0 % 8 * 262144 + b1 % 64 * 4096 + b2 % 64 * 64 + b3 % 64 ∧ b0 % 8 * 262144 + b1 % 64 * 4096 + b2 % 64 * 64 + b3 % 64 ≤ 1114111))
          · rw [if_pos d4]; right; right; left; exact ⟨rfl, by omega, by omega, by omega, c4.1, c4.2.1.2, c4.2.2.1.2, c4.2.2.2.2⟩
          · rw [if_neg d4]; right; right; right; exact ⟨rfl, by omega, by omega, by omega, by omega⟩
        · rw [if_neg c4]; right; right; right; exact ⟨rfl, by omega, by omega, by omega, by omega⟩
theorem dec_num (l : List UInt8) (hne : l ≠ []) : dec l = if Lib.decodeN l.length (l.getD 0 0).toNat (l.getD 1 0).toNat (l.getD 2 0).toNat (l.getD 3 0).toNat = (65533, 1) then (0, 0) else Lib.decodeN l.length (l.getD 0 0).toNat (l.getD 1 0).toNat (l.getD 2 0).toNat (l.getD 3 0).toNat := by
  unfold dec; rw [if_neg hne, Lib.decodeL_N]
theorem encN_lens (r : Nat) : (encN r).length = if r < 128 then 1 else if r < 2048 then 2 else if r < 55296 ∨ (57343 < r ∧ r < 65536) then 3 else if 65535 < r ∧ r ≤ 1114111 then 4 else 0 := by
  unfold encN; repeat' split
  all_goals rfl
theorem encN_1 {r : Nat} (h : r < 128) : encN r = [r] := by unfold encN; rw [if_pos h]
theorem encN_2 {r : Nat} (h : 128 ≤ r) (h2 : r < 2048) : encN r = [192 + r / 64, 128 + r % 64] := by unfold encN; rw [if_neg (by omega), if_pos h2]
theorem encN_3 {r : Nat} (h : 2048 ≤ r) (h2 : r < 55296 ∨ (57343 < r ∧ r < 65536)) : encN r = [224 + r / 4096, 128 + r / 64 % 64, 128 + r % 64] := by
  unfold encN; rw [if_neg (by omega), if_neg (by omega), if_pos h2]
theorem encN_4 {r : Nat} (h : 65536 ≤ r) (h2 : r ≤ 1114111) : encN r = [240 + r / 262144, 128 + r / 4096 % 64, 128 + r / 64 % 64, 128 + r % 64] := by
  unfold encN; rw [if_neg (by omega), if_neg (by omega), if_neg (by omega), if_pos (by omega)]

theorem search_num (n b0 b1 b2 b3 r w : Nat) (h0 : b0 < 256) (h1 : b1 < 256) (h2 : b2 < 256)
    (hd : (if Lib.decodeN n b0 b1 b2 b3 = (65533, 1) then (0, 0) else Lib.decodeN n b0 b1 b2 b3) = (r, w)) :
    (w = 0 ∨ w = 1 ∨ w = 2 ∨ w = 3 ∨ w = 4) ∧
    (1 ≤ n → (encN b0 = [b0] ↔ w = 1) ∧ (w = 1 → r = b0)) ∧
    (2 ≤ n → (encN (b0 % 32 * 64 + b1 % 64) = [b0, b1] ↔ w = 2) ∧ (w = 2 → r = b0 % 32 * 64 + b1 % 64)) ∧
    (3 ≤ n → (encN ((b0 % 16 * 64 + b1 % 64) * 64 + b2 % 64) = [b0, b1, b2] ↔ w = 3) ∧ (w = 3 → r = (b0 % 16 * 64 + b1 % 64) * 64 + b2 % 64)) ∧
    (4 ≤ n → (encN (((b0 % 8 * 64 + b1 % 64) * 64 + b2 % 64) * 64 + b3 % 64) = [b0, b1, b2, b3] ↔ w = 4) ∧ (w = 4 → r = ((b0 % 8 * 64 + b1 % 64) * 64 + b2 % 64) * 64 + b3 % 64)) := by
  have e1 : encN b0 = [b0] ↔ b0 < 128 := by
    constructor
    · intro h
      have := congrArg List.length h
      rw [encN_lens] at this
      simp only [List.length_cons, List.length_nil] at this
      split at this <;> (try omega)
      split at this <;> omega
    · exact encN_1
  have e2 : encN (b0 % 32 * 64 + b1 % 64) = [b0, b1] ↔ (128 ≤ b0 % 32 * 64 + b1 % 64 ∧ b0 / 32 = 6 ∧ b1 / 64 = 2) := by
    by_cases c : 128 ≤ b0 % 32 * 64 + b1 % 64
    · rw [encN_2 c (by omega)]; simp only [List.cons.injEq, and_true]; omega
    · rw [encN_1 (by omega)]; simp; omega
  have e3 : encN ((b0 % 16 * 64 + b1 % 64) * 64 + b2 % 64) = [b0, b1, b2] ↔ (2048 ≤ b0 % 16 * 4096 + b1 % 64 * 64 + b2 % 64 ∧ (b0 % 16 * 4096 + b1 % 64 * 64 + b2 % 64 < 55296 ∨ 57343 < b0 % 16 * 4096 + b1 % 64 * 64 + b2 % 64) ∧ b0 / 16 = 14 ∧ b1 / 64 = 2 ∧ b2 / 64 = 2) := by
    generalize hr : (b0 % 16 * 64 + b1 % 64) * 64 + b2 % 64 = x
    have hx : b0 % 16 * 4096 + b1 % 64 * 64 + b2 % 64 = x := by omega
    rw [hx]
    by_cases c : 2048 ≤ x ∧ (x < 55296 ∨ 57343 < x)
    · rw [encN_3 c.1 (by omega)]; simp only [List.cons.injEq, and_true]; omega
    · constructor
      · intro h
        have := congrArg List.length h
        rw [encN_lens] at this
        simp only [List.length_cons, List.length_nil] at this
        repeat (split at this <;> (try omega))
      · intro h; omega
  have e4 : encN (((b0 % 8 * 64 + b1 % 64) * 64 + b2 % 64) * 64 + b3 % 64) = [b0, b1, b2, b3] ↔ (65536 ≤ b0 % 8 * 262144 + b1 % 64 * 4096 + b2 % 64 * 64 + b3 % 64 ∧ b0 % 8 * 262144 + b1 % 64 * 4096 + b2 % 64 * 64 + b3 % 64 ≤ 1114111 ∧ b0 / 8 = 30 ∧ b1 / 64 = 2 ∧ b2 / 64 = 2 ∧ b3 / 64 = 2) := by
    generalize hr : ((b0 % 8 * 64 + b1 % 64) * 64 + b2 % 64) * 64 + b3 % 64 = x
    have hx : b0 % 8 * 262144 + b1 % 64 * 4096 + b2 % 64 * 64 + b3 % 64 = x := by omega
    rw [hx]
    by_cases c : 65536 ≤ x ∧ x ≤ 1114111
    · rw [encN_4 c.1 c.2]; simp only [List.cons.injEq, and_true]; omega
    · constructor
      · intro h
        have := congrArg List.length h
        rw [encN_lens] at this
        simp only [List.length_cons, List.length_nil] at this
        repeat (split at this <;> (try omega))
      · intro h; omega
  rw [e1, e2, e3, e4]
  rcases decN_cases n b0 b1 b2 b3 h0 h1 with ⟨hc, hh⟩ | ⟨hc, hh⟩ | ⟨hc, hh⟩ | ⟨hc, hh⟩ | ⟨hc, hh⟩
  · rw [hc, if_neg (by simp; omega)] at hd
    simp only [Prod.mk.injEq] at hd
    obtain ⟨rfl, rfl⟩ := hd
    omega
  · rw [hc, if_neg (by simp)] at hd
    simp only [Prod.mk.injEq] at hd
    obtain ⟨rfl, rfl⟩ := hd
    omega
  · rw [hc, if_neg (by simp)] at hd
    simp only [Prod.mk.injEq] at hd
    obtain ⟨rfl, rfl⟩ := hd
    omega
  · rw [hc, if_neg (by simp)] at hd
    simp only [Prod.mk.injEq] at hd
    obtain ⟨rfl, rfl⟩ := hd
    omega
  · rw [hc, if_pos rfl] at hd
    simp only [Prod.mk.injEq] at hd
    obtain ⟨rfl, rfl⟩ := hd
    omega
theorem enc_iff (r : Nat) (l : List UInt8) (m : List Nat) (h : l.map UInt8.toNat = m) : enc (r : Int) = l ↔ encN r = m := by
  constructor
  · intro e; rw [← enc_toNat, e, h]
  · intro e; exact map_toNat_inj (by rw [enc_toNat, e, h])
/-- The reference's search by the width finds what the decoder finds. -/
theorem search (l : List UInt8) (k : Nat) (h1 : 1 ≤ k) (h4 : k ≤ 4) (hl : k ≤ l.length) : (enc (rval l k : Nat) = l.take k ↔ (dec l).2 = k) ∧ ((dec l).2 = k → (dec l).1 = rval l k) := by
  have hne : l ≠ [] := by intro e; simp [e] at hl; omega
  obtain ⟨_, s1, s2, s3, s4⟩ := search_num l.length _ _ _ _ (dec l).1 (dec l).2 (nth_lt l 0) (nth_lt l 1) (nth_lt l 2) (by rw [← dec_num l hne])
  rcases (show k = 1 ∨ k = 2 ∨ k = 3 ∨ k = 4 by omega) with rfl | rfl | rfl | rfl
  · rw [enc_iff _ _ _ (ltake1 l hl)]; exact s1 hl
  · rw [enc_iff _ _ _ (ltake2 l hl)]; exact s2 hl
  · rw [enc_iff _ _ _ (ltake3 l hl)]; exact s3 hl
  · rw [enc_iff _ _ _ (ltake4 l hl)]; exact s4 hl
theorem dec_width (l : List UInt8) : (dec l).2 ≤ 4 := by
  by_cases hne : l = []
  · subst hne; simp [dec_nil]
  · obtain ⟨h, _⟩ := search_num l.length _ _ _ _ (dec l).1 (dec l).2 (nth_lt l 0) (nth_lt l 1) (nth_lt l 2) (by rw [← dec_num l hne])
    omega
theorem enc_dec (l : List UInt8) (h : (dec l).2 ≠ 0) : enc (dec l).1 = l.take (dec l).2 := by
  have a := dec_le l
  have b := dec_width l
  have s := search l (dec l).2 (by omega) b a
  have e := s.1.2 rfl
  rw [s.2 rfl]; exact e
theorem rval_append (l t : List UInt8) (k : Nat) (h1 : 1 ≤ k) (h4 : k ≤ 4) (hl : k ≤ l.length) : rval (l ++ t) k = rval l k := by
  have g : ∀ i, i < l.length → (l ++ t).getD i 0 = l.getD i 0 := fun i hi => by
    simp [List.getD, List.getElem?_append, hi]
  unfold rval
  rcases (show k = 1 ∨ k = 2 ∨ k = 3 ∨ k = 4 by omega) with rfl | rfl | rfl | rfl
  · rw [if_pos rfl, if_pos rfl, g 0 (by omega)]
  · rw [if_neg (by omega), if_pos rfl, if_neg (by omega), if_pos rfl, g 0 (by omega), g 1 (by omega)]
  · rw [if_neg (by omega), if_neg (by omega), if_pos rfl, if_neg (by omega), if_neg (by omega), if_pos rfl, g 0 (by omega), g 1 (by omega), g 2 (by omega)]
  · rw [if_neg (by omega), if_neg (by omega), if_neg (by omega), if_neg (by omega), if_neg (by omega), if_neg (by omega), g 0 (by omega), g 1 (by omega), g 2 (by omega), g 3 (by omega)]
theorem dec_append (l t : List UInt8) (h : (dec l).2 ≠ 0) : dec (l ++ t) = dec l := by
  have a := dec_le l
  have b := dec_width l
  have s := search l (dec l).2 (by omega) b a
  have s' := search (l ++ t) (dec l).2 (by omega) b (by simp; omega)
  rw [rval_append l t _ (by omega) b a, List.take_append_of_le_length a] at s'
  have e := s'.1.1 (s.1.2 rfl)
  exact Prod.ext (by rw [s'.2 e, s.2 rfl]) e
/-- A rune's encoding is decoded as that rune. -/
theorem dec_of_enc (r : Nat) (l t : List UInt8) (h : enc (r : Int) = l) (hl : l ≠ []) : dec (l ++ t) = (r, l.length) := by
  have hn := enc_toNat r
  rw [h] at hn
  have key : dec l = (r, l.length) := by
    have hlen : l.length = (encN r).length := by rw [← hn]; simp
    have hg : ∀ i, (l.getD i 0).toNat = (encN r).getD i 0 := fun i => by
      rw [← hn]; simp only [List.getD, List.getElem?_map]
      cases l[i]? <;> simp
    rw [dec_num l hl, hg 0, hg 1, hg 2, hg 3, hlen]
    have hne : 0 < (encN r).length := by rw [← hlen]; exact List.length_pos_iff.2 hl
    unfold encN at hne ⊢
    by_cases c1 : r < 128
    · simp only [if_pos c1, List.length_cons, List.length_nil, List.getD_cons_zero]
      rw [Lib.decodeN_ascii _ _ _ _ _ c1, if_neg (by simp; omega)]
    · by_cases c2 : r < 2048
      · simp only [if_neg c1, if_pos c2, List.length_cons, List.length_nil, List.getD_cons_zero, List.getD_cons_succ]
        rcases decN_cases (0 + 1 + 1) (192 + r / 64) (128 + r % 64) ([].getD 0 0) ([].getD 1 0) (by omega) (by omega) with ⟨hc, hh⟩ | ⟨hc, hh⟩ | ⟨hc, hh⟩ | ⟨hc, hh⟩ | ⟨hc, hh⟩
        · omega
        · rw [hc, if_neg (by simp)]; simp only [Prod.mk.injEq, and_true]; omega
        · omega
        · omega
        · omega
      · by_cases c3 : r < 55296 ∨ (57343 < r ∧ r < 65536)
        · simp only [if_neg c1, if_neg c2, if_pos c3, List.length_cons, List.length_nil, List.getD_cons_zero, List.getD_cons_succ]
          rcases decN_cases (0 + 1 + 1 + 1) (224 + r / 4096) (128 + r / 64 % 64) (128 + r % 64) ([].getD 0 0) (by omega) (by omega) with ⟨hc, hh⟩ | ⟨hc, hh⟩ | ⟨hc, hh⟩ | ⟨hc, hh⟩ | ⟨hc, hh⟩
          · omega
          · omega
          · rw [hc, if_neg (by simp)]; simp only [Prod.mk.injEq, and_true]; omega
          · omega
          · omega
        · by_cases c4 : 65535 < r ∧ r ≤ 1114111
          · simp only [if_neg c1, if_neg c2, if_neg c3, if_pos c4, List.length_cons, List.length_nil, List.getD_cons_zero, List.getD_cons_succ]
            rcases decN_cases (0 + 1 + 1 + 1 + 1) (240 + r / 262144) (128 + r / 4096 % 64) (128 + r / 64 % 64) (128 + r % 64) (by omega) (by omega) with ⟨hc, hh⟩ | ⟨hc, hh⟩ | ⟨hc, hh⟩ | ⟨hc, hh⟩ | ⟨hc, hh⟩
            · omega
            · omega
            · omega
            · rw [hc, if_neg (by simp)]; simp only [Prod.mk.injEq, and_true]; omega
            · omega
          · simp only [if_neg c1, if_neg c2, if_neg c3, if_neg c4, List.length_nil] at hne; omega
  rw [dec_append l t (by rw [key]; simpa using hl), key]
end Go.Proofs.YtbodoncomeegpaaGreatDoor.Txt
