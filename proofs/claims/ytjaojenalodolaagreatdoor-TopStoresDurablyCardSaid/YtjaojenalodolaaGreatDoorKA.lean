/- Parts of this proof, joined: Txt, Txt2, TxtW1, TxtW2, TxtW3, TxtW4, TxtW5, TxtW6, TxtW7, Bld, TxtW8, TxtW9. -/
import Derived.Lib.TrimUEq
import Derived.Lib.MapLaws
import Derived.Lib.ValidU
import Derived.Lib.RuneBytes
import Derived.Lib.QuoteLoop
import Derived.Lib.ValidLaws
import Derived.Test.YtjaojenalodolaaGreatDoorProg
import Derived.Test.YtjaojenalodolaaGreatDoorShelf
import Derived.WalkKit
import Derived.Outline
import Derived.Below
import Derived.OneCell
import Derived.Lib.Hide
import Derived.RegionTactic
import Derived.BigQuiet
import Derived.Deep.QuietTactic
import Derived.ChangeAlike
import Derived.Laws.Rows
import Derived.Deep.DeepCutAuto
import Derived.OwnWalk
import Derived.KernelRfl
import Derived.WalkSpells
import Derived.Laws.IdiomStrings
import Derived.Deep.RegionWith
import Derived.Lib.OthersKept
import Derived.Lib.Builder
import Derived.Lib.AppendStr
import Derived.Lib.UnsafeStr
import Derived.Laws.Externs
import Derived.Lib.BufferRead
/- Plain facts on bytes and runes: decoding one rune, the check of a text, names, collapsed white space. No program in sight. -/
namespace Go.Proofs.YtjaojenalodolaaGreatDoor.Txt
open Go
def dec (l : List UInt8) : Nat × Nat := if l = [] then (0, 0) else if Lib.decodeL l = (65533, 1) then (0, 0) else Lib.decodeL l
def enc (r : Int) : List UInt8 := if Lib.validRune r = true then Lib.encodeRune r else []
theorem dec_nil : dec [] = (0, 0) := rfl
theorem dec_cons_ne {l : List UInt8} (h : (dec l).2 ≠ 0) : l ≠ [] ∧ Lib.decodeL l ≠ (65533, 1) ∧ dec l = Lib.decodeL l := by
  unfold dec at h ⊢
  by_cases h1 : l = []
  · simp [h1] at h
  · by_cases h2 : Lib.decodeL l = (65533, 1)
    · simp [h1, h2] at h
    · exact ⟨h1, h2, by simp [h1, h2]⟩
theorem dec_zero {l : List UInt8} (h : (dec l).2 = 0) : dec l = (0, 0) := by
  unfold dec at h ⊢
  by_cases h1 : l = []
  · simp [h1]
  · by_cases h2 : Lib.decodeL l = (65533, 1)
    · simp [h1, h2]
    · simp [h1, h2] at h
      have := Lib.decodeL_width l
      omega
theorem dec_le (l : List UInt8) : (dec l).2 ≤ l.length := by
  by_cases h : (dec l).2 = 0
  · omega
  · obtain ⟨h1, _, h3⟩ := dec_cons_ne h
    rw [h3]; exact Lib.decodeL_le l h1
theorem dec_rune (l : List UInt8) : (dec l).1 ≤ 1114111 := by
  unfold dec; split
  · simp
  · split
    · simp
    · exact Lib.decodeL_rune l
theorem nth_lt (l : List UInt8) (i : Nat) : (l.getD i 0).toNat < 256 := UInt8.toNat_lt _
def rval (l : List UInt8) (k : Nat) : Nat :=
  if k = 1 then (l.getD 0 0).toNat
  else if k = 2 then (l.getD 0 0).toNat % 32 * 64 + (l.getD 1 0).toNat % 64
  else if k = 3 then ((l.getD 0 0).toNat % 16 * 64 + (l.getD 1 0).toNat % 64) * 64 + (l.getD 2 0).toNat % 64
  else (((l.getD 0 0).toNat % 8 * 64 + (l.getD 1 0).toNat % 64) * 64 + (l.getD 2 0).toNat % 64) * 64 + (l.getD 3 0).toNat % 64
def encN (r : Nat) : List Nat :=
  if r < 128 then [r] else if r < 2048 then [192 + r / 64, 128 + r % 64]
  else if r < 55296 ∨ (57343 < r ∧ r < 65536) then [224 + r / 4096, 128 + r / 64 % 64, 128 + r % 64]
  else if 65535 < r ∧ r ≤ 1114111 then [240 + r / 262144, 128 + r / 4096 % 64, 128 + r / 64 % 64, 128 + r % 64] else []
theorem toNat_u8 {x : Nat} (h : x < 256) : (x.toUInt8).toNat = x := by simp [Nat.toUInt8]; omega
theorem enc_toNat (r : Nat) : (enc (r : Int)).map UInt8.toNat = encN r := by
  unfold enc Lib.validRune Lib.encodeRune encN
  by_cases h1 : r < 128
  · rw [if_pos (by simp; omega), Lib.encodeRuneZ_one (by omega) (by omega), if_pos h1]
    simp only [List.map_cons, List.map_nil]
    rw [toNat_u8 (by omega)]; simp
  · rw [if_neg h1]
    by_cases h2 : r < 2048
    · rw [if_pos (by simp; omega), Lib.encodeRuneZ_two (by omega) (by omega), if_pos h2]
      simp only [List.map_cons, List.map_nil]
      rw [toNat_u8 (by omega), toNat_u8 (by omega)]
      simp only [List.cons.injEq, and_true]; omega
    · rw [if_neg h2]
      by_cases h3 : r < 55296 ∨ (57343 < r ∧ r < 65536)
      · rw [if_pos (by simp; omega), Lib.encodeRuneZ_three (by omega), if_pos h3]
        simp only [List.map_cons, List.map_nil]
        rw [toNat_u8 (by omega), toNat_u8 (by omega), toNat_u8 (by omega)]
        simp only [List.cons.injEq, and_true]; omega
      · rw [if_neg h3]
        by_cases h4 : 65535 < r ∧ r ≤ 1114111
        · rw [if_pos (by simp; omega), Lib.encodeRuneZ_four (by omega) (by omega), if_pos h4]
          simp only [List.map_cons, List.map_nil]
          rw [toNat_u8 (by omega), toNat_u8 (by omega), toNat_u8 (by omega), toNat_u8 (by omega)]
          simp only [List.cons.injEq, and_true]; omega
        · rw [if_neg h4, if_neg (by simp; omega)]; rfl
theorem map_toNat_inj {a b : List UInt8} (h : a.map UInt8.toNat = b.map UInt8.toNat) : a = b :=
  (List.map_inj_right (fun _ _ h => UInt8.toNat_inj.1 h)).1 h
theorem take_toNat (l : List UInt8) (k : Nat) (h : k ≤ l.length) : (l.take k).map UInt8.toNat = (List.range k).map fun i => (l.getD i 0).toNat := by
  apply List.ext_getElem
  · simp; omega
  · intro i h1 h2
    simp at h1 h2
    simp [List.getElem?_eq_getElem (show i < l.length by omega)]
theorem ltake1 (l : List UInt8) (h : 1 ≤ l.length) : (l.take 1).map UInt8.toNat = [(l.getD 0 0).toNat] := take_toNat l 1 h
theorem ltake2 (l : List UInt8) (h : 2 ≤ l.length) : (l.take 2).map UInt8.toNat = [(l.getD 0 0).toNat, (l.getD 1 0).toNat] := take_toNat l 2 h
theorem ltake3 (l : List UInt8) (h : 3 ≤ l.length) : (l.take 3).map UInt8.toNat = [(l.getD 0 0).toNat, (l.getD 1 0).toNat, (l.getD 2 0).toNat] := take_toNat l 3 h
theorem ltake4 (l : List UInt8) (h : 4 ≤ l.length) : (l.take 4).map UInt8.toNat = [(l.getD 0 0).toNat, (l.getD 1 0).toNat, (l.getD 2 0).toNat, (l.getD 3 0).toNat] := take_toNat l 4 h
theorem decN_cases (n b0 b1 b2 b3 : Nat) (h0 : b0 < 256) (h1 : b1 < 256) :
    (Lib.decodeN n b0 b1 b2 b3 = (b0, 1) ∧ b0 < 128) ∨
    (Lib.decodeN n b0 b1 b2 b3 = (b0 % 32 * 64 + b1 % 64, 2) ∧ 2 ≤ n ∧ 128 ≤ b0 % 32 * 64 + b1 % 64 ∧ b0 / 32 = 6 ∧ b1 / 64 = 2) ∨
    (Lib.decodeN n b0 b1 b2 b3 = (b0 % 16 * 4096 + b1 % 64 * 64 + b2 % 64, 3) ∧ 3 ≤ n ∧ 2048 ≤ b0 % 16 * 4096 + b1 % 64 * 64 + b2 % 64 ∧ (b0 % 16 * 4096 + b1 % 64 * 64 + b2 % 64 < 55296 ∨ 57343 < b0 % 16 * 4096 + b1 % 64 * 64 + b2 % 64) ∧ b0 / 16 = 14 ∧ b1 / 64 = 2 ∧ b2 / 64 = 2) ∨
    (Lib.decodeN n b0 b1 b2 b3 = (b0 % 8 * 262144 + b1 % 64 * 4096 + b2 % 64 * 64 + b3 % 64, 4) ∧ 4 ≤ n ∧ 65536 ≤ b0 % 8 * 262144 + b1 % 64 * 4096 + b2 % 64 * 64 + b3 % 64 ∧ b0 % 8 * 262144 + b1 % 64 * 4096 + b2 % 64 * 64 + b3 % 64 ≤ 1114111 ∧ b0 / 8 = 30 ∧ b1 / 64 = 2 ∧ b2 / 64 = 2 ∧ b3 / 64 = 2) ∨
    (Lib.decodeN n b0 b1 b2 b3 = (65533, 1) ∧ 128 ≤ b0 ∧ ¬ (2 ≤ n ∧ 128 ≤ b0 % 32 * 64 + b1 % 64 ∧ b0 / 32 = 6 ∧ b1 / 64 = 2) ∧
      ¬ (3 ≤ n ∧ 2048 ≤ b0 % 16 * 4096 + b1 % 64 * 64 + b2 % 64 ∧ (b0 % 16 * 4096 + b1 % 64 * 64 + b2 % 64 < 55296 ∨ 57343 < b0 % 16 * 4096 + b1 % 64 * 64 + b2 % 64) ∧ b0 / 16 = 14 ∧ b1 / 64 = 2 ∧ b2 / 64 = 2) ∧
      ¬ (4 ≤ n ∧ 65536 ≤ b0 % 8 * 262144 + b1 % 64 * 4096 + b2 % 64 * 64 + b3 % 64 ∧ b0 % 8 * 262144 + b1 % 64 * 4096 + b2 % 64 * 64 + b3 % 64 ≤ 1114111 ∧ b0 / 8 = 30 ∧ b1 / 64 = 2 ∧ b2 / 64 = 2 ∧ b3 / 64 = 2)) := by
  by_cases c1 : b0 < 128
  · left; exact ⟨Lib.decodeN_ascii _ _ _ _ _ c1, c1⟩
  · right
    unfold Lib.decodeN
    rw [if_neg c1]
    by_cases c2 : b0 / 32 = 6 ∧ (1 < n ∧ b1 / 64 = 2)
    · rw [if_pos c2]
      by_cases d2 : b0 % 32 * 64 + b1 % 64 ≥ 128
      · rw [if_pos d2]; left; exact ⟨rfl, by omega, d2, c2.1, c2.2.2⟩
      · rw [if_neg d2]; right; right; right; exact ⟨rfl, by omega, by omega, by omega, by omega⟩
    · rw [if_neg c2]
      by_cases c3 : b0 / 16 = 14 ∧ (1 < n ∧ b1 / 64 = 2) ∧ (2 < n ∧ b2 / 64 = 2)
      · rw [if_pos c3]
        by_cases d3 : b0 % 16 * 4096 + b1 % 64 * 64 + b2 % 64 ≥ 2048 ∧ (b0 % 16 * 4096 + b1 % 64 * 64 + b2 % 64 < 55296 ∨ (57344 ≤ b0 % 16 * 4096 + b1 % 64 * 64 + b2 % 64 ∧ b0 % 16 * 4096 + b1 % 64 * 64 + b2 % 64 ≤ 1114111))
        · rw [if_pos d3]; right; left; exact ⟨rfl, by omega, d3.1, by omega, c3.1, c3.2.1.2, c3.2.2.2⟩
        · rw [if_neg d3]; right; right; right; exact ⟨rfl, by omega, by omega, by omega, by omega⟩
      · rw [if_neg c3]
        by_cases c4 : b0 / 8 = 30 ∧ (1 < n ∧ b1 / 64 = 2) ∧ (2 < n ∧ b2 / 64 = 2) ∧ (3 < n ∧ b3 / 64 = 2)
        · rw [if_pos c4]
          by_cases d4 : b0 % 8 * 262144 + b1 % 64 * 4096 + b2 % 64 * 64 + b3 % 64 ≥ 65536 ∧ (b0 % 8 * 262144 + b1 % 64 * 4096 + b2 % 64 * 64 + b3 % 64 < 55296 ∨ (57344 ≤ b0 % 8 * 262144 + b1 % 64 * 4096 + b2 % 64 * 64 + b3 % 64 ∧ b0 % 8 * 262144 + b1 % 64 * 4096 + b2 % 64 * 64 + b3 % 64 ≤ 1114111))
          · rw [if_pos d4]; right; right; left; exact ⟨rfl, by omega, by omega, by omega, c4.1, c4.2.1.2, c4.2.2.1.2, c4.2.2.2.2⟩
          · rw [if_neg d4]; right; right; right; exact ⟨rfl, by omega, by omega, by omega, by omega⟩
        · rw [if_neg c4]; right; right; right; exact ⟨rfl, by omega, by omega, by omega, by omega⟩
theorem dec_num (l : List UInt8) (hne : l ≠ []) : dec l = if Lib.decodeN l.length (l.getD 0 0).toNat (l.getD 1 0).toNat (l.getD 2 0).toNat (l.getD 3 0).toNat = (65533, 1) then (0, 0) else Lib.decodeN l.length (l.getD 0 0).toNat (l.getD 1 0).toNat (l.getD 2 0).toNat (l.getD 3 0).toNat := by
  unfold dec; rw [if_neg hne, Lib.decodeL_N]
theorem encN_lens (r : Nat) : (encN r).length = if r < 128 then 1 else if r < 2048 then 2 else if r < 55296 ∨ (57343 < r ∧ r < 65536) then 3 else if 65535 < r ∧ r ≤ 1114111 then 4 else 0 := by
  unfold encN; repeat' split
  all_goals rfl
theorem encN_1 {r : Nat} (h : r < 128) : encN r = [r] := by unfold encN; rw [if_pos h]
theorem encN_2 {r : Nat} (h : 128 ≤ r) (h2 : r < 2048) : encN r = [192 + r / 64, 128 + r % 64] := by unfold encN; rw [if_neg (by omega), if_pos h2]
theorem encN_3 {r : Nat} (h : 2048 ≤ r) (h2 : r < 55296 ∨ (57343 < r ∧ r < 65536)) : encN r = [224 + r / 4096, 128 + r / 64 % 64, 128 + r % 64] := by
  unfold encN; rw [if_neg (by omega), if_neg (by omega), if_pos h2]
theorem encN_4 {r : Nat} (h : 65536 ≤ r) (h2 : r ≤ 1114111) : encN r = [240 + r / 262144, 128 + r / 4096 % 64, 128 + r / 64 % 64, 128 + r % 64] := by
  unfold encN; rw [if_neg (by omega), if_neg (by omega), if_neg (by omega), if_pos (by omega)]
theorem search_num (n b0 b1 b2 b3 r w : Nat) (h0 : b0 < 256) (h1 : b1 < 256) (h2 : b2 < 256)
    (hd : (if Lib.decodeN n b0 b1 b2 b3 = (65533, 1) then (0, 0) else Lib.decodeN n b0 b1 b2 b3) = (r, w)) :
    (w = 0 ∨ w = 1 ∨ w = 2 ∨ w = 3 ∨ w = 4) ∧
    (1 ≤ n → (encN b0 = [b0] ↔ w = 1) ∧ (w = 1 → r = b0)) ∧
    (2 ≤ n → (encN (b0 % 32 * 64 + b1 % 64) = [b0, b1] ↔ w = 2) ∧ (w = 2 → r = b0 % 32 * 64 + b1 % 64)) ∧
    (3 ≤ n → (encN ((b0 % 16 * 64 + b1 % 64) * 64 + b2 % 64) = [b0, b1, b2] ↔ w = 3) ∧ (w = 3 → r = (b0 % 16 * 64 + b1 % 64) * 64 + b2 % 64)) ∧
    (4 ≤ n → (encN (((b0 % 8 * 64 + b1 % 64) * 64 + b2 % 64) * 64 + b3 % 64) = [b0, b1, b2, b3] ↔ w = 4) ∧ (w = 4 → r = ((b0 % 8 * 64 + b1 % 64) * 64 + b2 % 64) * 64 + b3 % 64)) := by
  have e1 : encN b0 = [b0] ↔ b0 < 128 := by
    constructor
    · intro h
      have := congrArg List.length h
      rw [encN_lens] at this
      simp only [List.length_cons, List.length_nil] at this
      split at this <;> (try omega)
      split at this <;> omega
    · exact encN_1
  have e2 : encN (b0 % 32 * 64 + b1 % 64) = [b0, b1] ↔ (128 ≤ b0 % 32 * 64 + b1 % 64 ∧ b0 / 32 = 6 ∧ b1 / 64 = 2) := by
    by_cases c : 128 ≤ b0 % 32 * 64 + b1 % 64
    · rw [encN_2 c (by omega)]; simp only [List.cons.injEq, and_true]; omega
    · rw [encN_1 (by omega)]; simp; omega
  have e3 : encN ((b0 % 16 * 64 + b1 % 64) * 64 + b2 % 64) = [b0, b1, b2] ↔ (2048 ≤ b0 % 16 * 4096 + b1 % 64 * 64 + b2 % 64 ∧ (b0 % 16 * 4096 + b1 % 64 * 64 + b2 % 64 < 55296 ∨ 57343 < b0 % 16 * 4096 + b1 % 64 * 64 + b2 % 64) ∧ b0 / 16 = 14 ∧ b1 / 64 = 2 ∧ b2 / 64 = 2) := by
    generalize hr : (b0 % 16 * 64 + b1 % 64) * 64 + b2 % 64 = x
    have hx : b0 % 16 * 4096 + b1 % 64 * 64 + b2 % 64 = x := by omega
    rw [hx]
    by_cases c : 2048 ≤ x ∧ (x < 55296 ∨ 57343 < x)
    · rw [encN_3 c.1 (by omega)]; simp only [List.cons.injEq, and_true]; omega
    · constructor
      · intro h
        have := congrArg List.length h
        rw [encN_lens] at this
        simp only [List.length_cons, List.length_nil] at this
        repeat (split at this <;> (try omega))
      · intro h; omega
  have e4 : encN (((b0 % 8 * 64 + b1 % 64) * 64 + b2 % 64) * 64 + b3 % 64) = [b0, b1, b2, b3] ↔ (65536 ≤ b0 % 8 * 262144 + b1 % 64 * 4096 + b2 % 64 * 64 + b3 % 64 ∧ b0 % 8 * 262144 + b1 % 64 * 4096 + b2 % 64 * 64 + b3 % 64 ≤ 1114111 ∧ b0 / 8 = 30 ∧ b1 / 64 = 2 ∧ b2 / 64 = 2 ∧ b3 / 64 = 2) := by
    generalize hr : ((b0 % 8 * 64 + b1 % 64) * 64 + b2 % 64) * 64 + b3 % 64 = x
    have hx : b0 % 8 * 262144 + b1 % 64 * 4096 + b2 % 64 * 64 + b3 % 64 = x := by omega
    rw [hx]
    by_cases c : 65536 ≤ x ∧ x ≤ 1114111
    · rw [encN_4 c.1 c.2]; simp only [List.cons.injEq, and_true]; omega
    · constructor
      · intro h
        have := congrArg List.length h
        rw [encN_lens] at this
        simp only [List.length_cons, List.length_nil] at this
        repeat (split at this <;> (try omega))
      · intro h; omega
  rw [e1, e2, e3, e4]
  rcases decN_cases n b0 b1 b2 b3 h0 h1 with ⟨hc, hh⟩ | ⟨hc, hh⟩ | ⟨hc, hh⟩ | ⟨hc, hh⟩ | ⟨hc, hh⟩
  · rw [hc, if_neg (by simp; omega)] at hd
    simp only [Prod.mk.injEq] at hd
    obtain ⟨rfl, rfl⟩ := hd
    omega
  · rw [hc, if_neg (by simp)] at hd
    simp only [Prod.mk.injEq] at hd
    obtain ⟨rfl, rfl⟩ := hd
    omega
  · rw [hc, if_neg (by simp)] at hd
    simp only [Prod.mk.injEq] at hd
    obtain ⟨rfl, rfl⟩ := hd
    omega
  · rw [hc, if_neg (by simp)] at hd
    simp only [Prod.mk.injEq] at hd
    obtain ⟨rfl, rfl⟩ := hd
    omega
  · rw [hc, if_pos rfl] at hd
    simp only [Prod.mk.injEq] at hd
    obtain ⟨rfl, rfl⟩ := hd
    omega
theorem enc_iff (r : Nat) (l : List UInt8) (m : List Nat) (h : l.map UInt8.toNat = m) : enc (r : Int) = l ↔ encN r = m := by
  constructor
  · intro e; rw [← enc_toNat, e, h]
  · intro e; exact map_toNat_inj (by rw [enc_toNat, e, h])
theorem search (l : List UInt8) (k : Nat) (h1 : 1 ≤ k) (h4 : k ≤ 4) (hl : k ≤ l.length) : (enc (rval l k : Nat) = l.take k ↔ (dec l).2 = k) ∧ ((dec l).2 = k → (dec l).1 = rval l k) := by
  have hne : l ≠ [] := by intro e; simp [e] at hl; omega
  obtain ⟨_, s1, s2, s3, s4⟩ := search_num l.length _ _ _ _ (dec l).1 (dec l).2 (nth_lt l 0) (nth_lt l 1) (nth_lt l 2) (by rw [← dec_num l hne])
  rcases (show k = 1 ∨ k = 2 ∨ k = 3 ∨ k = 4 by omega) with rfl | rfl | rfl | rfl
  · rw [enc_iff _ _ _ (ltake1 l hl)]; exact s1 hl
  · rw [enc_iff _ _ _ (ltake2 l hl)]; exact s2 hl
  · rw [enc_iff _ _ _ (ltake3 l hl)]; exact s3 hl
  · rw [enc_iff _ _ _ (ltake4 l hl)]; exact s4 hl
theorem dec_width (l : List UInt8) : (dec l).2 ≤ 4 := by
  by_cases hne : l = []
  · subst hne; simp [dec_nil]
  · obtain ⟨h, _⟩ := search_num l.length _ _ _ _ (dec l).1 (dec l).2 (nth_lt l 0) (nth_lt l 1) (nth_lt l 2) (by rw [← dec_num l hne])
    omega
theorem enc_dec (l : List UInt8) (h : (dec l).2 ≠ 0) : enc (dec l).1 = l.take (dec l).2 := by
  have a := dec_le l
  have b := dec_width l
  have s := search l (dec l).2 (by omega) b a
  have e := s.1.2 rfl
  rw [s.2 rfl]; exact e
theorem rval_append (l t : List UInt8) (k : Nat) (h1 : 1 ≤ k) (h4 : k ≤ 4) (hl : k ≤ l.length) : rval (l ++ t) k = rval l k := by
  have g : ∀ i, i < l.length → (l ++ t).getD i 0 = l.getD i 0 := fun i hi => by
    simp [List.getD, List.getElem?_append, hi]
  unfold rval
  rcases (show k = 1 ∨ k = 2 ∨ k = 3 ∨ k = 4 by omega) with rfl | rfl | rfl | rfl
  · rw [if_pos rfl, if_pos rfl, g 0 (by omega)]
  · rw [if_neg (by omega), if_pos rfl, if_neg (by omega), if_pos rfl, g 0 (by omega), g 1 (by omega)]
  · rw [if_neg (by omega), if_neg (by omega), if_pos rfl, if_neg (by omega), if_neg (by omega), if_pos rfl, g 0 (by omega), g 1 (by omega), g 2 (by omega)]
  · rw [if_neg (by omega), if_neg (by omega), if_neg (by omega), if_neg (by omega), if_neg (by omega), if_neg (by omega), g 0 (by omega), g 1 (by omega), g 2 (by omega), g 3 (by omega)]
theorem dec_append (l t : List UInt8) (h : (dec l).2 ≠ 0) : dec (l ++ t) = dec l := by
  have a := dec_le l
  have b := dec_width l
  have s := search l (dec l).2 (by omega) b a
  have s' := search (l ++ t) (dec l).2 (by omega) b (by simp; omega)
  rw [rval_append l t _ (by omega) b a, List.take_append_of_le_length a] at s'
  have e := s'.1.1 (s.1.2 rfl)
  exact Prod.ext (by rw [s'.2 e, s.2 rfl]) e
theorem dec_of_enc (r : Nat) (l t : List UInt8) (h : enc (r : Int) = l) (hl : l ≠ []) : dec (l ++ t) = (r, l.length) := by
  have hn := enc_toNat r
  rw [h] at hn
  have key : dec l = (r, l.length) := by
    have hlen : l.length = (encN r).length := by rw [← hn]; simp
    have hg : ∀ i, (l.getD i 0).toNat = (encN r).getD i 0 := fun i => by
      rw [← hn]; simp only [List.getD, List.getElem?_map]
      cases l[i]? <;> simp
    rw [dec_num l hl, hg 0, hg 1, hg 2, hg 3, hlen]
    have hne : 0 < (encN r).length := by rw [← hlen]; exact List.length_pos_iff.2 hl
    unfold encN at hne ⊢
    by_cases c1 : r < 128
    · simp only [if_pos c1, List.length_cons, List.length_nil, List.getD_cons_zero]
      rw [Lib.decodeN_ascii _ _ _ _ _ c1, if_neg (by simp; omega)]
    · by_cases c2 : r < 2048
      · simp only [if_neg c1, if_pos c2, List.length_cons, List.length_nil, List.getD_cons_zero, List.getD_cons_succ]
        rcases decN_cases (0 + 1 + 1) (192 + r / 64) (128 + r % 64) ([].getD 0 0) ([].getD 1 0) (by omega) (by omega) with ⟨hc, hh⟩ | ⟨hc, hh⟩ | ⟨hc, hh⟩ | ⟨hc, hh⟩ | ⟨hc, hh⟩
        · omega
        · rw [hc, if_neg (by simp)]; simp only [Prod.mk.injEq, and_true]; omega
        · omega
        · omega
        · omega
      · by_cases c3 : r < 55296 ∨ (57343 < r ∧ r < 65536)
        · simp only [if_neg c1, if_neg c2, if_pos c3, List.length_cons, List.length_nil, List.getD_cons_zero, List.getD_cons_succ]
          rcases decN_cases (0 + 1 + 1 + 1) (224 + r / 4096) (128 + r / 64 % 64) (128 + r % 64) ([].getD 0 0) (by omega) (by omega) with ⟨hc, hh⟩ | ⟨hc, hh⟩ | ⟨hc, hh⟩ | ⟨hc, hh⟩ | ⟨hc, hh⟩
          · omega
          · omega
          · rw [hc, if_neg (by simp)]; simp only [Prod.mk.injEq, and_true]; omega
          · omega
          · omega
        · by_cases c4 : 65535 < r ∧ r ≤ 1114111
          · simp only [if_neg c1, if_neg c2, if_neg c3, if_pos c4, List.length_cons, List.length_nil, List.getD_cons_zero, List.getD_cons_succ]
            rcases decN_cases (0 + 1 + 1 + 1 + 1) (240 + r / 262144) (128 + r / 4096 % 64) (128 + r / 64 % 64) (128 + r % 64) (by omega) (by omega) with ⟨hc, hh⟩ | ⟨hc, hh⟩ | ⟨hc, hh⟩ | ⟨hc, hh⟩ | ⟨hc, hh⟩
            · omega
            · omega
            · omega
            · rw [hc, if_neg (by simp)]; simp only [Prod.mk.injEq, and_true]; omega
            · omega
          · simp only [if_neg c1, if_neg c2, if_neg c3, if_neg c4, List.length_nil] at hne; omega
  rw [dec_append l t (by rw [key]; simpa using hl), key]
end Go.Proofs.YtjaojenalodolaaGreatDoor.Txt
/- Plain facts on texts: the check, names, collapsed white space. No program in sight. -/
namespace Go.Proofs.YtjaojenalodolaaGreatDoor.Txt
open Go
def isCharB (r : Int) : Bool := decide (r = 9 ∨ r = 10 ∨ r = 13 ∨ (32 ≤ r ∧ r ≤ 55295) ∨ (57344 ≤ r ∧ r ≤ 65533) ∨ (65536 ≤ r ∧ r ≤ 1114111))
def startB (r : Int) : Bool := decide ((65 ≤ r ∧ r ≤ 90) ∨ r = 95 ∨ (97 ≤ r ∧ r ≤ 122) ∨ (192 ≤ r ∧ r ≤ 214) ∨ (216 ≤ r ∧ r ≤ 246) ∨ (248 ≤ r ∧ r ≤ 767) ∨ (880 ≤ r ∧ r ≤ 893) ∨ (895 ≤ r ∧ r ≤ 8191) ∨ (8204 ≤ r ∧ r ≤ 8205) ∨ (8304 ≤ r ∧ r ≤ 8591) ∨ (11264 ≤ r ∧ r ≤ 12271) ∨ (12289 ≤ r ∧ r ≤ 55295) ∨ (63744 ≤ r ∧ r ≤ 64975) ∨ (65008 ≤ r ∧ r ≤ 65533) ∨ (65536 ≤ r ∧ r ≤ 983039))
def moreB (r : Int) : Bool := decide ((45 ≤ r ∧ r ≤ 46) ∨ (48 ≤ r ∧ r ≤ 57) ∨ r = 183 ∨ (768 ≤ r ∧ r ≤ 879) ∨ (8255 ≤ r ∧ r ≤ 8256))
def nameB (r : Int) : Bool := moreB r || startB r
def spB (c : Int) : Bool := decide (c = 32 ∨ c = 9 ∨ c = 10 ∨ c = 13)
def startTab : List Int := [65, 90, 95, 95, 97, 122, 192, 214, 216, 246, 248, 767, 880, 893, 895, 8191, 8204, 8205, 8304, 8591, 11264, 12271, 12289, 55295, 63744, 64975, 65008, 65533, 65536, 983039]
def moreTab : List Int := [45, 46, 48, 57, 183, 183, 768, 879, 8255, 8256]
def chkN : Nat → List UInt8 → Nat × Int
  | 0, _ => (0, 0)
  | f + 1, l => if l = [] then (0, 0) else if (dec l).2 = 0 then (0, 5) else if isCharB (dec l).1 = false then (0, 6)
    else ((dec l).2 + (chkN f (l.drop (dec l).2)).1, (chkN f (l.drop (dec l).2)).2)
def chk (l : List UInt8) : Nat × Int := chkN l.length l
theorem chkN_fuel : ∀ (f g : Nat) (l : List UInt8), l.length ≤ f → l.length ≤ g → chkN f l = chkN g l
  | 0, g, l, hf, _ => by
    have : l = [] := List.eq_nil_of_length_eq_zero (by omega)
    subst this
    cases g <;> simp [chkN]
  | f + 1, 0, l, _, hg => by
    have : l = [] := List.eq_nil_of_length_eq_zero (by omega)
    subst this
    simp [chkN]
  | f + 1, g + 1, l, hf, hg => by
    unfold chkN
    by_cases h1 : l = []
    · simp [h1]
    · by_cases h2 : (dec l).2 = 0
      · simp [h1, h2]
      · rw [chkN_fuel f g (l.drop (dec l).2) (by rw [List.length_drop]; omega) (by rw [List.length_drop]; omega)]
theorem chk_nil : chk [] = (0, 0) := rfl
theorem chk_step (l : List UInt8) (h1 : l ≠ []) : chk l = if (dec l).2 = 0 then (0, 5) else if isCharB (dec l).1 = false then (0, 6) else ((dec l).2 + (chk (l.drop (dec l).2)).1, (chk (l.drop (dec l).2)).2) := by
  have hl : 0 < l.length := List.length_pos_iff.2 h1
  obtain ⟨n, hn⟩ : ∃ n, l.length = n + 1 := ⟨l.length - 1, by omega⟩
  by_cases h2 : (dec l).2 = 0
  · unfold chk; rw [hn]; simp [chkN, h1, h2]
  · unfold chk
    rw [hn]
    simp only [chkN]
    rw [if_neg h1, chkN_fuel n (l.drop (dec l).2).length _ (by rw [List.length_drop]; omega) (Nat.le_refl _)]
def nmN : Nat → Bool → List UInt8 → Bool
  | 0, _, _ => true
  | f + 1, first, l => if l = [] then true else if (dec l).2 = 0 then false else if nameB (dec l).1 = false then false else if first = true ∧ startB (dec l).1 = false then false else nmN f false (l.drop (dec l).2)
def nm (first : Bool) (l : List UInt8) : Bool := nmN l.length first l
def isNameB (l : List UInt8) : Bool := decide (l ≠ []) && nm true l
theorem dec_valid {l : List UInt8} (h1 : l ≠ []) (h : Lib.validD l = true) : (dec l).2 ≠ 0 ∧ dec l = Lib.decodeL l ∧ Lib.validD (l.drop (dec l).2) = true := by
  rw [Lib.validD_step l h1] at h
  by_cases c : (Lib.decodeL l).1 = 65533 ∧ (Lib.decodeL l).2 = 1
  · rw [if_pos c] at h; cases h
  · rw [if_neg c] at h
    have hd : dec l = Lib.decodeL l := by
      unfold dec; rw [if_neg h1, if_neg (fun e => c (by rw [e]; exact ⟨rfl, rfl⟩))]
    rw [hd]
    exact ⟨by have := Lib.decodeL_width l; omega, rfl, h⟩
theorem valid_of_dec {l : List UInt8} (h1 : (dec l).2 ≠ 0) : Lib.validD l = Lib.validD (l.drop (dec l).2) := by
  obtain ⟨a, b, c⟩ := dec_cons_ne h1
  rw [Lib.validD_step l a, c, if_neg (fun e => b (Prod.ext e.1 e.2))]
def sp (c : UInt8) : Bool := spB c.toNat
def cst (p : List UInt8 × Bool) (c : UInt8) : List UInt8 × Bool :=
  if sp c = true then (p.1, !p.1.isEmpty) else ((if p.2 = true then p.1 ++ [32] else p.1) ++ [c], false)
def cfold (l : List UInt8) : List UInt8 × Bool := l.foldl cst ([], false)
def collapse (l : List UInt8) : List UInt8 := (cfold l).1
def col : List UInt8 → Bool → Bool → List UInt8
  | [], _, _ => []
  | c :: l, ne, g => if sp c = true then col l ne ne else if g = true then 32 :: c :: col l true false else c :: col l true false
theorem cst_sp {c : UInt8} (h : sp c = true) (o : List UInt8) (g : Bool) : cst (o, g) c = (o, !o.isEmpty) := by unfold cst; rw [if_pos h]
theorem cst_no {c : UInt8} (h : sp c = false) (o : List UInt8) (g : Bool) : cst (o, g) c = ((if g = true then o ++ [32] else o) ++ [c], false) := by unfold cst; rw [if_neg (by simp [h])]
theorem fold_gap (l : List UInt8) (c : UInt8) : (cfold (l ++ [c])).2 = (sp c && !(cfold l).1.isEmpty) := by
  unfold cfold
  rw [List.foldl_append]
  simp only [List.foldl_cons, List.foldl_nil]
  cases h : sp c
  · rw [show List.foldl cst ([], false) l = ((List.foldl cst ([], false) l).1, (List.foldl cst ([], false) l).2) from rfl, cst_no h]; simp
  · rw [show List.foldl cst ([], false) l = ((List.foldl cst ([], false) l).1, (List.foldl cst ([], false) l).2) from rfl, cst_sp h]; simp
theorem cfold_snoc (l : List UInt8) (c : UInt8) : cfold (l ++ [c]) = cst (cfold l) c := by
  unfold cfold; rw [List.foldl_append]; rfl
def join (a b : List UInt8) : List UInt8 := if a = [] then b else if b = [] then a else a ++ 32 :: b
theorem cfold_length (l : List UInt8) : (cfold l).1.length ≤ l.length + 1 ∧ ((cfold l).2 = true → (cfold l).1.length < l.length) ∧ (cfold l).1.length ≤ l.length := by
  suffices h : ∀ (n : Nat) (l : List UInt8), l.length = n → ((cfold l).1.length ≤ l.length ∧ ((cfold l).2 = true → (cfold l).1.length < l.length)) from
    ⟨by have := (h _ l rfl).1; omega, (h _ l rfl).2, (h _ l rfl).1⟩
  intro n
  induction n with
  | zero =>
    intro l h
    have : l = [] := List.eq_nil_of_length_eq_zero h
    subst this; simp [cfold]
  | succ n ih =>
    intro l h
    obtain ⟨m, c, rfl⟩ : ∃ m c, l = m ++ [c] := by
      rcases List.eq_nil_or_concat l with e | ⟨m, c, e⟩
      · subst e; simp at h
      · exact ⟨m, c, by simpa using e⟩
    obtain ⟨i1, i2⟩ := ih m (by simpa using h)
    rw [cfold_snoc]
    unfold cst
    cases hs : sp c
    · simp only [Bool.false_eq_true, if_false]
      by_cases hg : (cfold m).2 = true
      · have := i2 hg
        simp [hg]; omega
      · simp [hg]; omega
    · simp only [if_true, List.length_append, List.length_cons, List.length_nil]
      exact ⟨by omega, fun _ => by omega⟩
end Go.Proofs.YtjaojenalodolaaGreatDoor.Txt
namespace Go.Proofs.YtjaojenalodolaaGreatDoor.Tx
open Go Go.RowKit Go.Proofs.YtjaojenalodolaaGreatDoor
theorem ret_bool {a b : Bool} (h : a = b) : Ending.returned (.bool a) = .returned (.bool b) := by rw [h]
theorem ret_int {k : IntKind} {a b : Int} (h : a = b) : Ending.returned (.int k a) = .returned (.int k b) := by rw [h]
theorem charB_t {r : Int} (h : r = 9 ∨ r = 10 ∨ r = 13 ∨ (32 ≤ r ∧ r ≤ 55295) ∨ (57344 ≤ r ∧ r ≤ 65533) ∨ (65536 ≤ r ∧ r ≤ 1114111)) : Txt.isCharB r = true := decide_eq_true h
theorem charB_f {r : Int} (h : ¬ (r = 9 ∨ r = 10 ∨ r = 13 ∨ (32 ≤ r ∧ r ≤ 55295) ∨ (57344 ≤ r ∧ r ≤ 65533) ∨ (65536 ≤ r ∧ r ≤ 1114111))) : Txt.isCharB r = false := decide_eq_false h
theorem spB_t {c : Int} (h : c = 32 ∨ c = 9 ∨ c = 10 ∨ c = 13) : Txt.spB c = true := decide_eq_true h
theorem spB_f {c : Int} (h : ¬ (c = 32 ∨ c = 9 ∨ c = 10 ∨ c = 13)) : Txt.spB c = false := decide_eq_false h
theorem vr_t {r : Int} (h : (0 ≤ r ∧ r < 0xD800) ∨ (0xDFFF < r ∧ r ≤ 0x10FFFF)) : Lib.validRune r = true := decide_eq_true h
theorem vr_f {r : Int} (h : ¬ ((0 ≤ r ∧ r < 0xD800) ∨ (0xDFFF < r ∧ r ≤ 0x10FFFF))) : Lib.validRune r = false := decide_eq_false h
theorem space_any (c : Int) (w : World) :
    Calls Tryz.prog 147 #[.int .u8 c] w fun e w' => e = .returned (.bool (Txt.spB c)) ∧ w = w' := by
  rcases h1 : (c == 32) with _ | _ <;> rcases h2 : (c == 9) with _ | _ <;> rcases h3 : (c == 10) with _ | _ <;> rcases h4 : (c == 13) with _ | _
  all_goals
    have g1 := h1
    have g2 := h2
    have g3 := h3
    have g4 := h4
    simp at g1 g2 g3 g4
  all_goals try (exfalso; omega)
  all_goals
    first | (have H := Lib.hid (spB_t (c := c) (by omega))) | (have H := Lib.hid (spB_f (c := c) (by omega)))
    clear g1 g2 g3 g4
    go_enter Tryz.func147, Tryz.ntmps147
    go_wp2
    go_ret
    first | exact ⟨ret_bool H.out.symm, rfl⟩ | exact ⟨ret_bool (by rw [H.out]; simp; omega), rfl⟩
theorem rspace_any (c : Int) (w : World) :
    Calls Tryz.prog 107 #[.int .u8 c] w fun e w' => e = .returned (.bool (Txt.spB c)) ∧ w = w' := by
  rcases h1 : (c == 32) with _ | _ <;> rcases h2 : (c == 9) with _ | _ <;> rcases h3 : (c == 10) with _ | _ <;> rcases h4 : (c == 13) with _ | _
  all_goals
    have g1 := h1
    have g2 := h2
    have g3 := h3
    have g4 := h4
    simp at g1 g2 g3 g4
  all_goals try (exfalso; omega)
  all_goals
    first | (have H := Lib.hid (spB_t (c := c) (by omega))) | (have H := Lib.hid (spB_f (c := c) (by omega)))
    clear g1 g2 g3 g4
    go_enter Tryz.func107, Tryz.ntmps107
    go_wp2
    go_ret
    first | exact ⟨ret_bool H.out.symm, rfl⟩ | exact ⟨ret_bool (by rw [H.out]; simp; omega), rfl⟩
set_option maxHeartbeats 4000000 in
theorem rchar_any (r : Int) (w : World) :
    Calls Tryz.prog 106 #[.int .i64 r] w fun e w' => e = .returned (.bool (Txt.isCharB r)) ∧ w = w' := by
  have hr : r < 9 ∨ r = 9 ∨ r = 10 ∨ (11 ≤ r ∧ r ≤ 12) ∨ r = 13 ∨ (14 ≤ r ∧ r ≤ 31) ∨ (32 ≤ r ∧ r ≤ 55295) ∨ (55296 ≤ r ∧ r ≤ 57343) ∨ (57344 ≤ r ∧ r ≤ 65533) ∨ (65534 ≤ r ∧ r ≤ 65535) ∨ (65536 ≤ r ∧ r ≤ 1114111) ∨ 1114112 ≤ r := by omega
  have ht := @charB_t r
  have hf := @charB_f r
  rcases hr with h | rfl | rfl | ⟨h, h'⟩ | rfl | ⟨h, h'⟩ | ⟨h, h'⟩ | ⟨h, h'⟩ | ⟨h, h'⟩ | ⟨h, h'⟩ | ⟨h, h'⟩ | h
  all_goals
    first | (have H := Lib.hid (ht (by omega))) | (have H := Lib.hid (hf (by omega)))
    clear ht hf
    go_enter Tryz.func106, Tryz.ntmps106
    go_wp2
    go_ret
    first | exact ⟨ret_bool H.out.symm, rfl⟩ | exact ⟨ret_bool (by rw [H.out]; simp; omega), rfl⟩
set_option maxHeartbeats 4000000 in
theorem char_any (r : Int) (w : World) :
    Calls Tryz.prog 213 #[.int .i32 r] w fun e w' => e = .returned (.bool (Txt.isCharB r)) ∧ w = w' := by
  have hr : r < 0 ∨ (0 ≤ r ∧ r ≤ 8) ∨ r = 9 ∨ r = 10 ∨ (11 ≤ r ∧ r ≤ 12) ∨ r = 13 ∨ (14 ≤ r ∧ r ≤ 31) ∨ (32 ≤ r ∧ r ≤ 55295) ∨ (55296 ≤ r ∧ r ≤ 57343) ∨ (57344 ≤ r ∧ r ≤ 65533) ∨ r = 65534 ∨ r = 65535 ∨ (65536 ≤ r ∧ r ≤ 1114111) ∨ 1114112 ≤ r := by omega
  have ht := @charB_t r
  have hf := @charB_f r
  have vt := @vr_t r
  have vf := @vr_f r
  rcases hr with h | ⟨h, h'⟩ | rfl | rfl | ⟨h, h'⟩ | rfl | ⟨h, h'⟩ | ⟨h, h'⟩ | ⟨h, h'⟩ | ⟨h, h'⟩ | rfl | rfl | ⟨h, h'⟩ | h
  all_goals
    first | (have H := Lib.hid (ht (by omega))) | (have H := Lib.hid (hf (by omega)))
    first | (have V := vt (by omega)) | (have V := vf (by omega))
    clear ht hf vt vf
    go_enter Tryz.func213, Tryz.ntmps213
    go_wp2_with (go_at_call 180; refine (Tryz.utf8_ValidRune _ _).mono ?_; rintro e w' ⟨rfl, rfl⟩)
    go_ret
    first | exact ⟨ret_bool H.out.symm, rfl⟩ | exact ⟨ret_bool (by rw [H.out]; simp; omega), rfl⟩
end Go.Proofs.YtjaojenalodolaaGreatDoor.Tx
namespace Go.Proofs.YtjaojenalodolaaGreatDoor.Tx
open Go Go.RowKit Go.Proofs.YtjaojenalodolaaGreatDoor
def letB (r : Int) : Bool := decide ((65 ≤ r ∧ r ≤ 90) ∨ (97 ≤ r ∧ r ≤ 122) ∨ r = 95)
def lowB (r : Int) : Bool := decide ((192 ≤ r ∧ r ≤ 767 ∧ r ≠ 215 ∧ r ≠ 247) ∨ (880 ≤ r ∧ r ≤ 8191 ∧ r ≠ 894))
def midB (r : Int) : Bool := decide (r = 8204 ∨ r = 8205 ∨ (8304 ≤ r ∧ r ≤ 8591) ∨ (11264 ≤ r ∧ r ≤ 12271) ∨ (12289 ≤ r ∧ r ≤ 55295))
def higB (r : Int) : Bool := decide ((63744 ≤ r ∧ r ≤ 64975) ∨ (65008 ≤ r ∧ r ≤ 65533) ∨ (65536 ≤ r ∧ r ≤ 983039))
end Go.Proofs.YtjaojenalodolaaGreatDoor.Tx
namespace Go.Proofs.YtjaojenalodolaaGreatDoor.Tx
open Go Go.RowKit Go.Proofs.YtjaojenalodolaaGreatDoor
def startArr : Array Value := (Txt.startTab.map fun z => Value.int .i32 z).toArray
def moreArr : Array Value := (Txt.moreTab.map fun z => Value.int .i32 z).toArray
def sLo (i : Nat) : Int := Txt.startTab.getD (2 * i) 0
def sHi (i : Nat) : Int := Txt.startTab.getD (2 * i + 1) 0
def mLo (i : Nat) : Int := Txt.moreTab.getD (2 * i) 0
def mHi (i : Nat) : Int := Txt.moreTab.getD (2 * i + 1) 0
theorem new_block (w : World) (o : Obj) : (w.alloc o).heap[w.heap.size]? = some o := by
  show (w.heap.push o)[w.heap.size]? = _
  rw [Array.getElem?_push, if_pos rfl]
theorem heap_below {w w' : World} {g : Nat} {o : Obj} (hb : Below w.heap.size w w') (h : w.heap[g]? = some o) : w'.heap[g]? = some o := by
  rw [hb.block g (lt_of_block h)]; exact h
theorem lt_of_cell {w : World} {a : Addr} {v : Value} (h : w.cell? a = some v) : a.block < w.heap.size := by
  unfold World.cell? at h
  cases e : w.heap[a.block]? with
  | none => rw [e] at h; simp at h
  | some o => exact lt_of_block e
theorem u8_below {w w' : World} {g3 g4 : Nat} (h : Lib.Utf8Tabs g3 g4 w) (hb : Below w.heap.size w w') : Lib.Utf8Tabs g3 g4 w' := by
  refine ⟨fun c hc => ?_, fun i hi => ⟨?_, ?_⟩⟩
  · have := h.1 c hc; rw [hb.cell (lt_of_cell this)]; exact this
  · have := (h.2 i hi).1; rw [hb.cell (lt_of_cell this)]; exact this
  · have := (h.2 i hi).2; rw [hb.cell (lt_of_cell this)]; exact this
theorem below_trans {a b c : World} (h : Below a.heap.size a b) (k : Below b.heap.size b c) : Below a.heap.size a c := h.trans (k.mono h.size)
def NoS (r : Int) (k : Nat) : Prop := ∀ i, i < k → r < sLo i ∨ sHi i < r
def NoM (r : Int) (k : Nat) : Prop := ∀ i, i < k → r < mLo i ∨ mHi i < r
end Go.Proofs.YtjaojenalodolaaGreatDoor.Tx
namespace Go.Proofs.YtjaojenalodolaaGreatDoor.Tx
open Go Go.RowKit Go.Proofs.YtjaojenalodolaaGreatDoor
theorem decodeGo_drop (s : ByteArray) (k : Nat) (h : k < s.size) : Lib.decodeGo (s.extract k s.size) = Lib.decodeL (s.data.toList.drop k) := by
  have e : (s.extract k s.size).data.toList = s.data.toList.drop k := Lib.extract_to_end s k
  have hs : (s.extract k s.size).size ≠ 0 := by simp; omega
  unfold Lib.decodeGo
  rw [if_neg hs, ← e]
  rfl
theorem drop_ne {s : ByteArray} {k : Nat} (h : k < s.size) : s.data.toList.drop k ≠ [] := by
  intro e
  have := congrArg List.length e
  simp at this
  have : s.data.size = s.size := rfl
  omega
set_option maxHeartbeats 1000000 in
theorem decode_in (s : ByteArray) (k : Nat) (w : World) (h : k < s.size) (hT : Lib.Utf8Tabs 2 3 w) :
    Calls Tryz.prog 194 #[.string s, .int .i64 k] w fun e w' => e = .returned (.tuple #[.int .i32 (Txt.dec (s.data.toList.drop k)).1, .int .i64 (Txt.dec (s.data.toList.drop k)).2]) ∧ Below w.heap.size w w' := by
  have hc := Tryz.utf8_DecodeRuneInString (s.extract k s.size) w hT
  rw [decodeGo_drop s k h] at hc
  have hne := drop_ne h
  obtain ⟨R, hR⟩ : ∃ R, (Lib.decodeL (s.data.toList.drop k)).1 = R := ⟨_, rfl⟩
  obtain ⟨M, hM⟩ : ∃ M, (Lib.decodeL (s.data.toList.drop k)).2 = M := ⟨_, rfl⟩
  have hp : Lib.decodeL (s.data.toList.drop k) = (R, M) := Prod.ext hR hM
  rw [hR, hM] at hc
  by_cases hb : R = 65533 ∧ M = 1
  · obtain ⟨rfl, rfl⟩ := hb
    have hd : Txt.dec (s.data.toList.drop k) = (0, 0) := by unfold Txt.dec; rw [if_neg hne, if_pos hp]
    rw [hd]
    have HC := Lib.hid hc
    clear hc hR hM hp hd hne
    go_enter Tryz.func194, Tryz.ntmps194
    go_wp2_with fail
    refine (HC.out).mono ?_
    rintro e w1 ⟨rfl, hb⟩
    have HB := Lib.hid hb
    clear hb
    go_wp2_with fail
    go_ret2
    exact ⟨rfl, HB.out⟩
  · have hd : Txt.dec (s.data.toList.drop k) = (R, M) := by
      unfold Txt.dec; rw [if_neg hne, hp, if_neg (by simp only [Prod.mk.injEq]; exact hb)]
    rw [hd]
    have HC := Lib.hid hc
    clear hc hR hM hp hd hne
    by_cases h1 : R = 65533
    · subst h1
      have h2 : ((M : Int) == 1) = false := by simp; omega
      clear hb
      go_enter Tryz.func194, Tryz.ntmps194
      go_wp2_with fail
      refine (HC.out).mono ?_
      rintro e w1 ⟨rfl, hb⟩
      have HB := Lib.hid hb
      clear hb
      go_wp2_with fail
      go_ret2
      exact ⟨rfl, HB.out⟩
    · have h2 : ((R : Int) == 65533) = false := by simp; omega
      clear hb h1
      go_enter Tryz.func194, Tryz.ntmps194
      go_wp2_with fail
      refine (HC.out).mono ?_
      rintro e w1 ⟨rfl, hb⟩
      have HB := Lib.hid hb
      clear hb
      go_wp2_with fail
      go_ret2
      exact ⟨rfl, HB.out⟩
theorem encode_bad (r : Int) (w : World) (h : r < 0 ∨ 1114111 < r ∨ (55296 ≤ r ∧ r ≤ 57343)) :
    Calls Tryz.prog 153 #[.int .i64 r] w fun e w' => e = .returned (.string ⟨#[]⟩) ∧ Below w.heap.size w w' := by
  rcases h with h | h | ⟨h, h'⟩
  all_goals
    go_enter Tryz.func153, Tryz.ntmps153
    go_wp2
    go_ret
    exact ⟨rfl, Below.refl _ _⟩
theorem conv_new (w : World) (xs : List Int) (n : Nat) (hn : xs.length = n) :
    (convert 74 9 (.slice (some ⟨w.heap.size, 0, none⟩) n n)).run Tryz.prog (w.alloc (.cells (xs.map (Value.int .u8)).toArray 5)) = .ok (.string (strOfNums xs)) (w.alloc (.cells (xs.map (Value.int .u8)).toArray 5)) :=
  run_convert_bytes_arg (P := Tryz.prog) _ 74 5 Tryz.underlying74 Tryz.underlying5 w.heap.size 0 n n xs hn (fun i hi => by
    have h2 := new_block w (.cells (xs.map (Value.int .u8)).toArray 5)
    unfold World.cell?
    simp only [h2]
    simp [List.getElem?_eq_getElem (show i < xs.length by omega)]) 9 Tryz.underlying9
theorem enc_nums {r : Int} {xs : List Int} (hv : Lib.validRune r = true) (h : Lib.encodeRuneZ r = xs) : strOfNums xs = ⟨(Txt.enc r).toArray⟩ := by
  unfold Txt.enc Lib.encodeRune; rw [if_pos hv, h]; rfl
theorem enc_bad {r : Int} (h : Lib.validRune r = false) : Txt.enc r = [] := by unfold Txt.enc; simp [h]
theorem ret_str {a b : ByteArray} (h : a = b) : Ending.returned (.string a) = .returned (.string b) := by rw [h]
set_option maxRecDepth 100000
theorem encode_1 (r : Int) (w : World) (h : 0 ≤ r) (h' : r < 128) :
    Calls Tryz.prog 153 #[.int .i64 r] w fun e w' => e = .returned (.string ⟨(Txt.enc r).toArray⟩) ∧ Below w.heap.size w w' := by
  have hcv : (convert 74 9 (.slice (some ⟨w.heap.size, 0, none⟩) 1 1)).run Tryz.prog (w.alloc (.cells #[.int .u8 (r)] 5)) = _ := conv_new w [r] 1 rfl
  have HE := Lib.hid (enc_nums (r := r) (vr_t (by omega)) (Lib.encodeRuneZ_one (by omega) (by omega)))
  go_enter Tryz.func153, Tryz.ntmps153
  go_wp2
  go_ret
  exact ⟨ret_str HE.out, (Below.refl _ _).alloc (Nat.le_refl _) _⟩
theorem encode_2 (r : Int) (w : World) (h : 128 ≤ r) (h' : r < 2048) :
    Calls Tryz.prog 153 #[.int .i64 r] w fun e w' => e = .returned (.string ⟨(Txt.enc r).toArray⟩) ∧ Below w.heap.size w w' := by
  have hcv : (convert 74 9 (.slice (some ⟨w.heap.size, 0, none⟩) 2 2)).run Tryz.prog (w.alloc (.cells #[.int .u8 (192 + r / 64), .int .u8 (128 + r % 64)] 5)) = _ := conv_new w [192 + r / 64, 128 + r % 64] 2 rfl
  have HE := Lib.hid (enc_nums (r := r) (vr_t (by omega)) (Lib.encodeRuneZ_two (by omega) (by omega)))
  go_enter Tryz.func153, Tryz.ntmps153
  go_wp2
  go_ret
  exact ⟨ret_str HE.out, (Below.refl _ _).alloc (Nat.le_refl _) _⟩
theorem encode_3a (r : Int) (w : World) (h : 2048 ≤ r) (h' : r < 55296) :
    Calls Tryz.prog 153 #[.int .i64 r] w fun e w' => e = .returned (.string ⟨(Txt.enc r).toArray⟩) ∧ Below w.heap.size w w' := by
  have hcv : (convert 74 9 (.slice (some ⟨w.heap.size, 0, none⟩) 3 3)).run Tryz.prog (w.alloc (.cells #[.int .u8 (224 + r / 4096), .int .u8 (128 + r / 64 % 64), .int .u8 (128 + r % 64)] 5)) = _ := conv_new w [224 + r / 4096, 128 + r / 64 % 64, 128 + r % 64] 3 rfl
  have HE := Lib.hid (enc_nums (r := r) (vr_t (by omega)) (Lib.encodeRuneZ_three (by omega)))
  go_enter Tryz.func153, Tryz.ntmps153
  go_wp2
  go_ret
  exact ⟨ret_str HE.out, (Below.refl _ _).alloc (Nat.le_refl _) _⟩
theorem encode_3b (r : Int) (w : World) (h : 57343 < r) (h' : r < 65536) :
    Calls Tryz.prog 153 #[.int .i64 r] w fun e w' => e = .returned (.string ⟨(Txt.enc r).toArray⟩) ∧ Below w.heap.size w w' := by
  have hcv : (convert 74 9 (.slice (some ⟨w.heap.size, 0, none⟩) 3 3)).run Tryz.prog (w.alloc (.cells #[.int .u8 (224 + r / 4096), .int .u8 (128 + r / 64 % 64), .int .u8 (128 + r % 64)] 5)) = _ := conv_new w [224 + r / 4096, 128 + r / 64 % 64, 128 + r % 64] 3 rfl
  have HE := Lib.hid (enc_nums (r := r) (vr_t (by omega)) (Lib.encodeRuneZ_three (by omega)))
  go_enter Tryz.func153, Tryz.ntmps153
  go_wp2
  go_ret
  exact ⟨ret_str HE.out, (Below.refl _ _).alloc (Nat.le_refl _) _⟩
theorem encode_4 (r : Int) (w : World) (h : 65536 ≤ r) (h' : r ≤ 1114111) :
    Calls Tryz.prog 153 #[.int .i64 r] w fun e w' => e = .returned (.string ⟨(Txt.enc r).toArray⟩) ∧ Below w.heap.size w w' := by
  have hcv : (convert 74 9 (.slice (some ⟨w.heap.size, 0, none⟩) 4 4)).run Tryz.prog (w.alloc (.cells #[.int .u8 (240 + r / 262144), .int .u8 (128 + r / 4096 % 64), .int .u8 (128 + r / 64 % 64), .int .u8 (128 + r % 64)] 5)) = _ := conv_new w [240 + r / 262144, 128 + r / 4096 % 64, 128 + r / 64 % 64, 128 + r % 64] 4 rfl
  have HE := Lib.hid (enc_nums (r := r) (vr_t (by omega)) (Lib.encodeRuneZ_four (by omega) (by omega)))
  go_enter Tryz.func153, Tryz.ntmps153
  go_wp2
  go_ret
  exact ⟨ret_str HE.out, (Below.refl _ _).alloc (Nat.le_refl _) _⟩
theorem encode_any (r : Int) (w : World) :
    Calls Tryz.prog 153 #[.int .i64 r] w fun e w' => e = .returned (.string ⟨(Txt.enc r).toArray⟩) ∧ Below w.heap.size w w' := by
  by_cases h0 : r < 0 ∨ 1114111 < r ∨ (55296 ≤ r ∧ r ≤ 57343)
  · have e : Txt.enc r = [] := enc_bad (vr_f (by omega))
    rw [e]
    exact encode_bad r w h0
  · by_cases h1 : r < 128
    · exact encode_1 r w (by omega) h1
    · by_cases h2 : r < 2048
      · exact encode_2 r w (by omega) h2
      · by_cases h3 : r < 55296
        · exact encode_3a r w (by omega) h3
        · by_cases h4 : r < 65536
          · exact encode_3b r w (by omega) h4
          · exact encode_4 r w (by omega) (by omega)
end Go.Proofs.YtjaojenalodolaaGreatDoor.Tx
namespace Go.Proofs.YtjaojenalodolaaGreatDoor.Tx
open Go Go.RowKit Go.Proofs.YtjaojenalodolaaGreatDoor
def rp (l : List UInt8) (n : Nat) : Nat → Nat
  | 0 => if n = 2 then (l.getD 0 0).toNat % 32 else if n = 3 then (l.getD 0 0).toNat % 16 else if n = 4 then (l.getD 0 0).toNat % 8 else (l.getD 0 0).toNat
  | i + 1 => rp l n i * 64 + (l.getD (i + 1) 0).toNat % 64
theorem rp_succ (l : List UInt8) (n i : Nat) : rp l n (i + 1) = rp l n i * 64 + (l.getD (i + 1) 0).toNat % 64 := rfl
theorem rp_bd (l : List UInt8) (n i : Nat) (h : i ≤ 3) : rp l n i ≤ 67108863 := by
  have h0 : rp l n 0 ≤ 255 := by
    have := Txt.nth_lt l 0
    unfold rp
    split
    · omega
    · split
      · omega
      · split <;> omega
  have h1 : rp l n 1 ≤ 16383 := by rw [rp_succ]; omega
  have h2 : rp l n 2 ≤ 1048575 := by rw [rp_succ]; omega
  have h3 : rp l n 3 ≤ 67108863 := by rw [rp_succ]; omega
  rcases (show i = 0 ∨ i = 1 ∨ i = 2 ∨ i = 3 by omega) with rfl | rfl | rfl | rfl <;> omega
theorem rp_val (l : List UInt8) (n : Nat) (h : 1 ≤ n) (h4 : n ≤ 4) : rp l n (n - 1) = Txt.rval l n := by
  rcases (show n = 1 ∨ n = 2 ∨ n = 3 ∨ n = 4 by omega) with rfl | rfl | rfl | rfl <;> simp [rp, Txt.rval]
theorem byte_drop (s : ByteArray) (k i : Nat) (h : k + i < s.size) : ((s.data.toList.drop k).getD i 0).toNat = (s[k + i]'h).toNat := by
  have h' : k + i < s.data.toList.length := by simpa using h
  rw [List.getD_eq_getElem?_getD, List.getElem?_drop, List.getElem?_eq_getElem h']
  rfl
theorem cmp_eq (s : ByteArray) (k n : Nat) (L : List UInt8) (hL : L = s.data.toList.drop k) (h1 : 1 ≤ n) (h4 : n ≤ 4) (hl : n ≤ L.length) :
    (Txt.enc ((rp L n (n - 1) : Nat) : Int) == (s.extract k (k + n)).toList) = decide ((Txt.dec L).2 = n) := by
  rw [Lib.toList_data, Lib.extract_data, ← hL, Nat.add_sub_cancel_left, rp_val L n h1 h4, Bool.eq_iff_iff]
  simp only [beq_iff_eq, decide_eq_true_eq]
  exact (Txt.search L n h1 h4 hl).1
theorem ret_two {k l : IntKind} {a b c d : Int} (h : a = b) (g : c = d) : Ending.returned (.tuple #[.int k a, .int l c]) = .returned (.tuple #[.int k b, .int l d]) := by rw [h, g]
set_option maxRecDepth 100000 in
set_option maxHeartbeats 2000000 in
theorem rdecode_in (s : ByteArray) (k : Nat) (w : World) (h : k < s.size) (hs : s.size ≤ 9223372036854775807) :
    Calls Tryz.prog 105 #[.string s, .int .i64 k] w fun e w' => e = .returned (.tuple #[.int .i64 (Txt.dec (s.data.toList.drop k)).1, .int .i64 (Txt.dec (s.data.toList.drop k)).2]) ∧ Below w.heap.size w w' := by
  obtain ⟨L, hL⟩ : ∃ L, L = s.data.toList.drop k := ⟨_, rfl⟩
  rw [← hL]
  have hlen : L.length = s.size - k := by rw [hL]; simp
  have HL := Lib.hid hL
  have HLEN := Lib.hid hlen
  clear hL hlen
  have g1 : decide ((k : Int) < 0) = false := by simp
  have g2 : decide (s.size ≤ k) = false := by simp; omega
  go_enter Tryz.func105, Tryz.ntmps105
  go_wp2
  go_loopw [6] (fun a wr => ∃ n : Int, 1 ≤ n ∧ n ≤ 5 ∧ n ≤ (s.size : Int) - k + 1 ∧ a = .int .i64 n ∧ Hid (∀ j : Nat, 1 ≤ j → (j : Int) < n → (Txt.dec L).2 ≠ j) ∧ Below w.heap.size w wr) (fun a _ => (5 - intOf a).toNat)
  case atStart => exact ⟨1, by omega, by omega, by omega, rfl, fun j h1 h2 => absurd h1 (by omega), Below.refl _ _⟩
  case round =>
    obtain ⟨n, hn1, hn5, hn6, rfl, hno, hb⟩ := hrel
    have HB := Lib.hid hb
    have hz := hb.size
    clear hb
    by_cases hc : n ≤ 4 ∧ n ≤ (s.size : Int) - k
    · obtain ⟨hc1, hc2⟩ := hc
      have B0 := UInt8.toNat_lt s[k]
      have HB0 := Lib.hid (show (L.getD 0 0).toNat = (s[k]).toNat by rw [HL.out]; exact byte_drop s k 0 h)
      have HBS := Lib.hid (show ∀ i, (hi : k + i < s.size) → (L.getD i 0).toNat = (s[k + i]'hi).toNat from fun i hi => by rw [HL.out]; exact byte_drop s k i hi)
      rcases (show n = 1 ∨ n = 2 ∨ n = 3 ∨ n = 4 by omega) with rfl | rfl | rfl | rfl
      · have HR0 := Lib.hid (show rp L 1 0 = (L.getD 0 0).toNat from rfl)
        have g3 : decide ((1 : Int) ≤ (s.size : Int) - k) = true := by simp; omega
        go_wp2
        go_loop [7, 8] (fun a b => ∃ i : Nat, i + 1 ≤ 1 ∧ b = .int .i64 ((i + 1 : Nat) : Int) ∧ a = .int .i64 (rp L 1 i : Nat)) (fun _ b => (1 - intOf b).toNat)
        case atStart => exact ⟨0, by omega, rfl, by (rw [HR0.out, HB0.out]) <;> go_num⟩
        case round =>
          obtain ⟨i, hi, rfl, rfl⟩ := hrel
          have hbd := rp_bd L 1 i (by omega)
          by_cases hlt : i + 1 < 1
          · exfalso; omega
          · obtain rfl : i = 0 := by omega
            have k2 : (k : Int) + 1 ≤ (s.size : Int) := by omega
            have k3 : IntKind.i64.wrap ((k : Int) + 1) = (k : Int) + 1 := IntWalk.i64_in _ (by omega)
            have k4 : 0 ≤ (k : Int) + 1 := by omega
            have k5 : ((k : Int) + 1).toNat = k + 1 := by omega
            have k6 : k + 1 ≤ s.size := by omega
            have k7 : (k : Int) ≤ (k : Int) + 1 := by omega
            go_upto_region 17 with fail
            have HC := Lib.hid (cmp_eq s k 1 L HL.out (by omega) (by omega) (by rw [HLEN.out]; omega))
            have HV := Lib.hid (show (Txt.dec L).2 = 1 → rp L 1 0 = (Txt.dec L).1 from fun e => by rw [(Txt.search L 1 (by omega) (by omega) (by rw [HLEN.out]; omega)).2 e, ← rp_val L 1 (by omega) (by omega)])
            go_cut [68] (fun c wx => ∃ b : Bool, c = .bool b ∧ Hid (b = decide ((Txt.dec L).2 = 1)) ∧ Hid (Below w.heap.size w wx))
            case first =>
              go_region_with (go_at_call 153; refine (encode_any _ _).mono ?_; rintro e w1 ⟨rfl, hb1⟩)
              go_wp2_with fail
              go_meet
              exact ⟨_, rfl, HC.out, HB.out.drew.trans (hb1.mono hz)⟩
            case rest =>
              obtain ⟨b, rfl, hbb, HB2⟩ := hcut
              clear k2 k3 k4 k5 k6 k7 B0
              rcases b with _ | _
              rotate_left
              · have HD := Lib.hid (of_decide_eq_true hbb.out.symm)
                go_wp2
                go_ret2
                exact ⟨ret_two (by rw [HV.out HD.out]) (by rw [HD.out]; rfl), HB2.out⟩
              · have HD := Lib.hid (of_decide_eq_false hbb.out.symm)
                go_wp2
                go_roundw
                case rel => exact ⟨2, by omega, by omega, by omega, rfl, fun j h1 h2 => by
                  by_cases e : j = 1
                  · subst e; exact HD.out
                  · exact hno.out j h1 (by omega), HB2.out⟩
                case measure => simp [intOf]
      · have HR0 := Lib.hid (show rp L 2 0 = (L.getD 0 0).toNat % 32 from rfl)
        have g3 : decide ((2 : Int) ≤ (s.size : Int) - k) = true := by simp; omega
        go_wp2
        go_loop [7, 8] (fun a b => ∃ i : Nat, i + 1 ≤ 2 ∧ b = .int .i64 ((i + 1 : Nat) : Int) ∧ a = .int .i64 (rp L 2 i : Nat)) (fun _ b => (2 - intOf b).toNat)
        case atStart => exact ⟨0, by omega, rfl, by (rw [HR0.out, HB0.out]) <;> go_num⟩
        case round =>
          obtain ⟨i, hi, rfl, rfl⟩ := hrel
          have hbd := rp_bd L 2 i (by omega)
          by_cases hlt : i + 1 < 2
          · have B1 := UInt8.toNat_lt (s[k + (i + 1)]'(by omega))
            have HS1 := Lib.hid (rp_succ L 2 i)
            have HI1 := Lib.hid (HBS.out (i + 1) (by omega))
            go_wp2
            go_round
            case rel => exact ⟨i + 1, by omega, by go_num, by rw [HS1.out, HI1.out]; go_num⟩
            case measure => simp [intOf]; omega
          · obtain rfl : i = 1 := by omega
            have k2 : (k : Int) + 2 ≤ (s.size : Int) := by omega
            have k3 : IntKind.i64.wrap ((k : Int) + 2) = (k : Int) + 2 := IntWalk.i64_in _ (by omega)
            have k4 : 0 ≤ (k : Int) + 2 := by omega
            have k5 : ((k : Int) + 2).toNat = k + 2 := by omega
            have k6 : k + 2 ≤ s.size := by omega
            have k7 : (k : Int) ≤ (k : Int) + 2 := by omega
            go_upto_region 17 with fail
            have HC := Lib.hid (cmp_eq s k 2 L HL.out (by omega) (by omega) (by rw [HLEN.out]; omega))
            have HV := Lib.hid (show (Txt.dec L).2 = 2 → rp L 2 1 = (Txt.dec L).1 from fun e => by rw [(Txt.search L 2 (by omega) (by omega) (by rw [HLEN.out]; omega)).2 e, ← rp_val L 2 (by omega) (by omega)])
            go_cut [68] (fun c wx => ∃ b : Bool, c = .bool b ∧ Hid (b = decide ((Txt.dec L).2 = 2)) ∧ Hid (Below w.heap.size w wx))
            case first =>
              go_region_with (go_at_call 153; refine (encode_any _ _).mono ?_; rintro e w1 ⟨rfl, hb1⟩)
              go_wp2_with fail
              go_meet
              exact ⟨_, rfl, HC.out, HB.out.drew.trans (hb1.mono hz)⟩
            case rest =>
              obtain ⟨b, rfl, hbb, HB2⟩ := hcut
              clear k2 k3 k4 k5 k6 k7 B0
              rcases b with _ | _
              rotate_left
              · have HD := Lib.hid (of_decide_eq_true hbb.out.symm)
                go_wp2
                go_ret2
                exact ⟨ret_two (by rw [HV.out HD.out]) (by rw [HD.out]; rfl), HB2.out⟩
              · have HD := Lib.hid (of_decide_eq_false hbb.out.symm)
                go_wp2
                go_roundw
                case rel => exact ⟨3, by omega, by omega, by omega, rfl, fun j h1 h2 => by
                  by_cases e : j = 2
                  · subst e; exact HD.out
                  · exact hno.out j h1 (by omega), HB2.out⟩
                case measure => simp [intOf]
      · have HR0 := Lib.hid (show rp L 3 0 = (L.getD 0 0).toNat % 16 from rfl)
        have g3 : decide ((3 : Int) ≤ (s.size : Int) - k) = true := by simp; omega
        go_wp2
        go_loop [7, 8] (fun a b => ∃ i : Nat, i + 1 ≤ 3 ∧ b = .int .i64 ((i + 1 : Nat) : Int) ∧ a = .int .i64 (rp L 3 i : Nat)) (fun _ b => (3 - intOf b).toNat)
        case atStart => exact ⟨0, by omega, rfl, by (rw [HR0.out, HB0.out]) <;> go_num⟩
        case round =>
          obtain ⟨i, hi, rfl, rfl⟩ := hrel
          have hbd := rp_bd L 3 i (by omega)
          by_cases hlt : i + 1 < 3
          · have B1 := UInt8.toNat_lt (s[k + (i + 1)]'(by omega))
            have HS1 := Lib.hid (rp_succ L 3 i)
            have HI1 := Lib.hid (HBS.out (i + 1) (by omega))
            go_wp2
            go_round
            case rel => exact ⟨i + 1, by omega, by go_num, by rw [HS1.out, HI1.out]; go_num⟩
            case measure => simp [intOf]; omega
          · obtain rfl : i = 2 := by omega
            have k2 : (k : Int) + 3 ≤ (s.size : Int) := by omega
            have k3 : IntKind.i64.wrap ((k : Int) + 3) = (k : Int) + 3 := IntWalk.i64_in _ (by omega)
            have k4 : 0 ≤ (k : Int) + 3 := by omega
            have k5 : ((k : Int) + 3).toNat = k + 3 := by omega
            have k6 : k + 3 ≤ s.size := by omega
            have k7 : (k : Int) ≤ (k : Int) + 3 := by omega
            go_upto_region 17 with fail
            have HC := Lib.hid (cmp_eq s k 3 L HL.out (by omega) (by omega) (by rw [HLEN.out]; omega))
            have HV := Lib.hid (show (Txt.dec L).2 = 3 → rp L 3 2 = (Txt.dec L).1 from fun e => by rw [(Txt.search L 3 (by omega) (by omega) (by rw [HLEN.out]; omega)).2 e, ← rp_val L 3 (by omega) (by omega)])
            go_cut [68] (fun c wx => ∃ b : Bool, c = .bool b ∧ Hid (b = decide ((Txt.dec L).2 = 3)) ∧ Hid (Below w.heap.size w wx))
            case first =>
              go_region_with (go_at_call 153; refine (encode_any _ _).mono ?_; rintro e w1 ⟨rfl, hb1⟩)
              go_wp2_with fail
              go_meet
              exact ⟨_, rfl, HC.out, HB.out.drew.trans (hb1.mono hz)⟩
            case rest =>
              obtain ⟨b, rfl, hbb, HB2⟩ := hcut
              clear k2 k3 k4 k5 k6 k7 B0
              rcases b with _ | _
              rotate_left
              · have HD := Lib.hid (of_decide_eq_true hbb.out.symm)
                go_wp2
                go_ret2
                exact ⟨ret_two (by rw [HV.out HD.out]) (by rw [HD.out]; rfl), HB2.out⟩
              · have HD := Lib.hid (of_decide_eq_false hbb.out.symm)
                go_wp2
                go_roundw
                case rel => exact ⟨4, by omega, by omega, by omega, rfl, fun j h1 h2 => by
                  by_cases e : j = 3
                  · subst e; exact HD.out
                  · exact hno.out j h1 (by omega), HB2.out⟩
                case measure => simp [intOf]
      · have HR0 := Lib.hid (show rp L 4 0 = (L.getD 0 0).toNat % 8 from rfl)
        have g3 : decide ((4 : Int) ≤ (s.size : Int) - k) = true := by simp; omega
        go_wp2
        go_loop [7, 8] (fun a b => ∃ i : Nat, i + 1 ≤ 4 ∧ b = .int .i64 ((i + 1 : Nat) : Int) ∧ a = .int .i64 (rp L 4 i : Nat)) (fun _ b => (4 - intOf b).toNat)
        case atStart => exact ⟨0, by omega, rfl, by (rw [HR0.out, HB0.out]) <;> go_num⟩
        case round =>
          obtain ⟨i, hi, rfl, rfl⟩ := hrel
          have hbd := rp_bd L 4 i (by omega)
          by_cases hlt : i + 1 < 4
          · have B1 := UInt8.toNat_lt (s[k + (i + 1)]'(by omega))
            have HS1 := Lib.hid (rp_succ L 4 i)
            have HI1 := Lib.hid (HBS.out (i + 1) (by omega))
            go_wp2
            go_round
            case rel => exact ⟨i + 1, by omega, by go_num, by rw [HS1.out, HI1.out]; go_num⟩
            case measure => simp [intOf]; omega
          · obtain rfl : i = 3 := by omega
            have k2 : (k : Int) + 4 ≤ (s.size : Int) := by omega
            have k3 : IntKind.i64.wrap ((k : Int) + 4) = (k : Int) + 4 := IntWalk.i64_in _ (by omega)
            have k4 : 0 ≤ (k : Int) + 4 := by omega
            have k5 : ((k : Int) + 4).toNat = k + 4 := by omega
            have k6 : k + 4 ≤ s.size := by omega
            have k7 : (k : Int) ≤ (k : Int) + 4 := by omega
            go_upto_region 17 with fail
            have HC := Lib.hid (cmp_eq s k 4 L HL.out (by omega) (by omega) (by rw [HLEN.out]; omega))
            have HV := Lib.hid (show (Txt.dec L).2 = 4 → rp L 4 3 = (Txt.dec L).1 from fun e => by rw [(Txt.search L 4 (by omega) (by omega) (by rw [HLEN.out]; omega)).2 e, ← rp_val L 4 (by omega) (by omega)])
            go_cut [68] (fun c wx => ∃ b : Bool, c = .bool b ∧ Hid (b = decide ((Txt.dec L).2 = 4)) ∧ Hid (Below w.heap.size w wx))
            case first =>
              go_region_with (go_at_call 153; refine (encode_any _ _).mono ?_; rintro e w1 ⟨rfl, hb1⟩)
              go_wp2_with fail
              go_meet
              exact ⟨_, rfl, HC.out, HB.out.drew.trans (hb1.mono hz)⟩
            case rest =>
              obtain ⟨b, rfl, hbb, HB2⟩ := hcut
              clear k2 k3 k4 k5 k6 k7 B0
              rcases b with _ | _
              rotate_left
              · have HD := Lib.hid (of_decide_eq_true hbb.out.symm)
                go_wp2
                go_ret2
                exact ⟨ret_two (by rw [HV.out HD.out]) (by rw [HD.out]; rfl), HB2.out⟩
              · have HD := Lib.hid (of_decide_eq_false hbb.out.symm)
                go_wp2
                go_roundw
                case rel => exact ⟨5, by omega, by omega, by omega, rfl, fun j h1 h2 => by
                  by_cases e : j = 4
                  · subst e; exact HD.out
                  · exact hno.out j h1 (by omega), HB2.out⟩
                case measure => simp [intOf]
    · have hz0 : (Txt.dec L).2 = 0 := by
        have a := Txt.dec_le L
        have b := Txt.dec_width L
        have c := HLEN.out
        rcases Nat.eq_zero_or_pos (Txt.dec L).2 with e | e
        · exact e
        · exact absurd rfl (hno.out (Txt.dec L).2 e (by omega))
      have HZ := Lib.hid (Txt.dec_zero hz0)
      clear hz0
      by_cases c4 : n = 5
      · subst c4
        clear hc
        go_wp2
        go_ret2
        exact ⟨by rw [HZ.out]; rfl, HB.out⟩
      · have g3 : decide (n ≤ (s.size : Int) - k) = false := by simp; omega
        have g4 : n ≤ 4 := by omega
        clear hc c4
        go_wp2
        go_ret2
        exact ⟨by rw [HZ.out]; rfl, HB.out⟩
end Go.Proofs.YtjaojenalodolaaGreatDoor.Tx
namespace Go.Proofs.YtjaojenalodolaaGreatDoor.Tx
open Go Go.RowKit Go.Proofs.YtjaojenalodolaaGreatDoor
theorem decode_bad (s : ByteArray) (k : Nat) (w : World) (h : k < s.size) (hT : Lib.Utf8Tabs 2 3 w) (hd : (Txt.dec (s.data.toList.drop k)).2 = 0) :
    Calls Tryz.prog 194 #[.string s, .int .i64 k] w fun e w' => e = .returned (.tuple #[.int .i32 0, .int .i64 0]) ∧ Below w.heap.size w w' := by
  have hc := decode_in s k w h hT
  rw [Txt.dec_zero hd] at hc
  exact hc
theorem decode_ok (s : ByteArray) (k R M : Nat) (w : World) (h : k < s.size) (hT : Lib.Utf8Tabs 2 3 w) (hd : Txt.dec (s.data.toList.drop k) = (R, M)) :
    Calls Tryz.prog 194 #[.string s, .int .i64 k] w fun e w' => e = .returned (.tuple #[.int .i32 R, .int .i64 M]) ∧ Below w.heap.size w w' := by
  have hc := decode_in s k w h hT
  rw [hd] at hc
  exact hc
theorem rdecode_bad (s : ByteArray) (k : Nat) (w : World) (h : k < s.size) (hs : s.size ≤ 9223372036854775807) (hd : (Txt.dec (s.data.toList.drop k)).2 = 0) :
    Calls Tryz.prog 105 #[.string s, .int .i64 k] w fun e w' => e = .returned (.tuple #[.int .i64 0, .int .i64 0]) ∧ Below w.heap.size w w' := by
  have hc := rdecode_in s k w h hs
  rw [Txt.dec_zero hd] at hc
  exact hc
theorem rdecode_ok (s : ByteArray) (k R M : Nat) (w : World) (h : k < s.size) (hs : s.size ≤ 9223372036854775807) (hd : Txt.dec (s.data.toList.drop k) = (R, M)) :
    Calls Tryz.prog 105 #[.string s, .int .i64 k] w fun e w' => e = .returned (.tuple #[.int .i64 R, .int .i64 M]) ∧ Below w.heap.size w w' := by
  have hc := rdecode_in s k w h hs
  rw [hd] at hc
  exact hc
theorem drop_len (s : ByteArray) (k : Nat) : (s.data.toList.drop k).length = s.size - k := by simp
theorem step_at (s : ByteArray) (k R M : Nat) (hd : Txt.dec (s.data.toList.drop k) = (R, M)) (h : k < s.size) : k + M ≤ s.size ∧ R ≤ 1114111 ∧ M ≤ 4 := by
  have a := Txt.dec_le (s.data.toList.drop k)
  have b := Txt.dec_rune (s.data.toList.drop k)
  have c := Txt.dec_width (s.data.toList.drop k)
  rw [hd] at a b c
  rw [drop_len] at a
  exact ⟨by omega, b, c⟩
set_option maxHeartbeats 1000000 in
theorem check_any (s : ByteArray) (w : World) (hs : s.size ≤ 9223372036854775807) (hT : Lib.Utf8Tabs 2 3 w) :
    Calls Tryz.prog 183 #[.string s] w fun e w' => e = .returned (.tuple #[.int .i64 (Txt.chk s.data.toList).1, .int .i64 (Txt.chk s.data.toList).2]) ∧ Below w.heap.size w w' := by
  have HT := Lib.hid hT
  clear hT
  go_enter Tryz.func183, Tryz.ntmps183
  go_wp2
  go_loopw [4] (fun a wr => ∃ k : Nat, k ≤ s.size ∧ a = .int .i64 k ∧ Hid (Txt.chk s.data.toList = (k + (Txt.chk (s.data.toList.drop k)).1, (Txt.chk (s.data.toList.drop k)).2)) ∧ Below w.heap.size w wr) (fun a _ => s.size - (intOf a).toNat)
  case atStart => exact ⟨0, Nat.zero_le _, rfl, by simp [Hid], Below.refl _ _⟩
  case round =>
    obtain ⟨k, hk, rfl, hch, hb⟩ := hrel
    have HB := Lib.hid hb
    have hz := hb.size
    clear hb
    by_cases hlt : k < s.size
    · have hst := Txt.chk_step (s.data.toList.drop k) (drop_ne hlt)
      by_cases hbad : (Txt.dec (s.data.toList.drop k)).2 = 0
      · rw [if_pos hbad] at hst
        have HE := Lib.hid (show Txt.chk s.data.toList = (k, 5) by rw [hch.out, hst]; rfl)
        have HD := Lib.hid hbad
        clear hst hbad
        go_wp2_with (go_at_call 194; refine (decode_bad s k _ hlt (u8_below HT.out HB.out) HD.out).mono ?_; rintro e w1 ⟨rfl, hb1⟩)
        go_ret2
        exact ⟨ret_two (by rw [HE.out]) (by rw [HE.out]), below_trans HB.out (by assumption)⟩
      · rw [if_neg hbad] at hst
        obtain ⟨Rn, M, hd⟩ : ∃ Rn M, Txt.dec (s.data.toList.drop k) = (Rn, M) := ⟨_, _, rfl⟩
        obtain ⟨q1, q2, q3⟩ := step_at s k Rn M hd hlt
        rw [hd] at hst hbad
        have q4 : 1 ≤ M := by simp at hbad; omega
        have HD := Lib.hid hd
        clear hd hbad
        rcases hc : Txt.isCharB Rn with _ | _
        · rw [if_pos hc] at hst
          have HE := Lib.hid (show Txt.chk s.data.toList = (k, 6) by rw [hch.out, hst]; rfl)
          clear hst
          go_wp2_with fail
          refine (decode_ok s k Rn M _ hlt (u8_below HT.out HB.out) HD.out).mono ?_
          rintro e w1 ⟨rfl, hb1⟩
          have HB1 := Lib.hid (below_trans HB.out hb1)
          clear hb1
          go_wp2_with fail
          refine (char_any _ _).mono ?_
          rintro e w' ⟨rfl, rfl⟩
          go_wp2_with fail
          go_ret2
          exact ⟨ret_two (by rw [HE.out]) (by rw [HE.out]), HB1.out⟩
        · rw [if_neg (by rw [hc]; simp)] at hst
          have HE := Lib.hid (show Txt.chk s.data.toList = ((k + M) + (Txt.chk (s.data.toList.drop (k + M))).1, (Txt.chk (s.data.toList.drop (k + M))).2) by rw [hch.out, hst, List.drop_drop, Nat.add_assoc])
          clear hst
          go_wp2_with fail
          refine (decode_ok s k Rn M _ hlt (u8_below HT.out HB.out) HD.out).mono ?_
          rintro e w1 ⟨rfl, hb1⟩
          have HB1 := Lib.hid (below_trans HB.out hb1)
          clear hb1
          go_wp2_with fail
          refine (char_any _ _).mono ?_
          rintro e w' ⟨rfl, rfl⟩
          go_wp2_with fail
          go_roundw
          case rel => exact ⟨k + M, q1, by go_num, HE.out, HB1.out⟩
          case measure => simp [intOf]; omega
    · obtain rfl : k = s.size := by omega
      have HE := Lib.hid (show Txt.chk s.data.toList = (s.size, 0) by
        have e : s.data.toList.drop s.size = [] := List.drop_of_length_le (Nat.le_of_eq (by simp))
        rw [hch.out, e, Txt.chk_nil]; rfl)
      go_wp2
      go_ret2
      exact ⟨ret_two (by rw [HE.out]) (by rw [HE.out]), HB.out⟩
set_option maxHeartbeats 1000000 in
theorem rcheck_any (s : ByteArray) (w : World) (hs : s.size ≤ 9223372036854775807) :
    Calls Tryz.prog 63 #[.string s] w fun e w' => e = .returned (.tuple #[.int .i64 (Txt.chk s.data.toList).1, .int .i64 (Txt.chk s.data.toList).2]) ∧ Below w.heap.size w w' := by
  go_enter Tryz.func63, Tryz.ntmps63
  go_wp2
  go_loopw [4] (fun a wr => ∃ k : Nat, k ≤ s.size ∧ a = .int .i64 k ∧ Hid (Txt.chk s.data.toList = (k + (Txt.chk (s.data.toList.drop k)).1, (Txt.chk (s.data.toList.drop k)).2)) ∧ Below w.heap.size w wr) (fun a _ => s.size - (intOf a).toNat)
  case atStart => exact ⟨0, Nat.zero_le _, rfl, by simp [Hid], Below.refl _ _⟩
  case round =>
    obtain ⟨k, hk, rfl, hch, hb⟩ := hrel
    have HB := Lib.hid hb
    have hz := hb.size
    clear hb
    by_cases hlt : k < s.size
    · have hst := Txt.chk_step (s.data.toList.drop k) (drop_ne hlt)
      by_cases hbad : (Txt.dec (s.data.toList.drop k)).2 = 0
      · rw [if_pos hbad] at hst
        have HE := Lib.hid (show Txt.chk s.data.toList = (k, 5) by rw [hch.out, hst]; rfl)
        have HD := Lib.hid hbad
        clear hst hbad
        go_wp2_with (go_at_call 105; refine (rdecode_bad s k _ hlt hs HD.out).mono ?_; rintro e w1 ⟨rfl, hb1⟩)
        go_ret2
        exact ⟨ret_two (by rw [HE.out]) (by rw [HE.out]), below_trans HB.out (by assumption)⟩
      · rw [if_neg hbad] at hst
        obtain ⟨Rn, M, hd⟩ : ∃ Rn M, Txt.dec (s.data.toList.drop k) = (Rn, M) := ⟨_, _, rfl⟩
        obtain ⟨q1, q2, q3⟩ := step_at s k Rn M hd hlt
        rw [hd] at hst hbad
        have q4 : 1 ≤ M := by simp at hbad; omega
        have HD := Lib.hid hd
        clear hd hbad
        rcases hc : Txt.isCharB Rn with _ | _
        · rw [if_pos hc] at hst
          have HE := Lib.hid (show Txt.chk s.data.toList = (k, 6) by rw [hch.out, hst]; rfl)
          clear hst
          go_wp2_with fail
          refine (rdecode_ok s k Rn M _ hlt hs HD.out).mono ?_
          rintro e w1 ⟨rfl, hb1⟩
          have HB1 := Lib.hid (below_trans HB.out hb1)
          clear hb1
          go_wp2_with fail
          refine (rchar_any _ _).mono ?_
          rintro e w' ⟨rfl, rfl⟩
          go_wp2_with fail
          go_ret2
          exact ⟨ret_two (by rw [HE.out]) (by rw [HE.out]), HB1.out⟩
        · rw [if_neg (by rw [hc]; simp)] at hst
          have HE := Lib.hid (show Txt.chk s.data.toList = ((k + M) + (Txt.chk (s.data.toList.drop (k + M))).1, (Txt.chk (s.data.toList.drop (k + M))).2) by rw [hch.out, hst, List.drop_drop, Nat.add_assoc])
          clear hst
          go_wp2_with fail
          refine (rdecode_ok s k Rn M _ hlt hs HD.out).mono ?_
          rintro e w1 ⟨rfl, hb1⟩
          have HB1 := Lib.hid (below_trans HB.out hb1)
          clear hb1
          go_wp2_with fail
          refine (rchar_any _ _).mono ?_
          rintro e w' ⟨rfl, rfl⟩
          go_wp2_with fail
          go_roundw
          case rel => exact ⟨k + M, q1, by go_num, HE.out, HB1.out⟩
          case measure => simp [intOf]; omega
    · obtain rfl : k = s.size := by omega
      have HE := Lib.hid (show Txt.chk s.data.toList = (s.size, 0) by
        have e : s.data.toList.drop s.size = [] := List.drop_of_length_le (Nat.le_of_eq (by simp))
        rw [hch.out, e, Txt.chk_nil]; rfl)
      go_wp2
      go_ret2
      exact ⟨ret_two (by rw [HE.out]) (by rw [HE.out]), HB.out⟩
end Go.Proofs.YtjaojenalodolaaGreatDoor.Tx
namespace Go.Proofs.YtjaojenalodolaaGreatDoor.Tx
open Go Go.RowKit Go.Proofs.YtjaojenalodolaaGreatDoor
end Go.Proofs.YtjaojenalodolaaGreatDoor.Tx
/- Walks of strings.Builder's writing methods over this program (the copy check's own panic is refused by the loader here, so the shelf's layings do not fit): a builder that the call has made itself. -/
namespace Go.Proofs.YtjaojenalodolaaGreatDoor.Bld
open Go Go.RowKit Go.Proofs.YtjaojenalodolaaGreatDoor
abbrev TB : TypeId := 88
abbrev TU : TypeId := 5
theorem sizeB : (Tryz.prog.info? 88).map (·.size) = some 2 := by kernel_rfl
theorem liesB : liesAt Tryz.prog Tryz.prog.depth 88 (2 / Tryz.prog.cellsOf 88) 0 88 1 = true := by kernel_rfl
theorem infoU : (Tryz.prog.info? 5).map (fun i => (i.zero, i.size, i.bytes)) = some (some (.int .u8 0), 1, 1) := by kernel_rfl
theorem own_below {w w' : World} {base : Nat} {e : TypeId} {v : Value} {n : Nat} {xs : List Value} (h : w.ownsRow base e 1 v n xs) (hb : Below w.heap.size w w') : w'.ownsRow base e 1 v n xs :=
  h.kept (row := none) ⟨hb.os, hb.tape, hb.output, hb.size, fun k hk _ => hb.block k hk⟩ (by
    rcases h.2 with ⟨rfl, _⟩ | ⟨g, cap, cur, rfl, _⟩
    · left; rfl
    · right; simp [Value.ownBlock])
theorem at_below {B b : Nat} {p : Value} {bs : List Value} {w w' : World} (h : Lib.BuilderAt TB TU B b p bs w) (hb : Below w.heap.size w w') : Lib.BuilderAt TB TU B b p bs w' := by
  obtain ⟨h1, v, h2, h3, h4⟩ := h
  exact ⟨h1, v, by rw [hb.block b ((Array.getElem?_eq_some_iff.1 h2).1)]; exact h2, own_below h3 hb, h4⟩
theorem is_below {B b : Nat} {bs : List Value} {w w' : World} (h : Lib.IsBuilder TB TU B b bs w) (hb : Below w.heap.size w w') : Lib.IsBuilder TB TU B b bs w' := by
  rcases h with h | h
  · exact .inl (at_below h hb)
  · exact .inr (at_below h hb)
theorem is_lt {B b : Nat} {bs : List Value} {w : World} (h : Lib.IsBuilder TB TU B b bs w) : B ≤ b ∧ b < w.heap.size := by
  rcases h with h | h
  · exact ⟨h.1, h.lt⟩
  · exact ⟨h.1, h.lt⟩
set_option maxRecDepth 100000 in
set_option maxHeartbeats 1000000 in
theorem check_used (b : Nat) (w : World) (h0 : w.cell? ⟨b, 0, none⟩ = some (.pointer (some ⟨b, 0, none⟩))) :
    Calls Tryz.prog 62 #[.pointer (some ⟨b, 0, none⟩)] w fun e w' => e = .returned (.tuple #[]) ∧ w' = w := by
  obtain ⟨j, hj, _⟩ := Option.map_eq_some_iff.1 sizeB
  go_enter Tryz.func62, Tryz.ntmps62
  go_wp2
  rw [Lib.run_neq_ptr_same w _ Tryz.underlying86 hj]
  go_wp2
  go_end0
  exact ⟨rfl, rfl⟩
set_option maxRecDepth 100000 in
set_option maxHeartbeats 1000000 in
theorem check_fresh (b : Nat) (w : World) (h0 : w.cell? ⟨b, 0, none⟩ = some (.pointer none)) (hsh : w.shape? b = some (88, 2)) (hfz : w.frozen? ⟨b, 0, none⟩ = false) :
    Calls Tryz.prog 62 #[.pointer (some ⟨b, 0, none⟩)] w fun e w' => e = .returned (.tuple #[]) ∧ w' = w.setCell ⟨b, 0, none⟩ (.pointer (some ⟨b, 0, none⟩)) := by
  obtain ⟨j, hj, hjs⟩ := Option.map_eq_some_iff.1 sizeB
  go_enter Tryz.func62, Tryz.ntmps62
  go_wp2
  rw [Lib.run_to_unsafe w ⟨b, 0, none⟩ Tryz.underlying86 Tryz.underlying171 hj (by rw [hjs]; decide) hsh (Nat.zero_lt_succ 1)]
  simp only [Result.andThen]
  rw [Oper.upon_value]
  go_wp2
  rw [run_callFunc_extern Tryz.func104 (by kernel_rfl) (by kernel_rfl) (by kernel_rfl) (e := Extern.AbiNoEscape.same) (by kernel_rfl)]
  rw [Lib.run_noEscape]
  simp only [Result.andThen]
  rw [Oper.upon_value]
  go_wp2
  rw [Lib.run_from_unsafe w ⟨b, 0, none⟩ Tryz.underlying171 Tryz.underlying86 hj hsh liesB]
  simp only [Result.andThen]
  rw [Oper.upon_value]
  go_wp2
  go_end0
  exact ⟨rfl, rfl⟩
theorem check_any (B b : Nat) (bs : List Value) (w : World) (h : Lib.IsBuilder TB TU B b bs w) :
    Calls Tryz.prog 62 #[.pointer (some ⟨b, 0, none⟩)] w fun e w' => e = .returned (.tuple #[]) ∧ (Lib.BuilderAt TB TU B b (.pointer (some ⟨b, 0, none⟩)) bs w' ∧ Below B w w') := by
  rcases h with h | h
  · refine (check_fresh b w h.cell0 h.shape h.frozen0).mono ?_
    rintro e w' ⟨rfl, rfl⟩
    exact ⟨rfl, h.used _, (Below.refl B w).setCell (p := ⟨b, 0, none⟩) h.1 _⟩
  · refine (check_used b w h.cell0).mono ?_
    rintro e w' ⟨rfl, rfl⟩
    exact ⟨rfl, h, Below.refl B _⟩
set_option maxRecDepth 100000 in
set_option maxHeartbeats 2000000 in
theorem writeByte (B b : Nat) (bs : List Value) (c : Int) (w : World) (h : Lib.IsBuilder TB TU B b bs w) (hlen : bs.length + 1 ≤ 140737488355328) (hBw : B ≤ w.heap.size) :
    Calls Tryz.prog 168 #[.pointer (some ⟨b, 0, none⟩), .int .u8 c] w fun e w' => e = .returned .nilIface ∧ (Lib.IsBuilder TB TU B b (bs ++ [.int .u8 c]) w' ∧ Below B w w') := by
  obtain ⟨i0, hi, hz0, hz1, hz2⟩ := info_parts infoU
  go_enter Tryz.func168, Tryz.ntmps168
  go_wp2_with fail
  refine (check_any B b bs _ h).mono ?_
  rintro e w1 ⟨rfl, h1, hb1⟩
  obtain ⟨hB, v, hbk, hown, hne⟩ := h1
  have c0 : w1.cell? ⟨b, 0, none⟩ = some (.pointer (some ⟨b, 0, none⟩)) := by rw [Lib.cell_of_heap hbk]; rfl
  have c1 : w1.cell? ⟨b, 1, none⟩ = some v := by rw [Lib.cell_of_heap hbk]; rfl
  have hz := hb1.size
  go_wp2_with (at_builtin; refine wpList_append_own _ rfl _ _ 74 rfl B 5 i0 (.int .u8 0) 1 1 Tryz.underlying74 hi hz0 hz1 hz2 rfl (by decide) _ _ _ rfl (hown.alloc _) ⟨w1.heap.size, 0, none⟩ 1 1 [.int .u8 c] rfl rfl ?c1 ?c2 ?c3 ?c4 ?c5 ?_)
  case c1 =>
    intro j u hj
    match j, hj with
    | 0, hj => simp at hj; subst hj; simp [Addr.add]
  case c2 => intro u hu; simp at hu; subst hu; rfl
  case c3 => unfold maxLen; omega
  case c4 => omega
  case c5 => simp; omega
  intro v' w2 hown' hgrow _
  have hlt : b < w1.heap.size := (Array.getElem?_eq_some_iff.1 hbk).1
  have hb2 : w2.heap[b]? = some (.cells #[.pointer (some ⟨b, 0, none⟩), v] TB (0, 0)) := by
    rw [hgrow.block b (by simp; omega) (fun e => hne e.symm), Lib.alloc_old w1 _ b hlt]
    exact hbk
  have d0 : w2.cell? ⟨b, 0, none⟩ = some (.pointer (some ⟨b, 0, none⟩)) := by rw [Lib.cell_of_heap hb2]; rfl
  have d1 : w2.cell? ⟨b, 1, none⟩ = some v := by rw [Lib.cell_of_heap hb2]; rfl
  have f1 : w2.frozen? ⟨b, 1, none⟩ = false := Lib.frozen_of_heap hb2 1
  obtain ⟨g, cap, rfl⟩ : ∃ g cap, v' = .slice (some ⟨g, 0, none⟩) (bs.length + 1) cap := by
    rcases hown'.2 with ⟨_, h0⟩ | ⟨g, cap, cur, hv, _⟩
    · omega
    · exact ⟨g, cap, hv⟩
  go_wp2
  go_ret
  refine ⟨rfl, .inr ?_, ?_⟩
  · exact Lib.BuilderAt.put (T := TB) (e := TU) hB hb2 (bs' := bs ++ [.int .u8 c]) (by simpa using hown') (by decide)
  · exact ((hb1.alloc (by omega) _).grown hgrow (by simp; omega) (fun k hk => (hown.lt k hk).1)).setCell (p := ⟨b, 1, none⟩) hB _
set_option maxRecDepth 100000 in
set_option maxHeartbeats 2000000 in
theorem writeString (B b : Nat) (bs : List Value) (s : ByteArray) (w : World) (h : Lib.IsBuilder TB TU B b bs w) (hlen : bs.length + s.size ≤ 140737488355328) (hBw : B ≤ w.heap.size) :
    Calls Tryz.prog 30 #[.pointer (some ⟨b, 0, none⟩), .string s] w fun e w' => e = .returned (.tuple #[.int .i64 s.size, .nilIface]) ∧ (Lib.IsBuilder TB TU B b (bs ++ Lib.strCells s) w' ∧ Below B w w') := by
  obtain ⟨i0, hi, hz0, hz1, hz2⟩ := info_parts infoU
  go_enter Tryz.func30, Tryz.ntmps30
  go_wp2_with fail
  refine (check_any B b bs _ h).mono ?_
  rintro e w1 ⟨rfl, h1, hb1⟩
  obtain ⟨hB, v, hbk, hown, hne⟩ := h1
  have c0 : w1.cell? ⟨b, 0, none⟩ = some (.pointer (some ⟨b, 0, none⟩)) := by rw [Lib.cell_of_heap hbk]; rfl
  have c1 : w1.cell? ⟨b, 1, none⟩ = some v := by rw [Lib.cell_of_heap hbk]; rfl
  have hz := hb1.size
  go_wp2_with (at_builtin; refine Lib.wpList_append_own_string _ rfl _ _ 74 9 rfl B 5 i0 Tryz.underlying74 Tryz.underlying9 hi hz0 hz1 hz2 _ _ _ rfl hown s rfl ?c3 ?c4 ?c5 ?_)
  case c3 => unfold maxLen; omega
  case c4 => omega
  case c5 => omega
  intro v' w2 hown' hgrow _
  have hlt : b < w1.heap.size := (Array.getElem?_eq_some_iff.1 hbk).1
  have hb2 : w2.heap[b]? = some (.cells #[.pointer (some ⟨b, 0, none⟩), v] TB (0, 0)) := by
    rw [hgrow.block b hlt (fun e => hne e.symm)]
    exact hbk
  have d0 : w2.cell? ⟨b, 0, none⟩ = some (.pointer (some ⟨b, 0, none⟩)) := by rw [Lib.cell_of_heap hb2]; rfl
  have d1 : w2.cell? ⟨b, 1, none⟩ = some v := by rw [Lib.cell_of_heap hb2]; rfl
  have f1 : w2.frozen? ⟨b, 1, none⟩ = false := Lib.frozen_of_heap hb2 1
  obtain ⟨ao, n', cap, rfl⟩ : ∃ ao n' cap, v' = .slice ao n' cap := by
    rcases hown'.2 with ⟨hv, _⟩ | ⟨g, cap, cur, hv, _⟩
    · exact ⟨_, _, _, hv⟩
    · exact ⟨_, _, _, hv⟩
  go_wp2
  go_ret2
  refine ⟨rfl, .inr ?_, ?_⟩
  · exact Lib.BuilderAt.put (T := TB) (e := TU) hB hb2 (bs' := bs ++ Lib.strCells s) (by simpa [Lib.strCells_length] using hown') (by decide)
  · exact (hb1.grown hgrow (by omega) (fun k hk => (hown.lt k hk).1)).setCell (p := ⟨b, 1, none⟩) hB _
end Go.Proofs.YtjaojenalodolaaGreatDoor.Bld
namespace Go.Proofs.YtjaojenalodolaaGreatDoor.Tx
open Go Go.RowKit Go.Proofs.YtjaojenalodolaaGreatDoor
theorem take_snoc (s : ByteArray) (k : Nat) (h : k < s.size) : s.data.toList.take (k + 1) = s.data.toList.take k ++ [s[k]] := by
  rw [List.take_succ_eq_append_getElem (by simpa using h)]; rfl
theorem cells_snoc (o : List UInt8) (c : UInt8) : Lib.byteCells o ++ [.int .u8 c.toNat] = Lib.byteCells (o ++ [c]) := by simp [Lib.byteCells]
theorem cells_32 (o : List UInt8) : Lib.byteCells o ++ [.int .u8 32] = Lib.byteCells (o ++ [32]) := by simp [Lib.byteCells]
theorem gap_len (o : List UInt8) : decide (0 < (Lib.byteCells o).length) = !o.isEmpty := by
  cases o <;> simp [Lib.byteCells]
theorem fold_take_le (s : ByteArray) (k : Nat) : (Txt.cfold (s.data.toList.take k)).1.length ≤ k ∧ ((Txt.cfold (s.data.toList.take k)).2 = true → (Txt.cfold (s.data.toList.take k)).1.length < k) := by
  obtain ⟨_, b, c⟩ := Txt.cfold_length (s.data.toList.take k)
  have : (s.data.toList.take k).length ≤ k := List.length_take_le _ _
  exact ⟨by omega, fun h => by have := b h; omega⟩
set_option maxRecDepth 100000 in
set_option maxHeartbeats 2000000 in
theorem collapse_any (s : ByteArray) (w : World) (hs : s.size ≤ 140737488355327) :
    Calls Tryz.prog 184 #[.string s] w fun e w' => e = .returned (.string ⟨(Txt.collapse s.data.toList).toArray⟩) ∧ Below w.heap.size w w' := by
  go_enter Tryz.func184, Tryz.ntmps184
  go_wp2
  go_loopw [4, 8] (fun g i wr => ∃ (k : Nat) (gb : Bool) (o : List UInt8), k ≤ s.size ∧ i = .int .i64 k ∧ g = .bool gb ∧ Hid (Txt.cfold (s.data.toList.take k) = (o, gb)) ∧ Hid (Lib.IsBuilder Bld.TB Bld.TU w.heap.size w.heap.size (Lib.byteCells o) wr) ∧ Hid (Below w.heap.size w wr)) (fun _ i _ => s.size - (intOf i).toNat)
  case atStart => exact ⟨0, false, [], Nat.zero_le _, rfl, rfl, rfl, Lib.fresh_isBuilder Bld.TB Bld.TU w, (Below.refl _ _).alloc (Nat.le_refl _) _⟩
  case round =>
    obtain ⟨k, gb, o, hk, rfl, rfl, HF, HI, HB⟩ := hrel
    have hz := HB.out.size
    have hle := fold_take_le s k
    rw [HF.out] at hle
    obtain ⟨hl1, hl2⟩ := hle
    simp only at hl1 hl2
    have hcl : (Lib.byteCells o).length = o.length := Lib.byteCells_length o
    have HCL := Lib.hid hcl
    clear hcl
    by_cases hlt : k < s.size
    · have B0 := UInt8.toNat_lt s[k]
      have HS := Lib.hid (take_snoc s k hlt)
      rcases hc : Txt.sp s[k] with _ | _
      · have hcb : Txt.spB (s[k].toNat : Int) = false := hc
        cases gb with
        | false =>
          have HE := Lib.hid (show Txt.cfold (s.data.toList.take (k + 1)) = (o ++ [s[k]], false) by rw [HS.out, Txt.cfold_snoc, HF.out, Txt.cst_no hc]; rfl)
          clear hl2 hc
          go_wp2_with fail
          refine (space_any _ _).mono ?_
          rintro e w' ⟨rfl, rfl⟩
          go_wp2_with fail
          refine (Bld.writeByte w.heap.size w.heap.size (Lib.byteCells o) _ _ HI.out (by rw [HCL.out]; omega) hz).mono ?_
          rintro e w1 ⟨rfl, hI1, hb1⟩
          have HI1 := Lib.hid (show Lib.IsBuilder Bld.TB Bld.TU w.heap.size w.heap.size (Lib.byteCells (o ++ [s[k]])) w1 by rw [← cells_snoc]; exact hI1)
          have HB1 := Lib.hid (HB.out.trans hb1)
          clear hI1 hb1
          go_wp2_with fail
          go_roundw
          case rel => exact ⟨k + 1, false, o ++ [s[k]], by omega, by go_num, rfl, HE.out, HI1.out, HB1.out⟩
          case measure => simp [intOf]; omega
        | true =>
          have hl3 := hl2 rfl
          have HE := Lib.hid (show Txt.cfold (s.data.toList.take (k + 1)) = (o ++ [32] ++ [s[k]], false) by rw [HS.out, Txt.cfold_snoc, HF.out, Txt.cst_no hc]; rfl)
          clear hl2 hc
          go_wp2_with fail
          refine (space_any _ _).mono ?_
          rintro e w' ⟨rfl, rfl⟩
          go_wp2_with fail
          refine (Bld.writeByte w.heap.size w.heap.size (Lib.byteCells o) _ _ HI.out (by rw [HCL.out]; omega) hz).mono ?_
          rintro e w1 ⟨rfl, hI1, hb1⟩
          have HI1 := Lib.hid (show Lib.IsBuilder Bld.TB Bld.TU w.heap.size w.heap.size (Lib.byteCells (o ++ [32])) w1 by rw [← cells_32]; exact hI1)
          have HB1 := Lib.hid (HB.out.trans hb1)
          have hz1 := HB1.out.size
          clear hI1 hb1
          go_wp2_with fail
          refine (Bld.writeByte w.heap.size w.heap.size (Lib.byteCells (o ++ [32])) _ _ HI1.out (by rw [Lib.byteCells_length]; simp; omega) hz1).mono ?_
          rintro e w2 ⟨rfl, hI2, hb2⟩
          have HI2 := Lib.hid (show Lib.IsBuilder Bld.TB Bld.TU w.heap.size w.heap.size (Lib.byteCells (o ++ [32] ++ [s[k]])) w2 by rw [← cells_snoc]; exact hI2)
          have HB2 := Lib.hid (HB1.out.trans hb2)
          clear hI2 hb2
          go_wp2_with fail
          go_roundw
          case rel => exact ⟨k + 1, false, o ++ [32] ++ [s[k]], by omega, by go_num, rfl, HE.out, HI2.out, HB2.out⟩
          case measure => simp [intOf]; omega
      · have hcb : Txt.spB (s[k].toNat : Int) = true := hc
        have HE := Lib.hid (show Txt.cfold (s.data.toList.take (k + 1)) = (o, !o.isEmpty) by rw [HS.out, Txt.cfold_snoc, HF.out, Txt.cst_sp hc])
        have HG := Lib.hid (gap_len o)
        clear hl2 hc
        go_wp2_with fail
        refine (space_any _ _).mono ?_
        rintro e w' ⟨rfl, rfl⟩
        go_wp2_with fail
        refine (Tryz.Builder_Len w.heap.size w.heap.size (Lib.byteCells o) _ HI.out).mono ?_
        rintro e w' ⟨rfl, rfl⟩
        go_wp2_with fail
        go_roundw
        case rel => exact ⟨k + 1, !o.isEmpty, o, by omega, by go_num, by first | rw [← HG.out] | (rw [← HG.out]; simp), HE.out, HI.out, HB.out⟩
        case measure => simp [intOf]; omega
    · obtain rfl : k = s.size := by omega
      have HE := Lib.hid (show o = Txt.collapse s.data.toList by
        have := HF.out
        rw [List.take_of_length_le (by simp)] at this
        unfold Txt.collapse; rw [this])
      clear hl2
      go_wp2_with fail
      refine (Tryz.Builder_String_any w.heap.size w.heap.size o _ HI.out hz).mono ?_
      rintro e w1 ⟨rfl, hb1⟩
      have HB1 := Lib.hid (HB.out.trans hb1)
      clear hb1
      go_wp2_with fail
      go_ret
      exact ⟨ret_str (by rw [HE.out]), HB1.out⟩
theorem infoU' : (Tryz.prog.info? 5).map (fun i => (i.zero, i.size, i.bytes)) = some (some (.int .u8 0), 1, 1) := Bld.infoU
theorem conv_own {w : World} {base : Nat} {v : Value} {o : List UInt8} (h : w.ownsRow base 5 1 v o.length (Lib.byteCells o)) :
    (convert 74 9 v).run Tryz.prog w = .ok (.string ⟨o.toArray⟩) w := by
  rcases h.2 with ⟨rfl, h0⟩ | ⟨g, cap, cur, rfl, _, hg, _, _, _, htk⟩
  · have : o = [] := List.eq_nil_of_length_eq_zero h0
    subst this
    exact Lib.run_convert_nil_bytes w 74 9 5 0 Tryz.underlying74 Tryz.underlying5 Tryz.underlying9
  · exact run_convert_bytes_back w 74 9 5 ⟨g, 0, none⟩ cap o Tryz.underlying74 Tryz.underlying5 Tryz.underlying9
      (Lib.bytes_of_row hg (by simpa using htk))
theorem own_slice {w : World} {base : Nat} {v : Value} {n : Nat} {xs : List Value} (h : w.ownsRow base 5 1 v n xs) : ∃ a cap, v = .slice a n cap := by
  rcases h.2 with ⟨rfl, rfl⟩ | ⟨g, cap, cur, rfl, _⟩
  · exact ⟨_, _, rfl⟩
  · exact ⟨_, _, rfl⟩
theorem fold_prev (s : ByteArray) (j : Nat) (h : j < s.size) : (Txt.cfold (s.data.toList.take (j + 1))).2 = (Txt.sp s[j] && !(Txt.cfold (s.data.toList.take (j + 1))).1.isEmpty) := by
  rw [take_snoc s j h, Txt.fold_gap]
  cases hc : Txt.sp s[j]
  · rfl
  · rw [Txt.cfold_snoc]
    unfold Txt.cst
    rw [if_pos hc]
theorem one_new (w : World) (x : Value) (j : Nat) (u : Value) (hj : ([x] : List Value)[j]? = some u) : (w.alloc (.cells #[x] 5)).cell? ((⟨w.heap.size, 0, none⟩ : Addr).add j) = some u := by
  match j, hj with
  | 0, hj => simp at hj; subst hj; simp [Addr.add]
set_option maxRecDepth 100000 in
set_option maxHeartbeats 4000000 in
theorem rcollapse_any (s : ByteArray) (w : World) (hs : s.size ≤ 140737488355327) :
    Calls Tryz.prog 64 #[.string s] w fun e w' => e = .returned (.string ⟨(Txt.collapse s.data.toList).toArray⟩) ∧ Below w.heap.size w w' := by
  obtain ⟨i0, hi, hz0, hz1, hz2⟩ := info_parts infoU'
  have II := Lib.hid (And.intro hi (And.intro hz0 (And.intro hz1 hz2)))
  clear hi hz0 hz1 hz2
  go_enter Tryz.func64, Tryz.ntmps64
  go_wp2
  go_loopw [3, 4] (fun v i wr => ∃ (k : Nat) (o : List UInt8) (a : Option Addr) (cap : Nat), k ≤ s.size ∧ i = .int .i64 k ∧ v = .slice a o.length cap ∧ Hid ((Txt.cfold (s.data.toList.take k)).1 = o) ∧ Hid (wr.ownsRow w.heap.size 5 1 (.slice a o.length cap) o.length (Lib.byteCells o)) ∧ Hid (Below w.heap.size w wr)) (fun _ i _ => s.size - (intOf i).toNat)
  case atStart => exact ⟨0, [], none, 0, Nat.zero_le _, rfl, rfl, rfl, World.ownsRow_nil _ _ _ _, Below.refl _ _⟩
  case round =>
    obtain ⟨k, o, a, cap, hk, rfl, rfl, HF, HO, HB⟩ := hrel
    have hz := HB.out.size
    have hle := (fold_take_le s k).1
    rw [HF.out] at hle
    by_cases hlt : k < s.size
    · have B0 := UInt8.toNat_lt s[k]
      have HS := Lib.hid (take_snoc s k hlt)
      rcases hc : Txt.sp s[k] with _ | _
      · have hcb : Txt.spB (s[k].toNat : Int) = false := hc
        by_cases hk0 : k = 0
        · subst hk0
          have HE := Lib.hid (show (Txt.cfold (s.data.toList.take (0 + 1))).1 = o ++ [s[0]] by
            rw [HS.out, Txt.cfold_snoc, ← HF.out]
            show (Txt.cst ([], false) s[0]).1 = _
            rw [Txt.cst_no hc]; rfl)
          clear hc
          go_wp2_with fail
          refine (rspace_any _ _).mono ?_
          rintro e w' ⟨rfl, rfl⟩
          go_wp2_with (at_builtin; refine wpList_append_own _ rfl _ _ 74 rfl w.heap.size 5 i0 (.int .u8 0) 1 1 Tryz.underlying74 II.out.1 II.out.2.1 II.out.2.2.1 II.out.2.2.2 rfl (by decide) _ _ _ rfl (HO.out.alloc _) ⟨wr.heap.size, 0, none⟩ 1 1 [.int .u8 (s[0].toNat)] rfl rfl (one_new wr _) (fun u hu => by simp at hu; subst hu; rfl) ?a3 ?a4 ?a5 ?_)
          case a3 => unfold maxLen; omega
          case a4 => omega
          case a5 => simp; omega
          intro v1 w1 hown1 hgrow1 _
          obtain ⟨a1, cap1, hv1⟩ := own_slice hown1
          subst hv1
          have HO1 := Lib.hid (show w1.ownsRow w.heap.size 5 1 (.slice a1 (o ++ [s[0]]).length cap1) (o ++ [s[0]]).length (Lib.byteCells (o ++ [s[0]])) by rw [← cells_snoc]; simpa using hown1)
          have HB1 := Lib.hid ((HB.out.alloc hz _).grown hgrow1 (by simp; omega) (fun k hk => (HO.out.lt k hk).1))
          clear hown1 hgrow1
          go_wp2_with fail
          go_roundw
          case rel => exact ⟨0 + 1, o ++ [s[0]], a1, cap1, by omega, by go_num, by simp, HE.out, HO1.out, HB1.out⟩
          case measure => simp [intOf]; omega
        · obtain ⟨j, rfl⟩ : ∃ j, k = j + 1 := ⟨k - 1, by omega⟩
          have B1 := UInt8.toNat_lt (s[j]'(by omega))
          have HP := fold_prev s j (by omega)
          rw [HF.out] at HP
          have HFO := Lib.hid (show (Txt.cfold (s.data.toList.take (j + 1 + 1))).1 = (if (Txt.cfold (s.data.toList.take (j + 1))).2 = true then o ++ [32] else o) ++ [s[j + 1]] by
            rw [HS.out, Txt.cfold_snoc, ← HF.out]; unfold Txt.cst; rw [if_neg (by simp [hc])])
          clear hk0 hc
          rcases hcp : Txt.sp (s[j]'(by omega)) with _ | _
          · have hcpb : Txt.spB ((s[j]'(by omega)).toNat : Int) = false := hcp
            have HE := Lib.hid (show (Txt.cfold (s.data.toList.take (j + 1 + 1))).1 = o ++ [s[j + 1]] by rw [HFO.out, HP, hcp]; rfl)
            clear hcp HP
            go_wp2_with fail
            refine (rspace_any _ _).mono ?_
            rintro e w' ⟨rfl, rfl⟩
            go_wp2_with fail
            refine (rspace_any _ _).mono ?_
            rintro e w' ⟨rfl, rfl⟩
            go_wp2_with (at_builtin; refine wpList_append_own _ rfl _ _ 74 rfl w.heap.size 5 i0 (.int .u8 0) 1 1 Tryz.underlying74 II.out.1 II.out.2.1 II.out.2.2.1 II.out.2.2.2 rfl (by decide) _ _ _ rfl (HO.out.alloc _) ⟨wr.heap.size, 0, none⟩ 1 1 [.int .u8 (s[j + 1].toNat)] rfl rfl (one_new wr _) (fun u hu => by simp at hu; subst hu; rfl) ?a3 ?a4 ?a5 ?_)
            case a3 => unfold maxLen; omega
            case a4 => omega
            case a5 => simp; omega
            intro v1 w1 hown1 hgrow1 _
            obtain ⟨a1, cap1, hv1⟩ := own_slice hown1
            subst hv1
            have HO1 := Lib.hid (show w1.ownsRow w.heap.size 5 1 (.slice a1 (o ++ [s[j + 1]]).length cap1) (o ++ [s[j + 1]]).length (Lib.byteCells (o ++ [s[j + 1]])) by rw [← cells_snoc]; simpa using hown1)
            have HB1 := Lib.hid ((HB.out.alloc hz _).grown hgrow1 (by simp; omega) (fun k hk => (HO.out.lt k hk).1))
            clear hown1 hgrow1
            go_wp2_with fail
            go_roundw
            case rel => exact ⟨j + 1 + 1, o ++ [s[j + 1]], a1, cap1, by omega, by go_num, by simp, HE.out, HO1.out, HB1.out⟩
            case measure => simp [intOf]; omega
          · have hcpb : Txt.spB ((s[j]'(by omega)).toNat : Int) = true := hcp
            by_cases ho : o = []
            · have HE := Lib.hid (show (Txt.cfold (s.data.toList.take (j + 1 + 1))).1 = o ++ [s[j + 1]] by rw [HFO.out, HP, hcp, ho]; rfl)
              have hol : ¬ (0 < o.length) := by rw [ho]; simp
              clear hcp HP ho
              go_wp2_with fail
              refine (rspace_any _ _).mono ?_
              rintro e w' ⟨rfl, rfl⟩
              go_wp2_with fail
              refine (rspace_any _ _).mono ?_
              rintro e w' ⟨rfl, rfl⟩
              go_wp2_with (at_builtin; refine wpList_append_own _ rfl _ _ 74 rfl w.heap.size 5 i0 (.int .u8 0) 1 1 Tryz.underlying74 II.out.1 II.out.2.1 II.out.2.2.1 II.out.2.2.2 rfl (by decide) _ _ _ rfl (HO.out.alloc _) ⟨wr.heap.size, 0, none⟩ 1 1 [.int .u8 (s[j + 1].toNat)] rfl rfl (one_new wr _) (fun u hu => by simp at hu; subst hu; rfl) ?a3 ?a4 ?a5 ?_)
              case a3 => unfold maxLen; omega
              case a4 => omega
              case a5 => simp; omega
              intro v1 w1 hown1 hgrow1 _
              obtain ⟨a1, cap1, hv1⟩ := own_slice hown1
              subst hv1
              have HO1 := Lib.hid (show w1.ownsRow w.heap.size 5 1 (.slice a1 (o ++ [s[j + 1]]).length cap1) (o ++ [s[j + 1]]).length (Lib.byteCells (o ++ [s[j + 1]])) by rw [← cells_snoc]; simpa using hown1)
              have HB1 := Lib.hid ((HB.out.alloc hz _).grown hgrow1 (by simp; omega) (fun k hk => (HO.out.lt k hk).1))
              clear hown1 hgrow1
              go_wp2_with fail
              go_roundw
              case rel => exact ⟨j + 1 + 1, o ++ [s[j + 1]], a1, cap1, by omega, by go_num, by simp, HE.out, HO1.out, HB1.out⟩
              case measure => simp [intOf]; omega
            · have HE := Lib.hid (show (Txt.cfold (s.data.toList.take (j + 1 + 1))).1 = o ++ [32] ++ [s[j + 1]] by
                have : (!o.isEmpty) = true := by simp [ho]
                rw [HFO.out, HP, hcp, this]; rfl)
              have hol : 0 < o.length := List.length_pos_iff.2 ho
              have hl2 : o.length < j + 1 := by
                have e : (Txt.cfold (s.data.toList.take (j + 1))).2 = true := by
                  have : (!o.isEmpty) = true := by simp [ho]
                  rw [HP, hcp, this]; rfl
                have := (fold_take_le s (j + 1)).2 e
                rw [HF.out] at this; exact this
              clear hcp HP ho
              go_wp2_with fail
              refine (rspace_any _ _).mono ?_
              rintro e w' ⟨rfl, rfl⟩
              go_wp2_with fail
              refine (rspace_any _ _).mono ?_
              rintro e w' ⟨rfl, rfl⟩
              go_wp2_with (at_builtin; refine wpList_append_own _ rfl _ _ 74 rfl w.heap.size 5 i0 (.int .u8 0) 1 1 Tryz.underlying74 II.out.1 II.out.2.1 II.out.2.2.1 II.out.2.2.2 rfl (by decide) _ _ _ rfl (HO.out.alloc _) ⟨wr.heap.size, 0, none⟩ 1 1 [.int .u8 32] rfl rfl (one_new wr _) (fun u hu => by simp at hu; subst hu; rfl) ?a3 ?a4 ?a5 ?_)
              case a3 => unfold maxLen; omega
              case a4 => omega
              case a5 => simp; omega
              intro v1 w1 hown1 hgrow1 _
              obtain ⟨a1, cap1, hv1⟩ := own_slice hown1
              subst hv1
              have HO1 := Lib.hid (show w1.ownsRow w.heap.size 5 1 (.slice a1 (o.length + 1) cap1) (o.length + 1) (Lib.byteCells (o ++ [32])) by rw [← cells_32]; exact hown1)
              have HB1 := Lib.hid ((HB.out.alloc hz _).grown hgrow1 (by simp; omega) (fun k hk => (HO.out.lt k hk).1))
              have hz1 := HB1.out.size
              clear hown1 hgrow1
              go_wp2_with (at_builtin; refine wpList_append_own _ rfl _ _ 74 rfl w.heap.size 5 i0 (.int .u8 0) 1 1 Tryz.underlying74 II.out.1 II.out.2.1 II.out.2.2.1 II.out.2.2.2 rfl (by decide) _ _ _ rfl (HO1.out.alloc _) ⟨w1.heap.size, 0, none⟩ 1 1 [.int .u8 (s[j + 1].toNat)] rfl rfl (one_new w1 _) (fun u hu => by simp at hu; subst hu; rfl) ?b3 ?b4 ?b5 ?_)
              case b3 => unfold maxLen; omega
              case b4 => omega
              case b5 => simp; omega
              intro v2 w2 hown2 hgrow2 _
              obtain ⟨a2, cap2, hv2⟩ := own_slice hown2
              subst hv2
              have HO2 := Lib.hid (show w2.ownsRow w.heap.size 5 1 (.slice a2 (o ++ [32] ++ [s[j + 1]]).length cap2) (o ++ [32] ++ [s[j + 1]]).length (Lib.byteCells (o ++ [32] ++ [s[j + 1]])) by rw [← cells_snoc]; simpa using hown2)
              have HB2 := Lib.hid ((HB1.out.alloc hz1 _).grown hgrow2 (by simp; omega) (fun k hk => (HO1.out.lt k hk).1))
              clear hown2 hgrow2
              go_wp2_with fail
              go_roundw
              case rel => exact ⟨j + 1 + 1, o ++ [32] ++ [s[j + 1]], a2, cap2, by omega, by go_num, by simp, HE.out, HO2.out, HB2.out⟩
              case measure => simp [intOf]; omega
      · have hcb : Txt.spB (s[k].toNat : Int) = true := hc
        have HE := Lib.hid (show (Txt.cfold (s.data.toList.take (k + 1))).1 = o by rw [HS.out, Txt.cfold_snoc, ← HF.out]; unfold Txt.cst; rw [if_pos hc])
        clear hc
        go_wp2_with fail
        refine (rspace_any _ _).mono ?_
        rintro e w' ⟨rfl, rfl⟩
        go_wp2_with fail
        go_roundw
        case rel => exact ⟨k + 1, o, a, cap, by omega, by go_num, rfl, HE.out, HO.out, HB.out⟩
        case measure => simp [intOf]; omega
    · obtain rfl : k = s.size := by omega
      have HE := Lib.hid (show o = Txt.collapse s.data.toList by
        have := HF.out
        rw [List.take_of_length_le (by simp)] at this
        unfold Txt.collapse; rw [this])
      have hcv := conv_own HO.out
      go_wp2_with fail
      go_ret
      exact ⟨ret_str (by rw [HE.out]), HB.out⟩
end Go.Proofs.YtjaojenalodolaaGreatDoor.Tx
namespace Go.Proofs.YtjaojenalodolaaGreatDoor.Tx
open Go Go.RowKit Go.Proofs.YtjaojenalodolaaGreatDoor
def validB (l : List UInt8) : Bool := decide ((Txt.chk l).2 = 0) && (Txt.collapse l == l)
theorem check_is (s : ByteArray) (n : Nat) (x : Int) (w : World) (hs : s.size ≤ 140737488355327) (hT : Lib.Utf8Tabs 2 3 w) (h : Txt.chk s.data.toList = (n, x)) :
    Calls Tryz.prog 183 #[.string s] w fun e w' => e = .returned (.tuple #[.int .i64 n, .int .i64 x]) ∧ Below w.heap.size w w' := by
  have := check_any s w (by omega) hT
  rw [h] at this
  exact this
theorem rcheck_is (s : ByteArray) (n : Nat) (x : Int) (w : World) (hs : s.size ≤ 140737488355327) (h : Txt.chk s.data.toList = (n, x)) :
    Calls Tryz.prog 63 #[.string s] w fun e w' => e = .returned (.tuple #[.int .i64 n, .int .i64 x]) ∧ Below w.heap.size w w' := by
  have := rcheck_any s w (by omega)
  rw [h] at this
  exact this
theorem valid_any (s : ByteArray) (w : World) (hs : s.size ≤ 140737488355327) (hT : Lib.Utf8Tabs 2 3 w) :
    Calls Tryz.prog 158 #[.string s] w fun e w' => e = .returned (.bool (validB s.data.toList)) ∧ Below w.heap.size w w' := by
  have HT := Lib.hid hT
  clear hT
  obtain ⟨n, x, hc⟩ : ∃ n x, Txt.chk s.data.toList = (n, x) := ⟨_, _, rfl⟩
  have HC := Lib.hid hc
  by_cases hx : x = 0
  · subst hx
    have HE := Lib.hid (show validB s.data.toList = (Txt.collapse s.data.toList == s.toList) by unfold validB; rw [hc, Lib.toList_data]; rfl)
    clear hc
    go_enter Tryz.func158, Tryz.ntmps158
    go_wp2_with fail
    refine (check_is s n 0 _ hs HT.out HC.out).mono ?_
    rintro e w1 ⟨rfl, hb1⟩
    have HB1 := Lib.hid hb1
    clear hb1
    go_wp2_with fail
    refine (collapse_any s _ hs).mono ?_
    rintro e w2 ⟨rfl, hb2⟩
    have HB2 := Lib.hid (below_trans HB1.out hb2)
    clear hb2
    go_wp2_with fail
    go_ret
    exact ⟨ret_bool (by rw [HE.out]), HB2.out⟩
  · have hx2 : (x == 0) = false := by simpa using hx
    have HE := Lib.hid (show validB s.data.toList = false by unfold validB; rw [hc]; simp [hx])
    clear hc hx
    go_enter Tryz.func158, Tryz.ntmps158
    go_wp2_with fail
    refine (check_is s n x _ hs HT.out HC.out).mono ?_
    rintro e w1 ⟨rfl, hb1⟩
    have HB1 := Lib.hid hb1
    clear hb1
    go_wp2_with fail
    go_ret
    exact ⟨ret_bool (by rw [HE.out]), HB1.out⟩
theorem rvalid_any (s : ByteArray) (w : World) (hs : s.size ≤ 140737488355327) :
    Calls Tryz.prog 32 #[.string s] w fun e w' => e = .returned (.bool (validB s.data.toList)) ∧ Below w.heap.size w w' := by
  obtain ⟨n, x, hc⟩ : ∃ n x, Txt.chk s.data.toList = (n, x) := ⟨_, _, rfl⟩
  have HC := Lib.hid hc
  by_cases hx : x = 0
  · subst hx
    have HE := Lib.hid (show validB s.data.toList = (Txt.collapse s.data.toList == s.toList) by unfold validB; rw [hc, Lib.toList_data]; rfl)
    clear hc
    go_enter Tryz.func32, Tryz.ntmps32
    go_wp2_with fail
    refine (rcheck_is s n 0 _ hs HC.out).mono ?_
    rintro e w1 ⟨rfl, hb1⟩
    have HB1 := Lib.hid hb1
    clear hb1
    go_wp2_with fail
    refine (rcollapse_any s _ hs).mono ?_
    rintro e w2 ⟨rfl, hb2⟩
    have HB2 := Lib.hid (below_trans HB1.out hb2)
    clear hb2
    go_wp2_with fail
    go_ret
    exact ⟨ret_bool (by rw [HE.out]), HB2.out⟩
  · have hx2 : (x == 0) = false := by simpa using hx
    have HE := Lib.hid (show validB s.data.toList = false by unfold validB; rw [hc]; simp [hx])
    clear hc hx
    go_enter Tryz.func32, Tryz.ntmps32
    go_wp2_with fail
    refine (rcheck_is s n x _ hs HC.out).mono ?_
    rintro e w1 ⟨rfl, hb1⟩
    have HB1 := Lib.hid hb1
    clear hb1
    go_wp2_with fail
    go_ret
    exact ⟨ret_bool (by rw [HE.out]), HB1.out⟩
end Go.Proofs.YtjaojenalodolaaGreatDoor.Tx
