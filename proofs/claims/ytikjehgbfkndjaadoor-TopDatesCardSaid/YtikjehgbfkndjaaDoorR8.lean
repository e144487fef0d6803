/- Plain facts on dates and times in the form of RSS: names, words. No program in sight. -/
import Derived.Test.YtikjehgbfkndjaaDoorRf2
import Derived.Lib.Atoi
namespace Go.Proofs.YtikjehgbfkndjaaDoor.R8
open Go Go.Proofs.YtikjehgbfkndjaaDoor

def dayL : List (List UInt8) := [[115, 117, 110], [109, 111, 110], [116, 117, 101], [119, 101, 100], [116, 104, 117], [102, 114, 105], [115, 97, 116]]
def monL : List (List UInt8) := [[106, 97, 110], [102, 101, 98], [109, 97, 114], [97, 112, 114], [109, 97, 121], [106, 117, 110], [106, 117, 108], [97, 117, 103], [115, 101, 112], [111, 99, 116], [110, 111, 118], [100, 101, 99]]
def up (l : List UInt8) : List UInt8 := match l with | [] => [] | c :: t => (c - 32) :: t
def lowC (c : UInt8) : UInt8 := if 65 ≤ c.toNat ∧ c.toNat ≤ 90 then c + 32 else c
def low (l : List UInt8) : List UInt8 := l.map lowC
theorem low_len (l : List UInt8) : (low l).length = l.length := by simp [low]
theorem day_word (w : Nat) (h : w < 7) : low (up (dayL.getD w []) ++ [44]) = dayL.getD w [] ++ [44] := by
  have : ∀ i : Fin 7, low (up (dayL.getD i.val []) ++ [44]) = dayL.getD i.val [] ++ [44] := by decide
  exact this ⟨w, h⟩
theorem day_ne (w i : Nat) (h : w < 7) (hi : i < w) : (dayL.getD w [] ++ [44] == dayL.getD i [] ++ [44]) = false := by
  have : ∀ (a b : Fin 7), b.val < a.val → (dayL.getD a.val [] ++ [44] == dayL.getD b.val [] ++ [44]) = false := by decide
  exact this ⟨w, h⟩ ⟨i, by omega⟩ hi
theorem mon_word (m : Nat) (h : m < 12) : low (up (monL.getD m [])) = monL.getD m [] := by
  have : ∀ i : Fin 12, low (up (monL.getD i.val [])) = monL.getD i.val [] := by decide
  exact this ⟨m, h⟩
theorem mon_ne (m i : Nat) (h : m < 12) (hi : i < m) : (monL.getD m [] == monL.getD i []) = false := by
  have : ∀ (a b : Fin 12), b.val < a.val → (monL.getD a.val [] == monL.getD b.val []) = false := by decide
  exact this ⟨m, h⟩ ⟨i, by omega⟩ hi
theorem day_three (w : Nat) (h : w < 7) : ∃ x y z : UInt8, dayL.getD w [] = [x, y, z] ∧ 97 ≤ x.toNat ∧ up (dayL.getD w []) = [x - 32, y, z] ∧ (x - 32).toNat = x.toNat - 32 := by
  have : ∀ i : Fin 7, ∃ x y z : UInt8, dayL.getD i.val [] = [x, y, z] ∧ 97 ≤ x.toNat ∧ up (dayL.getD i.val []) = [x - 32, y, z] ∧ (x - 32).toNat = x.toNat - 32 := by
    intro i
    match i with
    | 0 => exact ⟨_, _, _, rfl, by decide, rfl, by decide⟩
    | 1 => exact ⟨_, _, _, rfl, by decide, rfl, by decide⟩
    | 2 => exact ⟨_, _, _, rfl, by decide, rfl, by decide⟩
    | 3 => exact ⟨_, _, _, rfl, by decide, rfl, by decide⟩
    | 4 => exact ⟨_, _, _, rfl, by decide, rfl, by decide⟩
    | 5 => exact ⟨_, _, _, rfl, by decide, rfl, by decide⟩
    | 6 => exact ⟨_, _, _, rfl, by decide, rfl, by decide⟩
  exact this ⟨w, h⟩
theorem mon_three (w : Nat) (h : w < 12) : ∃ x y z : UInt8, monL.getD w [] = [x, y, z] ∧ 97 ≤ x.toNat ∧ up (monL.getD w []) = [x - 32, y, z] ∧ (x - 32).toNat = x.toNat - 32 := by
  have : ∀ i : Fin 12, ∃ x y z : UInt8, monL.getD i.val [] = [x, y, z] ∧ 97 ≤ x.toNat ∧ up (monL.getD i.val []) = [x - 32, y, z] ∧ (x - 32).toNat = x.toNat - 32 := by
    intro i
    match i with
    | 0 => exact ⟨_, _, _, rfl, by decide, rfl, by decide⟩
    | 1 => exact ⟨_, _, _, rfl, by decide, rfl, by decide⟩
    | 2 => exact ⟨_, _, _, rfl, by decide, rfl, by decide⟩
    | 3 => exact ⟨_, _, _, rfl, by decide, rfl, by decide⟩
    | 4 => exact ⟨_, _, _, rfl, by decide, rfl, by decide⟩
    | 5 => exact ⟨_, _, _, rfl, by decide, rfl, by decide⟩
    | 6 => exact ⟨_, _, _, rfl, by decide, rfl, by decide⟩
    | 7 => exact ⟨_, _, _, rfl, by decide, rfl, by decide⟩
    | 8 => exact ⟨_, _, _, rfl, by decide, rfl, by decide⟩
    | 9 => exact ⟨_, _, _, rfl, by decide, rfl, by decide⟩
    | 10 => exact ⟨_, _, _, rfl, by decide, rfl, by decide⟩
    | 11 => exact ⟨_, _, _, rfl, by decide, rfl, by decide⟩
  exact this ⟨w, h⟩
/-- The words of a date. -/
def clk (h mi s : Nat) : List UInt8 := Rf.dig 2 h ++ (58 :: (Rf.dig 2 mi ++ (58 :: Rf.dig 2 s)))
def text (w y m d h mi s : Nat) : List UInt8 :=
  up (dayL.getD w []) ++ ([44, 32] ++ (Rf.dig 2 d ++ (32 :: (up (monL.getD (m - 1) []) ++ (32 :: (Rf.dig 4 y ++ (32 :: (clk h mi s ++ [32, 71, 77, 84]))))))))

/-! ### numerals are read back by Go's library -/
theorem decFrom_snoc : ∀ (l : List UInt8) (acc n d : Nat) (b : UInt8), Lib.decFrom acc l = some n → Lib.digitVal b = some d → Lib.decFrom acc (l ++ [b]) = some (n * 10 + d)
  | [], acc, n, d, b, h, hd => by
    simp only [Lib.decFrom, Option.some.injEq] at h
    subst h
    simp only [List.nil_append, Lib.decFrom, hd]
  | a :: t, acc, n, d, b, h, hd => by
    simp only [Lib.decFrom] at h
    simp only [List.cons_append, Lib.decFrom]
    cases ha : Lib.digitVal a with
    | none => rw [ha] at h; simp at h
    | some x =>
      rw [ha] at h
      exact decFrom_snoc t _ n d b (by simpa using h) hd
theorem digitVal_mk (n : Nat) : Lib.digitVal (UInt8.ofNat (48 + n % 10)) = some (n % 10) := by
  have : ∀ i : Fin 10, Lib.digitVal (UInt8.ofNat (48 + i.val)) = some i.val := by decide
  exact this ⟨n % 10, by omega⟩
theorem dec_dig : ∀ (w n : Nat), n < 10 ^ w → Lib.decFrom 0 (Rf.dig w n) = some n
  | 0, n, h => by simp at h; subst h; rfl
  | w + 1, n, h => by
    rw [Nat.pow_succ] at h
    have := decFrom_snoc (Rf.dig w (n / 10)) 0 (n / 10) (n % 10) _ (dec_dig w (n / 10) (by omega)) (digitVal_mk n)
    rw [show n / 10 * 10 + n % 10 = n by omega] at this
    exact this
theorem atoi_dig (w n : Nat) (hw : 1 ≤ w) (h : n < 10 ^ w) : Lib.atoi (Rf.dig w n) = some (n : Int) := by
  have hd := dec_dig w n h
  cases hl : Rf.dig w n with
  | nil => have := congrArg List.length hl; rw [Rf.dig_len] at this; simp at this; omega
  | cons b r =>
    rw [hl] at hd
    have hb : Rf.isD b = true := by
      have h0 := Rf.val_dig w n [] h
      rw [List.append_nil, hl] at h0
      have : Rf.val (b :: r) 1 ≠ none := fun e => by rw [Rf.val_none _ 1 e w hw] at h0; cases h0
      unfold Rf.val at this
      by_cases hc : Rf.isD b = true
      · exact hc
      · exact absurd (if_neg hc) this
    have hb2 := Rf.isD_iff.1 hb
    have n1 : (b == 45) = false := by rw [beq_eq_false_iff_ne]; intro e; subst e; exact absurd hb2.1 (by decide)
    have n2 : (b == 43) = false := by rw [beq_eq_false_iff_ne]; intro e; subst e; exact absurd hb2.1 (by decide)
    unfold Lib.atoi
    simp only [n1, n2, Bool.false_eq_true, if_false]
    unfold Lib.decNat
    simp [hd]
theorem dig_isD (w n j : Nat) (h : n < 10 ^ w) (hj : j < w) : Rf.isD ((Rf.dig w n).getD j 0) = true := by
  have h0 := Rf.val_dig w n [] h
  rw [List.append_nil] at h0
  have : Rf.val (Rf.dig w n) (j + 1) ≠ none := fun e => by rw [Rf.val_none _ (j + 1) e w hj] at h0; cases h0
  unfold Rf.val at this
  by_cases hc : Rf.isD ((Rf.dig w n).getD j 0) = true
  · exact hc
  · exact absurd (if_neg hc) this
end Go.Proofs.YtikjehgbfkndjaaDoor.R8
