/- Plain facts on reading a canonical JSON text back: first bytes, numbers, commas. No program in sight. -/
import Derived.Test.YtjaojenalodolaaGreatDoorKB
import Derived.Lib.ParseIntBCases
import Derived.Lib.SlTrimSet
import Derived.Lib.ItoaMem
import Derived.Lib.Strings
namespace Go.Proofs.YtjaojenalodolaaGreatDoor.Pa
open Go Go.Proofs.YtjaojenalodolaaGreatDoor
set_option linter.unusedVariables false
def numSet : List UInt8 := [48, 49, 50, 51, 52, 53, 54, 55, 56, 57, 43, 45, 46, 101, 69]
theorem u8_dig (k : Nat) (h : k < 10) : (UInt8.ofNat (48 + k)).toNat = 48 + k := by
  rw [UInt8.toNat_ofNat']
  omega
theorem dec_bd : ∀ (u : Nat) (b : UInt8), b ∈ Lib.decDigits u → 48 ≤ b.toNat ∧ b.toNat ≤ 57 := by
  intro u
  induction u using Nat.strongRecOn with
  | ind u ih =>
    intro b hb
    rw [Lib.decDigits] at hb
    by_cases h : u < 10
    · rw [dif_pos h] at hb
      simp only [List.mem_singleton] at hb
      rw [hb, u8_dig u h]
      omega
    · rw [dif_neg h] at hb
      rcases List.mem_append.1 hb with h2 | h2
      · exact ih _ (by omega) b h2
      · simp only [List.mem_singleton] at h2
        rw [h2, u8_dig _ (by omega)]
        omega
theorem dec_ne (u : Nat) : Lib.decDigits u ≠ [] := by
  rw [Lib.decDigits]
  by_cases h : u < 10
  · rw [dif_pos h]; simp
  · rw [dif_neg h]; simp
theorem dec_zero : ∀ (u : Nat) (c : UInt8) (r : List UInt8), Lib.decDigits u = c :: r → r ≠ [] → c ≠ 48 := by
  intro u
  induction u using Nat.strongRecOn with
  | ind u ih =>
    intro c r h hr
    rw [Lib.decDigits] at h
    by_cases h1 : u < 10
    · rw [dif_pos h1] at h
      simp only [List.cons.injEq] at h
      exact absurd h.2.symm hr
    · rw [dif_neg h1] at h
      cases h2 : Lib.decDigits (u / 10) with
      | nil => exact absurd h2 (dec_ne _)
      | cons x y =>
        rw [h2, List.cons_append] at h
        simp only [List.cons.injEq] at h
        obtain ⟨rfl, h3⟩ := h
        by_cases hy : y = []
        · subst hy
          have h4 : ¬ 10 ≤ u / 10 := fun h5 => by
            have := congrArg List.length h2
            rw [Lib.decDigits, dif_neg (by omega), List.length_append] at this
            have h6 := List.length_pos_iff.2 (dec_ne (u / 10 / 10))
            simp at this
            exact dec_ne _ this
          rw [Lib.decDigits, dif_pos (by omega)] at h2
          simp only [List.cons.injEq, and_true] at h2
          intro e
          have := congrArg UInt8.toNat (h2.trans e)
          rw [u8_dig _ (by omega)] at this
          have h7 : (48 : UInt8).toNat = 48 := rfl
          rw [h7] at this
          omega
        · exact ih _ (by omega) x y h2 hy
theorem dec_parse (M : Nat) (hM : M ≤ 18446744073709551615) : ∀ (u : Nat) (r : List UInt8), u ≤ M → Lib.parseUintM M 0 (Lib.decDigits u ++ r) = Lib.parseUintM M u r := by
  intro u
  induction u using Nat.strongRecOn with
  | ind u ih =>
    intro r hu
    rw [Lib.decDigits]
    by_cases h : u < 10
    · rw [dif_pos h]
      have e := u8_dig u h
      simp only [List.cons_append, List.nil_append, Lib.parseUintM, e]
      rw [if_pos (by omega), if_neg (by omega), if_neg (by omega)]
      congr 1
      omega
    · rw [dif_neg h, List.append_assoc, ih (u / 10) (by omega) _ (by omega)]
      have e := u8_dig (u % 10) (by omega)
      simp only [List.cons_append, List.nil_append, Lib.parseUintM, e]
      rw [if_pos (by omega), if_neg (by omega), if_neg (by omega)]
      congr 1
      omega
theorem dec_uint (u : Nat) (h : u ≤ 18446744073709551615) : Lib.parseUintB 64 (Lib.decDigits u) = .ok u := by
  unfold Lib.parseUintB
  rw [if_neg (dec_ne u)]
  have := dec_parse (2 ^ 64 - 1) (by decide) u [] (by simpa using h)
  rw [List.append_nil] at this
  rw [this]
  rfl
structure Num (n : Int) (l : List UInt8) : Prop where
  ne : l ≠ []
  set : ∀ b ∈ l, numSet.contains b = true
  ok : Lib.parseIntB 64 l = .ok n
  plus : l.getD 0 0 ≠ 43
  head : l.getD 0 0 = 45 ∨ (48 ≤ (l.getD 0 0).toNat ∧ (l.getD 0 0).toNat ≤ 57)
  digits : Lib.trimPrefix l [45] ≠ []
  zero : (Lib.trimPrefix l [45]).getD 0 0 = 48 → (Lib.trimPrefix l [45]).length = 1
theorem set_dig (b : UInt8) (h : 48 ≤ b.toNat ∧ b.toNat ≤ 57) : numSet.contains b = true := by
  have : ∀ n : Fin 256, 48 ≤ n.val → n.val ≤ 57 → numSet.contains (UInt8.ofNat n.val) = true := by decide +kernel
  have e := this ⟨b.toNat, b.toNat_lt⟩ h.1 h.2
  have : UInt8.ofNat b.toNat = b := by simp
  simpa [this] using e
theorem num_dig (n : Int) (h0 : -9223372036854775808 ≤ n) (h1 : n ≤ 9223372036854775807) : Num n (Jv.dig n) := by
  unfold Jv.dig
  by_cases hn : n < 0
  · obtain ⟨u, rfl⟩ : ∃ u : Nat, n = -(u : Int) := ⟨n.natAbs, by omega⟩
    have e : Lib.itoa (-(u : Int)) = 45 :: Lib.decDigits u := by unfold Lib.itoa; rw [if_pos hn]; simp
    have et : Lib.trimPrefix (45 :: Lib.decDigits u) [45] = Lib.decDigits u := by
      unfold Lib.trimPrefix
      rw [if_pos (by simp [Lib.hasPrefix])]
      rfl
    rw [e]
    refine ⟨by simp, fun b hb => ?_, ?_, by simp, .inl rfl, by rw [et]; exact dec_ne u, ?_⟩
    · simp only [List.mem_cons] at hb
      rcases hb with rfl | hb
      · decide
      · exact set_dig b (dec_bd u b hb)
    · rw [Lib.parseIntB_minus, dec_uint u (by omega)]
      simp only [Lib.signedC]
      rw [if_neg (by omega)]
    · rw [et]
      intro h
      cases h2 : Lib.decDigits u with
      | nil => exact absurd h2 (dec_ne u)
      | cons c r =>
        rw [h2] at h
        by_cases hr : r = []
        · rw [hr]; rfl
        · exact absurd h (dec_zero u c r h2 hr)
  · obtain ⟨u, rfl⟩ : ∃ u : Nat, n = (u : Int) := ⟨n.toNat, by omega⟩
    have e : Lib.itoa (u : Int) = Lib.decDigits u := by unfold Lib.itoa; rw [if_neg hn]; simp
    rw [e]
    cases h2 : Lib.decDigits u with
    | nil => exact absurd h2 (dec_ne u)
    | cons c r =>
      have hc := dec_bd u c (by rw [h2]; exact List.mem_cons_self ..)
      have et : Lib.trimPrefix (c :: r) [45] = c :: r := by
        unfold Lib.trimPrefix
        rw [if_neg]
        intro h
        simp [Lib.hasPrefix] at h
        have := congrArg UInt8.toNat h
        have h3 : (45 : UInt8).toNat = 45 := rfl
        rw [h3] at this
        omega
      have hp := dec_uint u (by omega)
      rw [h2] at hp
      refine ⟨by simp, fun b hb => set_dig b (dec_bd u b (by rw [h2]; exact hb)), ?_, ?_, .inr hc, by rw [et]; simp, ?_⟩
      · rw [Lib.parseIntB_plain 64 c r (by omega) (by omega), hp]
        simp only [Lib.signlessC]
        rw [if_neg (by omega)]
      · show c ≠ 43
        intro e2
        rw [e2] at hc
        have h3 : (43 : UInt8).toNat = 43 := rfl
        rw [h3] at hc
        omega
      · rw [et]
        intro h
        by_cases hr : r = []
        · rw [hr]; rfl
        · exact absurd h (dec_zero u c r h2 hr)
def Stop (l : List UInt8) : Prop := ∀ c, l.head? = some c → numSet.contains c = false
def Beg (c : UInt8) : Prop := c = 34 ∨ c = 91 ∨ c = 123 ∨ c = 45 ∨ (48 ≤ c.toNat ∧ c.toNat ≤ 57)
theorem joinC_cons (a : List UInt8) (r : List (List UInt8)) : Jv.joinC (a :: r) = a ++ (if r = [] then [] else 44 :: Jv.joinC r) := by
  cases r with
  | nil => simp [Jv.joinC]
  | cons b r => simp [Jv.joinC]
theorem drop_add {S : List UInt8} {k : Nat} {a r : List UInt8} (h : S.drop k = a ++ r) : S.drop (k + a.length) = r := by
  rw [← List.drop_drop, h, List.drop_left]
theorem drop_one {S : List UInt8} {k : Nat} {c : UInt8} {r : List UInt8} (h : S.drop k = c :: r) : S.drop (k + 1) = r := by
  rw [← List.drop_drop, h]
  rfl
theorem drop_lt {S : List UInt8} {k : Nat} {c : UInt8} {r : List UInt8} (h : S.drop k = c :: r) : k < S.length := by
  rcases Nat.lt_or_ge k S.length with h1 | h1
  · exact h1
  · rw [List.drop_of_length_le h1] at h
    cases h
theorem drop_at {S : ByteArray} {k : Nat} {c : UInt8} {r : List UInt8} (h : S.data.toList.drop k = c :: r) : ∃ hk : k < S.size, S[k] = c := by
  have h1 : k < S.size := by
    have := drop_lt h
    simpa using this
  refine ⟨h1, ?_⟩
  have h2 : (S.data.toList.drop k)[0]? = some c := by rw [h]; rfl
  rw [List.getElem?_drop] at h2
  simp only [Nat.add_zero] at h2
  have h3 : S.data.toList[k]? = some S[k] := by
    rw [List.getElem?_eq_getElem (by simpa using h1)]
    rfl
  rw [h3] at h2
  exact Option.some.inj h2
theorem drop_len {S : List UInt8} {k : Nat} {l : List UInt8} (h : S.drop k = l) (hk : k ≤ S.length) : k + l.length = S.length := by
  rw [← h, List.length_drop]
  omega
end Go.Proofs.YtjaojenalodolaaGreatDoor.Pa
