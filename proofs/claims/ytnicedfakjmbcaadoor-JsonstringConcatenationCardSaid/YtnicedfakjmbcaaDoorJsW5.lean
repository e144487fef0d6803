import Derived.Test.YtnicedfakjmbcaaDoorJsW4
namespace Go.Proofs.YtnicedfakjmbcaaDoor.Jw
open Go Go.RowKit Go.Proofs.YtnicedfakjmbcaaDoor Go.Proofs.YtnicedfakjmbcaaDoor.Tx

/-! ### escape sequences of the reference -/
theorem val_int {k : IntKind} {a b : Int} (h : a = b) : Value.int k a = Value.int k b := by rw [h]
def hz (o : Option Nat) : Int := match o with | none => -1 | some n => n
theorem hx_none (l : List UInt8) (i : Nat) (e : Js.hx l i = none) : ∀ j, i ≤ j → Js.hx l j = none := by
  intro j
  induction j with
  | zero => intro h; obtain rfl : i = 0 := by omega
            exact e
  | succ j ih =>
    intro h
    by_cases hi : i = j + 1
    · rw [← hi]; exact e
    · simp only [Js.hx]
      rw [ih (by omega)]; rfl
theorem hx_succ (l : List UInt8) (i n : Nat) (x : Nat) (hx : (l.getD (2 + i) 0).toNat = x) (h : Js.hx l i = some n) : Js.hx l (i + 1) = (Js.hexv x).map fun d => n * 16 + d := by
  simp only [Js.hx]; rw [h, hx]; rfl
theorem pow_bd {i n : Nat} (h : n < 16 ^ i) (hi : i ≤ 3) : n < 4096 := by
  have : 16 ^ i ≤ 16 ^ 3 := Nat.pow_le_pow_right (by decide) hi
  omega
theorem hexv_1 (x d : Nat) (h : x = d + 48) (h2 : d < 10) : Js.hexv x = some d := by
  unfold Js.hexv; rw [if_pos (by omega)]; simp; omega
theorem hexv_2 (x d : Nat) (h : x = d + 97) (h2 : d < 6) : Js.hexv x = some (d + 10) := by
  unfold Js.hexv; rw [if_neg (by omega), if_pos (by omega)]; simp; omega
theorem hexv_3 (x d : Nat) (h : x = d + 65) (h2 : d < 6) : Js.hexv x = some (d + 10) := by
  unfold Js.hexv; rw [if_neg (by omega), if_neg (by omega), if_pos (by omega)]; simp; omega
theorem hexv_0 (x : Nat) (h1 : ¬ (48 ≤ x ∧ x ≤ 57)) (h2 : ¬ (97 ≤ x ∧ x ≤ 102)) (h3 : ¬ (65 ≤ x ∧ x ≤ 70)) : Js.hexv x = none := by
  unfold Js.hexv; rw [if_neg h1, if_neg h2, if_neg h3]
set_option maxRecDepth 100000 in
set_option maxHeartbeats 4000000 in
theorem hex_any (s : ByteArray) (m : Nat) (a : Int) (ha : a = m) (L : List UInt8) (w : World) (hm : m + 4 ≤ s.size) (hs : s.size ≤ 1000000000) (hL : ∀ i, (hi : m + i < s.size) → (L.getD (2 + i) 0).toNat = (s[m + i]'hi).toNat) :
    Calls Tryd.prog 63 #[.string s, .int .i64 a] w fun e w' => e = .returned (.int .i64 (hz (Js.hx L 4))) ∧ w' = w := by
  subst ha
  have HL := Lib.hid hL
  clear hL
  go_enter Tryd.func63, Tryd.ntmps63
  go_wp2
  go_loop [5, 6] (fun v c => ∃ i n : Nat, i ≤ 4 ∧ c = .int .i64 i ∧ v = .int .i64 n ∧ Hid (Js.hx L i = some n)) (fun _ c => (4 - intOf c).toNat)
  case atStart => exact ⟨0, 0, by omega, rfl, rfl, rfl⟩
  case round =>
    obtain ⟨i, n, hi, rfl, rfl, HX⟩ := hrel
    by_cases hlt : i < 4
    · have hn := pow_bd (Js.hx_bd L i n HX.out) (by omega)
      have hin : m + i < s.size := by omega
      have B0 := UInt8.toNat_lt (s[m + i]'hin)
      have HS := Lib.hid (hx_succ L i n _ (HL.out i hin) HX.out)
      by_cases c1 : 48 ≤ (s[m + i]'hin).toNat ∧ (s[m + i]'hin).toNat ≤ 57
      · obtain ⟨c1, c2⟩ := c1
        obtain ⟨d, hd⟩ : ∃ d, (s[m + i]'hin).toNat = d + 48 := ⟨(s[m + i]'hin).toNat - 48, by omega⟩
        have HN := Lib.hid (show Js.hx L (i + 1) = some (n * 16 + d) by rw [HS.out, hexv_1 _ d hd (by omega)]; rfl)
        have HD := Lib.hid hd
        clear hd
        go_wp2
        go_round
        case rel => exact ⟨i + 1, n * 16 + d, by omega, by go_num, val_int (by have := HD.out; omega), HN.out⟩
        case measure => simp [intOf]; omega
      · by_cases c2 : 97 ≤ (s[m + i]'hin).toNat ∧ (s[m + i]'hin).toNat ≤ 102
        · obtain ⟨d, hd⟩ : ∃ d, (s[m + i]'hin).toNat = d + 97 := ⟨(s[m + i]'hin).toNat - 97, by omega⟩
          have HN := Lib.hid (show Js.hx L (i + 1) = some (n * 16 + (d + 10)) by rw [HS.out, hexv_2 _ d hd (by omega)]; rfl)
          have HD := Lib.hid hd
          obtain ⟨c3, c4⟩ := c2
          clear hd
          go_wp2
          go_round
          case rel => exact ⟨i + 1, n * 16 + (d + 10), by omega, by go_num, val_int (by have := HD.out; omega), HN.out⟩
          case measure => simp [intOf]; omega
        · by_cases c3 : 65 ≤ (s[m + i]'hin).toNat ∧ (s[m + i]'hin).toNat ≤ 70
          · obtain ⟨d, hd⟩ : ∃ d, (s[m + i]'hin).toNat = d + 65 := ⟨(s[m + i]'hin).toNat - 65, by omega⟩
            have HN := Lib.hid (show Js.hx L (i + 1) = some (n * 16 + (d + 10)) by rw [HS.out, hexv_3 _ d hd (by omega)]; rfl)
            have HD := Lib.hid hd
            obtain ⟨c4, c5⟩ := c3
            have c6 : (s[m + i]'hin).toNat < 97 := by omega
            clear hd c1 c2
            go_wp2
            go_round
            case rel => exact ⟨i + 1, n * 16 + (d + 10), by omega, by go_num, val_int (by have := HD.out; omega), HN.out⟩
            case measure => simp [intOf]; omega
          · have HN := Lib.hid (show Js.hx L 4 = none from hx_none L (i + 1) (by rw [HS.out, hexv_0 _ c1 c2 c3]; rfl) 4 (by omega))
            have c4 : (s[m + i]'hin).toNat < 48 ∨ (57 < (s[m + i]'hin).toNat ∧ (s[m + i]'hin).toNat < 65) ∨ (70 < (s[m + i]'hin).toNat ∧ (s[m + i]'hin).toNat < 97) ∨ 102 < (s[m + i]'hin).toNat := by omega
            clear c1 c2 c3
            rcases c4 with c4 | c4 | c4 | c4
            · go_wp2
              go_ret
              exact ⟨ret_int (by rw [HN.out]; rfl), rfl⟩
            · obtain ⟨c4, c5⟩ := c4
              go_wp2
              go_ret
              exact ⟨ret_int (by rw [HN.out]; rfl), rfl⟩
            · obtain ⟨c4, c5⟩ := c4
              go_wp2
              go_ret
              exact ⟨ret_int (by rw [HN.out]; rfl), rfl⟩
            · go_wp2
              go_ret
              exact ⟨ret_int (by rw [HN.out]; rfl), rfl⟩
    · obtain rfl : i = 4 := by omega
      have HE := Lib.hid (show hz (Js.hx L 4) = n by rw [HX.out]; rfl)
      go_wp2
      go_ret
      exact ⟨ret_int (by rw [HE.out]), rfl⟩
end Go.Proofs.YtnicedfakjmbcaaDoor.Jw
