/- Walks of the reference's functions of chapter 3: Pad, Number, is. -/
import Derived.Test.YtikjehgbfkndjaaDoorBs
import Derived.Test.YtikjehgbfkndjaaDoorRf2
namespace Go.Proofs.YtikjehgbfkndjaaDoor.Rw
open Go Go.RowKit Go.Proofs.YtikjehgbfkndjaaDoor Go.Proofs.YtikjehgbfkndjaaDoor.Bs

def strLen : Value → Nat | .string b => b.size | _ => 0
/-! ### Pad -/
theorem pad_step (w n j m : Nat) (S : ByteArray) (h : Rf.dig (j + 1) m ++ S.data.toList = Rf.dig w n) : Rf.dig j (m / 10) ++ (strOfNums [48 + (m : Int) % 10] ++ S).data.toList = Rf.dig w n := by
  rw [← h, toList_append, nums_list]
  have e : (48 + (m : Int) % 10).toNat = 48 + m % 10 := by omega
  simp [Rf.dig, e]
theorem pad_size (x : Int) (S : ByteArray) : (strOfNums [x] ++ S).size = S.size + 1 := by
  rw [ByteArray.size_append, strOfNums_size]; simp; omega
set_option maxRecDepth 100000 in
set_option maxHeartbeats 2000000 in
theorem rpad (n w : Nat) (a b : Int) (ha : a = n) (hb : b = w) (W : World) (h : n < 10 ^ w) (hw : w ≤ 4) :
    Calls Tryd.prog 19 #[.int .i64 a, .int .i64 b] W fun e w' => e = .returned (.string ⟨(Rf.dig w n).toArray⟩) ∧ Below W.heap.size W w' := by
  subst ha hb
  have h4 : 10 ^ w ≤ 10 ^ 4 := Nat.pow_le_pow_right (by decide) hw
  go_enter Tryd.func19, Tryd.ntmps19
  go_wp2
  go_loopw [0, 5] (fun c s wr => ∃ (j m : Nat) (S : ByteArray), j ≤ w ∧ m < 10 ^ j ∧ S.size + j = w ∧ c = .int .i64 m ∧ s = .string S ∧ Hid (Rf.dig j m ++ S.data.toList = Rf.dig w n) ∧ Hid (Below W.heap.size W wr)) (fun _ s _ => w - strLen s)
  case atStart => exact ⟨w, n, ⟨#[]⟩, Nat.le_refl _, h, Nat.zero_add _, rfl, rfl, List.append_nil _, Below.refl _ _⟩
  case round =>
    obtain ⟨j, m, S, hj, hm, hsz, rfl, rfl, HD, HB⟩ := hrel
    have hz := HB.out.size
    have hm4 : 10 ^ j ≤ 10 ^ 4 := Nat.pow_le_pow_right (by decide) (by omega)
    have hm9 : m < 10000 := by omega
    cases j with
    | zero =>
      obtain rfl : m = 0 := by simpa using hm
      have hs1 : S.size = w := by omega
      have HE := Lib.hid (show S = ⟨(Rf.dig w n).toArray⟩ from (ba_of HD.out).symm)
      have g1 : decide (S.size < w) = false := by simp; omega
      clear hm hm4 hsz hs1 h h4
      go_wp2
      go_ret
      exact ⟨ret_str HE.out, HB.out⟩
    | succ j =>
      have hm' : m / 10 < 10 ^ j := by rw [Nat.pow_succ] at hm; omega
      have HM := Lib.hid hm'
      have HN0 := Lib.hid (pad_step w n j m S HD.out)
      have HS0 := Lib.hid (pad_size (48 + (m : Int) % 10) S)
      have hcv0 : (convert 43 9 (.slice (some ⟨wr.heap.size, 0, none⟩) 1 1)).run Tryd.prog (wr.alloc (.cells #[.int .u8 (48 + (m : Int) % 10)] 5)) = .ok (.string (strOfNums [48 + (m : Int) % 10])) (wr.alloc (.cells #[.int .u8 (48 + (m : Int) % 10)] 5)) := conv_new wr [48 + (m : Int) % 10] 1 rfl
      have HN := HN0.out
      have HS := HS0.out
      obtain ⟨X, hX, hX1⟩ : ∃ X : ByteArray, strOfNums [48 + (m : Int) % 10] = X ∧ X.size ≤ 1 := ⟨_, rfl, by rw [strOfNums_size]; simp⟩
      rw [hX] at hcv0 HN HS
      have hcv := hcv0
      replace HN := Lib.hid HN
      replace HS := Lib.hid HS
      clear hX hcv0 HN0 HS0
      have hs1 : S.size < w := by omega
      have g1 : decide (S.size < w) = true := by simp; omega
      have HSZ := Lib.hid hsz
      clear hm hm' hm4 h h4 hsz
      by_cases m0 : 0 < m
      · go_wp2
        go_roundw
        case rel => exact ⟨j, m / 10, _, by omega, HM.out, by rw [HS.out]; have := HSZ.out; omega, val_int (by omega), rfl, HN.out, HB.out.alloc hz _⟩
        case measure => simp only [strLen]; rw [HS.out]; omega
      · go_wp2
        go_roundw
        case rel => exact ⟨j, m / 10, _, by omega, HM.out, by rw [HS.out]; have := HSZ.out; omega, val_int (by omega), rfl, HN.out, HB.out.alloc hz _⟩
        case measure => simp only [strLen]; rw [HS.out]; omega
/-! ### Number -/
theorem val_next (l : List UInt8) (i n x : Nat) (hx : (l.getD i 0).toNat = x) (h1 : 48 ≤ x) (h2 : x ≤ 57) (h : Rf.val l i = some n) : Rf.val l (i + 1) = some (n * 10 + (x - 48)) := by
  unfold Rf.val
  rw [if_pos (Rf.isD_t (by omega) (by omega)), h, hx]; rfl
theorem val_stop (l : List UInt8) (i x : Nat) (hx : (l.getD i 0).toNat = x) (h : ¬ (48 ≤ x ∧ x ≤ 57)) : Rf.val l (i + 1) = none := by
  unfold Rf.val
  rw [Rf.isD_f (by rw [hx]; exact h)]; rfl
theorem pow_bd {i n : Nat} (h : n < 10 ^ i) (hi : i ≤ 4) : n < 10000 := by
  have : 10 ^ i ≤ 10 ^ 4 := Nat.pow_le_pow_right (by decide) hi
  omega
set_option maxRecDepth 100000 in
set_option maxHeartbeats 2000000 in
theorem rnumber (s : ByteArray) (k w : Nat) (a b : Int) (ha : a = k) (hb : b = w) (W : World) (hs : s.size ≤ 1000000000) (hk : k ≤ 2000000000) (hw1 : 1 ≤ w) (hw : w ≤ 4) :
    Calls Tryd.prog 38 #[.string s, .int .i64 a, .int .i64 b] W fun e w' => e = .returned (.int .i64 (Rf.numZ (s.data.toList.drop k) w)) ∧ w' = W := by
  subst ha hb
  by_cases hshort : s.size < k + w
  · have HE := Lib.hid (show Rf.numZ (s.data.toList.drop k) w = -1 from Rf.numZ_none (Rf.val_short _ _ (by rw [drop_len]; omega)))
    have g1 : decide ((k : Int) < 0) = false := by simp
    have g2 : decide ((s.size : Int) - k < w) = true := by simp; omega
    go_enter Tryd.func38, Tryd.ntmps38
    go_wp2
    go_ret
    exact ⟨ret_int (by rw [HE.out]), rfl⟩
  · have g1 : decide ((k : Int) < 0) = false := by simp
    have g2 : decide ((s.size : Int) - k < w) = false := by simp; omega
    go_enter Tryd.func38, Tryd.ntmps38
    go_wp2
    clear g1 g2
    go_loop [7, 8] (fun v c => ∃ i n : Nat, i ≤ w ∧ c = .int .i64 i ∧ v = .int .i64 n ∧ Hid (Rf.val (s.data.toList.drop k) i = some n)) (fun _ c => (w - intOf c).toNat)
    case atStart => exact ⟨0, 0, by omega, rfl, rfl, rfl⟩
    case round =>
      obtain ⟨i, n, hi, rfl, rfl, HX⟩ := hrel
      by_cases hlt : i < w
      · have hn := pow_bd (Rf.val_bd _ i n HX.out) (by omega)
        have hin : k + i < s.size := by omega
        have B0 := UInt8.toNat_lt (s[k + i]'hin)
        have HD := Lib.hid (show ((s.data.toList.drop k).getD i 0).toNat = (s[k + i]'hin).toNat by rw [drop_at s k i hin])
        by_cases c1 : 48 ≤ (s[k + i]'hin).toNat ∧ (s[k + i]'hin).toNat ≤ 57
        · obtain ⟨c1, c2⟩ := c1
          have HN := Lib.hid (val_next _ i n _ HD.out c1 c2 HX.out)
          go_wp2
          go_round
          case rel => exact ⟨i + 1, n * 10 + ((s[k + i]'hin).toNat - 48), by omega, by go_num, val_int (by omega), HN.out⟩
          case measure => simp [intOf]; omega
        · have HN := Lib.hid (show Rf.numZ (s.data.toList.drop k) w = -1 from Rf.numZ_none (Rf.val_none _ (i + 1) (val_stop _ i _ HD.out c1) w (by omega)))
          have c4 : (s[k + i]'hin).toNat < 48 ∨ 57 < (s[k + i]'hin).toNat := by omega
          clear c1
          rcases c4 with c4 | c4
          · go_wp2
            go_ret
            exact ⟨ret_int (by rw [HN.out]), rfl⟩
          · go_wp2
            go_ret
            exact ⟨ret_int (by rw [HN.out]), rfl⟩
      · obtain rfl : i = w := by omega
        have HE := Lib.hid (show Rf.numZ (s.data.toList.drop k) i = n from Rf.numZ_some HX.out)
        go_wp2
        go_ret
        exact ⟨ret_int (by rw [HE.out]), rfl⟩
theorem rnumber_is (s : ByteArray) (k w : Nat) (a b : Int) (ha : a = k) (hb : b = w) (z : Int) (W : World) (hs : s.size ≤ 1000000000) (hk : k ≤ 2000000000) (hw1 : 1 ≤ w) (hw : w ≤ 4) (h : Rf.numZ (s.data.toList.drop k) w = z) :
    Calls Tryd.prog 38 #[.string s, .int .i64 a, .int .i64 b] W fun e w' => e = .returned (.int .i64 z) ∧ w' = W := by
  rw [← h]; exact rnumber s k w a b ha hb W hs hk hw1 hw
/-! ### is -/
set_option maxHeartbeats 1000000 in
theorem ris (s : ByteArray) (k : Nat) (a : Int) (ha : a = k) (x y : UInt8) (p q : Int) (hp : p = x.toNat) (hq : q = y.toNat) (hx : x ≠ 0) (hy : y ≠ 0) (W : World) (_hs : s.size ≤ 1000000000) :
    Calls Tryd.prog 36 #[.string s, .int .i64 a, .int .u8 p, .int .u8 q] W fun e w' => e = .returned (.bool (Rf.isB s.data.toList k x y)) ∧ w' = W := by
  subst ha hp hq
  by_cases h : k < s.size
  · have HG := Lib.hid (getD_at s k h)
    by_cases h1 : s[k] = x
    · have HE := Lib.hid (show Rf.isB s.data.toList k x y = true from decide_eq_true (.inl (HG.out.trans h1)))
      subst h1
      go_enter Tryd.func36, Tryd.ntmps36
      go_wp2
      go_ret
      exact ⟨ret_bool HE.out.symm, rfl⟩
    · have g1 : ((s[k].toNat : Int) == (x.toNat : Int)) = false := by
        rw [beq_eq_false_iff_ne]; intro e; exact h1 (UInt8.toNat_inj.1 (by omega))
      have HE := Lib.hid (show Rf.isB s.data.toList k x y = ((s[k].toNat : Int) == (y.toNat : Int)) by
        unfold Rf.isB
        rw [HG.out, Bool.eq_iff_iff, decide_eq_true_iff, beq_iff_eq]
        constructor
        · rintro (h | h)
          · exact absurd h h1
          · rw [h]
        · intro h; right; exact UInt8.toNat_inj.1 (by omega))
      clear h1
      go_enter Tryd.func36, Tryd.ntmps36
      go_wp2
      go_ret
      exact ⟨ret_bool HE.out.symm, rfl⟩
  · have HE := Lib.hid (show Rf.isB s.data.toList k x y = false by
      unfold Rf.isB
      rw [getD_out s k (by omega)]
      exact decide_eq_false (by rintro (h | h); exact hx h.symm; exact hy h.symm))
    go_enter Tryd.func36, Tryd.ntmps36
    go_wp2
    go_ret
    exact ⟨ret_bool HE.out.symm, rfl⟩
theorem ris_is (s : ByteArray) (k : Nat) (a : Int) (ha : a = k) (x y : UInt8) (p q : Int) (hp : p = x.toNat) (hq : q = y.toNat) (hx : x ≠ 0) (hy : y ≠ 0) (b : Bool) (W : World) (hs : s.size ≤ 1000000000) (h : Rf.isB s.data.toList k x y = b) :
    Calls Tryd.prog 36 #[.string s, .int .i64 a, .int .u8 p, .int .u8 q] W fun e w' => e = .returned (.bool b) ∧ w' = W := by
  rw [← h]; exact ris s k a ha x y p q hp hq hx hy W hs
end Go.Proofs.YtikjehgbfkndjaaDoor.Rw
