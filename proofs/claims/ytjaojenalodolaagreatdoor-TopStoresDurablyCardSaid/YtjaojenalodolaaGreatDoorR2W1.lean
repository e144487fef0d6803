/- The reference's Decimal, walked. -/
import Derived.Test.YtjaojenalodolaaGreatDoorKB
import Derived.Test.YtjaojenalodolaaGreatDoorKV
import Derived.Test.YtjaojenalodolaaGreatDoorMoW1
import Derived.Lib.ItoaLen
namespace Go.Proofs.YtjaojenalodolaaGreatDoor.R2
open Go Go.RowKit Go.Proofs.YtjaojenalodolaaGreatDoor Go.Proofs.YtjaojenalodolaaGreatDoor.Rw Go.Proofs.YtjaojenalodolaaGreatDoor.Vf Go.Proofs.YtjaojenalodolaaGreatDoor.Mw
set_option linter.unusedVariables false
set_option maxRecDepth 100000
set_option maxHeartbeats 16000000
theorem tm (n : Int) : (0 ≤ n ∧ n.tmod 10 = n % 10 ∧ n.tdiv 10 = n / 10) ∨ (n < 0 ∧ n.tmod 10 = -((-n) % 10) ∧ n.tdiv 10 = -((-n) / 10)) := by
  by_cases h : 0 ≤ n
  · exact .inl ⟨h, Int.tmod_eq_emod_of_nonneg h, Int.tdiv_eq_ediv_of_nonneg h⟩
  · have e : n = -(-n) := by omega
    refine .inr ⟨by omega, ?_, ?_⟩
    · rw [e, Int.neg_tmod, Int.tmod_eq_emod_of_nonneg (by omega)]; simp
    · rw [e, Int.neg_tdiv, Int.tdiv_eq_ediv_of_nonneg (by omega)]; simp
theorem dec_last {m : Int} (h1 : -10 < m) (h2 : m < 10) : Lib.decDigits m.natAbs = [UInt8.ofNat (48 + (m.tmod 10).natAbs)] := by
  rw [Lib.decDigits, dif_pos (by omega)]
  rcases tm m with ⟨h, h3, h4⟩ | ⟨h, h3, h4⟩
  · rw [h3, show (m % 10).natAbs = m.natAbs by omega]
  · rw [h3, show (-(-m % 10)).natAbs = m.natAbs by omega]
theorem dec_more {m : Int} (h : ¬ (-10 < m ∧ m < 10)) : Lib.decDigits m.natAbs = Lib.decDigits (m.tdiv 10).natAbs ++ [UInt8.ofNat (48 + (m.tmod 10).natAbs)] := by
  rw [Lib.decDigits, dif_neg (by omega)]
  rcases tm m with ⟨h, h3, h4⟩ | ⟨h, h3, h4⟩
  · rw [h3, h4, show (m % 10).natAbs = m.natAbs % 10 by omega, show (m / 10).natAbs = m.natAbs / 10 by omega]
  · rw [h3, h4, show (-(-m % 10)).natAbs = m.natAbs % 10 by omega, show (-(-m / 10)).natAbs = m.natAbs / 10 by omega]
theorem rd_one (w : World) (b : UInt8) : Rd (w.alloc (.cells #[.int .u8 b.toNat] 5)) (.slice (some ⟨w.heap.size, 0, none⟩) 1 1) [b] :=
  .inr ⟨w.heap.size, 1, #[.int .u8 b.toNat], _, rfl, heap_alloc_new w _, by simp, rfl⟩
theorem decimal_is (n : Int) (h0 : -9223372036854775808 ≤ n) (h1 : n ≤ 9223372036854775807) (W : World) :
    Calls Tryz.prog 100 #[.int .i64 n] W fun e w' => e = .returned (.string ⟨(Jv.dig n).toArray⟩) ∧ Below W.heap.size W w' := by
  have HLEN := Lib.hid (Lib.itoa_length_le n h0 h1)
  have HD : Hid (Jv.dig n = if n < 0 then 45 :: Lib.decDigits n.natAbs else Lib.decDigits n.natAbs) := Lib.hid (by
    unfold Jv.dig Lib.itoa
    by_cases h : n < 0
    · rw [if_pos h, if_pos h]
    · rw [if_neg h, if_neg h, show n.toNat = n.natAbs by omega])
  go_enter Tryz.func100, Tryz.ntmps100
  go_wp2_with fail
  go_loopw [3, 4] (fun x y wr => ∃ (s : ByteArray) (m : Int), x = .string s ∧ y = .int .i64 m ∧ Hid ((-9223372036854775808 ≤ m ∧ m ≤ 9223372036854775807) ∧ Lib.decDigits n.natAbs = Lib.decDigits m.natAbs ++ s.data.toList) ∧ Hid (Below W.heap.size W wr)) (fun x y _ => (intOf y).natAbs)
  case atStart => exact ⟨_, n, rfl, rfl, Lib.hid ⟨⟨h0, h1⟩, by simp⟩, Lib.hid (Below.refl _ _)⟩
  case round =>
    obtain ⟨s, m, rfl, rfl, hI, hb⟩ := hrel
    obtain ⟨⟨m0, m1⟩, hd⟩ := hI.out
    have HDD := Lib.hid hd
    have hbw := hb.out
    obtain ⟨d, hdd, d10⟩ : ∃ d : Nat, d = (m.tmod 10).natAbs ∧ d < 10 := ⟨_, rfl, by rcases tm m with ⟨h, h3, h4⟩ | ⟨h, h3, h4⟩ <;> omega⟩
    obtain ⟨r, hr⟩ : ∃ r, m.tmod 10 = r := ⟨_, rfl⟩
    obtain ⟨q, hq⟩ : ∃ q, m.tdiv 10 = q := ⟨_, rfl⟩
    have HQB := Lib.hid (show (-9223372036854775808 ≤ q ∧ q ≤ 9223372036854775807) ∧ (¬ (-10 < m ∧ m < 10) → q.natAbs < m.natAbs) by rcases tm m with ⟨h, h3, h4⟩ | ⟨h, h3, h4⟩ <;> omega)
    have HMO := Lib.hid (dec_more (m := m))
    have HLA := Lib.hid (dec_last (m := m))
    rw [hr] at hdd HMO HLA
    rw [hq] at HMO
    rw [← hdd] at HMO HLA
    have r1 : -10 < r := by omega
    have r2 : r < 10 := by omega
    have w1 : IntKind.i64.wrap r = r := IntWalk.i64_in _ (by omega)
    have w2 : IntKind.i64.wrap q = q := IntWalk.i64_in _ (by have := HQB.out; omega)
    have w3 : IntKind.i64.wrap (48 + (d : Int)) = 48 + (d : Int) := IntWalk.i64_in _ (by omega)
    have w4 : IntKind.u8.wrap (48 + (d : Int)) = 48 + (d : Int) := by
      have : (48 + (d : Int)) = ((48 + d : Nat) : Int) := by omega
      rw [this]
      exact IntWalk.u8_in _ (by omega)
    have hub : ((UInt8.ofNat (48 + d)).toNat : Int) = 48 + (d : Int) := by
      rw [UInt8.toNat_ofNat']
      omega
    have HR1 := Lib.hid (rd_one wr (UInt8.ofNat (48 + d)))
    rw [hub] at HR1
    have hcv := HR1.out.conv
    have hba := (Below.refl wr.heap.size wr).alloc (Nat.le_refl _) (.cells #[.int .u8 (48 + (d : Int))] 5)
    have HB2 := Lib.hid (below_seq hb.out hba)
    obtain ⟨c, hc⟩ : ∃ c, UInt8.ofNat (48 + d) = c := ⟨_, rfl⟩
    rw [hc] at hcv HMO HLA
    have HSZ := Lib.hid (show s.size ≤ 30 by
      have h5 := congrArg List.length hd
      have h6 := HLEN.out
      have h7 : (Jv.dig n).length ≤ 21 := h6
      rw [HD.out] at h7
      have h8 : s.data.toList.length = s.size := by simp
      rw [List.length_append] at h5
      split at h7
      · rw [List.length_cons] at h7; omega
      · omega)
    have hs1 : (⟨([c] : List UInt8).toArray⟩ : ByteArray).size = 1 := rfl
    have hadd := fun w => run_string_add_sum (P := Tryz.prog) w ⟨([c] : List UInt8).toArray⟩ s (by rw [hs1]; have := HSZ.out; omega)
    have HSC := Lib.hid (show ((⟨([c] : List UInt8).toArray⟩ : ByteArray) ++ s).data.toList = c :: s.data.toList by simp)
    generalize (⟨([c] : List UInt8).toArray⟩ : ByteArray) = C at hcv hadd HSC
    generalize C ++ s = s2 at hadd HSC
    have HRD := Lib.hid (show (r < 0 → -r = (d : Int)) ∧ (¬ r < 0 → r = (d : Int)) from ⟨fun h => by omega, fun h => by omega⟩)
    clear hba hc hub hs1 hd hbw hdd h0 h1
    have hcase : (r < 0 ∧ IntKind.i64.wrap (-r) = (d : Int)) ∨ (¬ r < 0 ∧ r = (d : Int)) := by
      by_cases hneg : r < 0
      · exact .inl ⟨hneg, by rw [HRD.out.1 hneg]; exact IntWalk.i64_in _ (by omega)⟩
      · exact .inr ⟨hneg, HRD.out.2 hneg⟩
    rcases hcase with ⟨hneg, w5⟩ | ⟨hneg, w5⟩
    · by_cases hin : -10 < m ∧ m < 10
      · obtain ⟨g1, g2⟩ := hin
        have HRES := Lib.hid (show Lib.decDigits n.natAbs = s2.data.toList by rw [HDD.out, HLA.out g1 g2, HSC.out]; rfl)
        have HS2 := Lib.hid (show s2.size ≤ 31 by
          have e1 : s2.data.toList.length = s2.size := by simp
          have e2 : s.data.toList.length = s.size := by simp
          have e3 := congrArg List.length HSC.out
          have := HSZ.out
          rw [List.length_cons] at e3
          omega)
        by_cases hn0 : n < 0
        · have hd45 : (⟨#[45]⟩ : ByteArray).size = 1 := rfl
          have hadd2 := fun w => run_string_add_sum (P := Tryz.prog) w ⟨#[45]⟩ s2 (by rw [hd45]; have := HS2.out; omega)
          have HFIN := Lib.hid (show (⟨#[45]⟩ : ByteArray) ++ s2 = ⟨(Jv.dig n).toArray⟩ by
            apply Bs.ba_eq
            rw [HD.out, if_pos hn0, HRES.out]
            simp)
          clear hd45
          go_wp2_with fail
          go_ret
          exact ⟨by rw [HFIN.out]; rfl, HB2.out⟩
        · have hn1 : decide (n < 0) = false := decide_eq_false hn0
          have HFIN := Lib.hid (show s2 = ⟨(Jv.dig n).toArray⟩ by
            apply Bs.ba_eq
            rw [HD.out, if_neg hn0, HRES.out])
          clear hn0
          go_wp2_with fail
          go_ret
          exact ⟨by rw [HFIN.out]; rfl, HB2.out⟩
      · have HNX := Lib.hid (show Lib.decDigits n.natAbs = Lib.decDigits q.natAbs ++ s2.data.toList by rw [HDD.out, HMO.out hin, HSC.out]; simp)
        have HLT := Lib.hid (HQB.out.2 hin)
        by_cases g1 : -10 < m
        · have g2 : decide (m < 10) = false := decide_eq_false (fun h => hin ⟨g1, h⟩)
          clear hin
          go_wp2_with fail
          go_roundw
          case rel => exact ⟨s2, q, rfl, rfl, Lib.hid ⟨HQB.out.1, HNX.out⟩, HB2⟩
          case measure => simp only [intOf]; exact HLT.out
        · have g1' : decide (-10 < m) = false := decide_eq_false g1
          clear hin g1
          go_wp2_with fail
          go_roundw
          case rel => exact ⟨s2, q, rfl, rfl, Lib.hid ⟨HQB.out.1, HNX.out⟩, HB2⟩
          case measure => simp only [intOf]; exact HLT.out
    · have hneg2 : decide (r < 0) = false := decide_eq_false hneg
      clear hneg
      subst w5
      by_cases hin : -10 < m ∧ m < 10
      · obtain ⟨g1, g2⟩ := hin
        have HRES := Lib.hid (show Lib.decDigits n.natAbs = s2.data.toList by rw [HDD.out, HLA.out g1 g2, HSC.out]; rfl)
        have HS2 := Lib.hid (show s2.size ≤ 31 by
          have e1 : s2.data.toList.length = s2.size := by simp
          have e2 : s.data.toList.length = s.size := by simp
          have e3 := congrArg List.length HSC.out
          have := HSZ.out
          rw [List.length_cons] at e3
          omega)
        by_cases hn0 : n < 0
        · have hd45 : (⟨#[45]⟩ : ByteArray).size = 1 := rfl
          have hadd2 := fun w => run_string_add_sum (P := Tryz.prog) w ⟨#[45]⟩ s2 (by rw [hd45]; have := HS2.out; omega)
          have HFIN := Lib.hid (show (⟨#[45]⟩ : ByteArray) ++ s2 = ⟨(Jv.dig n).toArray⟩ by
            apply Bs.ba_eq
            rw [HD.out, if_pos hn0, HRES.out]
            simp)
          clear hd45
          go_wp2_with fail
          go_ret
          exact ⟨by rw [HFIN.out]; rfl, HB2.out⟩
        · have hn1 : decide (n < 0) = false := decide_eq_false hn0
          have HFIN := Lib.hid (show s2 = ⟨(Jv.dig n).toArray⟩ by
            apply Bs.ba_eq
            rw [HD.out, if_neg hn0, HRES.out])
          clear hn0
          go_wp2_with fail
          go_ret
          exact ⟨by rw [HFIN.out]; rfl, HB2.out⟩
      · have HNX := Lib.hid (show Lib.decDigits n.natAbs = Lib.decDigits q.natAbs ++ s2.data.toList by rw [HDD.out, HMO.out hin, HSC.out]; simp)
        have HLT := Lib.hid (HQB.out.2 hin)
        by_cases g1 : -10 < m
        · have g2 : decide (m < 10) = false := decide_eq_false (fun h => hin ⟨g1, h⟩)
          clear hin
          go_wp2_with fail
          go_roundw
          case rel => exact ⟨s2, q, rfl, rfl, Lib.hid ⟨HQB.out.1, HNX.out⟩, HB2⟩
          case measure => simp only [intOf]; exact HLT.out
        · have g1' : decide (-10 < m) = false := decide_eq_false g1
          clear hin g1
          go_wp2_with fail
          go_roundw
          case rel => exact ⟨s2, q, rfl, rfl, Lib.hid ⟨HQB.out.1, HNX.out⟩, HB2⟩
          case measure => simp only [intOf]; exact HLT.out
end Go.Proofs.YtjaojenalodolaaGreatDoor.R2
