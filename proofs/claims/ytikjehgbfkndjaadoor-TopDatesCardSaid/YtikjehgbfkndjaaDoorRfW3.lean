/- The walk of the reference's Parse (chapter 3). Printed by wip/genrf3.py. -/
import Derived.Test.YtikjehgbfkndjaaDoorRfW2
namespace Go.Proofs.YtikjehgbfkndjaaDoor.Rw
open Go Go.RowKit Go.Proofs.YtikjehgbfkndjaaDoor Go.Proofs.YtikjehgbfkndjaaDoor.Bs

theorem okS_parts {y m d h mi s : Int} (ho : Rf.okS y m d h mi s = true) : (1 ≤ d ∧ d ≤ Cal.dim y m) ∧ 0 ≤ h ∧ h ≤ 23 ∧ 0 ≤ mi ∧ mi ≤ 59 ∧ 0 ≤ s ∧ s ≤ 59 := by
  unfold Rf.okS at ho
  simp only [Bool.and_eq_true, decide_eq_true_eq] at ho
  exact ho
theorem okS_not {y m d h mi s : Int} (ho : Rf.okS y m d h mi s = false) (h1 : 1 ≤ d ∧ d ≤ Cal.dim y m) : ¬ (0 ≤ h ∧ h ≤ 23 ∧ 0 ≤ mi ∧ mi ≤ 59 ∧ 0 ≤ s ∧ s ≤ 59) := by
  intro h2
  unfold Rf.okS at ho
  rw [decide_eq_true h1, decide_eq_true h2] at ho
  cases ho
theorem rsec_ok (y m d h mi s : Int) (w : World) (ho : Rf.okS y m d h mi s = true) :
    Calls Tryd.prog 37 #[.int .i64 y, .int .i64 m, .int .i64 d, .int .i64 h, .int .i64 mi, .int .i64 s] w fun e w' => e = .returned (.tuple #[.int .i64 (Cal.num y m d * 86400 + (h * 3600 + mi * 60 + s)), .int .i64 0]) ∧ w = w' := by
  obtain ⟨⟨h1, h2⟩, a1, a2, a3, a4, a5, a6⟩ := okS_parts ho
  exact Civ.rsec_yes y m d h mi s w h1 h2 a1 a2 a3 a4 a5 a6
theorem rsec_bad (y m d h mi s : Int) (w : World) (ho : Rf.okS y m d h mi s = false) :
    Calls Tryd.prog 37 #[.int .i64 y, .int .i64 m, .int .i64 d, .int .i64 h, .int .i64 mi, .int .i64 s] w fun e w' => e = .returned (.tuple #[.int .i64 0, .int .i64 3]) ∧ w = w' := by
  by_cases h1 : 1 ≤ d ∧ d ≤ Cal.dim y m
  · exact Civ.rsec_no y m d h mi s w h1.1 h1.2 (okS_not ho h1)
  · exact Civ.rsec_no_date y m d h mi s w h1
theorem num1_yes {l : List UInt8} (h : Rf.isD (l.getD 0 0) = true) : ∃ z : Nat, Rf.numZ l 1 = z ∧ z ≤ 9 := by
  have e : Rf.val l 1 = some (0 * 10 + ((l.getD 0 0).toNat - 48)) := by unfold Rf.val; rw [if_pos h]; rfl
  have := Rf.isD_iff.1 h
  exact ⟨_, Rf.numZ_some e, by omega⟩
theorem num1_no {l : List UInt8} (h : Rf.isD (l.getD 0 0) = false) : Rf.numZ l 1 = -1 := by
  apply Rf.numZ_none
  unfold Rf.val; rw [h]; rfl
theorem isD_lt {s : ByteArray} {k : Nat} (h : Rf.isD (s.data.toList.getD k 0) = true) : k < s.size := by
  by_cases hk : k < s.size
  · exact hk
  · rw [getD_out s k (by omega)] at h; exact absurd h (by decide)
theorem frac_plain {l : List UInt8} {k : Nat} (h : Rf.isB l k 46 46 = false) : Rf.frac (l.drop k) = some (l.drop k) := by
  unfold Rf.frac
  rw [Rf.getD_drop, Nat.add_zero, if_neg (fun e => isB_not.1 h (.inl e))]
theorem frac_bad {l : List UInt8} {k : Nat} (h : Rf.isB l k 46 46 = true) (h1 : Rf.isD (l.getD (k + 1) 0) = false) : Rf.frac (l.drop k) = none := by
  unfold Rf.frac
  rw [Rf.getD_drop, Nat.add_zero, if_pos (by have := isB_iff.1 h; simpa using this), List.drop_drop, Rf.nd_stop l (k + 1) h1, if_pos rfl]
theorem frac_good {l : List UInt8} {k : Nat} (h : Rf.isB l k 46 46 = true) (h1 : Rf.isD (l.getD (k + 1) 0) = true) : Rf.frac (l.drop k) = some (l.drop (k + 1 + Rf.nd (l.drop (k + 1)))) := by
  unfold Rf.frac
  have := Rf.nd_step l (k + 1) h1
  rw [Rf.getD_drop, Nat.add_zero, if_pos (by have := isB_iff.1 h; simpa using this), List.drop_drop, if_neg (by omega), List.drop_drop]
  congr 2
  omega
theorem rp_no {l : List UInt8} (h : Rf.sepsB l = false) : Rf.rp l = (0, 20) := by
  unfold Rf.rp; rw [if_neg]; rintro ⟨h1, _⟩; rw [h] at h1; cases h1
theorem rp_bad {l : List UInt8} (h : Rf.okS (Rf.numZ l 4) (Rf.numZ (l.drop 5) 2) (Rf.numZ (l.drop 8) 2) (Rf.numZ (l.drop 11) 2) (Rf.numZ (l.drop 14) 2) (Rf.numZ (l.drop 17) 2) = false) : Rf.rp l = (0, 20) := by
  unfold Rf.rp; rw [if_neg]; rintro ⟨_, h1⟩; rw [h] at h1; cases h1
theorem rp_yes {l : List UInt8} {a b c d e f : Int} (h : Rf.sepsB l = true) (h0 : Rf.numZ l 4 = a) (h1 : Rf.numZ (l.drop 5) 2 = b) (h2 : Rf.numZ (l.drop 8) 2 = c) (h3 : Rf.numZ (l.drop 11) 2 = d) (h4 : Rf.numZ (l.drop 14) 2 = e) (h5 : Rf.numZ (l.drop 17) 2 = f)
    (ho : Rf.okS a b c d e f = true) : Rf.rp l = Rf.tl (Cal.num a b c * 86400 + (d * 3600 + e * 60 + f)) (l.drop 19) := by
  unfold Rf.rp; rw [h0, h1, h2, h3, h4, h5, if_pos ⟨h, ho⟩]
theorem tl_none {t : Int} {l : List UInt8} (h : Rf.frac l = none) : Rf.tl t l = (0, 20) := by unfold Rf.tl; rw [h]
theorem tl_off {t : Int} {l r : List UInt8} (h : Rf.frac l = some r) (h1 : Rf.offs r = none) : Rf.tl t l = (0, 20) := by unfold Rf.tl; rw [h]; simp only; rw [h1]
theorem tl_some {t n : Int} {l r : List UInt8} (h : Rf.frac l = some r) (h1 : Rf.offs r = some n) : Rf.tl t l = Rf.rng (t - n) := by unfold Rf.tl; rw [h]; simp only; rw [h1]
theorem num_rng {y m d h mi s : Int} (ho : Rf.okS y m d h mi s = true) : -62135596800 ≤ Cal.num y m d * 86400 + (h * 3600 + mi * 60 + s) ∧ Cal.num y m d * 86400 + (h * 3600 + mi * 60 + s) ≤ 253402300799 := by
  obtain ⟨⟨h1, h2⟩, a1, a2, a3, a4, a5, a6⟩ := okS_parts ho
  have := Cal.num_bd y m d (Civ.range_of y m d h1 h2)
  omega
set_option maxRecDepth 100000 in
set_option maxHeartbeats 4000000 in
theorem rparse_sep0 (s : ByteArray) (W : World) (hs : s.size ≤ 1000000000) (h0 : Rf.isB s.data.toList 4 45 45 = false) :
    Calls Tryd.prog 18 #[.string s] W fun e w' => e = .returned (.tuple #[.int .i64 0, .int .i64 20]) ∧ w' = W := by
  have S0 := Lib.hid h0
  clear h0
  go_enter Tryd.func18, Tryd.ntmps18
  go_wp2_with fail
  refine (ris_is s 4 _ rfl 45 45 _ _ rfl rfl (by decide) (by decide) false _ hs S0.out).mono ?_
  rintro e w' ⟨rfl, rfl⟩
  go_wp2_with fail
  go_ret2
  exact ⟨rfl, rfl⟩
set_option maxRecDepth 100000 in
set_option maxHeartbeats 4000000 in
theorem rparse_sep1 (s : ByteArray) (W : World) (hs : s.size ≤ 1000000000) (h0 : Rf.isB s.data.toList 4 45 45 = true) (h1 : Rf.isB s.data.toList 7 45 45 = false) :
    Calls Tryd.prog 18 #[.string s] W fun e w' => e = .returned (.tuple #[.int .i64 0, .int .i64 20]) ∧ w' = W := by
  have S0 := Lib.hid h0
  have S1 := Lib.hid h1
  clear h0 h1
  go_enter Tryd.func18, Tryd.ntmps18
  go_wp2_with fail
  refine (ris_is s 4 _ rfl 45 45 _ _ rfl rfl (by decide) (by decide) true _ hs S0.out).mono ?_
  rintro e w' ⟨rfl, rfl⟩
  go_wp2_with fail
  refine (ris_is s 7 _ rfl 45 45 _ _ rfl rfl (by decide) (by decide) false _ hs S1.out).mono ?_
  rintro e w' ⟨rfl, rfl⟩
  go_wp2_with fail
  go_ret2
  exact ⟨rfl, rfl⟩
set_option maxRecDepth 100000 in
set_option maxHeartbeats 4000000 in
theorem rparse_sep2 (s : ByteArray) (W : World) (hs : s.size ≤ 1000000000) (h0 : Rf.isB s.data.toList 4 45 45 = true) (h1 : Rf.isB s.data.toList 7 45 45 = true) (h2 : Rf.isB s.data.toList 10 84 116 = false) :
    Calls Tryd.prog 18 #[.string s] W fun e w' => e = .returned (.tuple #[.int .i64 0, .int .i64 20]) ∧ w' = W := by
  have S0 := Lib.hid h0
  have S1 := Lib.hid h1
  have S2 := Lib.hid h2
  clear h0 h1 h2
  go_enter Tryd.func18, Tryd.ntmps18
  go_wp2_with fail
  refine (ris_is s 4 _ rfl 45 45 _ _ rfl rfl (by decide) (by decide) true _ hs S0.out).mono ?_
  rintro e w' ⟨rfl, rfl⟩
  go_wp2_with fail
  refine (ris_is s 7 _ rfl 45 45 _ _ rfl rfl (by decide) (by decide) true _ hs S1.out).mono ?_
  rintro e w' ⟨rfl, rfl⟩
  go_wp2_with fail
  refine (ris_is s 10 _ rfl 84 116 _ _ rfl rfl (by decide) (by decide) false _ hs S2.out).mono ?_
  rintro e w' ⟨rfl, rfl⟩
  go_wp2_with fail
  go_ret2
  exact ⟨rfl, rfl⟩
set_option maxRecDepth 100000 in
set_option maxHeartbeats 4000000 in
theorem rparse_sep3 (s : ByteArray) (W : World) (hs : s.size ≤ 1000000000) (h0 : Rf.isB s.data.toList 4 45 45 = true) (h1 : Rf.isB s.data.toList 7 45 45 = true) (h2 : Rf.isB s.data.toList 10 84 116 = true) (h3 : Rf.isB s.data.toList 13 58 58 = false) :
    Calls Tryd.prog 18 #[.string s] W fun e w' => e = .returned (.tuple #[.int .i64 0, .int .i64 20]) ∧ w' = W := by
  have S0 := Lib.hid h0
  have S1 := Lib.hid h1
  have S2 := Lib.hid h2
  have S3 := Lib.hid h3
  clear h0 h1 h2 h3
  go_enter Tryd.func18, Tryd.ntmps18
  go_wp2_with fail
  refine (ris_is s 4 _ rfl 45 45 _ _ rfl rfl (by decide) (by decide) true _ hs S0.out).mono ?_
  rintro e w' ⟨rfl, rfl⟩
  go_wp2_with fail
  refine (ris_is s 7 _ rfl 45 45 _ _ rfl rfl (by decide) (by decide) true _ hs S1.out).mono ?_
  rintro e w' ⟨rfl, rfl⟩
  go_wp2_with fail
  refine (ris_is s 10 _ rfl 84 116 _ _ rfl rfl (by decide) (by decide) true _ hs S2.out).mono ?_
  rintro e w' ⟨rfl, rfl⟩
  go_wp2_with fail
  refine (ris_is s 13 _ rfl 58 58 _ _ rfl rfl (by decide) (by decide) false _ hs S3.out).mono ?_
  rintro e w' ⟨rfl, rfl⟩
  go_wp2_with fail
  go_ret2
  exact ⟨rfl, rfl⟩
set_option maxRecDepth 100000 in
set_option maxHeartbeats 4000000 in
theorem rparse_sep4 (s : ByteArray) (W : World) (hs : s.size ≤ 1000000000) (h0 : Rf.isB s.data.toList 4 45 45 = true) (h1 : Rf.isB s.data.toList 7 45 45 = true) (h2 : Rf.isB s.data.toList 10 84 116 = true) (h3 : Rf.isB s.data.toList 13 58 58 = true) (h4 : Rf.isB s.data.toList 16 58 58 = false) :
    Calls Tryd.prog 18 #[.string s] W fun e w' => e = .returned (.tuple #[.int .i64 0, .int .i64 20]) ∧ w' = W := by
  have S0 := Lib.hid h0
  have S1 := Lib.hid h1
  have S2 := Lib.hid h2
  have S3 := Lib.hid h3
  have S4 := Lib.hid h4
  clear h0 h1 h2 h3 h4
  go_enter Tryd.func18, Tryd.ntmps18
  go_wp2_with fail
  refine (ris_is s 4 _ rfl 45 45 _ _ rfl rfl (by decide) (by decide) true _ hs S0.out).mono ?_
  rintro e w' ⟨rfl, rfl⟩
  go_wp2_with fail
  refine (ris_is s 7 _ rfl 45 45 _ _ rfl rfl (by decide) (by decide) true _ hs S1.out).mono ?_
  rintro e w' ⟨rfl, rfl⟩
  go_wp2_with fail
  refine (ris_is s 10 _ rfl 84 116 _ _ rfl rfl (by decide) (by decide) true _ hs S2.out).mono ?_
  rintro e w' ⟨rfl, rfl⟩
  go_wp2_with fail
  refine (ris_is s 13 _ rfl 58 58 _ _ rfl rfl (by decide) (by decide) true _ hs S3.out).mono ?_
  rintro e w' ⟨rfl, rfl⟩
  go_wp2_with fail
  refine (ris_is s 16 _ rfl 58 58 _ _ rfl rfl (by decide) (by decide) false _ hs S4.out).mono ?_
  rintro e w' ⟨rfl, rfl⟩
  go_wp2_with fail
  go_ret2
  exact ⟨rfl, rfl⟩
set_option maxRecDepth 100000 in
set_option maxHeartbeats 4000000 in
theorem rparse_bad (s : ByteArray) (n0 n1 n2 n3 n4 n5 : Int) (W : World) (hs : s.size ≤ 1000000000) (h0 : Rf.isB s.data.toList 4 45 45 = true) (h1 : Rf.isB s.data.toList 7 45 45 = true) (h2 : Rf.isB s.data.toList 10 84 116 = true) (h3 : Rf.isB s.data.toList 13 58 58 = true) (h4 : Rf.isB s.data.toList 16 58 58 = true) (g0 : Rf.numZ (s.data.toList.drop 0) 4 = n0) (g1 : Rf.numZ (s.data.toList.drop 5) 2 = n1) (g2 : Rf.numZ (s.data.toList.drop 8) 2 = n2) (g3 : Rf.numZ (s.data.toList.drop 11) 2 = n3) (g4 : Rf.numZ (s.data.toList.drop 14) 2 = n4) (g5 : Rf.numZ (s.data.toList.drop 17) 2 = n5) (ho : Rf.okS n0 n1 n2 n3 n4 n5 = false) :
    Calls Tryd.prog 18 #[.string s] W fun e w' => e = .returned (.tuple #[.int .i64 0, .int .i64 20]) ∧ w' = W := by
  have S0 := Lib.hid h0
  have S1 := Lib.hid h1
  have S2 := Lib.hid h2
  have S3 := Lib.hid h3
  have S4 := Lib.hid h4
  have N0 := Lib.hid g0
  have N1 := Lib.hid g1
  have N2 := Lib.hid g2
  have N3 := Lib.hid g3
  have N4 := Lib.hid g4
  have N5 := Lib.hid g5
  have OK := Lib.hid ho
  clear h0 h1 h2 h3 h4 g0 g1 g2 g3 g4 g5 ho
  go_enter Tryd.func18, Tryd.ntmps18
  go_wp2_with fail
  refine (ris_is s 4 _ rfl 45 45 _ _ rfl rfl (by decide) (by decide) true _ hs S0.out).mono ?_
  rintro e w' ⟨rfl, rfl⟩
  go_wp2_with fail
  refine (ris_is s 7 _ rfl 45 45 _ _ rfl rfl (by decide) (by decide) true _ hs S1.out).mono ?_
  rintro e w' ⟨rfl, rfl⟩
  go_wp2_with fail
  refine (ris_is s 10 _ rfl 84 116 _ _ rfl rfl (by decide) (by decide) true _ hs S2.out).mono ?_
  rintro e w' ⟨rfl, rfl⟩
  go_wp2_with fail
  refine (ris_is s 13 _ rfl 58 58 _ _ rfl rfl (by decide) (by decide) true _ hs S3.out).mono ?_
  rintro e w' ⟨rfl, rfl⟩
  go_wp2_with fail
  refine (ris_is s 16 _ rfl 58 58 _ _ rfl rfl (by decide) (by decide) true _ hs S4.out).mono ?_
  rintro e w' ⟨rfl, rfl⟩
  go_wp2_with fail
  refine (rnumber_is s 0 4 _ _ rfl rfl n0 _ hs (by omega) (by decide) (by decide) N0.out).mono ?_
  rintro e w' ⟨rfl, rfl⟩
  go_wp2_with fail
  refine (rnumber_is s 5 2 _ _ rfl rfl n1 _ hs (by omega) (by decide) (by decide) N1.out).mono ?_
  rintro e w' ⟨rfl, rfl⟩
  go_wp2_with fail
  refine (rnumber_is s 8 2 _ _ rfl rfl n2 _ hs (by omega) (by decide) (by decide) N2.out).mono ?_
  rintro e w' ⟨rfl, rfl⟩
  go_wp2_with fail
  refine (rnumber_is s 11 2 _ _ rfl rfl n3 _ hs (by omega) (by decide) (by decide) N3.out).mono ?_
  rintro e w' ⟨rfl, rfl⟩
  go_wp2_with fail
  refine (rnumber_is s 14 2 _ _ rfl rfl n4 _ hs (by omega) (by decide) (by decide) N4.out).mono ?_
  rintro e w' ⟨rfl, rfl⟩
  go_wp2_with fail
  refine (rnumber_is s 17 2 _ _ rfl rfl n5 _ hs (by omega) (by decide) (by decide) N5.out).mono ?_
  rintro e w' ⟨rfl, rfl⟩
  go_wp2_with fail
  refine (rsec_bad n0 n1 n2 n3 n4 n5 _ OK.out).mono ?_
  rintro e w' ⟨rfl, rfl⟩
  go_wp2_with fail
  go_ret2
  exact ⟨rfl, rfl⟩
set_option maxRecDepth 100000 in
set_option maxHeartbeats 4000000 in
theorem rparse_frac (s : ByteArray) (n0 n1 n2 n3 n4 n5 : Int) (W : World) (hs : s.size ≤ 1000000000) (h0 : Rf.isB s.data.toList 4 45 45 = true) (h1 : Rf.isB s.data.toList 7 45 45 = true) (h2 : Rf.isB s.data.toList 10 84 116 = true) (h3 : Rf.isB s.data.toList 13 58 58 = true) (h4 : Rf.isB s.data.toList 16 58 58 = true) (g0 : Rf.numZ (s.data.toList.drop 0) 4 = n0) (g1 : Rf.numZ (s.data.toList.drop 5) 2 = n1) (g2 : Rf.numZ (s.data.toList.drop 8) 2 = n2) (g3 : Rf.numZ (s.data.toList.drop 11) 2 = n3) (g4 : Rf.numZ (s.data.toList.drop 14) 2 = n4) (g5 : Rf.numZ (s.data.toList.drop 17) 2 = n5) (ho : Rf.okS n0 n1 n2 n3 n4 n5 = true) (h5 : Rf.isB s.data.toList 19 46 46 = true) (h6 : Rf.isD (s.data.toList.getD 20 0) = false) :
    Calls Tryd.prog 18 #[.string s] W fun e w' => e = .returned (.tuple #[.int .i64 0, .int .i64 20]) ∧ w' = W := by
  have S0 := Lib.hid h0
  have S1 := Lib.hid h1
  have S2 := Lib.hid h2
  have S3 := Lib.hid h3
  have S4 := Lib.hid h4
  have N0 := Lib.hid g0
  have N1 := Lib.hid g1
  have N2 := Lib.hid g2
  have N3 := Lib.hid g3
  have N4 := Lib.hid g4
  have N5 := Lib.hid g5
  have OK := Lib.hid ho
  clear h0 h1 h2 h3 h4 g0 g1 g2 g3 g4 g5 ho
  have S5 := Lib.hid h5
  have Z := Lib.hid (show Rf.numZ (s.data.toList.drop 20) 1 = -1 from num1_no (by rw [Rf.getD_drop]; exact h6))
  obtain ⟨T, hT⟩ : ∃ T, Cal.num n0 n1 n2 * 86400 + (n3 * 3600 + n4 * 60 + n5) = T := ⟨_, rfl⟩
  have RS : Calls Tryd.prog 37 #[.int .i64 n0, .int .i64 n1, .int .i64 n2, .int .i64 n3, .int .i64 n4, .int .i64 n5] W fun e w' => e = .returned (.tuple #[.int .i64 T, .int .i64 0]) ∧ W = w' := by rw [← hT]; exact rsec_ok n0 n1 n2 n3 n4 n5 W OK.out
  have HRS := Lib.hid RS
  clear h5 h6 hT RS
  go_enter Tryd.func18, Tryd.ntmps18
  go_wp2_with fail
  refine (ris_is s 4 _ rfl 45 45 _ _ rfl rfl (by decide) (by decide) true _ hs S0.out).mono ?_
  rintro e w' ⟨rfl, rfl⟩
  go_wp2_with fail
  refine (ris_is s 7 _ rfl 45 45 _ _ rfl rfl (by decide) (by decide) true _ hs S1.out).mono ?_
  rintro e w' ⟨rfl, rfl⟩
  go_wp2_with fail
  refine (ris_is s 10 _ rfl 84 116 _ _ rfl rfl (by decide) (by decide) true _ hs S2.out).mono ?_
  rintro e w' ⟨rfl, rfl⟩
  go_wp2_with fail
  refine (ris_is s 13 _ rfl 58 58 _ _ rfl rfl (by decide) (by decide) true _ hs S3.out).mono ?_
  rintro e w' ⟨rfl, rfl⟩
  go_wp2_with fail
  refine (ris_is s 16 _ rfl 58 58 _ _ rfl rfl (by decide) (by decide) true _ hs S4.out).mono ?_
  rintro e w' ⟨rfl, rfl⟩
  go_wp2_with fail
  refine (rnumber_is s 0 4 _ _ rfl rfl n0 _ hs (by omega) (by decide) (by decide) N0.out).mono ?_
  rintro e w' ⟨rfl, rfl⟩
  go_wp2_with fail
  refine (rnumber_is s 5 2 _ _ rfl rfl n1 _ hs (by omega) (by decide) (by decide) N1.out).mono ?_
  rintro e w' ⟨rfl, rfl⟩
  go_wp2_with fail
  refine (rnumber_is s 8 2 _ _ rfl rfl n2 _ hs (by omega) (by decide) (by decide) N2.out).mono ?_
  rintro e w' ⟨rfl, rfl⟩
  go_wp2_with fail
  refine (rnumber_is s 11 2 _ _ rfl rfl n3 _ hs (by omega) (by decide) (by decide) N3.out).mono ?_
  rintro e w' ⟨rfl, rfl⟩
  go_wp2_with fail
  refine (rnumber_is s 14 2 _ _ rfl rfl n4 _ hs (by omega) (by decide) (by decide) N4.out).mono ?_
  rintro e w' ⟨rfl, rfl⟩
  go_wp2_with fail
  refine (rnumber_is s 17 2 _ _ rfl rfl n5 _ hs (by omega) (by decide) (by decide) N5.out).mono ?_
  rintro e w' ⟨rfl, rfl⟩
  go_wp2_with fail
  refine (HRS.out).mono ?_
  rintro e w' ⟨rfl, rfl⟩
  go_wp2_with fail
  refine (ris_is s 19 _ rfl 46 46 _ _ rfl rfl (by decide) (by decide) true _ hs S5.out).mono ?_
  rintro e w' ⟨rfl, rfl⟩
  go_wp2_with fail
  refine (rnumber_is s 20 1 _ _ rfl rfl (-1) _ hs (by omega) (by decide) (by decide) Z.out).mono ?_
  rintro e w' ⟨rfl, rfl⟩
  go_wp2_with fail
  go_ret2
  exact ⟨rfl, rfl⟩
set_option maxRecDepth 100000 in
set_option maxHeartbeats 4000000 in
theorem rparse_plain (s : ByteArray) (n0 n1 n2 n3 n4 n5 : Int) (W : World) (hs : s.size ≤ 1000000000) (h0 : Rf.isB s.data.toList 4 45 45 = true) (h1 : Rf.isB s.data.toList 7 45 45 = true) (h2 : Rf.isB s.data.toList 10 84 116 = true) (h3 : Rf.isB s.data.toList 13 58 58 = true) (h4 : Rf.isB s.data.toList 16 58 58 = true) (g0 : Rf.numZ (s.data.toList.drop 0) 4 = n0) (g1 : Rf.numZ (s.data.toList.drop 5) 2 = n1) (g2 : Rf.numZ (s.data.toList.drop 8) 2 = n2) (g3 : Rf.numZ (s.data.toList.drop 11) 2 = n3) (g4 : Rf.numZ (s.data.toList.drop 14) 2 = n4) (g5 : Rf.numZ (s.data.toList.drop 17) 2 = n5) (ho : Rf.okS n0 n1 n2 n3 n4 n5 = true) (h5 : Rf.isB s.data.toList 19 46 46 = false) (o : Option Int) (v : Int × Int) (hv : (match o with | none => (0, 20) | some n => Rf.rng (Cal.num n0 n1 n2 * 86400 + (n3 * 3600 + n4 * 60 + n5) - n)) = v) (h6 : Rf.offs (s.data.toList.drop 19) = o) :
    Calls Tryd.prog 18 #[.string s] W fun e w' => e = .returned (.tuple #[.int .i64 v.1, .int .i64 v.2]) ∧ w' = W := by
  obtain ⟨t1, t2⟩ := num_rng ho
  obtain ⟨T, hT⟩ : ∃ T, Cal.num n0 n1 n2 * 86400 + (n3 * 3600 + n4 * 60 + n5) = T := ⟨_, rfl⟩
  have RS : Calls Tryd.prog 37 #[.int .i64 n0, .int .i64 n1, .int .i64 n2, .int .i64 n3, .int .i64 n4, .int .i64 n5] W fun e w' => e = .returned (.tuple #[.int .i64 T, .int .i64 0]) ∧ W = w' := by rw [← hT]; exact rsec_ok n0 n1 n2 n3 n4 n5 W ho
  rw [hT] at hv t1 t2
  have HRS := Lib.hid RS
  clear hT RS
  have S0 := Lib.hid h0
  have S1 := Lib.hid h1
  have S2 := Lib.hid h2
  have S3 := Lib.hid h3
  have S4 := Lib.hid h4
  have N0 := Lib.hid g0
  have N1 := Lib.hid g1
  have N2 := Lib.hid g2
  have N3 := Lib.hid g3
  have N4 := Lib.hid g4
  have N5 := Lib.hid g5
  have OK := Lib.hid ho
  clear h0 h1 h2 h3 h4 g0 g1 g2 g3 g4 g5 ho
  have S5 := Lib.hid h5
  have HO := Lib.hid h6
  clear h5 h6
  go_enter Tryd.func18, Tryd.ntmps18
  go_wp2_with fail
  refine (ris_is s 4 _ rfl 45 45 _ _ rfl rfl (by decide) (by decide) true _ hs S0.out).mono ?_
  rintro e w' ⟨rfl, rfl⟩
  go_wp2_with fail
  refine (ris_is s 7 _ rfl 45 45 _ _ rfl rfl (by decide) (by decide) true _ hs S1.out).mono ?_
  rintro e w' ⟨rfl, rfl⟩
  go_wp2_with fail
  refine (ris_is s 10 _ rfl 84 116 _ _ rfl rfl (by decide) (by decide) true _ hs S2.out).mono ?_
  rintro e w' ⟨rfl, rfl⟩
  go_wp2_with fail
  refine (ris_is s 13 _ rfl 58 58 _ _ rfl rfl (by decide) (by decide) true _ hs S3.out).mono ?_
  rintro e w' ⟨rfl, rfl⟩
  go_wp2_with fail
  refine (ris_is s 16 _ rfl 58 58 _ _ rfl rfl (by decide) (by decide) true _ hs S4.out).mono ?_
  rintro e w' ⟨rfl, rfl⟩
  go_wp2_with fail
  refine (rnumber_is s 0 4 _ _ rfl rfl n0 _ hs (by omega) (by decide) (by decide) N0.out).mono ?_
  rintro e w' ⟨rfl, rfl⟩
  go_wp2_with fail
  refine (rnumber_is s 5 2 _ _ rfl rfl n1 _ hs (by omega) (by decide) (by decide) N1.out).mono ?_
  rintro e w' ⟨rfl, rfl⟩
  go_wp2_with fail
  refine (rnumber_is s 8 2 _ _ rfl rfl n2 _ hs (by omega) (by decide) (by decide) N2.out).mono ?_
  rintro e w' ⟨rfl, rfl⟩
  go_wp2_with fail
  refine (rnumber_is s 11 2 _ _ rfl rfl n3 _ hs (by omega) (by decide) (by decide) N3.out).mono ?_
  rintro e w' ⟨rfl, rfl⟩
  go_wp2_with fail
  refine (rnumber_is s 14 2 _ _ rfl rfl n4 _ hs (by omega) (by decide) (by decide) N4.out).mono ?_
  rintro e w' ⟨rfl, rfl⟩
  go_wp2_with fail
  refine (rnumber_is s 17 2 _ _ rfl rfl n5 _ hs (by omega) (by decide) (by decide) N5.out).mono ?_
  rintro e w' ⟨rfl, rfl⟩
  go_wp2_with fail
  refine (HRS.out).mono ?_
  rintro e w' ⟨rfl, rfl⟩
  go_wp2_with fail
  refine (ris_is s 19 _ rfl 46 46 _ _ rfl rfl (by decide) (by decide) false _ hs S5.out).mono ?_
  rintro e w' ⟨rfl, rfl⟩
  rcases o with _ | n
  · have HV := Lib.hid hv
    go_wp2_with fail
    refine (roffset_no s 19 _ (by omega) _ hs (by omega) HO.out).mono ?_
    rintro e w' ⟨rfl, rfl⟩
    go_wp2_with fail
    go_ret2
    exact ⟨ret_two (congrArg Prod.fst HV.out) (congrArg Prod.snd HV.out), rfl⟩
  · have nb := Rf.offs_bd HO.out
    obtain ⟨nb1, nb2⟩ := nb
    by_cases hr : T - n < -62135596800 ∨ 253402300799 < T - n
    · have HV := Lib.hid (show (0, 3) = v by rw [← hv]; show (0, 3) = Rf.rng (T - n); unfold Rf.rng; rw [if_pos hr])
      clear hv
      rcases hr with hr | hr
      all_goals
        go_wp2_with fail
        refine (roffset_yes s 19 _ (by omega) n _ hs (by omega) HO.out).mono ?_
        rintro e w' ⟨rfl, rfl⟩
        go_wp2_with fail
        go_ret2
        exact ⟨ret_two (congrArg Prod.fst HV.out) (congrArg Prod.snd HV.out), rfl⟩
    · have HV := Lib.hid (show (T - n, 0) = v by rw [← hv]; show (T - n, 0) = Rf.rng (T - n); unfold Rf.rng; rw [if_neg hr])
      have r1 : -62135596800 ≤ T - n := by omega
      have r2 : T - n ≤ 253402300799 := by omega
      clear hv hr
      go_wp2_with fail
      refine (roffset_yes s 19 _ (by omega) n _ hs (by omega) HO.out).mono ?_
      rintro e w' ⟨rfl, rfl⟩
      go_wp2_with fail
      go_ret2
      exact ⟨ret_two (congrArg Prod.fst HV.out) (congrArg Prod.snd HV.out), rfl⟩
set_option maxRecDepth 100000 in
set_option maxHeartbeats 4000000 in
theorem rparse_dot (s : ByteArray) (n0 n1 n2 n3 n4 n5 : Int) (W : World) (hs : s.size ≤ 1000000000) (h0 : Rf.isB s.data.toList 4 45 45 = true) (h1 : Rf.isB s.data.toList 7 45 45 = true) (h2 : Rf.isB s.data.toList 10 84 116 = true) (h3 : Rf.isB s.data.toList 13 58 58 = true) (h4 : Rf.isB s.data.toList 16 58 58 = true) (g0 : Rf.numZ (s.data.toList.drop 0) 4 = n0) (g1 : Rf.numZ (s.data.toList.drop 5) 2 = n1) (g2 : Rf.numZ (s.data.toList.drop 8) 2 = n2) (g3 : Rf.numZ (s.data.toList.drop 11) 2 = n3) (g4 : Rf.numZ (s.data.toList.drop 14) 2 = n4) (g5 : Rf.numZ (s.data.toList.drop 17) 2 = n5) (ho : Rf.okS n0 n1 n2 n3 n4 n5 = true) (h5 : Rf.isB s.data.toList 19 46 46 = true) (h7 : Rf.isD (s.data.toList.getD 20 0) = true) (o : Option Int) (v : Int × Int) (hv : (match o with | none => (0, 20) | some n => Rf.rng (Cal.num n0 n1 n2 * 86400 + (n3 * 3600 + n4 * 60 + n5) - n)) = v) (h6 : Rf.offs (s.data.toList.drop (20 + Rf.nd (s.data.toList.drop 20))) = o) :
    Calls Tryd.prog 18 #[.string s] W fun e w' => e = .returned (.tuple #[.int .i64 v.1, .int .i64 v.2]) ∧ w' = W := by
  obtain ⟨t1, t2⟩ := num_rng ho
  obtain ⟨T, hT⟩ : ∃ T, Cal.num n0 n1 n2 * 86400 + (n3 * 3600 + n4 * 60 + n5) = T := ⟨_, rfl⟩
  have RS : Calls Tryd.prog 37 #[.int .i64 n0, .int .i64 n1, .int .i64 n2, .int .i64 n3, .int .i64 n4, .int .i64 n5] W fun e w' => e = .returned (.tuple #[.int .i64 T, .int .i64 0]) ∧ W = w' := by rw [← hT]; exact rsec_ok n0 n1 n2 n3 n4 n5 W ho
  rw [hT] at hv t1 t2
  have HRS := Lib.hid RS
  clear hT RS
  have S0 := Lib.hid h0
  have S1 := Lib.hid h1
  have S2 := Lib.hid h2
  have S3 := Lib.hid h3
  have S4 := Lib.hid h4
  have N0 := Lib.hid g0
  have N1 := Lib.hid g1
  have N2 := Lib.hid g2
  have N3 := Lib.hid g3
  have N4 := Lib.hid g4
  have N5 := Lib.hid g5
  have OK := Lib.hid ho
  clear h0 h1 h2 h3 h4 g0 g1 g2 g3 g4 g5 ho
  have S5 := Lib.hid h5
  have HO6 := Lib.hid h6
  have hlt := isD_lt h7
  obtain ⟨z, hz, hz9⟩ := num1_yes (l := s.data.toList.drop 20) (by rw [Rf.getD_drop]; exact h7)
  have Z := Lib.hid hz
  have HV := Lib.hid hv
  clear h5 h6 h7 hz hv
  go_enter Tryd.func18, Tryd.ntmps18
  go_wp2_with fail
  refine (ris_is s 4 _ rfl 45 45 _ _ rfl rfl (by decide) (by decide) true _ hs S0.out).mono ?_
  rintro e w' ⟨rfl, rfl⟩
  go_wp2_with fail
  refine (ris_is s 7 _ rfl 45 45 _ _ rfl rfl (by decide) (by decide) true _ hs S1.out).mono ?_
  rintro e w' ⟨rfl, rfl⟩
  go_wp2_with fail
  refine (ris_is s 10 _ rfl 84 116 _ _ rfl rfl (by decide) (by decide) true _ hs S2.out).mono ?_
  rintro e w' ⟨rfl, rfl⟩
  go_wp2_with fail
  refine (ris_is s 13 _ rfl 58 58 _ _ rfl rfl (by decide) (by decide) true _ hs S3.out).mono ?_
  rintro e w' ⟨rfl, rfl⟩
  go_wp2_with fail
  refine (ris_is s 16 _ rfl 58 58 _ _ rfl rfl (by decide) (by decide) true _ hs S4.out).mono ?_
  rintro e w' ⟨rfl, rfl⟩
  go_wp2_with fail
  refine (rnumber_is s 0 4 _ _ rfl rfl n0 _ hs (by omega) (by decide) (by decide) N0.out).mono ?_
  rintro e w' ⟨rfl, rfl⟩
  go_wp2_with fail
  refine (rnumber_is s 5 2 _ _ rfl rfl n1 _ hs (by omega) (by decide) (by decide) N1.out).mono ?_
  rintro e w' ⟨rfl, rfl⟩
  go_wp2_with fail
  refine (rnumber_is s 8 2 _ _ rfl rfl n2 _ hs (by omega) (by decide) (by decide) N2.out).mono ?_
  rintro e w' ⟨rfl, rfl⟩
  go_wp2_with fail
  refine (rnumber_is s 11 2 _ _ rfl rfl n3 _ hs (by omega) (by decide) (by decide) N3.out).mono ?_
  rintro e w' ⟨rfl, rfl⟩
  go_wp2_with fail
  refine (rnumber_is s 14 2 _ _ rfl rfl n4 _ hs (by omega) (by decide) (by decide) N4.out).mono ?_
  rintro e w' ⟨rfl, rfl⟩
  go_wp2_with fail
  refine (rnumber_is s 17 2 _ _ rfl rfl n5 _ hs (by omega) (by decide) (by decide) N5.out).mono ?_
  rintro e w' ⟨rfl, rfl⟩
  go_wp2_with fail
  refine (HRS.out).mono ?_
  rintro e w' ⟨rfl, rfl⟩
  go_wp2_with fail
  refine (ris_is s 19 _ rfl 46 46 _ _ rfl rfl (by decide) (by decide) true _ hs S5.out).mono ?_
  rintro e w' ⟨rfl, rfl⟩
  go_wp2_with fail
  refine (rnumber_is s 20 1 _ _ rfl rfl z _ hs (by omega) (by decide) (by decide) Z.out).mono ?_
  rintro e w' ⟨rfl, rfl⟩
  clear hz9
  go_wp2_with fail
  go_loop [6] (fun c => ∃ k : Nat, 20 ≤ k ∧ k ≤ s.size ∧ c = .int .i64 k ∧ Hid (20 + Rf.nd (s.data.toList.drop 20) = k + Rf.nd (s.data.toList.drop k))) (fun c => s.size - (intOf c).toNat)
  case atStart => exact ⟨20, Nat.le_refl _, by omega, rfl, rfl⟩
  case round =>
    obtain ⟨k, hk1, hk2, rfl, HK⟩ := hrel
    rcases hd : Rf.isD (s.data.toList.getD k 0) with _ | _
    · have Z2 := Lib.hid (show Rf.numZ (s.data.toList.drop k) 1 = -1 from num1_no (by rw [Rf.getD_drop]; exact hd))
      have HO := Lib.hid (show Rf.offs (s.data.toList.drop k) = o by rw [← HO6.out, HK.out, Rf.nd_stop _ _ hd, Nat.add_zero])
      have hv := HV.out
      clear hd
      go_wp2_with fail
      refine (rnumber_is s k 1 _ _ rfl rfl (-1) _ hs (by omega) (by decide) (by decide) Z2.out).mono ?_
      rintro e w' ⟨rfl, rfl⟩
      go_wp2_with fail
      rcases o with _ | n
      · have HV := Lib.hid hv
        go_wp2_with fail
        refine (roffset_no s k _ (by omega) _ hs (by omega) HO.out).mono ?_
        rintro e w' ⟨rfl, rfl⟩
        go_wp2_with fail
        go_ret2
        exact ⟨ret_two (congrArg Prod.fst HV.out) (congrArg Prod.snd HV.out), rfl⟩
      · have nb := Rf.offs_bd HO.out
        obtain ⟨nb1, nb2⟩ := nb
        by_cases hr : T - n < -62135596800 ∨ 253402300799 < T - n
        · have HV := Lib.hid (show (0, 3) = v by rw [← hv]; show (0, 3) = Rf.rng (T - n); unfold Rf.rng; rw [if_pos hr])
          clear hv
          rcases hr with hr | hr
          all_goals
            go_wp2_with fail
            refine (roffset_yes s k _ (by omega) n _ hs (by omega) HO.out).mono ?_
            rintro e w' ⟨rfl, rfl⟩
            go_wp2_with fail
            go_ret2
            exact ⟨ret_two (congrArg Prod.fst HV.out) (congrArg Prod.snd HV.out), rfl⟩
        · have HV := Lib.hid (show (T - n, 0) = v by rw [← hv]; show (T - n, 0) = Rf.rng (T - n); unfold Rf.rng; rw [if_neg hr])
          have r1 : -62135596800 ≤ T - n := by omega
          have r2 : T - n ≤ 253402300799 := by omega
          clear hv hr
          go_wp2_with fail
          refine (roffset_yes s k _ (by omega) n _ hs (by omega) HO.out).mono ?_
          rintro e w' ⟨rfl, rfl⟩
          go_wp2_with fail
          go_ret2
          exact ⟨ret_two (congrArg Prod.fst HV.out) (congrArg Prod.snd HV.out), rfl⟩
    · have hlt := isD_lt hd
      obtain ⟨y, hy, hy9⟩ := num1_yes (l := s.data.toList.drop k) (by rw [Rf.getD_drop]; exact hd)
      have Z2 := Lib.hid hy
      have HN := Lib.hid (show 20 + Rf.nd (s.data.toList.drop 20) = (k + 1) + Rf.nd (s.data.toList.drop (k + 1)) by rw [HK.out, Rf.nd_step _ _ hd]; omega)
      clear hd hy
      go_wp2_with fail
      refine (rnumber_is s k 1 _ _ rfl rfl y _ hs (by omega) (by decide) (by decide) Z2.out).mono ?_
      rintro e w' ⟨rfl, rfl⟩
      go_wp2_with fail
      go_round
      case rel => exact ⟨k + 1, by omega, by omega, by go_num, HN.out⟩
      case measure => simp [intOf]; omega
end Go.Proofs.YtikjehgbfkndjaaDoor.Rw
