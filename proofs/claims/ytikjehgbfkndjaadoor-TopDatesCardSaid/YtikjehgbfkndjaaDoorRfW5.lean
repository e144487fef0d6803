/- Walks of Format: the reference's and the program's. Printed by wip/genrf5.py. -/
import Derived.Test.YtikjehgbfkndjaaDoorRfW4
import Derived.Test.YtikjehgbfkndjaaDoorRfW1
import Derived.WalkSmall
namespace Go.Proofs.YtikjehgbfkndjaaDoor.Rp
open Go Go.RowKit Go.Proofs.YtikjehgbfkndjaaDoor Go.Proofs.YtikjehgbfkndjaaDoor.Bs
set_option linter.unusedVariables false

theorem PowTab.below {w w' : World} (h : PowTab w) (hb : Below w.heap.size w w') : PowTab w' := by
  unfold PowTab Lib.TabIs at *
  have hg : Tryd.prog.globalNamed "internal/strconv.uint64pow10" = some 5 := by kernel_rfl
  refine var?_below (B := w.heap.size) hb hg ?_ h
  simp only [World.var?, hg, Option.bind_some] at h
  split at h
  · rename_i c t fr hbk
    exact lt_of_heap hbk
  · cases h
theorem rpad_is (n w : Nat) (a b : Int) (ha : a = n) (hb : b = w) (P : ByteArray) (W : World) (h : n < 10 ^ w) (hw : w ≤ 4) (hP : Rf.dig w n = P.data.toList) :
    Calls Tryd.prog 19 #[.int .i64 a, .int .i64 b] W fun e w' => e = .returned (.string P) ∧ Below W.heap.size W w' := by
  have := Rw.rpad n w a b ha hb W h hw
  rw [ba_of hP.symm] at this
  exact this
theorem pad_ex (w n : Nat) : ∃ P : ByteArray, Rf.dig w n = P.data.toList ∧ P.size ≤ w := by
  obtain ⟨P, h1, h2⟩ := ba_ex (Rf.dig w n)
  exact ⟨P, h1, by rw [h2, Rf.dig_len]; exact Nat.le_refl _⟩
theorem date_is (D : Int) (y m d : Nat) (w : World) (h1 : -719162 ≤ D) (h2 : D ≤ 2932896) (hy : Cal.dY D = y) (hm : Cal.dM D = m) (hd : Cal.dD D = d) :
    Calls Tryd.prog 20 #[.int .i64 D] w fun e w' => e = .returned (.tuple #[.int .i64 y, .int .i64 m, .int .i64 d, .int .i64 0]) ∧ Below w.heap.size w w' := by
  rw [← hy, ← hm, ← hd]; exact Civ.date_yes D w h1 h2
theorem rdate_is (D : Int) (y m d : Nat) (w : World) (h1 : -719162 ≤ D) (h2 : D ≤ 2932896) (hy : Cal.dY D = y) (hm : Cal.dM D = m) (hd : Cal.dD D = d) :
    Calls Tryd.prog 35 #[.int .i64 D] w fun e w' => e = .returned (.tuple #[.int .i64 y, .int .i64 m, .int .i64 d, .int .i64 0]) ∧ w = w' := by
  rw [← hy, ← hm, ← hd]; exact Civ.rdate_yes D w h1 h2
/-- What both walks know of a time in range. -/
theorem time_parts (t : Int) (h1 : -62135596800 ≤ t) (h2 : t ≤ 253402300799) : ∃ (D S : Int) (y m d h mi s : Nat), -719162 ≤ D ∧ D ≤ 2932896 ∧ 0 ≤ S ∧ S < 86400 ∧ t = D * 86400 + S ∧ Cal.dY D = y ∧ Cal.dM D = m ∧ Cal.dD D = d ∧
    S / 3600 = h ∧ S / 60 % 60 = mi ∧ S % 60 = s ∧ y ≤ 9999 ∧ m ≤ 12 ∧ d ≤ 31 ∧ h ≤ 23 ∧ mi ≤ 59 ∧ s ≤ 59 ∧ Rf.fmtL t = Rf.form y m d h mi s 84 ++ [90] := by
  have p := Rf.parts t h1 h2
  have b1 : -719162 ≤ Rf.dy t := by unfold Rf.dy; omega
  have b2 : Rf.dy t ≤ 2932896 := by unfold Rf.dy; omega
  obtain ⟨⟨v1, v2, v3, v4, v5, v6⟩, vn⟩ := Cal.date_valid (Rf.dy t) b1 b2
  have s1 : 0 ≤ Rf.sc t ∧ Rf.sc t < 86400 := by unfold Rf.sc; omega
  refine ⟨Rf.dy t, Rf.sc t, _, _, _, _, _, _, b1, b2, s1.1, s1.2, by unfold Rf.dy Rf.sc; omega, ?_, ?_, ?_, ?_, ?_, ?_, p.y4, p.m2, p.d2, p.hb, p.mib, p.sb, rfl⟩
  · exact (Int.toNat_of_nonneg (by omega)).symm
  · exact (Int.toNat_of_nonneg (by omega)).symm
  · exact (Int.toNat_of_nonneg (by omega)).symm
  · exact (Int.toNat_of_nonneg (by omega)).symm
  · exact (Int.toNat_of_nonneg (by omega)).symm
  · exact (Int.toNat_of_nonneg (by omega)).symm
set_option maxRecDepth 100000 in
set_option maxHeartbeats 4000000 in
theorem rfmt_no (t : Int) (W : World) (h : t < -62135596800 ∨ 253402300799 < t) :
    Calls Tryd.prog 16 #[.int .i64 t] W fun e w' => e = .returned (.tuple #[.string ⟨#[]⟩, .int .i64 3]) ∧ Below W.heap.size W w' := by
  rcases h with h | h
  all_goals
    go_enter Tryd.func16, Tryd.ntmps16
    go_wp2
    go_ret2
    exact ⟨rfl, Below.refl _ _⟩
set_option maxRecDepth 100000 in
set_option maxHeartbeats 4000000 in
theorem rfmt_yes (t : Int) (W : World) (h1 : -62135596800 ≤ t) (h2 : t ≤ 253402300799) (X : ByteArray) (hX : Rf.fmtL t = X.data.toList) :
    Calls Tryd.prog 16 #[.int .i64 t] W fun e w' => e = .returned (.tuple #[.string X, .int .i64 0]) ∧ Below W.heap.size W w' := by
  obtain ⟨D, S, y, m, d, h, mi, s, D1, D2, S1, S2, hte, hy, hm, hd, hh, hmi, hs, y9, m9, d9, h9, mi9, s9, hf⟩ := time_parts t h1 h2
  have q1 : (t + 62135596800) / 86400 - 719162 = D := by omega
  have q2 : (t + 62135596800) % 86400 = S := by omega
  obtain ⟨Py, hPy, zy⟩ := pad_ex 4 y
  obtain ⟨Pm, hPm, zm⟩ := pad_ex 2 m
  obtain ⟨Pd, hPd, zd⟩ := pad_ex 2 d
  obtain ⟨Ph, hPh, zh⟩ := pad_ex 2 h
  obtain ⟨Pmi, hPmi, zmi⟩ := pad_ex 2 mi
  obtain ⟨Ps, hPs, zs⟩ := pad_ex 2 s
  have HX := Lib.hid (show Py ++ ⟨#[45]⟩ ++ Pm ++ ⟨#[45]⟩ ++ Pd ++ ⟨#[84]⟩ ++ Ph ++ ⟨#[58]⟩ ++ Pmi ++ ⟨#[58]⟩ ++ Ps ++ ⟨#[90]⟩ = X by
    apply ba_eq
    rw [← hX, hf]
    simp only [toList_append, ← hPy, ← hPm, ← hPd, ← hPh, ← hPmi, ← hPs]
    rfl)
  have Qy := Lib.hid hPy
  have Qm := Lib.hid hPm
  have Qd := Lib.hid hPd
  have Qh := Lib.hid hPh
  have Qmi := Lib.hid hPmi
  have Qs := Lib.hid hPs
  have Hy := Lib.hid hy
  have Hm := Lib.hid hm
  have Hd := Lib.hid hd
  clear hy hm hd hf hX hte hPy hPm hPd hPh hPmi hPs
  go_enter Tryd.func16, Tryd.ntmps16
  go_wp2_with fail
  refine (rdate_is D y m d _ D1 D2 Hy.out Hm.out Hd.out).mono ?_
  rintro e w' ⟨rfl, rfl⟩
  go_wp2_with fail
  refine (rpad_is y 4 _ _ rfl rfl Py _ (by omega) (by decide) Qy.out).mono ?_
  rintro e w1 ⟨rfl, hb⟩
  have HB1 := Lib.hid (hb)
  clear hb
  go_wp2_with fail
  refine (rpad_is m 2 _ _ rfl rfl Pm _ (by omega) (by decide) Qm.out).mono ?_
  rintro e w2 ⟨rfl, hb⟩
  have HB2 := Lib.hid (below_trans HB1.out hb)
  clear hb
  go_wp2_with fail
  refine (rpad_is d 2 _ _ rfl rfl Pd _ (by omega) (by decide) Qd.out).mono ?_
  rintro e w3 ⟨rfl, hb⟩
  have HB3 := Lib.hid (below_trans HB2.out hb)
  clear hb
  go_wp2_with fail
  refine (rpad_is h 2 _ _ rfl rfl Ph _ (by omega) (by decide) Qh.out).mono ?_
  rintro e w4 ⟨rfl, hb⟩
  have HB4 := Lib.hid (below_trans HB3.out hb)
  clear hb
  go_wp2_with fail
  refine (rpad_is mi 2 _ _ rfl rfl Pmi _ (by omega) (by decide) Qmi.out).mono ?_
  rintro e w5 ⟨rfl, hb⟩
  have HB5 := Lib.hid (below_trans HB4.out hb)
  clear hb
  go_wp2_with fail
  refine (rpad_is s 2 _ _ rfl rfl Ps _ (by omega) (by decide) Qs.out).mono ?_
  rintro e w6 ⟨rfl, hb⟩
  have HB6 := Lib.hid (below_trans HB5.out hb)
  clear hb
  go_wp2_with fail
  go_ret2
  exact ⟨ret_strerr (by rw [← HX.out]) rfl, HB6.out⟩
/-- Go's day and second of a time, and the calendar's. -/
theorem day_sec (t : Int) : (0 ≤ t.tmod 86400 ∧ t.tmod 86400 < 86400 ∧ t = t.tdiv 86400 * 86400 + t.tmod 86400) ∨ (t.tmod 86400 < 0 ∧ -86400 < t.tmod 86400 ∧ t = t.tdiv 86400 * 86400 + t.tmod 86400) := by
  by_cases h : 0 ≤ t
  · rw [Int.tmod_eq_emod_of_nonneg h, Int.tdiv_eq_ediv_of_nonneg h]
    left; omega
  · obtain ⟨u, rfl⟩ : ∃ u, t = -u := ⟨-t, by omega⟩
    rw [Int.neg_tmod, Int.neg_tdiv, Int.tmod_eq_emod_of_nonneg (by omega), Int.tdiv_eq_ediv_of_nonneg (by omega)]
    omega
set_option maxRecDepth 100000 in
set_option maxHeartbeats 4000000 in
theorem fmt_noA (t q r : Int) (W : World) (hq : t.tdiv 86400 = q) (hr : t.tmod 86400 = r) (r1 : 0 ≤ r) (r2 : r < 86400) (q1 : -200000000000000 ≤ q) (q2 : q ≤ 200000000000000) (h : q < -719162 ∨ 2932896 < q) :
    Calls Tryd.prog 11 #[.int .i64 t] W fun e w' => e = .returned (.tuple #[.string ⟨#[]⟩, .int .i64 3]) ∧ Below W.heap.size W w' := by
  have HH := Lib.hid h
  clear h
  go_enter Tryd.func11, Tryd.ntmps11
  go_wp2_with fail
  refine (Civ.date_no _ _ HH.out).mono ?_
  rintro e w' ⟨rfl, rfl⟩
  go_wp2_with fail
  go_ret2
  exact ⟨rfl, Below.refl _ _⟩
set_option maxRecDepth 100000 in
set_option maxHeartbeats 4000000 in
theorem fmt_yesA (t q r D S : Int) (y m d h mi s : Nat) (X : ByteArray) (W : World) (hT : PowTab W) (hq : t.tdiv 86400 = q) (hr : t.tmod 86400 = r) (r1 : 0 ≤ r) (r2 : r < 86400) (hD : q = D) (hS : r = S) (D1 : -719162 ≤ D) (D2 : D ≤ 2932896) (S1 : 0 ≤ S) (S2 : S < 86400)
    (hy : Cal.dY D = y) (hm : Cal.dM D = m) (hd : Cal.dD D = d) (hh : S / 3600 = h) (hmi : S / 60 % 60 = mi) (hs : S % 60 = s) (y9 : y ≤ 9999) (m9 : m ≤ 12) (d9 : d ≤ 31) (h9 : h ≤ 23) (mi9 : mi ≤ 59) (s9 : s ≤ 59) (hX : Rf.form y m d h mi s 84 ++ [90] = X.data.toList) :
    Calls Tryd.prog 11 #[.int .i64 t] W fun e w' => e = .returned (.tuple #[.string X, .int .i64 0]) ∧ Below W.heap.size W w' := by
  subst hD hS
  obtain ⟨i0, hi, hz0, hz1, hz2⟩ := info_parts infoU
  have II := Lib.hid (And.intro hi (And.intro hz0 (And.intro hz1 hz2)))
  have HT := Lib.hid hT
  have Hy := Lib.hid hy
  have Hm := Lib.hid hm
  have Hd := Lib.hid hd
  have HX := Lib.hid hX
  clear hi hz0 hz1 hz2 hT hy hm hd hX
  go_enter Tryd.func11, Tryd.ntmps11
  go_wp2_with fail
  refine (date_is q y m d _ D1 D2 Hy.out Hm.out Hd.out).mono ?_
  rintro e w1 ⟨rfl, hb⟩
  have HB1 := Lib.hid hb
  have hz1 := hb.size
  clear hb
  go_wp2_with fail
  refine (pad_any W.heap.size [] (.slice none 0 0) y 4 _ _ rfl rfl _ (HT.out.below HB1.out) (by decide) (by decide) (by omega) (by decide) hz1 ⟨rfl, .inl ⟨rfl, rfl⟩⟩).mono ?_
  rintro e w2 ⟨v2, rfl, ho2, hb2⟩
  obtain ⟨o2, ho2e⟩ : ∃ o2, ([] : List UInt8) ++ Rf.dig 4 y = o2 := ⟨_, rfl⟩
  have l2 : o2.length ≤ 4 := by rw [← ho2e, List.length_append, Rf.dig_len]; simp
  rw [ho2e] at ho2
  have HF2 := Lib.hid ho2e
  have HO2 := Lib.hid ho2
  have HB2 := Lib.hid (HB1.out.trans hb2)
  have hz2 := (HB1.out.trans hb2).size
  obtain ⟨a2, c2, hv2⟩ := own_slice ho2
  subst hv2
  clear ho2e ho2 hb2
  go_wp2_with (at_builtin; refine wpList_append_own _ rfl _ _ 43 rfl W.heap.size 5 i0 (.int .u8 0) 1 1 Tryd.underlying43 II.out.1 II.out.2.1 II.out.2.2.1 II.out.2.2.2 rfl (by decide) _ _ _ rfl (HO2.out.alloc _) ⟨w2.heap.size, 0, none⟩ 1 1 [.int .u8 45] rfl rfl (one_new w2 _) (fun u hu => by simp at hu; subst hu; rfl) ?a3 ?a4 ?a5 ?_)
  case a3 => unfold maxLen; omega
  case a4 => omega
  case a5 => rw [alloc_sz]; omega
  intro v3 w3 hown3 hgrow3 _
  obtain ⟨a3, c3, hv3⟩ := own_slice hown3
  subst hv3
  have HO3 := Lib.hid (show w3.ownsRow W.heap.size 5 1 (.slice a3 (o2.length + 1) c3) (o2 ++ [45]).length (Lib.byteCells (o2 ++ [45])) by rw [← cells_snoc]; simpa using hown3)
  have HB3 := Lib.hid ((HB2.out.alloc hz2 _).grown hgrow3 (by rw [alloc_sz]; omega) (fun k hk => (HO2.out.lt k hk).1))
  have hz3 := HB3.out.size
  have HL3 := Lib.hid (show (o2 ++ [45]).length ≤ 5 by simp; omega)
  clear hown3 hgrow3
  go_wp2_with fail
  refine (pad_any W.heap.size (o2 ++ [45]) _ m 2 _ _ rfl rfl _ (HT.out.below HB3.out) (by decide) (by decide) (by omega) (by have := HL3.out; omega) hz3 HO3.out).mono ?_
  rintro e w4 ⟨v4, rfl, ho4, hb4⟩
  obtain ⟨o4, ho4e⟩ : ∃ o4, o2 ++ [45] ++ Rf.dig 2 m = o4 := ⟨_, rfl⟩
  have l4 : o4.length ≤ 7 := by rw [← ho4e]; simp only [List.length_append, Rf.dig_len, List.length_cons, List.length_nil]; omega
  rw [ho4e] at ho4
  have HF4 := Lib.hid ho4e
  have HO4 := Lib.hid ho4
  have HB4 := Lib.hid (HB3.out.trans hb4)
  have hz4 := (HB3.out.trans hb4).size
  obtain ⟨a4, c4, hv4⟩ := own_slice ho4
  subst hv4
  clear ho4e ho4 hb4
  go_wp2_with (at_builtin; refine wpList_append_own _ rfl _ _ 43 rfl W.heap.size 5 i0 (.int .u8 0) 1 1 Tryd.underlying43 II.out.1 II.out.2.1 II.out.2.2.1 II.out.2.2.2 rfl (by decide) _ _ _ rfl (HO4.out.alloc _) ⟨w4.heap.size, 0, none⟩ 1 1 [.int .u8 45] rfl rfl (one_new w4 _) (fun u hu => by simp at hu; subst hu; rfl) ?a3 ?a4 ?a5 ?_)
  case a3 => unfold maxLen; omega
  case a4 => omega
  case a5 => rw [alloc_sz]; omega
  intro v5 w5 hown5 hgrow5 _
  obtain ⟨a5, c5, hv5⟩ := own_slice hown5
  subst hv5
  have HO5 := Lib.hid (show w5.ownsRow W.heap.size 5 1 (.slice a5 (o4.length + 1) c5) (o4 ++ [45]).length (Lib.byteCells (o4 ++ [45])) by rw [← cells_snoc]; simpa using hown5)
  have HB5 := Lib.hid ((HB4.out.alloc hz4 _).grown hgrow5 (by rw [alloc_sz]; omega) (fun k hk => (HO4.out.lt k hk).1))
  have hz5 := HB5.out.size
  have HL5 := Lib.hid (show (o4 ++ [45]).length ≤ 8 by simp; omega)
  clear hown5 hgrow5
  go_wp2_with fail
  refine (pad_any W.heap.size (o4 ++ [45]) _ d 2 _ _ rfl rfl _ (HT.out.below HB5.out) (by decide) (by decide) (by omega) (by have := HL5.out; omega) hz5 HO5.out).mono ?_
  rintro e w6 ⟨v6, rfl, ho6, hb6⟩
  obtain ⟨o6, ho6e⟩ : ∃ o6, o4 ++ [45] ++ Rf.dig 2 d = o6 := ⟨_, rfl⟩
  have l6 : o6.length ≤ 10 := by rw [← ho6e]; simp only [List.length_append, Rf.dig_len, List.length_cons, List.length_nil]; omega
  rw [ho6e] at ho6
  have HF6 := Lib.hid ho6e
  have HO6 := Lib.hid ho6
  have HB6 := Lib.hid (HB5.out.trans hb6)
  have hz6 := (HB5.out.trans hb6).size
  obtain ⟨a6, c6, hv6⟩ := own_slice ho6
  subst hv6
  clear ho6e ho6 hb6
  go_wp2_with (at_builtin; refine wpList_append_own _ rfl _ _ 43 rfl W.heap.size 5 i0 (.int .u8 0) 1 1 Tryd.underlying43 II.out.1 II.out.2.1 II.out.2.2.1 II.out.2.2.2 rfl (by decide) _ _ _ rfl (HO6.out.alloc _) ⟨w6.heap.size, 0, none⟩ 1 1 [.int .u8 84] rfl rfl (one_new w6 _) (fun u hu => by simp at hu; subst hu; rfl) ?a3 ?a4 ?a5 ?_)
  case a3 => unfold maxLen; omega
  case a4 => omega
  case a5 => rw [alloc_sz]; omega
  intro v7 w7 hown7 hgrow7 _
  obtain ⟨a7, c7, hv7⟩ := own_slice hown7
  subst hv7
  have HO7 := Lib.hid (show w7.ownsRow W.heap.size 5 1 (.slice a7 (o6.length + 1) c7) (o6 ++ [84]).length (Lib.byteCells (o6 ++ [84])) by rw [← cells_snoc]; simpa using hown7)
  have HB7 := Lib.hid ((HB6.out.alloc hz6 _).grown hgrow7 (by rw [alloc_sz]; omega) (fun k hk => (HO6.out.lt k hk).1))
  have hz7 := HB7.out.size
  have HL7 := Lib.hid (show (o6 ++ [84]).length ≤ 11 by simp; omega)
  clear hown7 hgrow7
  go_wp2_with fail
  refine (pad_any W.heap.size (o6 ++ [84]) _ h 2 _ _ rfl rfl _ (HT.out.below HB7.out) (by decide) (by decide) (by omega) (by have := HL7.out; omega) hz7 HO7.out).mono ?_
  rintro e w8 ⟨v8, rfl, ho8, hb8⟩
  obtain ⟨o8, ho8e⟩ : ∃ o8, o6 ++ [84] ++ Rf.dig 2 h = o8 := ⟨_, rfl⟩
  have l8 : o8.length ≤ 13 := by rw [← ho8e]; simp only [List.length_append, Rf.dig_len, List.length_cons, List.length_nil]; omega
  rw [ho8e] at ho8
  have HF8 := Lib.hid ho8e
  have HO8 := Lib.hid ho8
  have HB8 := Lib.hid (HB7.out.trans hb8)
  have hz8 := (HB7.out.trans hb8).size
  obtain ⟨a8, c8, hv8⟩ := own_slice ho8
  subst hv8
  clear ho8e ho8 hb8
  go_wp2_with (at_builtin; refine wpList_append_own _ rfl _ _ 43 rfl W.heap.size 5 i0 (.int .u8 0) 1 1 Tryd.underlying43 II.out.1 II.out.2.1 II.out.2.2.1 II.out.2.2.2 rfl (by decide) _ _ _ rfl (HO8.out.alloc _) ⟨w8.heap.size, 0, none⟩ 1 1 [.int .u8 58] rfl rfl (one_new w8 _) (fun u hu => by simp at hu; subst hu; rfl) ?a3 ?a4 ?a5 ?_)
  case a3 => unfold maxLen; omega
  case a4 => omega
  case a5 => rw [alloc_sz]; omega
  intro v9 w9 hown9 hgrow9 _
  obtain ⟨a9, c9, hv9⟩ := own_slice hown9
  subst hv9
  have HO9 := Lib.hid (show w9.ownsRow W.heap.size 5 1 (.slice a9 (o8.length + 1) c9) (o8 ++ [58]).length (Lib.byteCells (o8 ++ [58])) by rw [← cells_snoc]; simpa using hown9)
  have HB9 := Lib.hid ((HB8.out.alloc hz8 _).grown hgrow9 (by rw [alloc_sz]; omega) (fun k hk => (HO8.out.lt k hk).1))
  have hz9 := HB9.out.size
  have HL9 := Lib.hid (show (o8 ++ [58]).length ≤ 14 by simp; omega)
  clear hown9 hgrow9
  go_wp2_with fail
  refine (pad_any W.heap.size (o8 ++ [58]) _ mi 2 _ _ rfl rfl _ (HT.out.below HB9.out) (by decide) (by decide) (by omega) (by have := HL9.out; omega) hz9 HO9.out).mono ?_
  rintro e w10 ⟨v10, rfl, ho10, hb10⟩
  obtain ⟨o10, ho10e⟩ : ∃ o10, o8 ++ [58] ++ Rf.dig 2 mi = o10 := ⟨_, rfl⟩
  have l10 : o10.length ≤ 16 := by rw [← ho10e]; simp only [List.length_append, Rf.dig_len, List.length_cons, List.length_nil]; omega
  rw [ho10e] at ho10
  have HF10 := Lib.hid ho10e
  have HO10 := Lib.hid ho10
  have HB10 := Lib.hid (HB9.out.trans hb10)
  have hz10 := (HB9.out.trans hb10).size
  obtain ⟨a10, c10, hv10⟩ := own_slice ho10
  subst hv10
  clear ho10e ho10 hb10
  go_wp2_with (at_builtin; refine wpList_append_own _ rfl _ _ 43 rfl W.heap.size 5 i0 (.int .u8 0) 1 1 Tryd.underlying43 II.out.1 II.out.2.1 II.out.2.2.1 II.out.2.2.2 rfl (by decide) _ _ _ rfl (HO10.out.alloc _) ⟨w10.heap.size, 0, none⟩ 1 1 [.int .u8 58] rfl rfl (one_new w10 _) (fun u hu => by simp at hu; subst hu; rfl) ?a3 ?a4 ?a5 ?_)
  case a3 => unfold maxLen; omega
  case a4 => omega
  case a5 => rw [alloc_sz]; omega
  intro v11 w11 hown11 hgrow11 _
  obtain ⟨a11, c11, hv11⟩ := own_slice hown11
  subst hv11
  have HO11 := Lib.hid (show w11.ownsRow W.heap.size 5 1 (.slice a11 (o10.length + 1) c11) (o10 ++ [58]).length (Lib.byteCells (o10 ++ [58])) by rw [← cells_snoc]; simpa using hown11)
  have HB11 := Lib.hid ((HB10.out.alloc hz10 _).grown hgrow11 (by rw [alloc_sz]; omega) (fun k hk => (HO10.out.lt k hk).1))
  have hz11 := HB11.out.size
  have HL11 := Lib.hid (show (o10 ++ [58]).length ≤ 17 by simp; omega)
  clear hown11 hgrow11
  go_wp2_with fail
  refine (pad_any W.heap.size (o10 ++ [58]) _ s 2 _ _ rfl rfl _ (HT.out.below HB11.out) (by decide) (by decide) (by omega) (by have := HL11.out; omega) hz11 HO11.out).mono ?_
  rintro e w12 ⟨v12, rfl, ho12, hb12⟩
  obtain ⟨o12, ho12e⟩ : ∃ o12, o10 ++ [58] ++ Rf.dig 2 s = o12 := ⟨_, rfl⟩
  have l12 : o12.length ≤ 19 := by rw [← ho12e]; simp only [List.length_append, Rf.dig_len, List.length_cons, List.length_nil]; omega
  rw [ho12e] at ho12
  have HF12 := Lib.hid ho12e
  have HO12 := Lib.hid ho12
  have HB12 := Lib.hid (HB11.out.trans hb12)
  have hz12 := (HB11.out.trans hb12).size
  obtain ⟨a12, c12, hv12⟩ := own_slice ho12
  subst hv12
  clear ho12e ho12 hb12
  go_wp2_with (at_builtin; refine wpList_append_own _ rfl _ _ 43 rfl W.heap.size 5 i0 (.int .u8 0) 1 1 Tryd.underlying43 II.out.1 II.out.2.1 II.out.2.2.1 II.out.2.2.2 rfl (by decide) _ _ _ rfl (HO12.out.alloc _) ⟨w12.heap.size, 0, none⟩ 1 1 [.int .u8 90] rfl rfl (one_new w12 _) (fun u hu => by simp at hu; subst hu; rfl) ?a3 ?a4 ?a5 ?_)
  case a3 => unfold maxLen; omega
  case a4 => omega
  case a5 => rw [alloc_sz]; omega
  intro v13 w13 hown13 hgrow13 _
  obtain ⟨a13, c13, hv13⟩ := own_slice hown13
  subst hv13
  have hcv0 := conv_own (o := o12 ++ [90]) (show w13.ownsRow W.heap.size 5 1 (.slice a13 (o12.length + 1) c13) (o12 ++ [90]).length (Lib.byteCells (o12 ++ [90])) by rw [← cells_snoc]; simpa using hown13)
  have HE : (⟨(o12 ++ [90]).toArray⟩ : ByteArray) = X := by
    apply ba_of
    rw [← HX.out, ← HF12.out, ← HF10.out, ← HF8.out, ← HF6.out, ← HF4.out, ← HF2.out]
    rfl
  rw [HE] at hcv0
  have hcv := hcv0
  have HB13 := Lib.hid ((HB12.out.alloc hz12 _).grown hgrow13 (by rw [alloc_sz]; omega) (fun k hk => (HO12.out.lt k hk).1))
  clear hown13 hgrow13 hcv0 HE
  go_wp2_with fail
  go_ret2
  exact ⟨rfl, HB13.out⟩
set_option maxRecDepth 100000 in
set_option maxHeartbeats 4000000 in
theorem fmt_noB (t q r : Int) (W : World) (hq : t.tdiv 86400 = q) (hr : t.tmod 86400 = r) (r1 : r < 0) (r2 : -86400 < r) (q1 : -200000000000000 ≤ q) (q2 : q ≤ 200000000000000) (h : q - 1 < -719162 ∨ 2932896 < q - 1) :
    Calls Tryd.prog 11 #[.int .i64 t] W fun e w' => e = .returned (.tuple #[.string ⟨#[]⟩, .int .i64 3]) ∧ Below W.heap.size W w' := by
  have HH := Lib.hid h
  clear h
  go_enter Tryd.func11, Tryd.ntmps11
  go_wp2_with fail
  refine (Civ.date_no _ _ HH.out).mono ?_
  rintro e w' ⟨rfl, rfl⟩
  go_wp2_with fail
  go_ret2
  exact ⟨rfl, Below.refl _ _⟩
set_option maxRecDepth 100000 in
set_option maxHeartbeats 4000000 in
theorem fmt_yesB (t q r D S : Int) (y m d h mi s : Nat) (X : ByteArray) (W : World) (hT : PowTab W) (hq : t.tdiv 86400 = q) (hr : t.tmod 86400 = r) (r1 : r < 0) (r2 : -86400 < r) (hD : q - 1 = D) (hS : r + 86400 = S) (D1 : -719162 ≤ D) (D2 : D ≤ 2932896) (S1 : 0 ≤ S) (S2 : S < 86400)
    (hy : Cal.dY D = y) (hm : Cal.dM D = m) (hd : Cal.dD D = d) (hh : S / 3600 = h) (hmi : S / 60 % 60 = mi) (hs : S % 60 = s) (y9 : y ≤ 9999) (m9 : m ≤ 12) (d9 : d ≤ 31) (h9 : h ≤ 23) (mi9 : mi ≤ 59) (s9 : s ≤ 59) (hX : Rf.form y m d h mi s 84 ++ [90] = X.data.toList) :
    Calls Tryd.prog 11 #[.int .i64 t] W fun e w' => e = .returned (.tuple #[.string X, .int .i64 0]) ∧ Below W.heap.size W w' := by
  have q1 : -719161 ≤ q := by omega
  have q2 : q ≤ 2932897 := by omega
  obtain ⟨i0, hi, hz0, hz1, hz2⟩ := info_parts infoU
  have II := Lib.hid (And.intro hi (And.intro hz0 (And.intro hz1 hz2)))
  have HT := Lib.hid hT
  have Hy := Lib.hid hy
  have Hm := Lib.hid hm
  have Hd := Lib.hid hd
  have HX := Lib.hid hX
  clear hi hz0 hz1 hz2 hT hy hm hd hX
  go_enter Tryd.func11, Tryd.ntmps11
  go_wp2_with fail
  refine (date_is D y m d _ D1 D2 Hy.out Hm.out Hd.out).mono ?_
  rintro e w1 ⟨rfl, hb⟩
  have HB1 := Lib.hid hb
  have hz1 := hb.size
  clear hb
  go_wp2_with fail
  refine (pad_any W.heap.size [] (.slice none 0 0) y 4 _ _ rfl rfl _ (HT.out.below HB1.out) (by decide) (by decide) (by omega) (by decide) hz1 ⟨rfl, .inl ⟨rfl, rfl⟩⟩).mono ?_
  rintro e w2 ⟨v2, rfl, ho2, hb2⟩
  obtain ⟨o2, ho2e⟩ : ∃ o2, ([] : List UInt8) ++ Rf.dig 4 y = o2 := ⟨_, rfl⟩
  have l2 : o2.length ≤ 4 := by rw [← ho2e, List.length_append, Rf.dig_len]; simp
  rw [ho2e] at ho2
  have HF2 := Lib.hid ho2e
  have HO2 := Lib.hid ho2
  have HB2 := Lib.hid (HB1.out.trans hb2)
  have hz2 := (HB1.out.trans hb2).size
  obtain ⟨a2, c2, hv2⟩ := own_slice ho2
  subst hv2
  clear ho2e ho2 hb2
  go_wp2_with (at_builtin; refine wpList_append_own _ rfl _ _ 43 rfl W.heap.size 5 i0 (.int .u8 0) 1 1 Tryd.underlying43 II.out.1 II.out.2.1 II.out.2.2.1 II.out.2.2.2 rfl (by decide) _ _ _ rfl (HO2.out.alloc _) ⟨w2.heap.size, 0, none⟩ 1 1 [.int .u8 45] rfl rfl (one_new w2 _) (fun u hu => by simp at hu; subst hu; rfl) ?a3 ?a4 ?a5 ?_)
  case a3 => unfold maxLen; omega
  case a4 => omega
  case a5 => rw [alloc_sz]; omega
  intro v3 w3 hown3 hgrow3 _
  obtain ⟨a3, c3, hv3⟩ := own_slice hown3
  subst hv3
  have HO3 := Lib.hid (show w3.ownsRow W.heap.size 5 1 (.slice a3 (o2.length + 1) c3) (o2 ++ [45]).length (Lib.byteCells (o2 ++ [45])) by rw [← cells_snoc]; simpa using hown3)
  have HB3 := Lib.hid ((HB2.out.alloc hz2 _).grown hgrow3 (by rw [alloc_sz]; omega) (fun k hk => (HO2.out.lt k hk).1))
  have hz3 := HB3.out.size
  have HL3 := Lib.hid (show (o2 ++ [45]).length ≤ 5 by simp; omega)
  clear hown3 hgrow3
  go_wp2_with fail
  refine (pad_any W.heap.size (o2 ++ [45]) _ m 2 _ _ rfl rfl _ (HT.out.below HB3.out) (by decide) (by decide) (by omega) (by have := HL3.out; omega) hz3 HO3.out).mono ?_
  rintro e w4 ⟨v4, rfl, ho4, hb4⟩
  obtain ⟨o4, ho4e⟩ : ∃ o4, o2 ++ [45] ++ Rf.dig 2 m = o4 := ⟨_, rfl⟩
  have l4 : o4.length ≤ 7 := by rw [← ho4e]; simp only [List.length_append, Rf.dig_len, List.length_cons, List.length_nil]; omega
  rw [ho4e] at ho4
  have HF4 := Lib.hid ho4e
  have HO4 := Lib.hid ho4
  have HB4 := Lib.hid (HB3.out.trans hb4)
  have hz4 := (HB3.out.trans hb4).size
  obtain ⟨a4, c4, hv4⟩ := own_slice ho4
  subst hv4
  clear ho4e ho4 hb4
  go_wp2_with (at_builtin; refine wpList_append_own _ rfl _ _ 43 rfl W.heap.size 5 i0 (.int .u8 0) 1 1 Tryd.underlying43 II.out.1 II.out.2.1 II.out.2.2.1 II.out.2.2.2 rfl (by decide) _ _ _ rfl (HO4.out.alloc _) ⟨w4.heap.size, 0, none⟩ 1 1 [.int .u8 45] rfl rfl (one_new w4 _) (fun u hu => by simp at hu; subst hu; rfl) ?a3 ?a4 ?a5 ?_)
  case a3 => unfold maxLen; omega
  case a4 => omega
  case a5 => rw [alloc_sz]; omega
  intro v5 w5 hown5 hgrow5 _
  obtain ⟨a5, c5, hv5⟩ := own_slice hown5
  subst hv5
  have HO5 := Lib.hid (show w5.ownsRow W.heap.size 5 1 (.slice a5 (o4.length + 1) c5) (o4 ++ [45]).length (Lib.byteCells (o4 ++ [45])) by rw [← cells_snoc]; simpa using hown5)
  have HB5 := Lib.hid ((HB4.out.alloc hz4 _).grown hgrow5 (by rw [alloc_sz]; omega) (fun k hk => (HO4.out.lt k hk).1))
  have hz5 := HB5.out.size
  have HL5 := Lib.hid (show (o4 ++ [45]).length ≤ 8 by simp; omega)
  clear hown5 hgrow5
  go_wp2_with fail
  refine (pad_any W.heap.size (o4 ++ [45]) _ d 2 _ _ rfl rfl _ (HT.out.below HB5.out) (by decide) (by decide) (by omega) (by have := HL5.out; omega) hz5 HO5.out).mono ?_
  rintro e w6 ⟨v6, rfl, ho6, hb6⟩
  obtain ⟨o6, ho6e⟩ : ∃ o6, o4 ++ [45] ++ Rf.dig 2 d = o6 := ⟨_, rfl⟩
  have l6 : o6.length ≤ 10 := by rw [← ho6e]; simp only [List.length_append, Rf.dig_len, List.length_cons, List.length_nil]; omega
  rw [ho6e] at ho6
  have HF6 := Lib.hid ho6e
  have HO6 := Lib.hid ho6
  have HB6 := Lib.hid (HB5.out.trans hb6)
  have hz6 := (HB5.out.trans hb6).size
  obtain ⟨a6, c6, hv6⟩ := own_slice ho6
  subst hv6
  clear ho6e ho6 hb6
  go_wp2_with (at_builtin; refine wpList_append_own _ rfl _ _ 43 rfl W.heap.size 5 i0 (.int .u8 0) 1 1 Tryd.underlying43 II.out.1 II.out.2.1 II.out.2.2.1 II.out.2.2.2 rfl (by decide) _ _ _ rfl (HO6.out.alloc _) ⟨w6.heap.size, 0, none⟩ 1 1 [.int .u8 84] rfl rfl (one_new w6 _) (fun u hu => by simp at hu; subst hu; rfl) ?a3 ?a4 ?a5 ?_)
  case a3 => unfold maxLen; omega
  case a4 => omega
  case a5 => rw [alloc_sz]; omega
  intro v7 w7 hown7 hgrow7 _
  obtain ⟨a7, c7, hv7⟩ := own_slice hown7
  subst hv7
  have HO7 := Lib.hid (show w7.ownsRow W.heap.size 5 1 (.slice a7 (o6.length + 1) c7) (o6 ++ [84]).length (Lib.byteCells (o6 ++ [84])) by rw [← cells_snoc]; simpa using hown7)
  have HB7 := Lib.hid ((HB6.out.alloc hz6 _).grown hgrow7 (by rw [alloc_sz]; omega) (fun k hk => (HO6.out.lt k hk).1))
  have hz7 := HB7.out.size
  have HL7 := Lib.hid (show (o6 ++ [84]).length ≤ 11 by simp; omega)
  clear hown7 hgrow7
  go_wp2_with fail
  refine (pad_any W.heap.size (o6 ++ [84]) _ h 2 _ _ rfl rfl _ (HT.out.below HB7.out) (by decide) (by decide) (by omega) (by have := HL7.out; omega) hz7 HO7.out).mono ?_
  rintro e w8 ⟨v8, rfl, ho8, hb8⟩
  obtain ⟨o8, ho8e⟩ : ∃ o8, o6 ++ [84] ++ Rf.dig 2 h = o8 := ⟨_, rfl⟩
  have l8 : o8.length ≤ 13 := by rw [← ho8e]; simp only [List.length_append, Rf.dig_len, List.length_cons, List.length_nil]; omega
  rw [ho8e] at ho8
  have HF8 := Lib.hid ho8e
  have HO8 := Lib.hid ho8
  have HB8 := Lib.hid (HB7.out.trans hb8)
  have hz8 := (HB7.out.trans hb8).size
  obtain ⟨a8, c8, hv8⟩ := own_slice ho8
  subst hv8
  clear ho8e ho8 hb8
  go_wp2_with (at_builtin; refine wpList_append_own _ rfl _ _ 43 rfl W.heap.size 5 i0 (.int .u8 0) 1 1 Tryd.underlying43 II.out.1 II.out.2.1 II.out.2.2.1 II.out.2.2.2 rfl (by decide) _ _ _ rfl (HO8.out.alloc _) ⟨w8.heap.size, 0, none⟩ 1 1 [.int .u8 58] rfl rfl (one_new w8 _) (fun u hu => by simp at hu; subst hu; rfl) ?a3 ?a4 ?a5 ?_)
  case a3 => unfold maxLen; omega
  case a4 => omega
  case a5 => rw [alloc_sz]; omega
  intro v9 w9 hown9 hgrow9 _
  obtain ⟨a9, c9, hv9⟩ := own_slice hown9
  subst hv9
  have HO9 := Lib.hid (show w9.ownsRow W.heap.size 5 1 (.slice a9 (o8.length + 1) c9) (o8 ++ [58]).length (Lib.byteCells (o8 ++ [58])) by rw [← cells_snoc]; simpa using hown9)
  have HB9 := Lib.hid ((HB8.out.alloc hz8 _).grown hgrow9 (by rw [alloc_sz]; omega) (fun k hk => (HO8.out.lt k hk).1))
  have hz9 := HB9.out.size
  have HL9 := Lib.hid (show (o8 ++ [58]).length ≤ 14 by simp; omega)
  clear hown9 hgrow9
  go_wp2_with fail
  refine (pad_any W.heap.size (o8 ++ [58]) _ mi 2 _ _ rfl rfl _ (HT.out.below HB9.out) (by decide) (by decide) (by omega) (by have := HL9.out; omega) hz9 HO9.out).mono ?_
  rintro e w10 ⟨v10, rfl, ho10, hb10⟩
  obtain ⟨o10, ho10e⟩ : ∃ o10, o8 ++ [58] ++ Rf.dig 2 mi = o10 := ⟨_, rfl⟩
  have l10 : o10.length ≤ 16 := by rw [← ho10e]; simp only [List.length_append, Rf.dig_len, List.length_cons, List.length_nil]; omega
  rw [ho10e] at ho10
  have HF10 := Lib.hid ho10e
  have HO10 := Lib.hid ho10
  have HB10 := Lib.hid (HB9.out.trans hb10)
  have hz10 := (HB9.out.trans hb10).size
  obtain ⟨a10, c10, hv10⟩ := own_slice ho10
  subst hv10
  clear ho10e ho10 hb10
  go_wp2_with (at_builtin; refine wpList_append_own _ rfl _ _ 43 rfl W.heap.size 5 i0 (.int .u8 0) 1 1 Tryd.underlying43 II.out.1 II.out.2.1 II.out.2.2.1 II.out.2.2.2 rfl (by decide) _ _ _ rfl (HO10.out.alloc _) ⟨w10.heap.size, 0, none⟩ 1 1 [.int .u8 58] rfl rfl (one_new w10 _) (fun u hu => by simp at hu; subst hu; rfl) ?a3 ?a4 ?a5 ?_)
  case a3 => unfold maxLen; omega
  case a4 => omega
  case a5 => rw [alloc_sz]; omega
  intro v11 w11 hown11 hgrow11 _
  obtain ⟨a11, c11, hv11⟩ := own_slice hown11
  subst hv11
  have HO11 := Lib.hid (show w11.ownsRow W.heap.size 5 1 (.slice a11 (o10.length + 1) c11) (o10 ++ [58]).length (Lib.byteCells (o10 ++ [58])) by rw [← cells_snoc]; simpa using hown11)
  have HB11 := Lib.hid ((HB10.out.alloc hz10 _).grown hgrow11 (by rw [alloc_sz]; omega) (fun k hk => (HO10.out.lt k hk).1))
  have hz11 := HB11.out.size
  have HL11 := Lib.hid (show (o10 ++ [58]).length ≤ 17 by simp; omega)
  clear hown11 hgrow11
  go_wp2_with fail
  refine (pad_any W.heap.size (o10 ++ [58]) _ s 2 _ _ rfl rfl _ (HT.out.below HB11.out) (by decide) (by decide) (by omega) (by have := HL11.out; omega) hz11 HO11.out).mono ?_
  rintro e w12 ⟨v12, rfl, ho12, hb12⟩
  obtain ⟨o12, ho12e⟩ : ∃ o12, o10 ++ [58] ++ Rf.dig 2 s = o12 := ⟨_, rfl⟩
  have l12 : o12.length ≤ 19 := by rw [← ho12e]; simp only [List.length_append, Rf.dig_len, List.length_cons, List.length_nil]; omega
  rw [ho12e] at ho12
  have HF12 := Lib.hid ho12e
  have HO12 := Lib.hid ho12
  have HB12 := Lib.hid (HB11.out.trans hb12)
  have hz12 := (HB11.out.trans hb12).size
  obtain ⟨a12, c12, hv12⟩ := own_slice ho12
  subst hv12
  clear ho12e ho12 hb12
  go_wp2_with (at_builtin; refine wpList_append_own _ rfl _ _ 43 rfl W.heap.size 5 i0 (.int .u8 0) 1 1 Tryd.underlying43 II.out.1 II.out.2.1 II.out.2.2.1 II.out.2.2.2 rfl (by decide) _ _ _ rfl (HO12.out.alloc _) ⟨w12.heap.size, 0, none⟩ 1 1 [.int .u8 90] rfl rfl (one_new w12 _) (fun u hu => by simp at hu; subst hu; rfl) ?a3 ?a4 ?a5 ?_)
  case a3 => unfold maxLen; omega
  case a4 => omega
  case a5 => rw [alloc_sz]; omega
  intro v13 w13 hown13 hgrow13 _
  obtain ⟨a13, c13, hv13⟩ := own_slice hown13
  subst hv13
  have hcv0 := conv_own (o := o12 ++ [90]) (show w13.ownsRow W.heap.size 5 1 (.slice a13 (o12.length + 1) c13) (o12 ++ [90]).length (Lib.byteCells (o12 ++ [90])) by rw [← cells_snoc]; simpa using hown13)
  have HE : (⟨(o12 ++ [90]).toArray⟩ : ByteArray) = X := by
    apply ba_of
    rw [← HX.out, ← HF12.out, ← HF10.out, ← HF8.out, ← HF6.out, ← HF4.out, ← HF2.out]
    rfl
  rw [HE] at hcv0
  have hcv := hcv0
  have HB13 := Lib.hid ((HB12.out.alloc hz12 _).grown hgrow13 (by rw [alloc_sz]; omega) (fun k hk => (HO12.out.lt k hk).1))
  clear hown13 hgrow13 hcv0 HE
  go_wp2_with fail
  go_ret2
  exact ⟨rfl, HB13.out⟩
set_option maxRecDepth 100000 in
set_option maxHeartbeats 4000000 in
theorem fmt_no (t : Int) (W : World) (t1 : -9223372036854775808 ≤ t) (t2 : t ≤ 9223372036854775807) (h : t < -62135596800 ∨ 253402300799 < t) :
    Calls Tryd.prog 11 #[.int .i64 t] W fun e w' => e = .returned (.tuple #[.string ⟨#[]⟩, .int .i64 3]) ∧ Below W.heap.size W w' := by
  rcases day_sec t with ⟨r1, r2, e⟩ | ⟨r1, r2, e⟩
  · exact fmt_noA t _ _ W rfl rfl r1 r2 (by omega) (by omega) (by omega)
  · exact fmt_noB t _ _ W rfl rfl r1 r2 (by omega) (by omega) (by omega)
theorem fmt_yes (t : Int) (W : World) (hT : PowTab W) (h1 : -62135596800 ≤ t) (h2 : t ≤ 253402300799) (X : ByteArray) (hX : Rf.fmtL t = X.data.toList) :
    Calls Tryd.prog 11 #[.int .i64 t] W fun e w' => e = .returned (.tuple #[.string X, .int .i64 0]) ∧ Below W.heap.size W w' := by
  obtain ⟨D, S, y, m, d, h, mi, s, D1, D2, S1, S2, hte, hy, hm, hd, hh, hmi, hs, y9, m9, d9, h9, mi9, s9, hf⟩ := time_parts t h1 h2
  rw [hf] at hX
  rcases day_sec t with ⟨r1, r2, e⟩ | ⟨r1, r2, e⟩
  · exact fmt_yesA t _ _ D S y m d h mi s X W hT rfl rfl r1 r2 (by omega) (by omega) D1 D2 S1 S2 hy hm hd hh hmi hs y9 m9 d9 h9 mi9 s9 hX
  · exact fmt_yesB t _ _ D S y m d h mi s X W hT rfl rfl r1 r2 (by omega) (by omega) D1 D2 S1 S2 hy hm hd hh hmi hs y9 m9 d9 h9 mi9 s9 hX
end Go.Proofs.YtikjehgbfkndjaaDoor.Rp
