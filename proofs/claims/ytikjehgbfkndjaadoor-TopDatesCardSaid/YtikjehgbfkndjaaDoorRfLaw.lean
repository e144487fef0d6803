/- The laws of chapter 3. Printed by wip/genrl.py. -/
import Derived.Test.YtikjehgbfkndjaaDoorRfW8
import Derived.Lib.QuietBelow
namespace Go.Proofs.YtikjehgbfkndjaaDoor.Rl
open Go Go.RowKit Go.Proofs.YtikjehgbfkndjaaDoor Go.Proofs.YtikjehgbfkndjaaDoor.Bs Go.Proofs.YtikjehgbfkndjaaDoor.Rp
set_option linter.unusedVariables false

theorem fv_ex (t : Int) : ∃ (X : ByteArray) (z : Int), fv t = (X.data.toList, z) ∧ 0 ≤ z ∧ z ≤ 3 :=
  ⟨⟨(fv t).1.toArray⟩, (fv t).2, rfl, (fv_tag rfl).1, (fv_tag rfl).2⟩
theorem fv_in (t : Int) (h1 : -62135596800 ≤ t) (h2 : t ≤ 253402300799) : ∃ X : ByteArray, fv t = (X.data.toList, 0) ∧ Rf.fmtL t = X.data.toList ∧ X.size ≤ 20 ∧ 20 ≤ X.size ∧ Rf.rp X.data.toList = (t, 0) := by
  obtain ⟨X, hX, hs⟩ := ba_ex (Rf.fmtL t)
  rw [Rf.fmtL_len] at hs
  refine ⟨X, by unfold fv; rw [if_pos ⟨h1, h2⟩, hX], hX, by omega, by omega, ?_⟩
  rw [← hX]; exact Rf.rp_fmtL t h1 h2
theorem fv_out (t : Int) (h : t < -62135596800 ∨ 253402300799 < t) : fv t = ((⟨#[]⟩ : ByteArray).data.toList, 3) := by unfold fv; rw [if_neg (by omega)]
theorem len20 {X : ByteArray} (h1 : X.size ≤ 20) (h2 : 20 ≤ X.size) : ((X.size : Int) != 20) = false := by
  rw [bne_eq_false_iff_eq]; omega
set_option maxRecDepth 100000 in
set_option maxHeartbeats 4000000 in
theorem law_format (t : Int) (w : World) (t1 : -9223372036854775808 ≤ t) (t2 : t ≤ 9223372036854775807) (hT : PowTab w) :
    Calls Tryd.prog 4 #[.int .i64 t] w fun e w' => e = .returned (.bool true) ∧ Below w.heap.size w w' := by
  have HT := Lib.hid hT
  clear hT
  have Kt1 := Lib.hid t1
  have Kt2 := Lib.hid t2
  clear t1 t2
  obtain ⟨X, z, hq, z1, z2⟩ := fv_ex t
  have HQ := Lib.hid hq
  clear hq
  go_enter Tryd.func4, Tryd.ntmps4
  go_wp2_with fail
  refine (fmt_ba t X z _ Kt1.out Kt2.out HT.out HQ.out).mono ?_
  rintro e w1 ⟨rfl, hb⟩
  have HB1 := Lib.hid (hb)
  clear hb
  go_wp2_with fail
  refine (rfmt_ba t X z _ HQ.out).mono ?_
  rintro e w2 ⟨rfl, hb⟩
  have HB2 := Lib.hid (below_trans HB1.out hb)
  clear hb
  go_wp2_with fail
  refine (alive03 _ (HT.out.below HB2.out)).mono ?_
  rintro e w3 ⟨rfl, hb⟩
  have HB3 := Lib.hid (below_trans HB2.out hb)
  clear hb
  go_wp2_with fail
  go_ret
  exact ⟨rfl, HB3.out⟩
set_option maxRecDepth 100000 in
set_option maxHeartbeats 4000000 in
theorem law_parse (s : ByteArray) (w : World) (hs : s.size ≤ 140737488355327) (hT : PowTab w) :
    Calls Tryd.prog 5 #[.string s] w fun e w' => e = .returned (.bool true) ∧ Below w.heap.size w w' := by
  have HT := Lib.hid hT
  clear hT
  by_cases hbig : 5000 < s.size
  · go_enter Tryd.func5, Tryd.ntmps5
    go_wp2_with fail
    refine (alive03 _ HT.out).mono ?_
    rintro e w1 ⟨rfl, hb⟩
    have HB1 := Lib.hid (hb)
    clear hb
    go_wp2_with fail
    go_ret
    exact ⟨rfl, HB1.out⟩
  obtain ⟨u, z, hq⟩ : ∃ u z, Rf.rp s.data.toList = (u, z) := ⟨_, _, rfl⟩
  obtain ⟨z1, z2⟩ := rp_tag2 hq
  have HQ := Lib.hid hq
  have hs' : s.size ≤ 1000000000 := by omega
  clear hq
  go_enter Tryd.func5, Tryd.ntmps5
  go_wp2_with fail
  refine (parse_any s _ hs' u z HQ.out).mono ?_
  rintro e w1 ⟨rfl, hb⟩
  have HB1 := Lib.hid (hb)
  clear hb
  go_wp2_with fail
  refine (rparse_any s _ hs' u z HQ.out).mono ?_
  rintro e w' ⟨rfl, rfl⟩
  go_wp2_with fail
  refine (alive03 _ (HT.out.below HB1.out)).mono ?_
  rintro e w2 ⟨rfl, hb⟩
  have HB2 := Lib.hid (below_trans HB1.out hb)
  clear hb
  go_wp2_with fail
  go_ret
  exact ⟨rfl, HB2.out⟩
set_option maxRecDepth 100000 in
set_option maxHeartbeats 4000000 in
theorem law_round (t : Int) (s : ByteArray) (w : World) (t1 : -9223372036854775808 ≤ t) (t2 : t ≤ 9223372036854775807) (hs : s.size ≤ 140737488355327) (hT : PowTab w) :
    Calls Tryd.prog 6 #[.int .i64 t, .string s] w fun e w' => e = .returned (.bool true) ∧ Below w.heap.size w w' := by
  have HT := Lib.hid hT
  clear hT
  have Kt1 := Lib.hid t1
  have Kt2 := Lib.hid t2
  clear t1 t2
  by_cases hbig : 5000 < s.size
  · go_enter Tryd.func6, Tryd.ntmps6
    go_wp2_with fail
    refine (alive03 _ HT.out).mono ?_
    rintro e w1 ⟨rfl, hb⟩
    have HB1 := Lib.hid (hb)
    clear hb
    go_wp2_with fail
    go_ret
    exact ⟨rfl, HB1.out⟩
  obtain ⟨u, z, hq⟩ : ∃ u z, Rf.rp s.data.toList = (u, z) := ⟨_, _, rfl⟩
  obtain ⟨z1, z2⟩ := rp_tag2 hq
  have hs' : s.size ≤ 1000000000 := by omega
  have cs : (-62135596800 ≤ t ∧ t ≤ 253402300799) ∨ (t < -62135596800 ∨ (-62135596800 ≤ t ∧ 253402300799 < t)) := by omega
  by_cases hz : z = 0
  · subst hz
    obtain ⟨r1, r2⟩ := Rf.rp_ok hq
    obtain ⟨Y, hy, hyf, y1, y2, hyp⟩ := fv_in u r1 r2
    have HQ := Lib.hid hq
    have HY := Lib.hid hy
    have HYP := Lib.hid hyp
    have KR1 := Lib.hid (show -9223372036854775808 ≤ u by omega)
    have KR2 := Lib.hid (show u ≤ 9223372036854775807 by omega)
    clear hq hy hyf hyp
    rcases cs with ⟨c1, c2⟩ | c1
    · obtain ⟨X, hx, hxf, x1, x2, hxp⟩ := fv_in t c1 c2
      have HX := Lib.hid hx
      have HXP := Lib.hid hxp
      have g20 := len20 x1 x2
      clear hx hxf hxp
      go_enter Tryd.func6, Tryd.ntmps6
      go_wp2_with fail
      refine (fmt_ba t X 0 _ Kt1.out Kt2.out HT.out HX.out).mono ?_
      rintro e w1 ⟨rfl, hb⟩
      have HB1 := Lib.hid (hb)
      clear hb
      go_wp2_with fail
      refine (parse_any X _ (by omega) t 0 HXP.out).mono ?_
      rintro e w2 ⟨rfl, hb⟩
      have HB2 := Lib.hid (below_trans HB1.out hb)
      clear hb
      go_wp2_with fail
      refine (parse_any s _ hs' u 0 HQ.out).mono ?_
      rintro e w3 ⟨rfl, hb⟩
      have HB3 := Lib.hid (below_trans HB2.out hb)
      clear hb
      go_wp2_with fail
      refine (fmt_ba u Y 0 _ KR1.out KR2.out (HT.out.below HB3.out) HY.out).mono ?_
      rintro e w4 ⟨rfl, hb⟩
      have HB4 := Lib.hid (below_trans HB3.out hb)
      clear hb
      go_wp2_with fail
      refine (parse_any Y _ (by omega) u 0 HYP.out).mono ?_
      rintro e w5 ⟨rfl, hb⟩
      have HB5 := Lib.hid (below_trans HB4.out hb)
      clear hb
      go_wp2_with fail
      refine (alive03 _ (HT.out.below HB5.out)).mono ?_
      rintro e w6 ⟨rfl, hb⟩
      have HB6 := Lib.hid (below_trans HB5.out hb)
      clear hb
      go_wp2_with fail
      go_ret
      exact ⟨rfl, HB6.out⟩
    · rcases c1 with c1 | ⟨c1, c2⟩
      all_goals
        go_enter Tryd.func6, Tryd.ntmps6
        go_wp2_with fail
        refine (parse_any s _ hs' u 0 HQ.out).mono ?_
        rintro e w1 ⟨rfl, hb⟩
        have HB1 := Lib.hid (hb)
        clear hb
        go_wp2_with fail
        refine (fmt_ba u Y 0 _ KR1.out KR2.out (HT.out.below HB1.out) HY.out).mono ?_
        rintro e w2 ⟨rfl, hb⟩
        have HB2 := Lib.hid (below_trans HB1.out hb)
        clear hb
        go_wp2_with fail
        refine (parse_any Y _ (by omega) u 0 HYP.out).mono ?_
        rintro e w3 ⟨rfl, hb⟩
        have HB3 := Lib.hid (below_trans HB2.out hb)
        clear hb
        go_wp2_with fail
        refine (alive03 _ (HT.out.below HB3.out)).mono ?_
        rintro e w4 ⟨rfl, hb⟩
        have HB4 := Lib.hid (below_trans HB3.out hb)
        clear hb
        go_wp2_with fail
        go_ret
        exact ⟨rfl, HB4.out⟩
  · have g0 : (z != 0) = true := by simpa using hz
    have HQ := Lib.hid hq
    clear hq hz
    rcases cs with ⟨c1, c2⟩ | c1
    · obtain ⟨X, hx, hxf, x1, x2, hxp⟩ := fv_in t c1 c2
      have HX := Lib.hid hx
      have HXP := Lib.hid hxp
      have g20 := len20 x1 x2
      clear hx hxf hxp
      go_enter Tryd.func6, Tryd.ntmps6
      go_wp2_with fail
      refine (fmt_ba t X 0 _ Kt1.out Kt2.out HT.out HX.out).mono ?_
      rintro e w1 ⟨rfl, hb⟩
      have HB1 := Lib.hid (hb)
      clear hb
      go_wp2_with fail
      refine (parse_any X _ (by omega) t 0 HXP.out).mono ?_
      rintro e w2 ⟨rfl, hb⟩
      have HB2 := Lib.hid (below_trans HB1.out hb)
      clear hb
      go_wp2_with fail
      refine (parse_any s _ hs' u z HQ.out).mono ?_
      rintro e w3 ⟨rfl, hb⟩
      have HB3 := Lib.hid (below_trans HB2.out hb)
      clear hb
      go_wp2_with fail
      refine (alive03 _ (HT.out.below HB3.out)).mono ?_
      rintro e w4 ⟨rfl, hb⟩
      have HB4 := Lib.hid (below_trans HB3.out hb)
      clear hb
      go_wp2_with fail
      go_ret
      exact ⟨rfl, HB4.out⟩
    · rcases c1 with c1 | ⟨c1, c2⟩
      all_goals
        go_enter Tryd.func6, Tryd.ntmps6
        go_wp2_with fail
        refine (parse_any s _ hs' u z HQ.out).mono ?_
        rintro e w1 ⟨rfl, hb⟩
        have HB1 := Lib.hid (hb)
        clear hb
        go_wp2_with fail
        refine (alive03 _ (HT.out.below HB1.out)).mono ?_
        rintro e w2 ⟨rfl, hb⟩
        have HB2 := Lib.hid (below_trans HB1.out hb)
        clear hb
        go_wp2_with fail
        go_ret
        exact ⟨rfl, HB2.out⟩
set_option maxRecDepth 100000 in
set_option maxHeartbeats 4000000 in
theorem law_order (t u : Int) (w : World) (t1 : -9223372036854775808 ≤ t) (t2 : t ≤ 9223372036854775807) (u1 : -9223372036854775808 ≤ u) (u2 : u ≤ 9223372036854775807) (hT : PowTab w) :
    Calls Tryd.prog 7 #[.int .i64 t, .int .i64 u] w fun e w' => e = .returned (.bool true) ∧ Below w.heap.size w w' := by
  have HT := Lib.hid hT
  clear hT
  have Kt1 := Lib.hid t1
  have Kt2 := Lib.hid t2
  have Ku1 := Lib.hid u1
  have Ku2 := Lib.hid u2
  clear t1 t2 u1 u2
  have ct : (-62135596800 ≤ t ∧ t ≤ 253402300799) ∨ (t < -62135596800 ∨ (-62135596800 ≤ t ∧ 253402300799 < t)) := by omega
  have cu : (-62135596800 ≤ u ∧ u ≤ 253402300799) ∨ (u < -62135596800 ∨ (-62135596800 ≤ u ∧ 253402300799 < u)) := by omega
  rcases ct with ⟨t3, t4⟩ | ct
  · obtain ⟨X, hX, hXf, X1, X2, hXp⟩ := fv_in t t3 t4
    have HX := Lib.hid hX
    rcases cu with ⟨u3, u4⟩ | cu
    · obtain ⟨Y, hY, hYf, Y1, Y2, hYp⟩ := fv_in u u3 u4
      have HY := Lib.hid hY
      have hlt : Op.bytesLess X.toList Y.toList = decide (t < u) := by rw [Lib.toList_data, Lib.toList_data, ← hXf, ← hYf]; exact Rf.fmt_lt t u t3 t4 u3 u4
      have heq : (X.toList == Y.toList) = (t == u) := by
        rw [Lib.toList_data, Lib.toList_data, ← hXf, ← hYf]
        by_cases h : t = u
        · subst h; simp
        · have h2 : Rf.fmtL t ≠ Rf.fmtL u := fun e => h (Rf.fmt_inj t u t3 t4 u3 u4 e)
          rw [beq_eq_false_iff_ne.2 h2, beq_eq_false_iff_ne.2 h]
      clear hX hXf hXp hY hYf hYp
      go_enter Tryd.func7, Tryd.ntmps7
      go_wp2_with fail
      refine (fmt_ba t X 0 _ Kt1.out Kt2.out HT.out HX.out).mono ?_
      rintro e w1 ⟨rfl, hb⟩
      have HB1 := Lib.hid (hb)
      clear hb
      go_wp2_with fail
      refine (fmt_ba u Y 0 _ Ku1.out Ku2.out (HT.out.below HB1.out) HY.out).mono ?_
      rintro e w2 ⟨rfl, hb⟩
      have HB2 := Lib.hid (below_trans HB1.out hb)
      clear hb
      go_wp2_with fail
      refine (alive03 _ (HT.out.below HB2.out)).mono ?_
      rintro e w3 ⟨rfl, hb⟩
      have HB3 := Lib.hid (below_trans HB2.out hb)
      clear hb
      go_wp2_with fail
      go_ret
      exact ⟨rfl, HB3.out⟩
    · have HY := Lib.hid (fv_out u (by omega))
      rcases cu with u3 | ⟨u3, u4⟩
      all_goals
        clear hX hXf hXp
        go_enter Tryd.func7, Tryd.ntmps7
        go_wp2_with fail
        refine (fmt_ba t X 0 _ Kt1.out Kt2.out HT.out HX.out).mono ?_
        rintro e w1 ⟨rfl, hb⟩
        have HB1 := Lib.hid (hb)
        clear hb
        go_wp2_with fail
        refine (fmt_ba u ⟨#[]⟩ 3 _ Ku1.out Ku2.out (HT.out.below HB1.out) HY.out).mono ?_
        rintro e w2 ⟨rfl, hb⟩
        have HB2 := Lib.hid (below_trans HB1.out hb)
        clear hb
        go_wp2_with fail
        refine (alive03 _ (HT.out.below HB2.out)).mono ?_
        rintro e w3 ⟨rfl, hb⟩
        have HB3 := Lib.hid (below_trans HB2.out hb)
        clear hb
        go_wp2_with fail
        go_ret
        exact ⟨rfl, HB3.out⟩
  · have HX := Lib.hid (fv_out t (by omega))
    rcases ct with t3 | ⟨t3, t4⟩
    all_goals
      rcases cu with ⟨u3, u4⟩ | cu
      · obtain ⟨Y, hY, hYf, Y1, Y2, hYp⟩ := fv_in u u3 u4
        have HY := Lib.hid hY
        clear hY hYf hYp
        go_enter Tryd.func7, Tryd.ntmps7
        go_wp2_with fail
        refine (fmt_ba t ⟨#[]⟩ 3 _ Kt1.out Kt2.out HT.out HX.out).mono ?_
        rintro e w1 ⟨rfl, hb⟩
        have HB1 := Lib.hid (hb)
        clear hb
        go_wp2_with fail
        refine (fmt_ba u Y 0 _ Ku1.out Ku2.out (HT.out.below HB1.out) HY.out).mono ?_
        rintro e w2 ⟨rfl, hb⟩
        have HB2 := Lib.hid (below_trans HB1.out hb)
        clear hb
        go_wp2_with fail
        refine (alive03 _ (HT.out.below HB2.out)).mono ?_
        rintro e w3 ⟨rfl, hb⟩
        have HB3 := Lib.hid (below_trans HB2.out hb)
        clear hb
        go_wp2_with fail
        go_ret
        exact ⟨rfl, HB3.out⟩
      · have HY := Lib.hid (fv_out u (by omega))
        rcases cu with u3 | ⟨u3, u4⟩
        all_goals
          go_enter Tryd.func7, Tryd.ntmps7
          go_wp2_with fail
          refine (fmt_ba t ⟨#[]⟩ 3 _ Kt1.out Kt2.out HT.out HX.out).mono ?_
          rintro e w1 ⟨rfl, hb⟩
          have HB1 := Lib.hid (hb)
          clear hb
          go_wp2_with fail
          refine (fmt_ba u ⟨#[]⟩ 3 _ Ku1.out Ku2.out (HT.out.below HB1.out) HY.out).mono ?_
          rintro e w2 ⟨rfl, hb⟩
          have HB2 := Lib.hid (below_trans HB1.out hb)
          clear hb
          go_wp2_with fail
          refine (alive03 _ (HT.out.below HB2.out)).mono ?_
          rintro e w3 ⟨rfl, hb⟩
          have HB3 := Lib.hid (below_trans HB2.out hb)
          clear hb
          go_wp2_with fail
          go_ret
          exact ⟨rfl, HB3.out⟩

theorem cut_list (X : ByteArray) (t : Int) (k : Nat) (hX : Rf.fmtL t = X.data.toList) (hk : k < 19) : Rf.rp (X.extract 0 k ++ X.extract (k + 1) X.size).data.toList = (0, 20) := by
  rw [toList_append, take_ext, drop_ext, ← hX]; exact Rf.strict_3 t k hk
theorem pre_list (Y X : ByteArray) (t : Int) (c : UInt8) (hX : Rf.fmtL t = X.data.toList) (hY : Y.data.toList = [c]) : Rf.rp (Y ++ X).data.toList = (0, 20) := by
  rw [toList_append, hY, ← hX]; exact Rf.strict_1 t c
theorem post_list (Y X : ByteArray) (t : Int) (c : UInt8) (h1 : -62135596800 ≤ t) (h2 : t ≤ 253402300799) (hX : Rf.fmtL t = X.data.toList) (hY : Y.data.toList = [c]) : Rf.rp (X ++ Y).data.toList = (0, 20) := by
  rw [toList_append, hY, ← hX]; exact Rf.strict_2 t c h1 h2
theorem one_str (c : Int) (h1 : 0 ≤ c) (h2 : c ≤ 255) : ∃ (Y : ByteArray) (C : UInt8), strOfNums [c] = Y ∧ Y.size ≤ 1 ∧ Y.data.toList = [C] :=
  ⟨_, UInt8.ofNat c.toNat, rfl, by rw [strOfNums_size]; simp, by rw [nums_list]; rfl⟩
set_option maxRecDepth 100000 in
set_option maxHeartbeats 4000000 in
theorem law_strict (t c a : Int) (w : World) (t1 : -9223372036854775808 ≤ t) (t2 : t ≤ 9223372036854775807) (c1 : 0 ≤ c) (c2 : c ≤ 255) (a1 : 0 ≤ a) (a2 : a ≤ 255) (hT : PowTab w) :
    Calls Tryd.prog 9 #[.int .i64 t, .int .u8 c, .int .u8 a] w fun e w' => e = .returned (.bool true) ∧ Below w.heap.size w w' := by
  have HT := Lib.hid hT
  clear hT
  have Kt1 := Lib.hid t1
  have Kt2 := Lib.hid t2
  clear t1 t2
  have ct : (-62135596800 ≤ t ∧ t ≤ 253402300799) ∨ (t < -62135596800 ∨ 253402300799 < t) := by omega
  rcases ct with ⟨t3, t4⟩ | ct
  · obtain ⟨X, hX, hXf, x1, x2, hXp⟩ := fv_in t t3 t4
    have HX := Lib.hid hX
    have g20 := len20 x1 x2
    obtain ⟨k, hk⟩ : ∃ k : Nat, a % 19 = k := ⟨(a % 19).toNat, by omega⟩
    have k19 : k < 19 := by omega
    obtain ⟨Y, C, hY, y1, hYl⟩ := one_str c c1 c2
    have H1 := Lib.hid (pre_list Y X t C hXf hYl)
    have H2 := Lib.hid (post_list Y X t C t3 t4 hXf hYl)
    have H3 := Lib.hid (cut_list X t k hXf k19)
    have S1 := Lib.hid (show (Y ++ X).size ≤ 1000000000 by rw [ByteArray.size_append]; omega)
    have S2 := Lib.hid (show (X ++ Y).size ≤ 1000000000 by rw [ByteArray.size_append]; omega)
    have S3 := Lib.hid (show (X.extract 0 k ++ X.extract (k + 1) X.size).size ≤ 1000000000 by simp; omega)
    have hcv : ∀ W : World, (convert 43 9 (.slice (some ⟨W.heap.size, 0, none⟩) 1 1)).run Tryd.prog (W.alloc (.cells #[.int .u8 c] 5)) = .ok (.string Y) (W.alloc (.cells #[.int .u8 c] 5)) := fun W => by rw [← hY]; exact conv_new W [c] 1 rfl
    clear hX hXf hXp hY hYl
    go_enter Tryd.func9, Tryd.ntmps9
    go_wp2_with fail
    refine (fmt_ba t X 0 _ Kt1.out Kt2.out HT.out HX.out).mono ?_
    rintro e w1 ⟨rfl, hb⟩
    have HB1 := Lib.hid (hb)
    clear hb
    have HA1 := Lib.hid (HB1.out.alloc HB1.out.size (.cells #[.int .u8 c] 5))
    go_wp2_with fail
    refine (parse_any (Y ++ X) _ S1.out 0 20 H1.out).mono ?_
    rintro e w2 ⟨rfl, hb⟩
    have HB2 := Lib.hid (below_at HA1.out HA1.out.size hb)
    clear hb
    have HA2 := Lib.hid (HB2.out.alloc HB2.out.size (.cells #[.int .u8 c] 5))
    go_wp2_with fail
    refine (parse_any (X ++ Y) _ S2.out 0 20 H2.out).mono ?_
    rintro e w3 ⟨rfl, hb⟩
    have HB3 := Lib.hid (below_at HA2.out HA2.out.size hb)
    clear hb
    go_wp2_with fail
    have cP : ∀ d os, Calls Tryd.prog 13 #[.string (X.extract 0 k ++ X.extract (k + 1) X.size)] (Sort.grow (redrawn w3 d) os) fun e w'' => e = .returned (.tuple #[.int .i64 0, .int .i64 20]) ∧ ∃ p : Regrown, w'' = Sort.grow (redrawn w3 p.d) p.os := fun d os => Calls.regrown_of (parse_any _ _ S3.out 0 20 H3.out)
    have k3 : IntKind.i64.wrap ((k : Int) + 1) = (k : Int) + 1 := IntWalk.i64_in _ (by omega)
    have k4 : (0 : Int) ≤ (k : Int) + 1 := by omega
    have k5 : ((k : Int) + 1).toNat = k + 1 := by omega
    refine wp_region_quiet_below (by kernel_rfl) (by kernel_rfl) ?_
    repeat (first | go_big_quiet_step (fail) | quiet_step (exact cP _ _))
    refine wpQuiet_nil ?_
    intro _ hw'
    obtain ⟨⟨dq, osq⟩, hw''⟩ := hw'
    subst hw''
    have HB4 := Lib.hid (below_at HB3.out HB3.out.size (below_regrown w3 dq osq))
    clear cP k3 k4 k5
    go_wp2_with fail
    refine (alive03 _ (HT.out.below HB4.out)).mono ?_
    rintro e w5 ⟨rfl, hb⟩
    have HB5 := Lib.hid (below_trans HB4.out hb)
    clear hb
    go_wp2_with fail
    go_ret
    exact ⟨rfl, HB5.out⟩
  · have HX := Lib.hid (fv_out t ct)
    clear ct
    go_enter Tryd.func9, Tryd.ntmps9
    go_wp2_with fail
    refine (fmt_ba t ⟨#[]⟩ 3 _ Kt1.out Kt2.out HT.out HX.out).mono ?_
    rintro e w1 ⟨rfl, hb⟩
    have HB1 := Lib.hid (hb)
    clear hb
    go_wp2_with fail
    refine (alive03 _ (HT.out.below HB1.out)).mono ?_
    rintro e w2 ⟨rfl, hb⟩
    have HB2 := Lib.hid (below_trans HB1.out hb)
    clear hb
    go_wp2_with fail
    go_ret
    exact ⟨rfl, HB2.out⟩
end Go.Proofs.YtikjehgbfkndjaaDoor.Rl
