import Derived.Test.YtnicedfakjmbcaaDoorJsC
import Derived.Lib.QuietBelow
import Derived.IntWalk
namespace Go.Proofs.YtnicedfakjmbcaaDoor.Jw
open Go Go.RowKit Go.Proofs.YtnicedfakjmbcaaDoor Go.Proofs.YtnicedfakjmbcaaDoor.Tx

theorem qv_ex (s : ByteArray) : ∃ (t : ByteArray) (z : Int), qv s.data.toList = (t.data.toList, z) ∧ 0 ≤ z ∧ z ≤ 5 :=
  ⟨⟨(qv s.data.toList).1.toArray⟩, (qv s.data.toList).2, rfl, (qv_tag rfl).1, (qv_tag rfl).2⟩
theorem pv_ex (s : ByteArray) (a : Int) : ∃ (t : ByteArray) (x z : Int), pv s.data.toList a = (t.data.toList, x, z) ∧ 0 ≤ z ∧ z ≤ 16 :=
  ⟨⟨(pv s.data.toList a).1.toArray⟩, (pv s.data.toList a).2.1, (pv s.data.toList a).2.2, rfl, (pv_tag rfl).1, (pv_tag rfl).2⟩
theorem qv_yes {s : ByteArray} (h : Lib.validD s.data.toList = true) : ∃ t : ByteArray, qv s.data.toList = (t.data.toList, 0) ∧ t.data.toList = Js.quote s.data.toList ∧ t.size ≤ 6 * s.size + 2 ∧ 2 ≤ t.size := by
  obtain ⟨t, h1, h2⟩ := ba_ex (Js.quote s.data.toList)
  have hb := Js.body_len s.data.toList
  have e : (Js.quote s.data.toList).length = (Js.body s.data.toList).length + 2 := by simp [Js.quote]
  have e2 : s.data.toList.length = s.size := by simp
  refine ⟨t, ?_, h1.symm, by omega, by omega⟩
  unfold qv
  rw [if_pos h, h1]
theorem round_pv (b s a q : ByteArray) (hv : Lib.validD s.data.toList = true) (hq : q.data.toList = Js.quote s.data.toList) : pv (b ++ q ++ a).data.toList (b.size : Int) = (s.data.toList, (b.size : Int) + (q.size : Int), 0) := by
  have e : (b ++ q ++ a).data.toList = b.data.toList ++ (34 :: (Js.body s.data.toList ++ 34 :: a.data.toList)) := by
    rw [toList_append, toList_append, hq, Js.quote]; simp
  have eq : (q.size : Int) = (Js.body s.data.toList).length + 2 := by
    have h := congrArg List.length hq
    simp only [Js.quote, List.length_cons, List.length_append, List.length_nil, Array.length_toList] at h
    have h3 : q.data.size = q.size := rfl
    omega
  have eb : b.data.toList.length = b.size := by simp
  rw [e]
  unfold pv
  rw [Int.toNat_natCast, ← eb, if_pos]
  · rw [show b.data.toList.length + 1 = (b.data.toList ++ [34]).length by simp, show b.data.toList ++ (34 :: (Js.body s.data.toList ++ 34 :: a.data.toList)) = (b.data.toList ++ [34]) ++ (Js.body s.data.toList ++ 34 :: a.data.toList) by simp, List.drop_left, Js.parse_quote _ _ hv]
    unfold fin
    simp only [if_true]
    rw [eq]
    simp only [Prod.mk.injEq, true_and, and_true]
    omega
  · refine ⟨Int.natCast_nonneg _, by simp; omega, ?_⟩
    simp

set_option maxRecDepth 100000 in
set_option maxHeartbeats 2000000 in
theorem law_quotes (s : ByteArray) (w : World) (hs : s.size ≤ 140737488355327) (hT : JTabs w) :
    Calls Tryd.prog 10 #[.string s] w fun e w' => e = .returned (.bool true) ∧ Below w.heap.size w w' := by
  have HT := Lib.hid hT
  clear hT
  by_cases hbig : 5000 < s.size
  · go_enter Tryd.func10, Tryd.ntmps10
    go_wp2_with fail
    refine (alive10 _ HT.out).mono ?_
    rintro e w1 ⟨rfl, hb⟩
    have HB1 := Lib.hid (hb)
    clear hb
    go_wp2_with fail
    go_ret
    exact ⟨rfl, HB1.out⟩
  obtain ⟨t, z, hq, z1, z2⟩ := qv_ex s
  have HQ := Lib.hid hq
  have hs' : s.size ≤ 1000000000 := by omega
  clear hq
  go_enter Tryd.func10, Tryd.ntmps10
  go_wp2_with fail
  refine (quote_ba s t z _ hs' HT.out HQ.out).mono ?_
  rintro e w1 ⟨rfl, hb⟩
  have HB1 := Lib.hid (hb)
  clear hb
  go_wp2_with fail
  refine (rquote_ba s t z _ hs' HQ.out).mono ?_
  rintro e w2 ⟨rfl, hb⟩
  have HB2 := Lib.hid (below_trans HB1.out hb)
  clear hb
  go_wp2_with fail
  refine (alive10 _ (HT.out.below HB2.out)).mono ?_
  rintro e w3 ⟨rfl, hb⟩
  have HB3 := Lib.hid (below_trans HB2.out hb)
  clear hb
  go_wp2_with fail
  go_ret
  exact ⟨rfl, HB3.out⟩

set_option maxRecDepth 100000 in
set_option maxHeartbeats 2000000 in
theorem law_parses (s : ByteArray) (a : Int) (w : World) (hs : s.size ≤ 140737488355327) (hT : JTabs w) :
    Calls Tryd.prog 11 #[.string s, .int .i64 a] w fun e w' => e = .returned (.bool true) ∧ Below w.heap.size w w' := by
  have HT := Lib.hid hT
  clear hT
  by_cases hbig : 5000 < s.size
  · go_enter Tryd.func11, Tryd.ntmps11
    go_wp2_with fail
    refine (alive10 _ HT.out).mono ?_
    rintro e w1 ⟨rfl, hb⟩
    have HB1 := Lib.hid (hb)
    clear hb
    go_wp2_with fail
    go_ret
    exact ⟨rfl, HB1.out⟩
  obtain ⟨t, x, z, hq, z1, z2⟩ := pv_ex s a
  have HQ := Lib.hid hq
  have hs' : s.size ≤ 1000000000 := by omega
  clear hq
  go_enter Tryd.func11, Tryd.ntmps11
  go_wp2_with fail
  refine (parse_ba s t a x z _ hs' HT.out HQ.out).mono ?_
  rintro e w1 ⟨rfl, hb⟩
  have HB1 := Lib.hid (hb)
  clear hb
  go_wp2_with fail
  refine (rparse_ba s t a x z _ hs' HQ.out).mono ?_
  rintro e w2 ⟨rfl, hb⟩
  have HB2 := Lib.hid (below_trans HB1.out hb)
  clear hb
  go_wp2_with fail
  refine (alive10 _ (HT.out.below HB2.out)).mono ?_
  rintro e w3 ⟨rfl, hb⟩
  have HB3 := Lib.hid (below_trans HB2.out hb)
  clear hb
  go_wp2_with fail
  go_ret
  exact ⟨rfl, HB3.out⟩

set_option maxRecDepth 100000 in
set_option maxHeartbeats 2000000 in
theorem law_round (s b a : ByteArray) (w : World) (hs : s.size ≤ 140737488355327) (hb : b.size ≤ 140737488355327) (ha : a.size ≤ 140737488355327) (hT : JTabs w) :
    Calls Tryd.prog 12 #[.string s, .string b, .string a] w fun e w' => e = .returned (.bool true) ∧ Below w.heap.size w w' := by
  have HT := Lib.hid hT
  clear hT
  by_cases hbig : 5000 < s.size + b.size + a.size
  · go_enter Tryd.func12, Tryd.ntmps12
    go_wp2_with fail
    refine (alive10 _ HT.out).mono ?_
    rintro e w1 ⟨rfl, hb⟩
    have HB1 := Lib.hid (hb)
    clear hb
    go_wp2_with fail
    go_ret
    exact ⟨rfl, HB1.out⟩
  have hs' : s.size ≤ 9223372036854775807 := by omega
  rcases hv : Lib.validD s.data.toList with _ | _
  · have HV := Lib.hid hv
    clear hv
    go_enter Tryd.func12, Tryd.ntmps12
    go_wp2_with fail
    refine (rvalid_is s false _ hs' HV.out).mono ?_
    rintro e w1 ⟨rfl, hb⟩
    have HB1 := Lib.hid (hb)
    clear hb
    go_wp2_with fail
    refine (alive10 _ (HT.out.below HB1.out)).mono ?_
    rintro e w2 ⟨rfl, hb⟩
    have HB2 := Lib.hid (below_trans HB1.out hb)
    clear hb
    go_wp2_with fail
    go_ret
    exact ⟨rfl, HB2.out⟩
  · obtain ⟨q, hq, hq2, q1, q2⟩ := qv_yes hv
    have HP := Lib.hid (round_pv b s a q hv hq2)
    have HQ := Lib.hid hq
    have HV := Lib.hid hv
    have h1 : s.size ≤ 1000000000 := by omega
    have H2 := Lib.hid (show (b ++ q ++ a).size ≤ 1000000000 by simp only [ByteArray.size_append]; omega)
    clear hv hq hq2
    go_enter Tryd.func12, Tryd.ntmps12
    go_wp2_with fail
    refine (rvalid_is s true _ hs' HV.out).mono ?_
    rintro e w1 ⟨rfl, hb⟩
    have HB1 := Lib.hid (hb)
    clear hb
    go_wp2_with fail
    refine (quote_ba s q 0 _ h1 (HT.out.below HB1.out) HQ.out).mono ?_
    rintro e w2 ⟨rfl, hb⟩
    have HB2 := Lib.hid (below_trans HB1.out hb)
    clear hb
    go_wp2_with fail
    refine (parse_ba (b ++ q ++ a) s b.size (b.size + q.size) 0 _ H2.out (HT.out.below HB2.out) HP.out).mono ?_
    rintro e w3 ⟨rfl, hb⟩
    have HB3 := Lib.hid (below_trans HB2.out hb)
    clear hb
    go_wp2_with fail
    refine (alive10 _ (HT.out.below HB3.out)).mono ?_
    rintro e w4 ⟨rfl, hb⟩
    have HB4 := Lib.hid (below_trans HB3.out hb)
    clear hb
    go_wp2_with fail
    go_ret
    exact ⟨rfl, HB4.out⟩

theorem cat_qv {s t a b c : ByteArray} (ha : a.data.toList = Js.quote s.data.toList) (hb : b.data.toList = Js.quote t.data.toList) (hc : c.data.toList = Js.quote (s ++ t).data.toList) : c = a.extract 0 (a.size - 1) ++ b.extract 1 b.size := by
  apply ba_eq
  rw [hc, toList_append, toList_append]
  have e1 : (a.extract 0 (a.size - 1)).data.toList = 34 :: Js.body s.data.toList := by
    have : a.data.toList = (34 :: Js.body s.data.toList) ++ [34] := by rw [ha]; simp [Js.quote]
    have hl : a.size - 1 = (34 :: Js.body s.data.toList).length := by
      have h := congrArg List.length this
      simp only [Array.length_toList, List.length_append, List.length_cons, List.length_nil] at h
      have h3 : a.data.size = a.size := rfl
      simp only [List.length_cons]
      omega
    rw [ByteArray.data_extract, Array.toList_extract, List.extract_eq_take_drop, List.drop_zero, this, hl, Nat.sub_zero, List.take_left]
  have e2 : (b.extract 1 b.size).data.toList = Js.body t.data.toList ++ [34] := by
    rw [drop_ext, hb]; simp [Js.quote]
  rw [e1, e2]
  simp [Js.quote, Js.body_append]
theorem cat_valid {s t : ByteArray} (h : Lib.validD s.data.toList = true) (h2 : Lib.validD t.data.toList = true) : Lib.validD (s ++ t).data.toList = true := by
  rw [toList_append, Js.valid_append _ _ _ (Nat.le_refl _) h, h2]

set_option maxRecDepth 100000 in
set_option maxHeartbeats 2000000 in
theorem law_concat (s t : ByteArray) (w : World) (hs : s.size ≤ 140737488355327) (ht : t.size ≤ 140737488355327) (hT : JTabs w) :
    Calls Tryd.prog 13 #[.string s, .string t] w fun e w' => e = .returned (.bool true) ∧ Below w.heap.size w w' := by
  have HT := Lib.hid hT
  clear hT
  by_cases hbig : 5000 < s.size + t.size
  · go_enter Tryd.func13, Tryd.ntmps13
    go_wp2_with fail
    refine (alive10 _ HT.out).mono ?_
    rintro e w1 ⟨rfl, hb⟩
    have HB1 := Lib.hid (hb)
    clear hb
    go_wp2_with fail
    go_ret
    exact ⟨rfl, HB1.out⟩
  have hs' : s.size ≤ 9223372036854775807 := by omega
  have ht' : t.size ≤ 9223372036854775807 := by omega
  rcases hv : Lib.validD s.data.toList with _ | _
  · have HV := Lib.hid hv
    clear hv
    go_enter Tryd.func13, Tryd.ntmps13
    go_wp2_with fail
    refine (rvalid_is s false _ hs' HV.out).mono ?_
    rintro e w1 ⟨rfl, hb⟩
    have HB1 := Lib.hid (hb)
    clear hb
    go_wp2_with fail
    refine (alive10 _ (HT.out.below HB1.out)).mono ?_
    rintro e w2 ⟨rfl, hb⟩
    have HB2 := Lib.hid (below_trans HB1.out hb)
    clear hb
    go_wp2_with fail
    go_ret
    exact ⟨rfl, HB2.out⟩
  · rcases hu : Lib.validD t.data.toList with _ | _
    · have HV := Lib.hid hv
      have HU := Lib.hid hu
      clear hv hu
      go_enter Tryd.func13, Tryd.ntmps13
      go_wp2_with fail
      refine (rvalid_is s true _ hs' HV.out).mono ?_
      rintro e w1 ⟨rfl, hb⟩
      have HB1 := Lib.hid (hb)
      clear hb
      go_wp2_with fail
      refine (rvalid_is t false _ ht' HU.out).mono ?_
      rintro e w2 ⟨rfl, hb⟩
      have HB2 := Lib.hid (below_trans HB1.out hb)
      clear hb
      go_wp2_with fail
      refine (alive10 _ (HT.out.below HB2.out)).mono ?_
      rintro e w3 ⟨rfl, hb⟩
      have HB3 := Lib.hid (below_trans HB2.out hb)
      clear hb
      go_wp2_with fail
      go_ret
      exact ⟨rfl, HB3.out⟩
    · obtain ⟨a, ha, ha2, a1, a2⟩ := qv_yes hv
      obtain ⟨b, hb, hb2, b1, b2⟩ := qv_yes hu
      obtain ⟨c, hc, hc2, c1, c2⟩ := qv_yes (cat_valid hv hu)
      have HC2 := Lib.hid (cat_qv ha2 hb2 hc2)
      have HA := Lib.hid ha
      have HB := Lib.hid hb
      have HC := Lib.hid hc
      have HV := Lib.hid hv
      have HU := Lib.hid hu
      have h1 : s.size ≤ 1000000000 := by omega
      have h2 : t.size ≤ 1000000000 := by omega
      have H3 := Lib.hid (show (s ++ t).size ≤ 1000000000 by simp only [ByteArray.size_append]; omega)
      have H4 := Lib.hid c2
      have c3 : c.size ≤ 6 * (s.size + t.size) + 2 := by simpa only [ByteArray.size_append] using c1
      clear hv hu ha hb hc ha2 hb2 hc2 c1
      go_enter Tryd.func13, Tryd.ntmps13
      go_wp2_with fail
      refine (rvalid_is s true _ hs' HV.out).mono ?_
      rintro e w1 ⟨rfl, hb⟩
      have HB1 := Lib.hid (hb)
      clear hb
      go_wp2_with fail
      refine (rvalid_is t true _ ht' HU.out).mono ?_
      rintro e w2 ⟨rfl, hb⟩
      have HB2 := Lib.hid (below_trans HB1.out hb)
      clear hb
      go_wp2_with fail
      refine (quote_ba s a 0 _ h1 (HT.out.below HB2.out) HA.out).mono ?_
      rintro e w3 ⟨rfl, hb⟩
      have HB3 := Lib.hid (below_trans HB2.out hb)
      clear hb
      go_wp2_with fail
      refine (quote_ba t b 0 _ h2 (HT.out.below HB3.out) HB.out).mono ?_
      rintro e w4 ⟨rfl, hb⟩
      have HB4 := Lib.hid (below_trans HB3.out hb)
      clear hb
      go_wp2_with fail
      refine (quote_ba (s ++ t) c 0 _ H3.out (HT.out.below HB4.out) HC.out).mono ?_
      rintro e w5 ⟨rfl, hb⟩
      have HB5 := Lib.hid (below_trans HB4.out hb)
      clear hb
      go_wp2_with fail
      have cA : ∀ d os, Calls Tryd.prog 35 #[] (Sort.grow (redrawn w5 d) os) fun e w'' => e = .returned (.bool true) ∧ ∃ p : Regrown, w'' = Sort.grow (redrawn w5 p.d) p.os := fun d os => Calls.regrown_of (alive10 _ (HT.out.below (below_trans HB5.out (below_regrown w5 d os))))
      have k1 : decide ((1 : Int) < (a.size : Int)) = true := by simp; omega
      have k2 : decide ((1 : Int) < (b.size : Int)) = true := by simp; omega
      have k3 : IntKind.i64.wrap ((a.size : Int) - 1) = (a.size : Int) - 1 := IntWalk.i64_in _ (by omega)
      have k4 : (0 : Int) ≤ (a.size : Int) - 1 := by omega
      have k5 : ((a.size : Int) - 1).toNat = a.size - 1 := by omega
      refine wp_region_quiet_below (by kernel_rfl) (by kernel_rfl) ?_
      quiet_step (exact cA _ _)
      repeat (first | go_big_quiet_step (fail) | quiet_step (fail))
      refine wpQuiet_nil ?_
      intro _ hw'
      obtain ⟨⟨dq, osq⟩, hw''⟩ := hw'
      subst hw''
      have HB6 := Lib.hid (below_trans HB5.out (below_regrown w5 dq osq))
      go_wp2_with fail
      go_ret
      exact ⟨ret_bool (by rw [HC2.out]; simp), HB6.out⟩
end Go.Proofs.YtnicedfakjmbcaaDoor.Jw
