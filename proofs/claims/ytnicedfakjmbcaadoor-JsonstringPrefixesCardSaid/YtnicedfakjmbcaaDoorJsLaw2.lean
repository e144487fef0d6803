import Derived.Test.YtnicedfakjmbcaaDoorJsN
import Derived.Test.YtnicedfakjmbcaaDoorJsLaw
import Derived.StillTailTactics
import Derived.Laws.BitsAllLaws
namespace Go.Proofs.YtnicedfakjmbcaaDoor.Jw
open Go Go.RowKit Go.Proofs.YtnicedfakjmbcaaDoor Go.Proofs.YtnicedfakjmbcaaDoor.Tx

theorem take_ext (s : ByteArray) (i : Nat) : (s.extract 0 i).data.toList = s.data.toList.take i := by
  rw [ByteArray.data_extract, Array.toList_extract, List.extract_eq_take_drop, List.drop_zero, Nat.sub_zero]
set_option maxRecDepth 100000 in
set_option maxHeartbeats 2000000 in
theorem prefixes_at (s q : ByteArray) (k : Int) (j : Nat) (x z : Int) (w : World) (k1 : 0 ≤ k) (k2 : k ≤ 65535) (hs : s.size ≤ 1000) (hT : JTabs w) (hv : Lib.validD s.data.toList = true) (hq : qv s.data.toList = (q.data.toList, 0))
    (q1 : q.size ≤ 6 * s.size + 2) (q2 : 2 ≤ q.size) (hj : k % ((q.size : Int) - 1) = j) (hj2 : j + 1 < q.size) (hp : pv (q.extract 0 (j + 1)).data.toList 0 = ([], x, z)) (hx : (x = 0 ∧ z = 8) ∨ (1 ≤ x ∧ (z = 5 ∨ z = 16))) :
    Calls Tryd.prog 15 #[.string s, .int .u16 k] w fun e w' => e = .returned (.bool true) ∧ Below w.heap.size w w' := by
  have HT := Lib.hid hT
  have HV := Lib.hid hv
  have HQ := Lib.hid hq
  obtain ⟨r, hr, hr2⟩ : ∃ r, q.extract 0 (j + 1) = r ∧ r.size ≤ q.size := ⟨_, rfl, by simp; omega⟩
  rw [hr] at hp
  have HP := Lib.hid hp
  have hs' : s.size ≤ 9223372036854775807 := by omega
  have h1 : s.size ≤ 1000000000 := by omega
  clear hT hv hq hp
  have e1 : ((1 : Int) + (j : Int)) = ((j + 1 : Nat) : Int) := by omega
  rcases hx with ⟨rfl, rfl⟩ | ⟨hx, rfl | rfl⟩
  all_goals
    go_enter Tryd.func15, Tryd.ntmps15
    go_wp2_with fail
    refine (rvalid_is s true _ hs' HV.out).mono ?_
    rintro e w1 ⟨rfl, hb⟩
    have HB1 := Lib.hid (hb)
    clear hb
    go_wp2_with fail
    refine (quote_ba s q 0 _ h1 (HT.out.below HB1.out) HQ.out).mono ?_
    rintro e w2 ⟨rfl, hb⟩
    have HB2 := Lib.hid (below_trans HB1.out hb)
    clear hb
    go_wp2_with fail
    refine (parse_ba r ⟨#[]⟩ 0 _ _ _ (by omega) (HT.out.below HB2.out) HP.out).mono ?_
    rintro e w3 ⟨rfl, hb⟩
    have HB3 := Lib.hid (below_trans HB2.out hb)
    clear hb
    go_wp2_with fail
    refine (rparse_ba r ⟨#[]⟩ 0 _ _ _ (by omega) HP.out).mono ?_
    rintro e w4 ⟨rfl, hb⟩
    have HB4 := Lib.hid (below_trans HB3.out hb)
    clear hb
    go_wp2_with fail
    refine (alive10 _ (HT.out.below HB4.out)).mono ?_
    rintro e w5 ⟨rfl, hb⟩
    have HB5 := Lib.hid (below_trans HB4.out hb)
    clear hb
    go_wp2_with fail
    go_ret
    first | exact ⟨rfl, HB5.out⟩ | exact ⟨ret_bool (decide_eq_true (by omega)), HB5.out⟩
theorem dig_lo (n : Nat) (h : n < 16) : ∀ hb, (⟨#[48, 49, 50, 51, 52, 53, 54, 55, 56, 57, 97, 98, 99, 100, 101, 102]⟩ : ByteArray)[n]'hb = hexC false n := by
  have : ∀ m : Fin 16, ∀ hb, (⟨#[48, 49, 50, 51, 52, 53, 54, 55, 56, 57, 97, 98, 99, 100, 101, 102]⟩ : ByteArray)[m.val]'hb = hexC false m.val := by decide +kernel
  exact this ⟨n, h⟩
theorem dig_up (n : Nat) (h : n < 16) : ∀ hb, (⟨#[48, 49, 50, 51, 52, 53, 54, 55, 56, 57, 65, 66, 67, 68, 69, 70]⟩ : ByteArray)[n]'hb = hexC true n := by
  have : ∀ m : Fin 16, ∀ hb, (⟨#[48, 49, 50, 51, 52, 53, 54, 55, 56, 57, 65, 66, 67, 68, 69, 70]⟩ : ByteArray)[m.val]'hb = hexC true m.val := by decide +kernel
  exact this ⟨n, h⟩
theorem u16_15 (x : Nat) (h : x < 65536) : bits .and .u16 (x : Int) 15 = ((x % 16 : Nat) : Int) := by
  have := u16_and_nat x 15 h (by decide)
  rw [show (x &&& 15) = x % 16 from Nat.and_two_pow_sub_one_eq_mod x 4] at this
  exact this
theorem one_str (u : Bool) (a b c d : Nat) (p q r t : UInt8) (hp : hexC u a = p) (hq : hexC u b = q) (hr : hexC u c = r) (ht : hexC u d = t) :
    ∃ Y X X2 : ByteArray, strOfNums [(p.toNat : Int), (q.toNat : Int), (r.toNat : Int), (t.toNat : Int)] = Y ∧ Y.size ≤ 4 ∧ (⟨#[34, 92, 117]⟩ : ByteArray) ++ Y ++ ⟨#[34]⟩ = X ∧ X.size ≤ 8 ∧ 8 ≤ X.size ∧ X.data.toList = one u a b c d ∧
      X.extract 0 7 ++ (⟨#[92, 117, 100, 99, 48, 49, 34]⟩ : ByteArray) = X2 ∧ X2.size ≤ 14 ∧ X2.data.toList = two u a b c d := by
  have hl : (strOfNums [(p.toNat : Int), (q.toNat : Int), (r.toNat : Int), (t.toNat : Int)]).data.toList = [p, q, r, t] := by
    unfold strOfNums; simp
  have hX : ((⟨#[34, 92, 117]⟩ : ByteArray) ++ strOfNums [(p.toNat : Int), (q.toNat : Int), (r.toNat : Int), (t.toNat : Int)] ++ ⟨#[34]⟩).data.toList = one u a b c d := by
    rw [toList_append, toList_append, hl, one, hp, hq, hr, ht]; rfl
  have hXs : ((⟨#[34, 92, 117]⟩ : ByteArray) ++ strOfNums [(p.toNat : Int), (q.toNat : Int), (r.toNat : Int), (t.toNat : Int)] ++ ⟨#[34]⟩).size = 8 := by
    have h := congrArg List.length hX
    have e2 : ∀ A : ByteArray, A.data.toList.length = A.size := fun A => by simp
    rw [e2, show (one u a b c d).length = 8 from rfl] at h
    exact h
  have hX2 : (((⟨#[34, 92, 117]⟩ : ByteArray) ++ strOfNums [(p.toNat : Int), (q.toNat : Int), (r.toNat : Int), (t.toNat : Int)] ++ ⟨#[34]⟩).extract 0 7 ++ (⟨#[92, 117, 100, 99, 48, 49, 34]⟩ : ByteArray)).data.toList = two u a b c d := by
    rw [toList_append, take_ext, hX, one, two]; rfl
  refine ⟨_, _, _, rfl, by rw [strOfNums_size]; simp, rfl, by omega, by omega, hX, rfl, ?_, hX2⟩
  have := congrArg List.length hX2
  have e : (two u a b c d).length = 14 := rfl
  rw [e] at this
  have e2 : ∀ A : ByteArray, A.data.toList.length = A.size := fun A => by simp
  rw [e2] at this
  omega
theorem enc_valid (n : Nat) (h : n < 55296 ∨ (57343 < n ∧ n ≤ 1114111)) : ∃ T : ByteArray, Txt.enc (n : Int) = T.data.toList ∧ (⟨(Txt.enc (n : Int)).toArray⟩ : ByteArray) = T ∧ T.toList.isEmpty = false := by
  obtain ⟨T, hT, _⟩ := ba_ex (Txt.enc (n : Int))
  refine ⟨T, hT, ba_of hT.symm, ?_⟩
  rw [Lib.toList_data, ← hT]
  have hv : Lib.validRune (n : Int) = true := vr_t (by omega)
  unfold Txt.enc
  rw [if_pos hv]
  have := (Lib.encodeRuneZ_length (n : Int)).1
  unfold Lib.encodeRune
  cases h2 : Lib.encodeRuneZ (n : Int) with
  | nil => rw [h2] at this; simp at this
  | cons x y => rfl
theorem enc_none (n : Nat) (h : 55296 ≤ n) (h' : n ≤ 57343) : (⟨(Txt.enc (n : Int)).toArray⟩ : ByteArray) = ⟨#[]⟩ := by
  rw [enc_bad (vr_f (by omega))]
set_option maxRecDepth 100000 in
set_option maxHeartbeats 4000000 in
theorem numbers_at (N a b c d : Nat) (u : Bool) (w : World) (hN : N ≤ 65535) (ha : N / 4096 = a) (hb : N / 256 % 16 = b) (hc : N / 16 % 16 = c) (hd : N % 16 = d) (hT : JTabs w) :
    Calls Tryd.prog 14 #[.int .u16 (N : Int), .bool u] w fun e w' => e = .returned (.bool true) ∧ Below w.heap.size w w' := by
  have HT := Lib.hid hT
  have hA : (N : Int) / 4096 = a := by omega
  have hB : bits .and .u16 ((N : Int) / 256) 15 = b := by
    have := u16_15 (N / 256) (by omega)
    rw [hb] at this
    rw [← this]; rfl
  have hC : bits .and .u16 ((N : Int) / 16) 15 = c := by
    have := u16_15 (N / 16) (by omega)
    rw [hc] at this
    rw [← this]; rfl
  have hD : bits .and .u16 (N : Int) 15 = d := by
    have := u16_15 N (by omega)
    rw [hd] at this
    exact this
  have lA : (a : Int) < 16 := by omega
  have lB : (b : Int) < 16 := by omega
  have lC : (c : Int) < 16 := by omega
  have lD : (d : Int) < 16 := by omega
  have hnum : ((a * 16 + b) * 16 + c) * 16 + d = N := by omega
  have HNUM := Lib.hid hnum
  obtain ⟨p, hp⟩ : ∃ p, hexC u a = p := ⟨_, rfl⟩
  obtain ⟨q, hq⟩ : ∃ p, hexC u b = p := ⟨_, rfl⟩
  obtain ⟨r, hr⟩ : ∃ p, hexC u c = p := ⟨_, rfl⟩
  obtain ⟨t, ht⟩ : ∃ p, hexC u d = p := ⟨_, rfl⟩
  obtain ⟨Y, X, X2, hY, y1, hX, x1, x2, hXL, hX2, x3, hX2L⟩ := one_str u a b c d p q r t hp hq hr ht
  have hcv0 : (convert 40 9 (.slice (some ⟨w.drew.heap.size, 0, none⟩) 4 4)).run Tryd.prog (w.drew.alloc (.cells #[.int .u8 (p.toNat : Int), .int .u8 (q.toNat : Int), .int .u8 (r.toNat : Int), .int .u8 (t.toNat : Int)] 5)) = .ok (.string (strOfNums [(p.toNat : Int), (q.toNat : Int), (r.toNat : Int), (t.toNat : Int)])) (w.drew.alloc (.cells #[.int .u8 (p.toNat : Int), .int .u8 (q.toNat : Int), .int .u8 (r.toNat : Int), .int .u8 (t.toNat : Int)] 5)) := conv_new w.drew [(p.toNat : Int), (q.toNat : Int), (r.toNat : Int), (t.toNat : Int)] 4 rfl
  rw [hY] at hcv0
  have HB0 := Lib.hid (show Below w.heap.size w (w.drew.alloc (.cells #[.int .u8 (p.toNat : Int), .int .u8 (q.toNat : Int), .int .u8 (r.toNat : Int), .int .u8 (t.toNat : Int)] 5)) from (Below.refl w.heap.size w).drew.alloc (Nat.le_refl _) _)
  have HXL := Lib.hid hXL
  have HX2L := Lib.hid hX2L
  have hn : N ≤ 65535 := hN
  by_cases hv : N < 55296 ∨ 57343 < N
  · obtain ⟨T, hT1, hT2, hT3⟩ := enc_valid N (by omega)
    have HT2 := Lib.hid hT2
    have HP := Lib.hid (show pv X.data.toList 0 = (T.data.toList, 8, 0) by rw [hXL, one_ok u a b c d N (by omega) (by omega) (by omega) (by omega) hnum hv, hT1])
    clear ha hb hc hd hT hnum hXL hX2L hY hT1 hT2 hX2
    cases u
    case' false =>
      have d1 := fun hb => (dig_lo a (by omega) hb).trans hp
      have d2 := fun hb => (dig_lo b (by omega) hb).trans hq
      have d3 := fun hb => (dig_lo c (by omega) hb).trans hr
      have d4 := fun hb => (dig_lo d (by omega) hb).trans ht
    case' true =>
      have d1 := fun hb => (dig_up a (by omega) hb).trans hp
      have d2 := fun hb => (dig_up b (by omega) hb).trans hq
      have d3 := fun hb => (dig_up c (by omega) hb).trans hr
      have d4 := fun hb => (dig_up d (by omega) hb).trans ht
    all_goals
      clear hp hq hr ht hv
      go_enter Tryd.func14, Tryd.ntmps14
      go_wp2_with fail
      go_still_tail 18, (by kernel_rfl)
      change wpList _ _ _ _ _ w.drew
      clear hA hB hC hD d1 d2 d3 d4 lA lB lC lD
      generalize w.drew = w0 at hcv0 HB0
      go_wp2_with fail
      refine (parse_ba X T 0 8 0 _ (by omega) (HT.out.below HB0.out) HP.out).mono ?_
      rintro e w1 ⟨rfl, hb⟩
      have HB1 := Lib.hid (below_trans HB0.out hb)
      clear hb
      go_wp2_with fail
      refine (encode_is N T _ HT2.out).mono ?_
      rintro e w2 ⟨rfl, hb⟩
      have HB2 := Lib.hid (below_trans HB1.out hb)
      clear hb
      go_wp2_with fail
      refine (alive10 _ (HT.out.below HB2.out)).mono ?_
      rintro e w3 ⟨rfl, hb⟩
      have HB3 := Lib.hid (below_trans HB2.out hb)
      clear hb
      go_wp2_with fail
      go_ret
      exact ⟨rfl, HB3.out⟩
  · have HP := Lib.hid (show pv X.data.toList 0 = ((⟨#[]⟩ : ByteArray).data.toList, 1, 16) by rw [hXL, one_bad u a b c d N (by omega) (by omega) (by omega) (by omega) hnum (by omega) (by omega)])
    have HE := Lib.hid (enc_none N (by omega) (by omega))
    by_cases hlo : 56320 ≤ N
    · have HP2 := Lib.hid (show pv X2.data.toList 0 = ((⟨#[]⟩ : ByteArray).data.toList, 1, 16) by rw [hX2L, two_bad u a b c d N (by omega) (by omega) (by omega) (by omega) hnum (by omega) (by omega)])
      have g1 : decide ((56320 : Int) ≤ (N : Int)) = true := by simp; omega
      clear ha hb hc hd hT hnum hXL hX2L hY hlo
      cases u
      case' false =>
        have d1 := fun hb => (dig_lo a (by omega) hb).trans hp
        have d2 := fun hb => (dig_lo b (by omega) hb).trans hq
        have d3 := fun hb => (dig_lo c (by omega) hb).trans hr
        have d4 := fun hb => (dig_lo d (by omega) hb).trans ht
      case' true =>
        have d1 := fun hb => (dig_up a (by omega) hb).trans hp
        have d2 := fun hb => (dig_up b (by omega) hb).trans hq
        have d3 := fun hb => (dig_up c (by omega) hb).trans hr
        have d4 := fun hb => (dig_up d (by omega) hb).trans ht
      all_goals
        clear hp hq hr ht hv
        go_enter Tryd.func14, Tryd.ntmps14
        go_wp2_with fail
        go_still_tail 18, (by kernel_rfl)
        change wpList _ _ _ _ _ w.drew
        clear hA hB hC hD d1 d2 d3 d4 lA lB lC lD
        generalize w.drew = w0 at hcv0 HB0
        go_wp2_with fail
        refine (parse_ba X ⟨#[]⟩ 0 1 16 _ (by omega) (HT.out.below HB0.out) HP.out).mono ?_
        rintro e w1 ⟨rfl, hb⟩
        have HB1 := Lib.hid (below_trans HB0.out hb)
        clear hb
        go_wp2_with fail
        refine (encode_is N ⟨#[]⟩ _ HE.out).mono ?_
        rintro e w2 ⟨rfl, hb⟩
        have HB2 := Lib.hid (below_trans HB1.out hb)
        clear hb
        go_wp2_with fail
        refine (parse_ba X2 ⟨#[]⟩ 0 1 16 _ (by omega) (HT.out.below HB2.out) HP2.out).mono ?_
        rintro e w3 ⟨rfl, hb⟩
        have HB3 := Lib.hid (below_trans HB2.out hb)
        clear hb
        go_wp2_with fail
        refine (alive10 _ (HT.out.below HB3.out)).mono ?_
        rintro e w4 ⟨rfl, hb⟩
        have HB4 := Lib.hid (below_trans HB3.out hb)
        clear hb
        go_wp2_with fail
        go_ret
        exact ⟨rfl, HB4.out⟩
    · obtain ⟨T, hT1, hT2, hT3⟩ := enc_valid ((N - 55296) * 1024 + 65537) (by omega)
      have eN : (((N - 55296) * 1024 + 65537 : Nat) : Int) = 65537 + ((N : Int) - 55296) * 1024 := by omega
      rw [eN] at hT1 hT2
      have HT2 := Lib.hid hT2
      have HP2 := Lib.hid (show pv X2.data.toList 0 = (T.data.toList, 14, 0) by rw [hX2L, two_ok u a b c d N (by omega) (by omega) (by omega) (by omega) hnum (by omega) (by omega), hT1])
      clear ha hb hc hd hT hnum hXL hX2L hY hT1 hT2 eN
      have g1 : decide ((56320 : Int) ≤ (N : Int)) = false := by simp; omega
      cases u
      case' false =>
        have d1 := fun hb => (dig_lo a (by omega) hb).trans hp
        have d2 := fun hb => (dig_lo b (by omega) hb).trans hq
        have d3 := fun hb => (dig_lo c (by omega) hb).trans hr
        have d4 := fun hb => (dig_lo d (by omega) hb).trans ht
      case' true =>
        have d1 := fun hb => (dig_up a (by omega) hb).trans hp
        have d2 := fun hb => (dig_up b (by omega) hb).trans hq
        have d3 := fun hb => (dig_up c (by omega) hb).trans hr
        have d4 := fun hb => (dig_up d (by omega) hb).trans ht
      all_goals
        clear hp hq hr ht hv hlo
        go_enter Tryd.func14, Tryd.ntmps14
        go_wp2_with fail
        go_still_tail 18, (by kernel_rfl)
        change wpList _ _ _ _ _ w.drew
        clear hA hB hC hD d1 d2 d3 d4 lA lB lC lD
        generalize w.drew = w0 at hcv0 HB0
        go_wp2_with fail
        refine (parse_ba X ⟨#[]⟩ 0 1 16 _ (by omega) (HT.out.below HB0.out) HP.out).mono ?_
        rintro e w1 ⟨rfl, hb⟩
        have HB1 := Lib.hid (below_trans HB0.out hb)
        clear hb
        go_wp2_with fail
        refine (encode_is N ⟨#[]⟩ _ HE.out).mono ?_
        rintro e w2 ⟨rfl, hb⟩
        have HB2 := Lib.hid (below_trans HB1.out hb)
        clear hb
        go_wp2_with fail
        refine (parse_ba X2 T 0 14 0 _ (by omega) (HT.out.below HB2.out) HP2.out).mono ?_
        rintro e w3 ⟨rfl, hb⟩
        have HB3 := Lib.hid (below_trans HB2.out hb)
        clear hb
        go_wp2_with fail
        refine (alive10 _ (HT.out.below HB3.out)).mono ?_
        rintro e w4 ⟨rfl, hb⟩
        have HB4 := Lib.hid (below_trans HB3.out hb)
        clear hb
        go_wp2_with fail
        refine (encode_is _ T _ HT2.out).mono ?_
        rintro e w5 ⟨rfl, hb⟩
        have HB5 := Lib.hid (below_trans HB4.out hb)
        clear hb
        go_wp2_with fail
        go_ret
        exact ⟨rfl, HB5.out⟩
theorem law_numbers (n : Int) (u : Bool) (w : World) (n1 : 0 ≤ n) (n2 : n ≤ 65535) (hT : JTabs w) :
    Calls Tryd.prog 14 #[.int .u16 n, .bool u] w fun e w' => e = .returned (.bool true) ∧ Below w.heap.size w w' := by
  obtain ⟨N, rfl⟩ : ∃ N : Nat, n = N := ⟨n.toNat, by omega⟩
  exact numbers_at N _ _ _ _ u w (by omega) rfl rfl rfl rfl hT
set_option maxRecDepth 100000 in
set_option maxHeartbeats 2000000 in
theorem law_prefixes (s : ByteArray) (k : Int) (w : World) (hs : s.size ≤ 140737488355327) (k1 : 0 ≤ k) (k2 : k ≤ 65535) (hT : JTabs w) :
    Calls Tryd.prog 15 #[.string s, .int .u16 k] w fun e w' => e = .returned (.bool true) ∧ Below w.heap.size w w' := by
  by_cases hbig : 1000 < s.size
  · have HT := Lib.hid hT
    clear hT
    go_enter Tryd.func15, Tryd.ntmps15
    go_wp2_with fail
    refine (alive10 _ HT.out).mono ?_
    rintro e w1 ⟨rfl, hb⟩
    have HB1 := Lib.hid (hb)
    clear hb
    go_wp2_with fail
    go_ret
    exact ⟨rfl, HB1.out⟩
  rcases hv : Lib.validD s.data.toList with _ | _
  · have HT := Lib.hid hT
    have HV := Lib.hid hv
    have hs' : s.size ≤ 9223372036854775807 := by omega
    clear hT hv
    go_enter Tryd.func15, Tryd.ntmps15
    go_wp2_with fail
    refine (rvalid_is s false _ hs' HV.out).mono ?_
    rintro e w1 ⟨rfl, hb⟩
    have HB1 := Lib.hid (hb)
    clear hb
    go_wp2_with fail
    refine (alive10 _ (HT.out.below HB1.out)).mono ?_
    rintro e w2 ⟨rfl, hb⟩
    have HB2 := Lib.hid (below_trans HB1.out hb)
    clear hb
    go_wp2_with fail
    go_ret
    exact ⟨rfl, HB2.out⟩
  · obtain ⟨q, hq, hq2, q1, q2⟩ := qv_yes hv
    have e0 : 0 ≤ k % ((q.size : Int) - 1) := Int.emod_nonneg _ (by omega)
    have e1 : k % ((q.size : Int) - 1) < (q.size : Int) - 1 := Int.emod_lt_of_pos _ (by omega)
    obtain ⟨j, hj⟩ : ∃ j : Nat, k % ((q.size : Int) - 1) = j := ⟨(k % ((q.size : Int) - 1)).toNat, by omega⟩
    have hl : q.size = (Js.quote s.data.toList).length := by rw [← hq2]; simp
    have hp := quote_take s.data.toList (j + 1) (by omega) (by omega) hv
    rw [← hq2, ← take_ext] at hp
    rcases hp with hp | ⟨x, z, hp, hx, hz⟩
    · exact prefixes_at s q k j 0 8 w k1 k2 (by omega) hT hv hq q1 q2 hj (by omega) hp (.inl ⟨rfl, rfl⟩)
    · exact prefixes_at s q k j x z w k1 k2 (by omega) hT hv hq q1 q2 hj (by omega) hp (.inr ⟨hx, hz⟩)
end Go.Proofs.YtnicedfakjmbcaaDoor.Jw
