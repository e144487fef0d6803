import Derived.Test.YtnicedfakjmbcaaDoorJsW7
namespace Go.Proofs.YtnicedfakjmbcaaDoor.Jw
open Go Go.RowKit Go.Proofs.YtnicedfakjmbcaaDoor Go.Proofs.YtnicedfakjmbcaaDoor.Tx

/-! ### the program's sequence -/
def NoC (r : Int) (k : Nat) : Prop := ∀ i, i < k → lC i ≠ r
theorem lB_bd (i : Nat) (h : i < 5) : 0 ≤ lB i ∧ lB i ≤ 13 := by
  have e : i = 0 ∨ i = 1 ∨ i = 2 ∨ i = 3 ∨ i = 4 := by omega
  rcases e with rfl | rfl | rfl | rfl | rfl <;> decide
theorem let_in (c : UInt8) (i : Nat) (h : i < 5) (h1 : lC i = c.toNat) : ∃ n : Nat, letV c = some (n, 2) ∧ lB i = n := by
  have u : ∀ n : Nat, (n : Int) = (c.toNat : Int) → n < 256 → c = UInt8.ofNat n := fun n hn _ => by
    apply UInt8.toNat_inj.1
    simp; omega
  have e : i = 0 ∨ i = 1 ∨ i = 2 ∨ i = 3 ∨ i = 4 := by omega
  rcases e with rfl | rfl | rfl | rfl | rfl
  · rw [u 98 h1 (by decide)]; exact ⟨8, rfl, rfl⟩
  · rw [u 102 h1 (by decide)]; exact ⟨12, rfl, rfl⟩
  · rw [u 110 h1 (by decide)]; exact ⟨10, rfl, rfl⟩
  · rw [u 114 h1 (by decide)]; exact ⟨13, rfl, rfl⟩
  · rw [u 116 h1 (by decide)]; exact ⟨9, rfl, rfl⟩
theorem let_out (c : UInt8) (h1 : c ≠ 34) (h2 : c ≠ 92) (h3 : c ≠ 47) (hn : NoC c.toNat 5) : letV c = none := by
  have u : ∀ n : Nat, c = UInt8.ofNat n → n < 256 → (n : Int) = (c.toNat : Int) := fun n hn _ => by
    subst hn; simp; omega
  have a1 : c ≠ 98 := fun e => hn 0 (by decide) (u 98 e (by decide))
  have a2 : c ≠ 102 := fun e => hn 1 (by decide) (u 102 e (by decide))
  have a3 : c ≠ 110 := fun e => hn 2 (by decide) (u 110 e (by decide))
  have a4 : c ≠ 114 := fun e => hn 3 (by decide) (u 114 e (by decide))
  have a5 : c ≠ 116 := fun e => hn 4 (by decide) (u 116 e (by decide))
  unfold letV
  rw [if_neg (by simp [h1, h2, h3]), if_neg a1, if_neg a2, if_neg a3, if_neg a4, if_neg a5]
theorem iunit_none (t : ByteArray) (w : World) (hs : t.size ≤ 1000000000) (h : Js.unitV t.data.toList = none) :
    Calls Tryd.prog 57 #[.string t] w fun e w' => e = .returned (.tuple #[.int .i32 0, .bool false]) ∧ Below w.heap.size w w' := by
  have := iunit_any t w hs
  rw [h] at this
  exact this
theorem iunit_some (t : ByteArray) (n : Nat) (w : World) (hs : t.size ≤ 1000000000) (h : Js.unitV t.data.toList = some n) :
    Calls Tryd.prog 57 #[.string t] w fun e w' => e = .returned (.tuple #[.int .i32 n, .bool true]) ∧ Below w.heap.size w w' := by
  have := iunit_any t w hs
  rw [h] at this
  exact this
theorem drop6 (t : ByteArray) : (t.extract 6 t.size).data.toList = t.data.toList.drop 6 := by
  rw [ByteArray.data_extract, Array.toList_extract, List.extract_eq_take_drop, List.take_of_length_le (by simp)]
theorem size6 (t : ByteArray) : (t.extract 6 t.size).size ≤ t.size := by simp
set_option maxRecDepth 100000 in
set_option maxHeartbeats 4000000 in
theorem iseq_any (t : ByteArray) (w : World) (h2 : 1 < t.size) (hs : t.size ≤ 1000000000) (hL : LetTab w) :
    Calls Tryd.prog 51 #[.string t] w fun e w' => e = .returned (.tuple #[.int .i32 (Js.seqV t.data.toList).1, .int .i64 (Js.seqV t.data.toList).2]) ∧ Below w.heap.size w w' := by
  have e1 := drop_at t 0 1 (by omega)
  rw [List.drop_zero] at e1
  simp only [Nat.zero_add] at e1
  have HT := Lib.hid (seq_let t.data.toList)
  have HTN := Lib.hid (seq_num t.data.toList)
  rw [e1] at HT HTN
  clear e1
  by_cases h : t[1] = 34 ∨ t[1] = 92 ∨ t[1] = 47
  · rcases h with h | h | h
    all_goals
      have HE := Lib.hid (HT.out _ (by rw [h]; rfl))
      clear HT HTN
      go_enter Tryd.func51, Tryd.ntmps51
      go_wp2
      go_ret2
      exact ⟨ret_two (by rw [HE.out]; rfl) (by rw [HE.out]; rfl), Below.refl _ _⟩
  · simp only [not_or] at h
    obtain ⟨h3, h4, h5⟩ := h
    have HH := Lib.hid (And.intro h3 (And.intro h4 h5))
    have g1 : ((t[1].toNat : Int) == 34) = false := u8_ne (by decide) h3
    have g2 : ((t[1].toNat : Int) == 92) = false := u8_ne (by decide) h4
    have g3 : ((t[1].toNat : Int) == 47) = false := u8_ne (by decide) h5
    have B0 := UInt8.toNat_lt t[1]
    have B6 := Lib.hid (size6 t)
    have HLIN := Lib.hid (let_in t[1])
    have HLOUT := Lib.hid (let_out t[1] h3 h4 h5)
    clear h3 h4 h5
    obtain ⟨tt, fr, hst⟩ := hL
    go_enter Tryd.func51, Tryd.ntmps51
    go_wp2_with (refine wpList_load_row rfl 80 _ rfl 4 rfl tt letArr fr _ hst Tryd.underlying80 rfl (by kernel_rfl) ?_)
    clear hst g1 g2 g3
    go_loopw [25] (fun i wr => ∃ k : Nat, k ≤ 5 ∧ i = .int .i64 k ∧ NoC t[1].toNat k ∧ Below w.heap.size w wr) (fun i _ => (5 - intOf i).toNat)
    case atStart => exact ⟨0, by omega, rfl, fun i hi => absurd hi (by omega), Below.refl _ _⟩
    case round =>
      obtain ⟨k, hk, rfl, hno, hb⟩ := hrel
      have HN := Lib.hid hno
      have HB := Lib.hid hb
      have hz := hb.size
      clear hno hb
      by_cases hlt : k < 5
      · have hix := idx_let k hlt
        obtain ⟨hl1, hl2⟩ := lB_bd k hlt
        by_cases c1 : lC k = t[1].toNat
        · obtain ⟨n, hn1, hn2⟩ := HLIN.out k hlt c1
          have HE := Lib.hid (HT.out _ hn1)
          have HN2 := Lib.hid hn2
          have g1 : (lC k == (t[1].toNat : Int)) = true := by simp [c1]
          clear c1 hn1 hn2
          go_wp2
          go_ret2
          exact ⟨ret_two (by rw [HE.out, HN2.out]) (by rw [HE.out]; rfl), (HB.out).alloc hz _⟩
        · have g1 : (lC k == (t[1].toNat : Int)) = false := by simp [c1]
          have HC1 := Lib.hid c1
          clear c1
          go_wp2
          go_roundw
          case rel => exact ⟨k + 1, by omega, by go_num, fun i hi => by
            by_cases e : i = k
            · subst e; exact HC1.out
            · exact HN.out i (by omega), (HB.out).alloc hz _⟩
          case measure => simp [intOf]; omega
      · obtain rfl : k = 5 := by omega
        have HSQ := Lib.hid (HTN.out (HLOUT.out HN.out))
        have fin : ∀ (r n : Nat) (x y : Int), numV t.data.toList = (r, n) → x = r → y = n → (Ending.returned (.tuple #[.int .i32 x, .int .i64 y]) = .returned (.tuple #[.int .i32 (Js.seqV t.data.toList).1, .int .i64 (Js.seqV t.data.toList).2])) := by
          intro r n x y e e1 e2
          rw [HSQ.out, e]; exact ret_two e1 e2
        have FIN := Lib.hid fin
        clear fin HSQ HT HTN HLIN HLOUT
        rcases hu : Js.unitV t.data.toList with _ | r
        · have HN := Lib.hid (num_none hu)
          have HU := Lib.hid hu
          clear hu
          go_wp2_with fail
          refine (iunit_none t _ hs HU.out).mono ?_
          rintro e w1 ⟨rfl, hb1⟩
          have HB1 := Lib.hid (below_trans HB.out hb1)
          clear hb1
          go_wp2_with fail
          go_ret2
          exact ⟨FIN.out 0 0 _ _ HN.out rfl rfl, HB1.out⟩
        · obtain ⟨hr, hr6⟩ := Js.unitV_bd hu
          have hr6' : 6 ≤ t.size := by simpa using hr6
          have HU := Lib.hid hu
          clear hr6
          by_cases c1 : r < 55296
          · have HN := Lib.hid (num_one hu (.inl c1))
            clear hu
            go_wp2_with fail
            refine (iunit_some t r _ hs HU.out).mono ?_
            rintro e w1 ⟨rfl, hb1⟩
            have HB1 := Lib.hid (below_trans HB.out hb1)
            clear hb1
            go_wp2_with fail
            go_ret2
            exact ⟨FIN.out r 6 _ _ HN.out rfl rfl, HB1.out⟩
          · by_cases c2 : 57343 < r
            · have HN := Lib.hid (num_one hu (.inr c2))
              have c3 : 55296 ≤ r := by omega
              have c4 : 56320 ≤ r := by omega
              clear hu c1
              go_wp2_with fail
              refine (iunit_some t r _ hs HU.out).mono ?_
              rintro e w1 ⟨rfl, hb1⟩
              have HB1 := Lib.hid (below_trans HB.out hb1)
              clear hb1
              go_wp2_with fail
              go_ret2
              exact ⟨FIN.out r 6 _ _ HN.out rfl rfl, HB1.out⟩
            · by_cases c3 : 56320 ≤ r
              · have c4 : r ≤ 57343 := by omega
                have HN := Lib.hid (num_low hu c3 c4)
                clear hu c1 c2
                go_wp2_with fail
                refine (iunit_some t r _ hs HU.out).mono ?_
                rintro e w1 ⟨rfl, hb1⟩
                have HB1 := Lib.hid (below_trans HB.out hb1)
                clear hb1
                go_wp2_with fail
                go_ret2
                exact ⟨FIN.out 0 0 _ _ HN.out rfl rfl, HB1.out⟩
              · have c4 : 55296 ≤ r := by omega
                have c5 : r ≤ 56319 := by omega
                have c6 : r < 56320 := by omega
                have c7 : r ≤ 57343 := by omega
                have HDD := Lib.hid (drop6 t)
                clear c1 c2 c3
                rcases hm : Js.unitV (t.data.toList.drop 6) with _ | m
                · have HN := Lib.hid (num_bad hu c4 c5 (fun m e => by rw [hm] at e; cases e))
                  have HU2 := Lib.hid (show Js.unitV (t.extract 6 t.size).data.toList = none by rw [HDD.out]; exact hm)
                  clear hu hm
                  go_wp2_with fail
                  refine (iunit_some t r _ hs HU.out).mono ?_
                  rintro e w1 ⟨rfl, hb1⟩
                  have HB1 := Lib.hid (below_trans HB.out hb1)
                  clear hb1
                  go_wp2_with fail
                  refine (iunit_none _ _ (by have := B6.out; omega) HU2.out).mono ?_
                  rintro e w2 ⟨rfl, hb2⟩
                  have HB2 := Lib.hid (below_trans HB1.out hb2)
                  clear hb2
                  go_wp2_with fail
                  go_ret2
                  exact ⟨FIN.out 0 0 _ _ HN.out rfl rfl, HB2.out⟩
                · have HU2 := Lib.hid (show Js.unitV (t.extract 6 t.size).data.toList = some m by rw [HDD.out]; exact hm)
                  by_cases d1 : m < 56320
                  · have HN := Lib.hid (num_bad hu c4 c5 (fun m' e => by rw [hm] at e; cases e; exact .inl d1))
                    have K1 := Lib.hid (fun _ : Unit => (show (m : Int) < 56320 by omega))
                    clear hu hm d1
                    go_wp2_with fail
                    refine (iunit_some t r _ hs HU.out).mono ?_
                    rintro e w1 ⟨rfl, hb1⟩
                    have HB1 := Lib.hid (below_trans HB.out hb1)
                    clear hb1
                    go_wp2_with fail
                    refine (iunit_some _ m _ (by have := B6.out; omega) HU2.out).mono ?_
                    rintro e w2 ⟨rfl, hb2⟩
                    have HB2 := Lib.hid (below_trans HB1.out hb2)
                    have d1 := K1.out ()
                    clear hb2
                    go_wp2_with fail
                    go_ret2
                    exact ⟨FIN.out 0 0 _ _ HN.out rfl rfl, HB2.out⟩
                  · by_cases d2 : 57343 < m
                    · have HN := Lib.hid (num_bad hu c4 c5 (fun m' e => by rw [hm] at e; cases e; exact .inr d2))
                      have K1 := Lib.hid (fun _ : Unit => d2)
                      clear hu hm d1 d2
                      go_wp2_with fail
                      refine (iunit_some t r _ hs HU.out).mono ?_
                      rintro e w1 ⟨rfl, hb1⟩
                      have HB1 := Lib.hid (below_trans HB.out hb1)
                      clear hb1
                      go_wp2_with fail
                      refine (iunit_some _ m _ (by have := B6.out; omega) HU2.out).mono ?_
                      rintro e w2 ⟨rfl, hb2⟩
                      have HB2 := Lib.hid (below_trans HB1.out hb2)
                      have k1 : decide ((m : Int) < 56320) = false := by have := K1.out (); simp; omega
                      have k2 : decide ((57343 : Int) < (m : Int)) = true := by have := K1.out (); simp; omega
                      clear hb2
                      go_wp2_with fail
                      go_ret2
                      exact ⟨FIN.out 0 0 _ _ HN.out rfl rfl, HB2.out⟩
                    · have d3 : 56320 ≤ m := by omega
                      have d4 : m ≤ 57343 := by omega
                      have HN := Lib.hid (num_two hu c4 c5 hm d3 d4)
                      have D34 := Lib.hid (fun _ : Unit => And.intro d3 d4)
                      clear hu hm d1 d2 d3 d4
                      go_wp2_with fail
                      refine (iunit_some t r _ hs HU.out).mono ?_
                      rintro e w1 ⟨rfl, hb1⟩
                      have HB1 := Lib.hid (below_trans HB.out hb1)
                      clear hb1
                      go_wp2_with fail
                      refine (iunit_some _ m _ (by have := B6.out; omega) HU2.out).mono ?_
                      rintro e w2 ⟨rfl, hb2⟩
                      have HB2 := Lib.hid (below_trans HB1.out hb2)
                      have k1 : decide ((m : Int) < 56320) = false := by have := D34.out (); simp; omega
                      have k2 : decide ((57343 : Int) < (m : Int)) = false := by have := D34.out (); simp; omega
                      clear hb2
                      go_wp2_with fail
                      go_ret2
                      exact ⟨FIN.out _ 12 _ _ HN.out (by have := D34.out (); simp only [wrap32]; omega) rfl, HB2.out⟩
theorem iseq_is (t : ByteArray) (r n : Nat) (w : World) (h2 : 1 < t.size) (hs : t.size ≤ 1000000000) (hL : LetTab w) (h : Js.seqV t.data.toList = (r, n)) :
    Calls Tryd.prog 51 #[.string t] w fun e w' => e = .returned (.tuple #[.int .i32 r, .int .i64 n]) ∧ Below w.heap.size w w' := by
  have := iseq_any t w h2 hs hL
  rw [h] at this
  exact this
end Go.Proofs.YtnicedfakjmbcaaDoor.Jw
