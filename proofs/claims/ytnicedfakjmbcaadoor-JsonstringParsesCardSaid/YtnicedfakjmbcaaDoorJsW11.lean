import Derived.Test.YtnicedfakjmbcaaDoorJsW8
import Derived.Test.YtnicedfakjmbcaaDoorJsW9
import Derived.Test.YtnicedfakjmbcaaDoorJsW10
import Derived.WalkMore
namespace Go.Proofs.YtnicedfakjmbcaaDoor.Jw
open Go Go.RowKit Go.Proofs.YtnicedfakjmbcaaDoor Go.Proofs.YtnicedfakjmbcaaDoor.Tx

/-! ### the program's Parse -/
theorem drop_ext (s : ByteArray) (i : Nat) : (s.extract i s.size).data.toList = s.data.toList.drop i := by
  rw [ByteArray.data_extract, Array.toList_extract, List.extract_eq_take_drop, List.take_of_length_le (by simp)]
theorem cells_add (o : List UInt8) (r : Nat) (h : Lib.validRune r = true) : Lib.byteCells o ++ Lib.runeCells r = Lib.byteCells (o ++ Txt.enc (r : Int)) := by
  rw [cells_rune r h]; simp [Lib.byteCells]
theorem vr_dec {l : List UInt8} {r n : Nat} (hd : Txt.dec l = (r, n)) (hn : n ≠ 0) : Lib.validRune r = true := by
  have h := Txt.enc_dec l (by rw [hd]; exact hn)
  have hl := (Txt.dec_cons_ne (l := l) (by rw [hd]; exact hn)).1
  rw [hd] at h
  by_cases e : Lib.validRune r = true
  · exact e
  · unfold Txt.enc at h
    rw [if_neg e] at h
    have := congrArg List.length h
    simp only [List.length_nil, List.length_take] at this
    have := List.length_pos_iff.2 hl
    omega
theorem vr_seq {l : List UInt8} {r n : Nat} (h : r ≤ 1114111) (h2 : (Js.seqV l).1 < 55296 ∨ 57343 < (Js.seqV l).1) (h3 : Js.seqV l = (r, n)) : Lib.validRune r = true := by
  rw [h3] at h2
  simp only at h2
  exact vr_t (by omega)

set_option maxHeartbeats 2000000 in
theorem parse_out (s : ByteArray) (a : Int) (w : World) (h : a < 0 ∨ (s.size : Int) ≤ a) :
    Calls Tryd.prog 38 #[.string s, .int .i64 a] w fun e w' => e = .returned (.tuple #[.string ⟨#[]⟩, .int .i64 a, .int .i64 7]) ∧ Below w.heap.size w w' := by
  rcases h with h | h
  · go_enter Tryd.func38, Tryd.ntmps38
    go_wp2
    go_step3
    go_wp2
    rw [Exit.noGoto_ret]
    exact bodyPost_ret (v := .tuple #[.string ⟨#[]⟩, .int .i64 a, .int .i64 7]) (by simp [results, Tryd.results38, go_sem]) rfl ⟨rfl, Below.refl _ _⟩
  · have h0 : 0 ≤ a := by omega
    go_enter Tryd.func38, Tryd.ntmps38
    go_wp2
    go_step3
    go_wp2
    rw [Exit.noGoto_ret]
    exact bodyPost_ret (v := .tuple #[.string ⟨#[]⟩, .int .i64 a, .int .i64 7]) (by simp [results, Tryd.results38, go_sem]) rfl ⟨rfl, Below.refl _ _⟩
set_option maxHeartbeats 2000000 in
theorem parse_no (s : ByteArray) (k : Nat) (w : World) (hk : k < s.size) (h : s[k] ≠ 34) :
    Calls Tryd.prog 38 #[.string s, .int .i64 k] w fun e w' => e = .returned (.tuple #[.string ⟨#[]⟩, .int .i64 k, .int .i64 7]) ∧ Below w.heap.size w w' := by
  have g1 : ((s[k].toNat : Int) != 34) = true := by
    have : ((s[k].toNat : Int) == 34) = false := u8_ne (by decide) h
    rw [bne, this]; rfl
  have g2 : decide ((k : Int) < 0) = false := by simp
  have g3 : decide ((s.size : Int) ≤ k) = false := by simp; omega
  clear h
  go_enter Tryd.func38, Tryd.ntmps38
  go_wp2
  go_step3
  go_wp2
  rw [Exit.noGoto_ret]
  exact bodyPost_ret (v := .tuple #[.string ⟨#[]⟩, .int .i64 k, .int .i64 7]) (by simp [results, Tryd.results38, go_sem]) rfl ⟨rfl, Below.refl _ _⟩
set_option maxRecDepth 100000 in
set_option maxHeartbeats 4000000 in
theorem parse_in (s : ByteArray) (k : Nat) (w : World) (hk : k < s.size) (hs : s.size ≤ 1000000000) (hT : Lib.Utf8Tabs 2 3 w) (hL : LetTab w) (h : s[k] = 34) :
    Calls Tryd.prog 38 #[.string s, .int .i64 k] w fun e w' => e = .returned (.tuple #[.string ⟨(fin k (Js.parse (s.data.toList.drop (k + 1)))).1.toArray⟩, .int .i64 (fin k (Js.parse (s.data.toList.drop (k + 1)))).2.1, .int .i64 (fin k (Js.parse (s.data.toList.drop (k + 1)))).2.2]) ∧ Below w.heap.size w w' := by
  obtain ⟨f, hf⟩ : ∃ f, fin k (Js.parse (s.data.toList.drop (k + 1))) = f := ⟨_, rfl⟩
  rw [hf]
  have HFF := Lib.hid hf
  have HT := Lib.hid hT
  have HL := Lib.hid hL
  clear hT hL
  clear hf
  have g1 : decide ((k : Int) < 0) = false := by simp
  have g2 : decide ((s.size : Int) ≤ k) = false := by simp; omega
  go_enter Tryd.func38, Tryd.ntmps38
  go_wp2
  go_step3
  go_wp2
  go_step3
  go_wp2
  rename_i h0 k0 a0
  clear g1 g2 h h0
  go_loopw [8] (fun c wr => ∃ (i : Nat) (o : List UInt8), i ≤ s.size ∧ c = .int .i64 i ∧ o.length ≤ 4 * i ∧ Hid (Inv s k i o) ∧ Hid (Lib.IsBuilder Bld.TB Bld.TU w.heap.size w.heap.size (Lib.byteCells o) wr) ∧ Hid (Below w.heap.size w wr)) (fun c _ => s.size - (intOf c).toNat)
  case atStart => exact ⟨k + 1, [], by omega, by go_num, Nat.zero_le _, inv_start s k, Lib.fresh_isBuilder Bld.TB Bld.TU w, (Below.refl _ _).alloc (Nat.le_refl _) _⟩
  case round =>
    obtain ⟨i, o, hi, rfl, hob, HI, HO, HB⟩ := hrel
    have hz := HB.out.size
    have HLEN := Lib.hid (Lib.byteCells_length o)
    by_cases hlt : i < s.size
    · have hne := drop_ne hlt
      by_cases hbad : (Txt.dec (s.data.toList.drop i)).2 = 0
      · have HE := Lib.hid (HFF.out.symm.trans (inv_err HI.out (st_bad hne hbad) (by decide) (by decide)))
        have HD := Lib.hid hbad
        clear hne hbad
        go_wp2_with fail
        refine (decode_bad s i _ hlt (u8_below HT.out HB.out) HD.out).mono ?_
        rintro e w1 ⟨rfl, hb1⟩
        have HB1 := Lib.hid (below_trans HB.out hb1)
        have HBX := Lib.hid hb1
        clear hb1
        go_wp2_with fail
        rw [Exit.noGoto_ret]
        exact bodyPost_ret (v := .tuple #[.string ⟨#[]⟩, .int .i64 i, .int .i64 5]) (by simp [results, Tryd.results38, go_sem]) rfl ⟨ret_fin HE.out rfl rfl rfl, HB1.out⟩
      · obtain ⟨R, M, hd⟩ : ∃ R M, Txt.dec (s.data.toList.drop i) = (R, M) := ⟨_, _, rfl⟩
        obtain ⟨q1, q2, q3⟩ := step_at s i R M hd hlt
        rw [hd] at hbad
        have q4 : 1 ≤ M := by simp at hbad; omega
        have hM : M ≠ 0 := by omega
        have HD := Lib.hid hd
        by_cases c1 : R < 32
        · have HE := Lib.hid (HFF.out.symm.trans (inv_err HI.out (st_ctl hne hd hM c1) (by decide) (by decide)))
          clear hne hbad hd hM
          go_wp2_with fail
          refine (decode_ok s i R M _ hlt (u8_below HT.out HB.out) HD.out).mono ?_
          rintro e w1 ⟨rfl, hb1⟩
          have HB1 := Lib.hid (below_trans HB.out hb1)
          have HBX := Lib.hid hb1
          clear hb1
          go_wp2_with fail
          rw [Exit.noGoto_ret]
          exact bodyPost_ret (v := .tuple #[.string ⟨#[]⟩, .int .i64 i, .int .i64 6]) (by simp [results, Tryd.results38, go_sem]) rfl ⟨ret_fin HE.out rfl rfl rfl, HB1.out⟩
        · have c1' : 32 ≤ R := by omega
          by_cases c2 : R = 34
          · subst c2
            have HE := Lib.hid (HFF.out.symm.trans (inv_fin HI.out (st_quo hne hd hM)))
            clear hne hbad hd hM c1
            go_wp2_with fail
            refine (decode_ok s i 34 M _ hlt (u8_below HT.out HB.out) HD.out).mono ?_
            rintro e w1 ⟨rfl, hb1⟩
            have HB1 := Lib.hid (below_trans HB.out hb1)
            have HBX := Lib.hid hb1
            clear hb1
            go_wp2_with fail
            refine (Tryd.Builder_String_any w.heap.size w.heap.size o _ (Bld.is_below HO.out HBX.out) HB1.out.size).mono ?_
            rintro e w2 ⟨rfl, hb2⟩
            have HB2 := Lib.hid (Below.trans HB1.out hb2)
            clear hb2
            go_wp2_with fail
            rw [Exit.noGoto_ret]
            exact bodyPost_ret (v := .tuple #[.string ⟨o.toArray⟩, .int .i64 ((i : Int) + 1), .int .i64 0]) (by simp [results, Tryd.results38, go_sem]) rfl ⟨ret_fin HE.out rfl rfl rfl, HB2.out⟩
          · by_cases c3 : R = 92
            · subst c3
              by_cases c4 : i + 1 = s.size
              · have HE := Lib.hid (HFF.out.symm.trans (inv_eof HI.out (st_eof hne hd hM (by rw [drop_len]; omega))))
                have g4 : ((i : Int) + 1 == (s.size : Int)) = true := by simp; omega
                clear hne hbad hd hM c1 c2
                go_wp2_with fail
                refine (decode_ok s i 92 M _ hlt (u8_below HT.out HB.out) HD.out).mono ?_
                rintro e w1 ⟨rfl, hb1⟩
                have HB1 := Lib.hid (below_trans HB.out hb1)
                have HBX := Lib.hid hb1
                clear hb1
                go_wp2_with fail
                rw [Exit.noGoto_ret]
                exact bodyPost_ret (v := .tuple #[.string ⟨#[]⟩, .int .i64 k, .int .i64 8]) (by simp [results, Tryd.results38, go_sem]) rfl ⟨ret_fin HE.out rfl rfl rfl, HB1.out⟩
              · have g4 : ((i : Int) + 1 == (s.size : Int)) = false := by
                  rw [beq_eq_false_iff_ne]; omega
                have hl1 : (s.data.toList.drop i).length ≠ 1 := by rw [drop_len]; omega
                have c5 : i + 1 < s.size := by omega
                obtain ⟨r, n, hsq⟩ : ∃ r n, Js.seqV (s.data.toList.drop i) = (r, n) := ⟨_, _, rfl⟩
                obtain ⟨b1, b2, b3, b4⟩ := Js.seqV_bd (s.data.toList.drop i) (by rw [drop_len]; omega)
                rw [hsq, drop_len] at b1
                rw [hsq] at b2
                simp only at b1 b2
                have HSQ := Lib.hid hsq
                have HXS := Lib.hid (show (s.extract i s.size).size = s.size - i by simp)
                have HXD := Lib.hid (drop_ext s i)
                by_cases c6 : n = 0
                · subst c6
                  have HE := Lib.hid (HFF.out.symm.trans (inv_err HI.out (st_esc hne hd hM hl1 (by rw [hsq])) (by decide) (by decide)))
                  clear hne hbad hd hM c1 c2 c4 hl1 hsq b3 b4
                  go_wp2_with fail
                  refine (decode_ok s i 92 M _ hlt (u8_below HT.out HB.out) HD.out).mono ?_
                  rintro e w1 ⟨rfl, hb1⟩
                  have HB1 := Lib.hid (below_trans HB.out hb1)
                  have HBX := Lib.hid hb1
                  clear hb1
                  go_wp2_with fail
                  refine (iseq_is (s.extract i s.size) r 0 _ (by rw [HXS.out]; omega) (by rw [HXS.out]; omega) (HL.out.below HB1.out) (by rw [HXD.out]; exact HSQ.out)).mono ?_
                  rintro e w3 ⟨rfl, hb3⟩
                  have HB3 := Lib.hid (below_trans HB1.out hb3)
                  have HBY := Lib.hid (below_trans HBX.out hb3)
                  clear hb3
                  go_wp2_with fail
                  rw [Exit.noGoto_ret]
                  exact bodyPost_ret (v := .tuple #[.string ⟨#[]⟩, .int .i64 i, .int .i64 16]) (by simp [results, Tryd.results38, go_sem]) rfl ⟨ret_fin HE.out rfl rfl rfl, HB3.out⟩
                · have HN := Lib.hid (inv_step HI.out (st_seq hne hd hM hl1 hsq c6))
                  have HRC := Lib.hid (cells_add o r (vr_seq b2 (b3 (by rw [hsq]; exact c6)) hsq))
                  have q5 : 1 ≤ n := by omega
                  clear hne hbad hd hM c1 c2 c4 hl1 hsq b3 b4 c6
                  go_wp2_with fail
                  refine (decode_ok s i 92 M _ hlt (u8_below HT.out HB.out) HD.out).mono ?_
                  rintro e w1 ⟨rfl, hb1⟩
                  have HB1 := Lib.hid (below_trans HB.out hb1)
                  have HBX := Lib.hid hb1
                  clear hb1
                  go_wp2_with fail
                  refine (iseq_is (s.extract i s.size) r n _ (by rw [HXS.out]; omega) (by rw [HXS.out]; omega) (HL.out.below HB1.out) (by rw [HXD.out]; exact HSQ.out)).mono ?_
                  rintro e w3 ⟨rfl, hb3⟩
                  have HB3 := Lib.hid (below_trans HB1.out hb3)
                  have HBY := Lib.hid (below_trans HBX.out hb3)
                  clear hb3
                  go_wp2_with fail
                  refine (writeRune w.heap.size w.heap.size (Lib.byteCells o) r _ (Bld.is_below HO.out HBY.out) (by omega) (by omega) (by rw [HLEN.out]; omega) HB3.out.size).mono ?_
                  rintro e w2 ⟨z, rfl, hI2, hb2⟩
                  rw [HRC.out] at hI2
                  have HI2 := Lib.hid hI2
                  have HB2 := Lib.hid (Below.trans HB3.out hb2)
                  clear hI2 hb2
                  go_wp2_with fail
                  go_roundw
                  case rel => exact ⟨i + n, _, by omega, by go_num, by have := enc_len4 (r : Int); rw [List.length_append]; omega, HN.out, HI2.out, HB2.out⟩
                  case measure => simp [intOf]; omega
            · have HN := Lib.hid (inv_step HI.out (st_rune hne hd hM c1' c2 c3))
              have HRC := Lib.hid (cells_add o R (vr_dec hd hM))
              have g3 : ((R : Int) == 34) = false := by simp; omega
              have g4 : ((R : Int) == 92) = false := by simp; omega
              clear hne hbad hd hM c1 c2 c3
              go_wp2_with fail
              refine (decode_ok s i R M _ hlt (u8_below HT.out HB.out) HD.out).mono ?_
              rintro e w1 ⟨rfl, hb1⟩
              have HB1 := Lib.hid (below_trans HB.out hb1)
              have HBX := Lib.hid hb1
              clear hb1
              go_wp2_with fail
              refine (writeRune w.heap.size w.heap.size (Lib.byteCells o) R _ (Bld.is_below HO.out HBX.out) (by omega) (by omega) (by rw [HLEN.out]; omega) HB1.out.size).mono ?_
              rintro e w2 ⟨z, rfl, hI2, hb2⟩
              rw [HRC.out] at hI2
              have HI2 := Lib.hid hI2
              have HB2 := Lib.hid (Below.trans HB1.out hb2)
              clear hI2 hb2
              go_wp2_with fail
              go_roundw
              case rel => exact ⟨i + M, _, by omega, by go_num, by have := enc_len4 (R : Int); rw [List.length_append]; omega, HN.out, HI2.out, HB2.out⟩
              case measure => simp [intOf]; omega
    · obtain rfl : i = s.size := by omega
      have HE := Lib.hid (HFF.out.symm.trans (inv_eof HI.out (by
        have e : s.data.toList.drop s.size = [] := List.drop_of_length_le (Nat.le_of_eq (by simp))
        rw [e]; rfl)))
      go_wp2
      rw [Exit.noGoto_ret]
      exact bodyPost_ret (v := .tuple #[.string ⟨#[]⟩, .int .i64 k, .int .i64 8]) (by simp [results, Tryd.results38, go_sem]) rfl ⟨ret_fin HE.out rfl rfl rfl, HB.out⟩
end Go.Proofs.YtnicedfakjmbcaaDoor.Jw
