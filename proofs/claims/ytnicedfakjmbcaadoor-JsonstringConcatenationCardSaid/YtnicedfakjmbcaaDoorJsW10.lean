import Derived.Test.YtnicedfakjmbcaaDoorJsW6
namespace Go.Proofs.YtnicedfakjmbcaaDoor.Jw
open Go Go.RowKit Go.Proofs.YtnicedfakjmbcaaDoor Go.Proofs.YtnicedfakjmbcaaDoor.Tx

/-! ### what parsing answers, and how one step moves on -/
def fin (k : Nat) (p : Nat × Nat × List UInt8) : List UInt8 × Int × Int :=
  if p.1 = 0 then (p.2.2, (k : Int) + 1 + p.2.1, 0) else if p.1 = 8 then ([], k, 8) else ([], (k : Int) + 1 + p.2.1, p.1)
structure Inv (s : ByteArray) (k i : Nat) (o : List UInt8) : Prop where
  le : k + 1 ≤ i
  eq : Js.parse (s.data.toList.drop (k + 1)) = ((Js.parse (s.data.toList.drop i)).1, (i - (k + 1)) + (Js.parse (s.data.toList.drop i)).2.1, o ++ (Js.parse (s.data.toList.drop i)).2.2)
theorem inv_start (s : ByteArray) (k : Nat) : Inv s k (k + 1) [] := ⟨Nat.le_refl _, by simp⟩
theorem inv_step {s : ByteArray} {k i : Nat} {o e : List UInt8} {n : Nat} (h : Inv s k i o)
    (hs : Js.parse (s.data.toList.drop i) = ((Js.parse ((s.data.toList.drop i).drop n)).1, n + (Js.parse ((s.data.toList.drop i).drop n)).2.1, e ++ (Js.parse ((s.data.toList.drop i).drop n)).2.2)) : Inv s k (i + n) (o ++ e) := by
  have h1 := h.le
  rw [List.drop_drop] at hs
  refine ⟨by omega, ?_⟩
  rw [h.eq, hs]
  simp only [List.append_assoc, Prod.mk.injEq, true_and, and_true]
  omega
theorem inv_err {s : ByteArray} {k i : Nat} {o : List UInt8} {t : Nat} (h : Inv s k i o) (hs : Js.parse (s.data.toList.drop i) = (t, 0, [])) (h0 : t ≠ 0) (h8 : t ≠ 8) : fin k (Js.parse (s.data.toList.drop (k + 1))) = (([] : List UInt8), (i : Int), (t : Int)) := by
  have h1 := h.le
  rw [h.eq, hs]
  unfold fin
  simp only [if_neg h0, if_neg h8, Nat.add_zero, Prod.mk.injEq, true_and, and_true]
  omega
theorem inv_eof {s : ByteArray} {k i : Nat} {o : List UInt8} (h : Inv s k i o) (hs : Js.parse (s.data.toList.drop i) = (8, 0, [])) : fin k (Js.parse (s.data.toList.drop (k + 1))) = (([] : List UInt8), (k : Int), (8 : Int)) := by
  rw [h.eq, hs]; rfl
theorem inv_fin {s : ByteArray} {k i : Nat} {o : List UInt8} (h : Inv s k i o) (hs : Js.parse (s.data.toList.drop i) = (0, 1, [])) : fin k (Js.parse (s.data.toList.drop (k + 1))) = (o, (i : Int) + 1, (0 : Int)) := by
  have h1 := h.le
  rw [h.eq, hs]
  unfold fin
  simp only [if_true, List.append_nil, Prod.mk.injEq, true_and, and_true]
  omega
theorem st_bad {l : List UInt8} (h1 : l ≠ []) (h : (Txt.dec l).2 = 0) : Js.parse l = (5, 0, []) := by rw [Js.parse_step l h1, if_pos h]
theorem st_ctl {l : List UInt8} {r n : Nat} (h1 : l ≠ []) (h : Txt.dec l = (r, n)) (hn : n ≠ 0) (h2 : r < 32) : Js.parse l = (6, 0, []) := by
  rw [Js.parse_step l h1, h, if_neg hn, if_pos h2]
theorem st_quo {l : List UInt8} {n : Nat} (h1 : l ≠ []) (h : Txt.dec l = (34, n)) (hn : n ≠ 0) : Js.parse l = (0, 1, []) := by
  rw [Js.parse_step l h1, h, if_neg hn, if_neg (by omega)]; rfl
theorem st_eof {l : List UInt8} {n : Nat} (h1 : l ≠ []) (h : Txt.dec l = (92, n)) (hn : n ≠ 0) (h2 : l.length = 1) : Js.parse l = (8, 0, []) := by
  rw [Js.parse_step l h1, h, if_neg hn, if_neg (by omega), if_neg (by omega)]; simp [h2]
theorem st_esc {l : List UInt8} {n : Nat} (h1 : l ≠ []) (h : Txt.dec l = (92, n)) (hn : n ≠ 0) (h2 : l.length ≠ 1) (h3 : (Js.seqV l).2 = 0) : Js.parse l = (16, 0, []) := by
  rw [Js.parse_step l h1, h, if_neg hn, if_neg (by omega), if_neg (by omega)]; simp [h2, h3]
theorem st_seq {l : List UInt8} {n r m : Nat} (h1 : l ≠ []) (h : Txt.dec l = (92, n)) (hn : n ≠ 0) (h2 : l.length ≠ 1) (h3 : Js.seqV l = (r, m)) (hm : m ≠ 0) :
    Js.parse l = ((Js.parse (l.drop m)).1, m + (Js.parse (l.drop m)).2.1, Txt.enc r ++ (Js.parse (l.drop m)).2.2) := by
  rw [Js.parse_step l h1, h, if_neg hn, if_neg (by omega), if_neg (by omega), h3]; simp [h2, hm]
theorem st_rune {l : List UInt8} {n r : Nat} (h1 : l ≠ []) (h : Txt.dec l = (r, n)) (hn : n ≠ 0) (h2 : 32 ≤ r) (h3 : r ≠ 34) (h4 : r ≠ 92) :
    Js.parse l = ((Js.parse (l.drop n)).1, n + (Js.parse (l.drop n)).2.1, Txt.enc r ++ (Js.parse (l.drop n)).2.2) := by
  rw [Js.parse_step l h1, h, if_neg hn, if_neg (by omega), if_neg h3, if_neg h4]
theorem ret3 {a b : ByteArray} {x y z u : Int} (h : a = b) (h1 : x = y) (h2 : z = u) : Ending.returned (.tuple #[.string a, .int .i64 x, .int .i64 z]) = .returned (.tuple #[.string b, .int .i64 y, .int .i64 u]) := by rw [h, h1, h2]
theorem ret_fin {a : ByteArray} {x z : Int} {f : List UInt8 × Int × Int} {l : List UInt8} {y u : Int} (h : f = (l, y, u)) (h0 : a = ⟨l.toArray⟩) (h1 : x = y) (h2 : z = u) :
    Ending.returned (.tuple #[.string a, .int .i64 x, .int .i64 z]) = .returned (.tuple #[.string ⟨f.1.toArray⟩, .int .i64 f.2.1, .int .i64 f.2.2]) := by rw [h, h0, h1, h2]
theorem encode_is (r : Int) (x : ByteArray) (w : World) (h : (⟨(Txt.enc r).toArray⟩ : ByteArray) = x) :
    Calls Tryd.prog 41 #[.int .i64 r] w fun e w' => e = .returned (.string x) ∧ Below w.heap.size w w' := by
  rw [← h]; exact encode_any r w
theorem enc_len4 (r : Int) : (Txt.enc r).length ≤ 4 := by
  unfold Txt.enc
  split
  · have := (Lib.encodeRuneZ_length r).2
    simpa [Lib.encodeRune] using this
  · simp
theorem enc_size (r : Int) : (⟨(Txt.enc r).toArray⟩ : ByteArray).size ≤ 4 := by
  have := enc_len4 r
  show (Txt.enc r).toArray.size ≤ 4
  rw [List.size_toArray]; exact this
theorem cat_enc {ob x : ByteArray} {o e : List UInt8} (h : ob = ⟨o.toArray⟩) (hx : (⟨e.toArray⟩ : ByteArray) = x) : ob ++ x = ⟨(o ++ e).toArray⟩ := by
  rw [h, ← hx]
  apply ByteArray.ext
  simp [ByteArray.data_append]

/-! ### Parse of the reference -/
set_option maxHeartbeats 2000000 in
theorem rparse_out (s : ByteArray) (a : Int) (w : World) (h : a < 0 ∨ (s.size : Int) ≤ a) :
    Calls Tryd.prog 39 #[.string s, .int .i64 a] w fun e w' => e = .returned (.tuple #[.string ⟨#[]⟩, .int .i64 a, .int .i64 7]) ∧ Below w.heap.size w w' := by
  rcases h with h | h
  · go_enter Tryd.func39, Tryd.ntmps39
    go_wp2
    exact bodyPost_ret (v := .tuple #[.string ⟨#[]⟩, .int .i64 a, .int .i64 7]) (by simp [results, Tryd.results39, go_sem]) rfl ⟨rfl, Below.refl _ _⟩
  · have h0 : 0 ≤ a := by omega
    go_enter Tryd.func39, Tryd.ntmps39
    go_wp2
    exact bodyPost_ret (v := .tuple #[.string ⟨#[]⟩, .int .i64 a, .int .i64 7]) (by simp [results, Tryd.results39, go_sem]) rfl ⟨rfl, Below.refl _ _⟩
set_option maxHeartbeats 2000000 in
theorem rparse_no (s : ByteArray) (k : Nat) (w : World) (hk : k < s.size) (h : s[k] ≠ 34) :
    Calls Tryd.prog 39 #[.string s, .int .i64 k] w fun e w' => e = .returned (.tuple #[.string ⟨#[]⟩, .int .i64 k, .int .i64 7]) ∧ Below w.heap.size w w' := by
  have g1 : ((s[k].toNat : Int) != 34) = true := by
    have : ((s[k].toNat : Int) == 34) = false := u8_ne (by decide) h
    rw [bne, this]; rfl
  have g2 : decide ((k : Int) < 0) = false := by simp
  have g3 : decide ((s.size : Int) ≤ k) = false := by simp; omega
  clear h
  go_enter Tryd.func39, Tryd.ntmps39
  go_wp2
  exact bodyPost_ret (v := .tuple #[.string ⟨#[]⟩, .int .i64 k, .int .i64 7]) (by simp [results, Tryd.results39, go_sem]) rfl ⟨rfl, Below.refl _ _⟩
set_option maxRecDepth 100000 in
set_option maxHeartbeats 4000000 in
theorem rparse_in (s : ByteArray) (k : Nat) (w : World) (hk : k < s.size) (hs : s.size ≤ 1000000000) (h : s[k] = 34) :
    Calls Tryd.prog 39 #[.string s, .int .i64 k] w fun e w' => e = .returned (.tuple #[.string ⟨(fin k (Js.parse (s.data.toList.drop (k + 1)))).1.toArray⟩, .int .i64 (fin k (Js.parse (s.data.toList.drop (k + 1)))).2.1, .int .i64 (fin k (Js.parse (s.data.toList.drop (k + 1)))).2.2]) ∧ Below w.heap.size w w' := by
  obtain ⟨f, hf⟩ : ∃ f, fin k (Js.parse (s.data.toList.drop (k + 1))) = f := ⟨_, rfl⟩
  rw [hf]
  have HFF := Lib.hid hf
  clear hf
  have g1 : decide ((k : Int) < 0) = false := by simp
  have g2 : decide ((s.size : Int) ≤ k) = false := by simp; omega
  go_enter Tryd.func39, Tryd.ntmps39
  go_wp2
  rename_i h0 k0 a0
  clear g1 g2 h h0
  go_loopw [7, 8] (fun v c wr => ∃ (i : Nat) (o : List UInt8) (ob : ByteArray), i ≤ s.size ∧ c = .int .i64 i ∧ v = .string ob ∧ ob.size ≤ 4 * i ∧ Hid (ob = ⟨o.toArray⟩) ∧ Hid (Inv s k i o) ∧ Hid (Below w.heap.size w wr)) (fun _ c _ => s.size - (intOf c).toNat)
  case atStart => exact ⟨k + 1, [], ⟨#[]⟩, by omega, by go_num, rfl, Nat.zero_le _, rfl, inv_start s k, Below.refl _ _⟩
  case round =>
    obtain ⟨i, o, ob, hi, rfl, rfl, hob, HO, HI, HB⟩ := hrel
    by_cases hlt : i < s.size
    · have hne := drop_ne hlt
      by_cases hbad : (Txt.dec (s.data.toList.drop i)).2 = 0
      · have HE := Lib.hid (HFF.out.symm.trans (inv_err HI.out (st_bad hne hbad) (by decide) (by decide)))
        have HD := Lib.hid hbad
        clear hne hbad
        go_wp2_with fail
        refine (rdecode_bad s i _ hlt (by omega) HD.out).mono ?_
        rintro e w1 ⟨rfl, hb1⟩
        have HB1 := Lib.hid (below_trans HB.out hb1)
        clear hb1
        go_wp2_with fail
        exact bodyPost_ret (v := .tuple #[.string ⟨#[]⟩, .int .i64 i, .int .i64 5]) (by simp [results, Tryd.results39, go_sem]) rfl ⟨ret_fin HE.out rfl rfl rfl, HB1.out⟩
      · obtain ⟨R, M, hd⟩ : ∃ R M, Txt.dec (s.data.toList.drop i) = (R, M) := ⟨_, _, rfl⟩
        obtain ⟨q1, q2, q3⟩ := step_at s i R M hd hlt
        rw [hd] at hbad
        have q4 : 1 ≤ M := by simp at hbad; omega
        have hM : M ≠ 0 := by omega
        have HD := Lib.hid hd
        by_cases c1 : R < 32
        · have HE := Lib.hid (HFF.out.symm.trans (inv_err HI.out (st_ctl hne hd hM c1) (by decide) (by decide)))
          clear hne hbad hd hM
          go_wp2_with fail
          refine (rdecode_ok s i R M _ hlt (by omega) HD.out).mono ?_
          rintro e w1 ⟨rfl, hb1⟩
          have HB1 := Lib.hid (below_trans HB.out hb1)
          clear hb1
          go_wp2_with fail
          exact bodyPost_ret (v := .tuple #[.string ⟨#[]⟩, .int .i64 i, .int .i64 6]) (by simp [results, Tryd.results39, go_sem]) rfl ⟨ret_fin HE.out rfl rfl rfl, HB1.out⟩
        · have c1' : 32 ≤ R := by omega
          by_cases c2 : R = 34
          · subst c2
            have HE := Lib.hid (HFF.out.symm.trans (inv_fin HI.out (st_quo hne hd hM)))
            clear hne hbad hd hM c1
            go_wp2_with fail
            refine (rdecode_ok s i 34 M _ hlt (by omega) HD.out).mono ?_
            rintro e w1 ⟨rfl, hb1⟩
            have HB1 := Lib.hid (below_trans HB.out hb1)
            clear hb1
            go_wp2_with fail
            exact bodyPost_ret (v := .tuple #[.string ob, .int .i64 ((i : Int) + 1), .int .i64 0]) (by simp [results, Tryd.results39, go_sem]) rfl ⟨ret_fin HE.out HO.out rfl rfl, HB1.out⟩
          · by_cases c3 : R = 92
            · subst c3
              by_cases c4 : i + 1 = s.size
              · have HE := Lib.hid (HFF.out.symm.trans (inv_eof HI.out (st_eof hne hd hM (by rw [drop_len]; omega))))
                have g4 : ((i : Int) + 1 == (s.size : Int)) = true := by simp; omega
                clear hne hbad hd hM c1 c2
                go_wp2_with fail
                refine (rdecode_ok s i 92 M _ hlt (by omega) HD.out).mono ?_
                rintro e w1 ⟨rfl, hb1⟩
                have HB1 := Lib.hid (below_trans HB.out hb1)
                clear hb1
                go_wp2_with fail
                exact bodyPost_ret (v := .tuple #[.string ⟨#[]⟩, .int .i64 k, .int .i64 8]) (by simp [results, Tryd.results39, go_sem]) rfl ⟨ret_fin HE.out rfl rfl rfl, HB1.out⟩
              · have g4 : ((i : Int) + 1 == (s.size : Int)) = false := by
                  rw [beq_eq_false_iff_ne]; omega
                have hl1 : (s.data.toList.drop i).length ≠ 1 := by rw [drop_len]; omega
                have c5 : i + 1 < s.size := by omega
                obtain ⟨r, n, hsq⟩ : ∃ r n, Js.seqV (s.data.toList.drop i) = (r, n) := ⟨_, _, rfl⟩
                obtain ⟨b1, b2, b3, b4⟩ := Js.seqV_bd (s.data.toList.drop i) (by rw [drop_len]; omega)
                rw [hsq, drop_len] at b1
                rw [hsq] at b2
                simp only at b1 b2
                have HSQ := Lib.hid hsq
                by_cases c6 : n = 0
                · subst c6
                  have HE := Lib.hid (HFF.out.symm.trans (inv_err HI.out (st_esc hne hd hM hl1 (by rw [hsq])) (by decide) (by decide)))
                  clear hne hbad hd hM c1 c2 c4 hl1 hsq b3 b4
                  go_wp2_with fail
                  refine (rdecode_ok s i 92 M _ hlt (by omega) HD.out).mono ?_
                  rintro e w1 ⟨rfl, hb1⟩
                  have HB1 := Lib.hid (below_trans HB.out hb1)
                  clear hb1
                  go_wp2_with fail
                  refine (rseq_is s i r 0 _ c5 hs HSQ.out).mono ?_
                  rintro e w' ⟨rfl, rfl⟩
                  go_wp2_with fail
                  exact bodyPost_ret (v := .tuple #[.string ⟨#[]⟩, .int .i64 i, .int .i64 16]) (by simp [results, Tryd.results39, go_sem]) rfl ⟨ret_fin HE.out rfl rfl rfl, HB1.out⟩
                · have HN := Lib.hid (inv_step HI.out (st_seq hne hd hM hl1 hsq c6))
                  obtain ⟨x, hx⟩ : ∃ x : ByteArray, (⟨(Txt.enc (r : Int)).toArray⟩ : ByteArray) = x := ⟨_, rfl⟩
                  have hx4 : x.size ≤ 4 := by rw [← hx]; exact enc_size _
                  have HX := Lib.hid hx
                  have HOX := Lib.hid (cat_enc HO.out hx)
                  have q5 : 1 ≤ n := by omega
                  have g5 : ((n : Int) == 0) = false := by simp; omega
                  clear hne hbad hd hM c1 c2 c4 hl1 hsq b3 b4 c6 hx
                  go_wp2_with fail
                  refine (rdecode_ok s i 92 M _ hlt (by omega) HD.out).mono ?_
                  rintro e w1 ⟨rfl, hb1⟩
                  have HB1 := Lib.hid (below_trans HB.out hb1)
                  clear hb1
                  go_wp2_with fail
                  refine (rseq_is s i r n _ c5 hs HSQ.out).mono ?_
                  rintro e w' ⟨rfl, rfl⟩
                  go_wp2_with fail
                  refine (encode_is r x _ HX.out).mono ?_
                  rintro e w2 ⟨rfl, hb2⟩
                  have HB2 := Lib.hid (below_trans HB1.out hb2)
                  clear hb2
                  go_wp2_with fail
                  go_roundw
                  case rel => exact ⟨i + n, _, ob ++ x, by omega, by go_num, rfl, by rw [ByteArray.size_append]; omega, HOX.out, HN.out, HB2.out⟩
                  case measure => simp [intOf]; omega
            · have HN := Lib.hid (inv_step HI.out (st_rune hne hd hM c1' c2 c3))
              obtain ⟨x, hx⟩ : ∃ x : ByteArray, (⟨(Txt.enc (R : Int)).toArray⟩ : ByteArray) = x := ⟨_, rfl⟩
              have hx4 : x.size ≤ 4 := by rw [← hx]; exact enc_size _
              have HX := Lib.hid hx
              have HOX := Lib.hid (cat_enc HO.out hx)
              have g3 : ((R : Int) == 34) = false := by simp; omega
              have g4 : ((R : Int) == 92) = false := by simp; omega
              have g5 : ((M : Int) == 0) = false := by simp; omega
              clear hne hbad hd hM c1 c2 c3 hx
              go_wp2_with fail
              refine (rdecode_ok s i R M _ hlt (by omega) HD.out).mono ?_
              rintro e w1 ⟨rfl, hb1⟩
              have HB1 := Lib.hid (below_trans HB.out hb1)
              clear hb1
              go_wp2_with fail
              refine (encode_is R x _ HX.out).mono ?_
              rintro e w2 ⟨rfl, hb2⟩
              have HB2 := Lib.hid (below_trans HB1.out hb2)
              clear hb2
              go_wp2_with fail
              go_roundw
              case rel => exact ⟨i + M, _, ob ++ x, by omega, by go_num, rfl, by rw [ByteArray.size_append]; omega, HOX.out, HN.out, HB2.out⟩
              case measure => simp [intOf]; omega
    · obtain rfl : i = s.size := by omega
      have HE := Lib.hid (HFF.out.symm.trans (inv_eof HI.out (by
        have e : s.data.toList.drop s.size = [] := List.drop_of_length_le (Nat.le_of_eq (by simp))
        rw [e]; rfl)))
      go_wp2
      exact bodyPost_ret (v := .tuple #[.string ⟨#[]⟩, .int .i64 k, .int .i64 8]) (by simp [results, Tryd.results39, go_sem]) rfl ⟨ret_fin HE.out rfl rfl rfl, HB.out⟩
end Go.Proofs.YtnicedfakjmbcaaDoor.Jw
