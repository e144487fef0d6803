import Derived.Test.YtnicedfakjmbcaaDoorJsW5
namespace Go.Proofs.YtnicedfakjmbcaaDoor.Jw
open Go Go.RowKit Go.Proofs.YtnicedfakjmbcaaDoor Go.Proofs.YtnicedfakjmbcaaDoor.Tx

theorem drop_at (s : ByteArray) (k i : Nat) (h : k + i < s.size) : (s.data.toList.drop k).getD i 0 = s[k + i]'h := UInt8.toNat_inj.1 (byte_drop s k i h)
theorem u8_ne {c : UInt8} {n : Nat} (hn : n < 256) (h : c ≠ UInt8.ofNat n) : ((c.toNat : Int) == (n : Int)) = false := by
  rw [beq_eq_false_iff_ne]
  intro e
  apply h
  apply UInt8.toNat_inj.1
  simp; omega
set_option maxRecDepth 100000 in
set_option maxHeartbeats 4000000 in
theorem unit_any (s : ByteArray) (k : Nat) (a : Int) (ha : a = k) (w : World) (hk : k ≤ s.size) (hs : s.size ≤ 1000000000) :
    Calls Tryd.prog 59 #[.string s, .int .i64 a] w fun e w' => e = .returned (.int .i64 (hz (Js.unitV (s.data.toList.drop k)))) ∧ w' = w := by
  subst ha
  have hlen := drop_len s k
  by_cases h6 : s.size - k < 6
  · have HE := Lib.hid (show Js.unitV (s.data.toList.drop k) = none from Js.unit_short (by rw [hlen]; exact h6))
    have g1 : decide ((s.size : Int) - k < 6) = true := by simp; omega
    clear hlen
    go_enter Tryd.func59, Tryd.ntmps59
    go_wp2
    go_ret
    exact ⟨ret_int (by rw [HE.out]; rfl), rfl⟩
  · have hk0 : k < s.size := by omega
    have hk1 : k + 1 < s.size := by omega
    have e0 := drop_at s k 0 hk0
    have e1 := drop_at s k 1 hk1
    have g1 : decide ((s.size : Int) - k < 6) = false := by simp; omega
    have HX := Lib.hid (show ¬ ((s.data.toList.drop k).length < 6) by rw [hlen]; exact h6)
    clear hlen
    by_cases h0 : s[k] = 92
    · by_cases h1 : s[k + 1] = 117
      · have HE := Lib.hid (show Js.unitV (s.data.toList.drop k) = Js.hx (s.data.toList.drop k) 4 by
          unfold Js.unitV
          rw [if_neg]
          rintro (h | h | h)
          · exact HX.out h
          · exact h (e0.trans h0)
          · exact h (e1.trans h1))
        have HL := Lib.hid (show ∀ i, (hi : k + 2 + i < s.size) → ((s.data.toList.drop k).getD (2 + i) 0).toNat = (s[k + 2 + i]'hi).toNat from fun i hi => by
          rw [byte_drop s k (2 + i) (by omega)]; simp only [Nat.add_assoc])
        have hkm : k + 2 + 4 ≤ s.size := by omega
        clear e0 e1
        go_enter Tryd.func59, Tryd.ntmps59
        go_wp2_with fail
        refine (hex_any s (k + 2) _ (by omega) (s.data.toList.drop k) _ hkm hs HL.out).mono ?_
        rintro e w' ⟨rfl, rfl⟩
        go_wp2_with fail
        go_ret
        exact ⟨ret_int (by rw [HE.out]), rfl⟩
      · have HE := Lib.hid (show Js.unitV (s.data.toList.drop k) = none by
          unfold Js.unitV
          rw [if_pos]
          right; right; rw [e1]; exact h1)
        have g2 : ((s[k + 1].toNat : Int) == 117) = false := u8_ne (by decide) h1
        clear e0 e1 h1
        go_enter Tryd.func59, Tryd.ntmps59
        go_wp2
        go_ret
        exact ⟨ret_int (by rw [HE.out]; rfl), rfl⟩
    · have HE := Lib.hid (show Js.unitV (s.data.toList.drop k) = none by
        unfold Js.unitV
        rw [if_pos]
        right; left; rw [e0]; exact h0)
      have g2 : ((s[k].toNat : Int) == 92) = false := u8_ne (by decide) h0
      clear e0 e1 h0
      go_enter Tryd.func59, Tryd.ntmps59
      go_wp2
      go_ret
      exact ⟨ret_int (by rw [HE.out]; rfl), rfl⟩
theorem unit_is (s : ByteArray) (k : Nat) (a : Int) (ha : a = k) (z : Int) (w : World) (hk : k ≤ s.size) (hs : s.size ≤ 1000000000) (h : hz (Js.unitV (s.data.toList.drop k)) = z) :
    Calls Tryd.prog 59 #[.string s, .int .i64 a] w fun e w' => e = .returned (.int .i64 z) ∧ w' = w := by
  rw [← h]; exact unit_any s k a ha w hk hs
/-! ### what the sequences are -/
def letV (c : UInt8) : Option (Nat × Nat) :=
  if c = 34 ∨ c = 92 ∨ c = 47 then some (c.toNat, 2) else if c = 98 then some (8, 2) else if c = 102 then some (12, 2) else if c = 110 then some (10, 2) else if c = 114 then some (13, 2) else if c = 116 then some (9, 2) else none
def numV (l : List UInt8) : Nat × Nat :=
  match Js.unitV l with
    | none => (0, 0)
    | some r => if 56320 ≤ r ∧ r ≤ 57343 then (0, 0) else if r < 55296 ∨ 57343 < r then (r, 6)
      else match Js.unitV (l.drop 6) with
        | none => (0, 0)
        | some m => if m < 56320 ∨ 57343 < m then (0, 0) else ((r - 55296) * 1024 + (m - 56320) + 65536, 12)
theorem seq_let (l : List UInt8) (x : Nat × Nat) (h : letV (l.getD 1 0) = some x) : Js.seqV l = x := by
  unfold letV at h
  unfold Js.seqV
  repeat' split at h
  all_goals simp_all
theorem seq_num (l : List UInt8) (h : letV (l.getD 1 0) = none) : Js.seqV l = numV l := by
  unfold letV at h
  unfold Js.seqV
  repeat' split at h
  all_goals first | (cases h; done) | skip
  rename_i a b c d e f
  rw [if_neg a, if_neg b, if_neg c, if_neg d, if_neg e, if_neg f]; rfl
theorem let_cases (c : UInt8) : (c = 34 ∨ c = 92 ∨ c = 47 ∨ c = 98 ∨ c = 102 ∨ c = 110 ∨ c = 114 ∨ c = 116) ∨ (c ≠ 34 ∧ c ≠ 92 ∧ c ≠ 47 ∧ c ≠ 98 ∧ c ≠ 102 ∧ c ≠ 110 ∧ c ≠ 114 ∧ c ≠ 116 ∧ letV c = none) :=
  all_u8 (fun c => (c = 34 ∨ c = 92 ∨ c = 47 ∨ c = 98 ∨ c = 102 ∨ c = 110 ∨ c = 114 ∨ c = 116) ∨ (c ≠ 34 ∧ c ≠ 92 ∧ c ≠ 47 ∧ c ≠ 98 ∧ c ≠ 102 ∧ c ≠ 110 ∧ c ≠ 114 ∧ c ≠ 116 ∧ letV c = none)) (by decide +kernel) c
theorem num_none {l : List UInt8} (h : Js.unitV l = none) : numV l = (0, 0) := by unfold numV; rw [h]
theorem num_low {l : List UInt8} {r : Nat} (h : Js.unitV l = some r) (h1 : 56320 ≤ r) (h2 : r ≤ 57343) : numV l = (0, 0) := by unfold numV; rw [h]; simp [h1, h2]
theorem num_one {l : List UInt8} {r : Nat} (h : Js.unitV l = some r) (h1 : r < 55296 ∨ 57343 < r) : numV l = (r, 6) := by
  unfold numV; rw [h]
  simp only
  rw [if_neg (by omega), if_pos h1]
theorem num_bad {l : List UInt8} {r : Nat} (h : Js.unitV l = some r) (h1 : 55296 ≤ r) (h2 : r ≤ 56319) (h3 : ∀ m, Js.unitV (l.drop 6) = some m → m < 56320 ∨ 57343 < m) : numV l = (0, 0) := by
  unfold numV; rw [h]
  simp only
  rw [if_neg (by omega), if_neg (by omega)]
  cases e : Js.unitV (l.drop 6) with
  | none => rfl
  | some m => simp only; rw [if_pos (h3 m e)]
theorem num_two {l : List UInt8} {r m : Nat} (h : Js.unitV l = some r) (h1 : 55296 ≤ r) (h2 : r ≤ 56319) (h3 : Js.unitV (l.drop 6) = some m) (h4 : 56320 ≤ m) (h5 : m ≤ 57343) : numV l = ((r - 55296) * 1024 + (m - 56320) + 65536, 12) := by
  unfold numV; rw [h]
  simp only
  rw [if_neg (by omega), if_neg (by omega), h3]
  simp only
  rw [if_neg (by omega)]
set_option maxRecDepth 100000 in
set_option maxHeartbeats 4000000 in
theorem rseq_let (s : ByteArray) (k : Nat) (w : World) (hk : k + 1 < s.size) (hs : s.size ≤ 1000000000) (h : s[k + 1] = 34 ∨ s[k + 1] = 92 ∨ s[k + 1] = 47 ∨ s[k + 1] = 98 ∨ s[k + 1] = 102 ∨ s[k + 1] = 110 ∨ s[k + 1] = 114 ∨ s[k + 1] = 116) :
    Calls Tryd.prog 53 #[.string s, .int .i64 k] w fun e w' => e = .returned (.tuple #[.int .i64 (Js.seqV (s.data.toList.drop k)).1, .int .i64 (Js.seqV (s.data.toList.drop k)).2]) ∧ w' = w := by
  have e1 := drop_at s k 1 hk
  have HT := Lib.hid (seq_let (s.data.toList.drop k))
  rw [e1] at HT
  clear e1
  rcases h with h | h | h | h | h | h | h | h
  all_goals
    have HE := Lib.hid (HT.out _ (by rw [h]; rfl))
    clear HT
    go_enter Tryd.func53, Tryd.ntmps53
    go_wp2
    go_ret2
    exact ⟨ret_two (by rw [HE.out]; rfl) (by rw [HE.out]; rfl), rfl⟩
set_option maxRecDepth 100000 in
set_option maxHeartbeats 4000000 in
theorem rseq_num (s : ByteArray) (k : Nat) (w : World) (hk : k + 1 < s.size) (hs : s.size ≤ 1000000000) (h : s[k + 1] ≠ 34 ∧ s[k + 1] ≠ 92 ∧ s[k + 1] ≠ 47 ∧ s[k + 1] ≠ 98 ∧ s[k + 1] ≠ 102 ∧ s[k + 1] ≠ 110 ∧ s[k + 1] ≠ 114 ∧ s[k + 1] ≠ 116 ∧ letV s[k + 1] = none) :
    Calls Tryd.prog 53 #[.string s, .int .i64 k] w fun e w' => e = .returned (.tuple #[.int .i64 (Js.seqV (s.data.toList.drop k)).1, .int .i64 (Js.seqV (s.data.toList.drop k)).2]) ∧ w' = w := by
  have e1 := drop_at s k 1 hk
  obtain ⟨h1, h2, h3, h4, h5, h6, h7, h8, h9⟩ := h
  have HT := Lib.hid (seq_num (s.data.toList.drop k) (by rw [e1]; exact h9))
  have g1 : ((s[k + 1].toNat : Int) == 34) = false := u8_ne (by decide) h1
  have g2 : ((s[k + 1].toNat : Int) == 92) = false := u8_ne (by decide) h2
  have g3 : ((s[k + 1].toNat : Int) == 47) = false := u8_ne (by decide) h3
  have g4 : ((s[k + 1].toNat : Int) == 98) = false := u8_ne (by decide) h4
  have g5 : ((s[k + 1].toNat : Int) == 102) = false := u8_ne (by decide) h5
  have g6 : ((s[k + 1].toNat : Int) == 110) = false := u8_ne (by decide) h6
  have g7 : ((s[k + 1].toNat : Int) == 114) = false := u8_ne (by decide) h7
  have g8 : ((s[k + 1].toNat : Int) == 116) = false := u8_ne (by decide) h8
  clear e1 h1 h2 h3 h4 h5 h6 h7 h8 h9
  have fin : ∀ (r n : Nat) (x y : Int), numV (s.data.toList.drop k) = (r, n) → x = r → y = n → (Ending.returned (.tuple #[.int .i64 x, .int .i64 y]) = .returned (.tuple #[.int .i64 (Js.seqV (s.data.toList.drop k)).1, .int .i64 (Js.seqV (s.data.toList.drop k)).2])) := by
    intro r n x y e e1 e2
    rw [HT.out, e]; exact ret_two e1 e2
  have FIN := Lib.hid fin
  clear fin HT
  rcases hu : Js.unitV (s.data.toList.drop k) with _ | r
  · have HN := Lib.hid (num_none hu)
    have HU := Lib.hid (show hz (Js.unitV (s.data.toList.drop k)) = -1 by rw [hu]; rfl)
    clear hu
    go_enter Tryd.func53, Tryd.ntmps53
    go_wp2_with fail
    refine (unit_is s k _ (by omega) (-1) _ (by omega) hs HU.out).mono ?_
    rintro e w' ⟨rfl, rfl⟩
    go_wp2_with fail
    go_ret2
    exact ⟨FIN.out 0 0 _ _ HN.out rfl rfl, rfl⟩
  · obtain ⟨hr, hr6⟩ := Js.unitV_bd hu
    rw [drop_len] at hr6
    have HU := Lib.hid (show hz (Js.unitV (s.data.toList.drop k)) = r by rw [hu]; rfl)
    by_cases c1 : r < 55296
    · have HN := Lib.hid (num_one hu (.inl c1))
      clear hu
      go_enter Tryd.func53, Tryd.ntmps53
      go_wp2_with fail
      refine (unit_is s k _ (by omega) r _ (by omega) hs HU.out).mono ?_
      rintro e w' ⟨rfl, rfl⟩
      go_wp2_with fail
      go_ret2
      exact ⟨FIN.out r 6 _ _ HN.out rfl rfl, rfl⟩
    · by_cases c2 : 57343 < r
      · have HN := Lib.hid (num_one hu (.inr c2))
        have c3 : 56319 < r := by omega
        have c4 : 56320 ≤ r := by omega
        have c5 : 55296 ≤ r := by omega
        clear hu c1
        go_enter Tryd.func53, Tryd.ntmps53
        go_wp2_with fail
        refine (unit_is s k _ (by omega) r _ (by omega) hs HU.out).mono ?_
        rintro e w' ⟨rfl, rfl⟩
        go_wp2_with fail
        go_ret2
        exact ⟨FIN.out r 6 _ _ HN.out rfl rfl, rfl⟩
      · by_cases c3 : 56320 ≤ r
        · have HN := Lib.hid (num_low hu c3 (by omega))
          have c4 : r ≤ 57343 := by omega
          have c5 : 55296 ≤ r := by omega
          have c6 : 56319 < r := by omega
          clear hu c1 c2
          go_enter Tryd.func53, Tryd.ntmps53
          go_wp2_with fail
          refine (unit_is s k _ (by omega) r _ (by omega) hs HU.out).mono ?_
          rintro e w' ⟨rfl, rfl⟩
          go_wp2_with fail
          go_ret2
          exact ⟨FIN.out 0 0 _ _ HN.out rfl rfl, rfl⟩
        · have c4 : 55296 ≤ r := by omega
          have c5 : r ≤ 56319 := by omega
          have hkk : k + 6 ≤ s.size := by omega
          have HDD := Lib.hid (show (s.data.toList.drop k).drop 6 = s.data.toList.drop (k + 6) from List.drop_drop)
          clear c1 c2 c3
          by_cases hm : ∃ m, Js.unitV (s.data.toList.drop (k + 6)) = some m ∧ 56320 ≤ m ∧ m ≤ 57343
          · obtain ⟨m, hm1, hm2, hm3⟩ := hm
            have HN := Lib.hid (num_two hu c4 c5 (by rw [HDD.out]; exact hm1) hm2 hm3)
            have HU2 := Lib.hid (show hz (Js.unitV (s.data.toList.drop (k + 6))) = m by rw [hm1]; rfl)
            clear hu hm1
            go_enter Tryd.func53, Tryd.ntmps53
            go_wp2_with fail
            refine (unit_is s k _ (by omega) r _ (by omega) hs HU.out).mono ?_
            rintro e w' ⟨rfl, rfl⟩
            go_wp2_with fail
            refine (unit_is s (k + 6) _ (by omega) m _ (by omega) hs HU2.out).mono ?_
            rintro e w' ⟨rfl, rfl⟩
            go_wp2_with fail
            go_ret2
            exact ⟨FIN.out _ 12 _ _ HN.out (by omega) rfl, rfl⟩
          · have HN := Lib.hid (num_bad hu c4 c5 (fun m e => by
              rw [HDD.out] at e
              rcases Nat.lt_or_ge m 56320 with h | h
              · exact .inl h
              · rcases Nat.lt_or_ge 57343 m with h' | h'
                · exact .inr h'
                · exact absurd ⟨m, e, h, h'⟩ hm))
            obtain ⟨z, hz2, hz3⟩ : ∃ z : Int, hz (Js.unitV (s.data.toList.drop (k + 6))) = z ∧ (z < 56320 ∨ 57343 < z) := by
              refine ⟨_, rfl, ?_⟩
              cases e : Js.unitV (s.data.toList.drop (k + 6)) with
              | none => left; show (-1 : Int) < 56320; decide
              | some m =>
                have h1 : ¬ (56320 ≤ m ∧ m ≤ 57343) := fun h => hm ⟨m, e, h.1, h.2⟩
                show (m : Int) < 56320 ∨ 57343 < (m : Int)
                omega
            have HU2 := Lib.hid hz2
            clear hu hm hz2
            rcases hz3 with hz3 | hz3
            · go_enter Tryd.func53, Tryd.ntmps53
              go_wp2_with fail
              refine (unit_is s k _ (by omega) r _ (by omega) hs HU.out).mono ?_
              rintro e w' ⟨rfl, rfl⟩
              go_wp2_with fail
              refine (unit_is s (k + 6) _ (by omega) z _ (by omega) hs HU2.out).mono ?_
              rintro e w' ⟨rfl, rfl⟩
              go_wp2_with fail
              go_ret2
              exact ⟨FIN.out 0 0 _ _ HN.out rfl rfl, rfl⟩
            · have hz4 : 56320 ≤ z := by omega
              go_enter Tryd.func53, Tryd.ntmps53
              go_wp2_with fail
              refine (unit_is s k _ (by omega) r _ (by omega) hs HU.out).mono ?_
              rintro e w' ⟨rfl, rfl⟩
              go_wp2_with fail
              refine (unit_is s (k + 6) _ (by omega) z _ (by omega) hs HU2.out).mono ?_
              rintro e w' ⟨rfl, rfl⟩
              go_wp2_with fail
              go_ret2
              exact ⟨FIN.out 0 0 _ _ HN.out rfl rfl, rfl⟩
theorem rseq_any (s : ByteArray) (k : Nat) (w : World) (hk : k + 1 < s.size) (hs : s.size ≤ 1000000000) :
    Calls Tryd.prog 53 #[.string s, .int .i64 k] w fun e w' => e = .returned (.tuple #[.int .i64 (Js.seqV (s.data.toList.drop k)).1, .int .i64 (Js.seqV (s.data.toList.drop k)).2]) ∧ w' = w := by
  rcases let_cases s[k + 1] with h | h
  · exact rseq_let s k w hk hs h
  · exact rseq_num s k w hk hs h
theorem rseq_is (s : ByteArray) (k r n : Nat) (w : World) (hk : k + 1 < s.size) (hs : s.size ≤ 1000000000) (h : Js.seqV (s.data.toList.drop k) = (r, n)) :
    Calls Tryd.prog 53 #[.string s, .int .i64 k] w fun e w' => e = .returned (.tuple #[.int .i64 r, .int .i64 n]) ∧ w' = w := by
  have := rseq_any s k w hk hs
  rw [h] at this
  exact this
end Go.Proofs.YtnicedfakjmbcaaDoor.Jw
