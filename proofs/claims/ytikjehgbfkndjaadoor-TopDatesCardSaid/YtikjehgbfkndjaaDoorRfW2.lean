/- Walks of the reference's functions of chapter 3: offset, Parse. -/
import Derived.Test.YtikjehgbfkndjaaDoorRfW1
import Derived.Test.YtikjehgbfkndjaaDoorCivW2
namespace Go.Proofs.YtikjehgbfkndjaaDoor.Rw
open Go Go.RowKit Go.Proofs.YtikjehgbfkndjaaDoor Go.Proofs.YtikjehgbfkndjaaDoor.Bs

def oz (o : Option Int) : Int := match o with | none => 0 | some n => n
theorem isB_drop (l : List UInt8) (k i : Nat) (a b : UInt8) : Rf.isB (l.drop k) i a b = Rf.isB l (k + i) a b := by unfold Rf.isB; rw [Rf.getD_drop]
theorem isB_iff {l : List UInt8} {k : Nat} {a b : UInt8} : Rf.isB l k a b = true ↔ l.getD k 0 = a ∨ l.getD k 0 = b := by unfold Rf.isB; rw [decide_eq_true_iff]
theorem isB_not {l : List UInt8} {k : Nat} {a b : UInt8} : Rf.isB l k a b = false ↔ ¬ (l.getD k 0 = a ∨ l.getD k 0 = b) := by unfold Rf.isB; rw [decide_eq_false_iff_not]
def OffC (l : List UInt8) (h m : Int) : Prop := (0 ≤ h ∧ h ≤ 23) ∧ Rf.isB l 3 58 58 = true ∧ (0 ≤ m ∧ m ≤ 59) ∧ l.length = 6
theorem offs_z1 {l : List UInt8} (h : Rf.isB l 0 90 122 = true) (h1 : l.length = 1) : Rf.offs l = some 0 := by
  unfold Rf.offs; rw [if_pos (isB_iff.1 h), if_pos h1]
theorem offs_z0 {l : List UInt8} (h : Rf.isB l 0 90 122 = true) (h1 : l.length ≠ 1) : Rf.offs l = none := by
  unfold Rf.offs; rw [if_pos (isB_iff.1 h), if_neg h1]
theorem offs_none {l : List UInt8} (h : Rf.isB l 0 90 122 = false) (h1 : ¬ (Rf.isB l 0 43 45 = true ∧ OffC l (Rf.numZ (l.drop 1) 2) (Rf.numZ (l.drop 4) 2))) : Rf.offs l = none := by
  unfold Rf.offs
  rw [if_neg (isB_not.1 h), if_neg]
  rintro ⟨a, b, c, d, e⟩
  exact h1 ⟨isB_iff.2 a, b, isB_iff.2 (.inl c), d, e⟩
theorem offs_some {l : List UInt8} (h : Rf.isB l 0 90 122 = false) (h1 : Rf.isB l 0 43 45 = true) (h2 : OffC l (Rf.numZ (l.drop 1) 2) (Rf.numZ (l.drop 4) 2)) :
    Rf.offs l = some (if l.getD 0 0 = 45 then -(Rf.numZ (l.drop 1) 2 * 3600 + Rf.numZ (l.drop 4) 2 * 60) else Rf.numZ (l.drop 1) 2 * 3600 + Rf.numZ (l.drop 4) 2 * 60) := by
  obtain ⟨b, c, d, e⟩ := h2
  unfold Rf.offs
  rw [if_neg (isB_not.1 h), if_pos ⟨isB_iff.1 h1, b, by have := isB_iff.1 c; simpa using this, d, e⟩]
set_option maxRecDepth 100000 in
set_option maxHeartbeats 4000000 in
theorem roffset (s : ByteArray) (k : Nat) (a : Int) (ha : a = k) (W : World) (hs : s.size ≤ 1000000000) (hk : k ≤ 1500000000) (o : Option Int) (ho : Rf.offs (s.data.toList.drop k) = o) :
    Calls Tryd.prog 39 #[.string s, .int .i64 a] W fun e w' => e = .returned (.tuple #[.int .i64 (oz o), .bool o.isSome]) ∧ w' = W := by
  subst ha
  have q0 : ∀ a b, Rf.isB s.data.toList k a b = Rf.isB (s.data.toList.drop k) 0 a b := fun a b => (isB_drop _ k 0 a b).symm
  have q3 : ∀ a b, Rf.isB s.data.toList (k + 3) a b = Rf.isB (s.data.toList.drop k) 3 a b := fun a b => (isB_drop _ k 3 a b).symm
  have ql : (s.data.toList.drop k).length = s.size - k := drop_len s k
  rcases hz : Rf.isB s.data.toList k 90 122 with _ | _
  · rw [q0] at hz
    obtain ⟨h, hh⟩ : ∃ h, Rf.numZ (s.data.toList.drop (k + 1)) 2 = h := ⟨_, rfl⟩
    obtain ⟨m, hm⟩ : ∃ m, Rf.numZ (s.data.toList.drop (k + 4)) 2 = m := ⟨_, rfl⟩
    have hb := Rf.numZ_bd (s.data.toList.drop (k + 1)) 2 (by decide)
    have mb := Rf.numZ_bd (s.data.toList.drop (k + 4)) 2 (by decide)
    rw [hh] at hb
    rw [hm] at mb
    have e1 : Rf.numZ ((s.data.toList.drop k).drop 1) 2 = h := by rw [List.drop_drop]; exact hh
    have e4 : Rf.numZ ((s.data.toList.drop k).drop 4) 2 = m := by rw [List.drop_drop]; exact hm
    have NO : ¬ (Rf.isB (s.data.toList.drop k) 0 43 45 = true ∧ OffC (s.data.toList.drop k) h m) → none = o := fun hn => by
      rw [← ho]; exact (offs_none hz (by rw [e1, e4]; exact hn)).symm
    have YES : Rf.isB (s.data.toList.drop k) 0 43 45 = true → OffC (s.data.toList.drop k) h m → some (if (s.data.toList.drop k).getD 0 0 = 45 then -(h * 3600 + m * 60) else h * 3600 + m * 60) = o := fun h1 h2 => by
      rw [← ho]
      have := offs_some hz h1 (by rw [e1, e4]; exact h2)
      rw [e1, e4] at this
      exact this.symm
    have HZ := Lib.hid (show Rf.isB s.data.toList k 90 122 = false by rw [q0]; exact hz)
    have HH := Lib.hid hh
    have HM := Lib.hid hm
    obtain ⟨hb1, hb2⟩ := hb
    obtain ⟨mb1, mb2⟩ := mb
    clear hh hm e1 e4 ho hz
    rcases hsg : Rf.isB s.data.toList k 43 45 with _ | _
    · have HE := Lib.hid (NO (fun hn => by rw [q0] at hsg; rw [hsg] at hn; exact absurd hn.1 (by decide)))
      have HSG := Lib.hid hsg
      clear hsg NO YES q0 q3 ql
      go_enter Tryd.func39, Tryd.ntmps39
      go_wp2_with fail
      refine (ris_is s k _ rfl 90 122 _ _ rfl rfl (by decide) (by decide) false _ hs HZ.out).mono ?_
      rintro e w' ⟨rfl, rfl⟩
      go_wp2_with fail
      refine (rnumber_is s (k + 1) 2 _ _ (by omega) rfl h _ hs (by omega) (by decide) (by decide) HH.out).mono ?_
      rintro e w' ⟨rfl, rfl⟩
      go_wp2_with fail
      refine (rnumber_is s (k + 4) 2 _ _ (by omega) rfl m _ hs (by omega) (by decide) (by decide) HM.out).mono ?_
      rintro e w' ⟨rfl, rfl⟩
      go_wp2_with fail
      refine (ris_is s k _ rfl 43 45 _ _ rfl rfl (by decide) (by decide) false _ hs HSG.out).mono ?_
      rintro e w' ⟨rfl, rfl⟩
      go_wp2_with fail
      go_ret2
      exact ⟨ret_intb (by rw [← HE.out]; rfl) (by rw [← HE.out]; rfl), rfl⟩
    · have HSG := Lib.hid hsg
      have sg : Rf.isB (s.data.toList.drop k) 0 43 45 = true := by rw [← q0]; exact hsg
      have cases : (h < 0 ∨ 23 < h) ∨ (0 ≤ h ∧ h ≤ 23) := by omega
      rcases cases with hc | hc
      · have HE := Lib.hid (NO (fun hn => by obtain ⟨_, ⟨a, b⟩, _⟩ := hn; omega))
        clear hsg sg NO YES q0 q3 ql
        rcases hc with hc | hc
        all_goals
          go_enter Tryd.func39, Tryd.ntmps39
          go_wp2_with fail
          refine (ris_is s k _ rfl 90 122 _ _ rfl rfl (by decide) (by decide) false _ hs HZ.out).mono ?_
          rintro e w' ⟨rfl, rfl⟩
          go_wp2_with fail
          refine (rnumber_is s (k + 1) 2 _ _ (by omega) rfl h _ hs (by omega) (by decide) (by decide) HH.out).mono ?_
          rintro e w' ⟨rfl, rfl⟩
          go_wp2_with fail
          refine (rnumber_is s (k + 4) 2 _ _ (by omega) rfl m _ hs (by omega) (by decide) (by decide) HM.out).mono ?_
          rintro e w' ⟨rfl, rfl⟩
          go_wp2_with fail
          refine (ris_is s k _ rfl 43 45 _ _ rfl rfl (by decide) (by decide) true _ hs HSG.out).mono ?_
          rintro e w' ⟨rfl, rfl⟩
          go_wp2_with fail
          go_ret2
          exact ⟨ret_intb (by rw [← HE.out]; rfl) (by rw [← HE.out]; rfl), rfl⟩
      · obtain ⟨hc1, hc2⟩ := hc
        rcases hcl : Rf.isB s.data.toList (k + 3) 58 58 with _ | _
        · have HE := Lib.hid (NO (fun hn => by obtain ⟨_, _, b, _⟩ := hn; rw [← q3, hcl] at b; cases b))
          have HCL := Lib.hid hcl
          clear hsg sg NO YES q0 q3 ql hcl
          go_enter Tryd.func39, Tryd.ntmps39
          go_wp2_with fail
          refine (ris_is s k _ rfl 90 122 _ _ rfl rfl (by decide) (by decide) false _ hs HZ.out).mono ?_
          rintro e w' ⟨rfl, rfl⟩
          go_wp2_with fail
          refine (rnumber_is s (k + 1) 2 _ _ (by omega) rfl h _ hs (by omega) (by decide) (by decide) HH.out).mono ?_
          rintro e w' ⟨rfl, rfl⟩
          go_wp2_with fail
          refine (rnumber_is s (k + 4) 2 _ _ (by omega) rfl m _ hs (by omega) (by decide) (by decide) HM.out).mono ?_
          rintro e w' ⟨rfl, rfl⟩
          go_wp2_with fail
          refine (ris_is s k _ rfl 43 45 _ _ rfl rfl (by decide) (by decide) true _ hs HSG.out).mono ?_
          rintro e w' ⟨rfl, rfl⟩
          go_wp2_with fail
          refine (ris_is s (k + 3) _ (by omega) 58 58 _ _ rfl rfl (by decide) (by decide) false _ hs HCL.out).mono ?_
          rintro e w' ⟨rfl, rfl⟩
          go_wp2_with fail
          go_ret2
          exact ⟨ret_intb (by rw [← HE.out]; rfl) (by rw [← HE.out]; rfl), rfl⟩
        · have HCL := Lib.hid hcl
          have cl : Rf.isB (s.data.toList.drop k) 3 58 58 = true := by rw [← q3]; exact hcl
          have fin : (m < 0 ∨ 59 < m ∨ (0 ≤ m ∧ m ≤ 59 ∧ ((s.size : Int) != (k : Int) + 6) = true)) ∨ (0 ≤ m ∧ m ≤ 59 ∧ s.size = k + 6) := by
            by_cases hlen : s.size = k + 6
            · omega
            · have : ((s.size : Int) != (k : Int) + 6) = true := by rw [bne_iff_ne]; omega
              rcases (show m < 0 ∨ 59 < m ∨ (0 ≤ m ∧ m ≤ 59) by omega) with h | h | ⟨h, h'⟩
              · exact .inl (.inl h)
              · exact .inl (.inr (.inl h))
              · exact .inl (.inr (.inr ⟨h, h', this⟩))
          rcases fin with hf | ⟨m1, m2, hlen⟩
          · have HE := Lib.hid (NO (fun hn => by
              obtain ⟨_, _, _, b, c⟩ := hn
              rcases hf with hf | hf | ⟨_, _, hf⟩
              · omega
              · omega
              · rw [bne_iff_ne] at hf; omega))
            clear hsg sg NO YES q0 q3 ql hcl cl
            rcases hf with hf | hf | ⟨hf, hf', hf2⟩
            all_goals
              go_enter Tryd.func39, Tryd.ntmps39
              go_wp2_with fail
              refine (ris_is s k _ rfl 90 122 _ _ rfl rfl (by decide) (by decide) false _ hs HZ.out).mono ?_
              rintro e w' ⟨rfl, rfl⟩
              go_wp2_with fail
              refine (rnumber_is s (k + 1) 2 _ _ (by omega) rfl h _ hs (by omega) (by decide) (by decide) HH.out).mono ?_
              rintro e w' ⟨rfl, rfl⟩
              go_wp2_with fail
              refine (rnumber_is s (k + 4) 2 _ _ (by omega) rfl m _ hs (by omega) (by decide) (by decide) HM.out).mono ?_
              rintro e w' ⟨rfl, rfl⟩
              go_wp2_with fail
              refine (ris_is s k _ rfl 43 45 _ _ rfl rfl (by decide) (by decide) true _ hs HSG.out).mono ?_
              rintro e w' ⟨rfl, rfl⟩
              go_wp2_with fail
              refine (ris_is s (k + 3) _ (by omega) 58 58 _ _ rfl rfl (by decide) (by decide) true _ hs HCL.out).mono ?_
              rintro e w' ⟨rfl, rfl⟩
              go_wp2_with fail
              go_ret2
              exact ⟨ret_intb (by rw [← HE.out]; rfl) (by rw [← HE.out]; rfl), rfl⟩
          · have HE := Lib.hid (YES sg ⟨⟨hc1, hc2⟩, cl, ⟨m1, m2⟩, by rw [ql]; omega⟩)
            have hlt : k < s.size := by omega
            have hg := drop_at s k 0 (by omega)
            simp only [Nat.add_zero] at hg
            have HG := Lib.hid hg
            have hl2 : ((s.size : Int) != (k : Int) + 6) = false := by rw [bne_eq_false_iff_eq]; omega
            clear hsg sg NO YES q0 q3 ql hcl cl hlen hg
            by_cases h45 : s[k] = 45
            · have HS := Lib.hid (show some (-(h * 3600 + m * 60)) = o by rw [← HE.out, HG.out, if_pos h45])
              have g1 : ((s[k].toNat : Int) == 45) = true := by rw [h45]; rfl
              clear h45
              go_enter Tryd.func39, Tryd.ntmps39
              go_wp2_with fail
              refine (ris_is s k _ rfl 90 122 _ _ rfl rfl (by decide) (by decide) false _ hs HZ.out).mono ?_
              rintro e w' ⟨rfl, rfl⟩
              go_wp2_with fail
              refine (rnumber_is s (k + 1) 2 _ _ (by omega) rfl h _ hs (by omega) (by decide) (by decide) HH.out).mono ?_
              rintro e w' ⟨rfl, rfl⟩
              go_wp2_with fail
              refine (rnumber_is s (k + 4) 2 _ _ (by omega) rfl m _ hs (by omega) (by decide) (by decide) HM.out).mono ?_
              rintro e w' ⟨rfl, rfl⟩
              go_wp2_with fail
              refine (ris_is s k _ rfl 43 45 _ _ rfl rfl (by decide) (by decide) true _ hs HSG.out).mono ?_
              rintro e w' ⟨rfl, rfl⟩
              go_wp2_with fail
              refine (ris_is s (k + 3) _ (by omega) 58 58 _ _ rfl rfl (by decide) (by decide) true _ hs HCL.out).mono ?_
              rintro e w' ⟨rfl, rfl⟩
              go_wp2_with fail
              go_ret2
              exact ⟨ret_intb (by rw [← HS.out]; rfl) (by rw [← HS.out]; rfl), rfl⟩
            · have HS := Lib.hid (show some (h * 3600 + m * 60) = o by rw [← HE.out, HG.out, if_neg h45])
              have g1 : ((s[k].toNat : Int) == 45) = false := u8_ne (by decide) h45
              clear h45
              go_enter Tryd.func39, Tryd.ntmps39
              go_wp2_with fail
              refine (ris_is s k _ rfl 90 122 _ _ rfl rfl (by decide) (by decide) false _ hs HZ.out).mono ?_
              rintro e w' ⟨rfl, rfl⟩
              go_wp2_with fail
              refine (rnumber_is s (k + 1) 2 _ _ (by omega) rfl h _ hs (by omega) (by decide) (by decide) HH.out).mono ?_
              rintro e w' ⟨rfl, rfl⟩
              go_wp2_with fail
              refine (rnumber_is s (k + 4) 2 _ _ (by omega) rfl m _ hs (by omega) (by decide) (by decide) HM.out).mono ?_
              rintro e w' ⟨rfl, rfl⟩
              go_wp2_with fail
              refine (ris_is s k _ rfl 43 45 _ _ rfl rfl (by decide) (by decide) true _ hs HSG.out).mono ?_
              rintro e w' ⟨rfl, rfl⟩
              go_wp2_with fail
              refine (ris_is s (k + 3) _ (by omega) 58 58 _ _ rfl rfl (by decide) (by decide) true _ hs HCL.out).mono ?_
              rintro e w' ⟨rfl, rfl⟩
              go_wp2_with fail
              go_ret2
              exact ⟨ret_intb (by rw [← HS.out]; rfl) (by rw [← HS.out]; rfl), rfl⟩
  · rw [q0] at hz
    have HZ := Lib.hid (show Rf.isB s.data.toList k 90 122 = true by rw [q0]; exact hz)
    by_cases h1 : s.size = k + 1
    · have HE := Lib.hid (show some 0 = o by rw [← ho]; exact (offs_z1 hz (by rw [ql]; omega)).symm)
      have g1 : ((s.size : Int) == (k : Int) + 1) = true := by rw [beq_iff_eq]; omega
      clear hz ho q0 q3 ql h1
      go_enter Tryd.func39, Tryd.ntmps39
      go_wp2_with fail
      refine (ris_is s k _ rfl 90 122 _ _ rfl rfl (by decide) (by decide) true _ hs HZ.out).mono ?_
      rintro e w' ⟨rfl, rfl⟩
      go_wp2_with fail
      go_ret2
      exact ⟨ret_intb (by rw [← HE.out]; rfl) (by rw [← HE.out]; rfl), rfl⟩
    · have HE := Lib.hid (show none = o by rw [← ho]; exact (offs_z0 hz (by rw [ql]; omega)).symm)
      have g1 : ((s.size : Int) == (k : Int) + 1) = false := by rw [beq_eq_false_iff_ne]; omega
      clear hz ho q0 q3 ql h1
      go_enter Tryd.func39, Tryd.ntmps39
      go_wp2_with fail
      refine (ris_is s k _ rfl 90 122 _ _ rfl rfl (by decide) (by decide) true _ hs HZ.out).mono ?_
      rintro e w' ⟨rfl, rfl⟩
      go_wp2_with fail
      go_ret2
      exact ⟨ret_intb (by rw [← HE.out]; rfl) (by rw [← HE.out]; rfl), rfl⟩
theorem roffset_yes (s : ByteArray) (k : Nat) (a : Int) (ha : a = k) (n : Int) (W : World) (hs : s.size ≤ 1000000000) (hk : k ≤ 1500000000) (ho : Rf.offs (s.data.toList.drop k) = some n) :
    Calls Tryd.prog 39 #[.string s, .int .i64 a] W fun e w' => e = .returned (.tuple #[.int .i64 n, .bool true]) ∧ w' = W :=
  roffset s k a ha W hs hk _ ho
theorem roffset_no (s : ByteArray) (k : Nat) (a : Int) (ha : a = k) (W : World) (hs : s.size ≤ 1000000000) (hk : k ≤ 1500000000) (ho : Rf.offs (s.data.toList.drop k) = none) :
    Calls Tryd.prog 39 #[.string s, .int .i64 a] W fun e w' => e = .returned (.tuple #[.int .i64 0, .bool false]) ∧ w' = W :=
  roffset s k a ha W hs hk _ ho
end Go.Proofs.YtikjehgbfkndjaaDoor.Rw
