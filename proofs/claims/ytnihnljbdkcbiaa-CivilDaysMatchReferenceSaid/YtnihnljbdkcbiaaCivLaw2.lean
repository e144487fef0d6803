import Derived.Test.YtnihnljbdkcbiaaProg
import Derived.Test.YtnihnljbdkcbiaaCivLaw
import Derived.WalkKit
import Derived.Outline
import Derived.Below
import Derived.Lib.Hide
namespace Go.Proofs.Ytnihnljbdkcbiaa.Civ
open Go Go.RowKit Go.Proofs.Ytnihnljbdkcbiaa

/-! plain -/
theorem wd_next (n : Int) : Cal.wd (n + 1) = (Cal.wd n + 1) % 7 := by unfold Cal.wd; omega
theorem next_in (n : Int) (h1 : -719162 ≤ n) (h2 : n < 2932896) (h : Cal.dD n < Cal.dim (Cal.dY n) (Cal.dM n)) :
    Cal.dY (n + 1) = Cal.dY n ∧ Cal.dM (n + 1) = Cal.dM n ∧ Cal.dD (n + 1) = Cal.dD n + 1 := by
  obtain ⟨⟨v1, v2, v3, v4, v5, v6⟩, vn⟩ := Cal.date_valid n h1 (by omega)
  obtain ⟨a, b, c⟩ := Cal.date_of (n + 1) (Cal.dY n) (Cal.dM n) (Cal.dD n + 1) ⟨v1, v2, v3, v4, by omega, by omega⟩ (by unfold Cal.num at vn ⊢; omega)
  exact ⟨a.symm, b.symm, c.symm⟩
theorem next_month (n : Int) (h1 : -719162 ≤ n) (h2 : n < 2932896) (h : ¬ Cal.dD n < Cal.dim (Cal.dY n) (Cal.dM n)) (hm : Cal.dM n < 12) :
    Cal.dY (n + 1) = Cal.dY n ∧ Cal.dM (n + 1) = Cal.dM n + 1 ∧ Cal.dD (n + 1) = 1 := by
  obtain ⟨⟨v1, v2, v3, v4, v5, v6⟩, vn⟩ := Cal.date_valid n h1 (by omega)
  have c := Cal.cum_succ (Cal.dY n) (Cal.dM n) v1 v2 v3 v4
  have p := Cal.dim_pos (Cal.dY n) (Cal.dM n + 1) v1 v2 (by omega) (by omega)
  obtain ⟨a, b, d⟩ := Cal.date_of (n + 1) (Cal.dY n) (Cal.dM n + 1) 1 ⟨v1, v2, by omega, by omega, by omega, by omega⟩ (by unfold Cal.num at vn ⊢; omega)
  exact ⟨a.symm, b.symm, d.symm⟩
theorem next_year (n : Int) (h1 : -719162 ≤ n) (h2 : n < 2932896) (h : ¬ Cal.dD n < Cal.dim (Cal.dY n) (Cal.dM n)) (hm : ¬ Cal.dM n < 12) :
    Cal.dY (n + 1) = Cal.dY n + 1 ∧ Cal.dM (n + 1) = 1 ∧ Cal.dD (n + 1) = 1 := by
  obtain ⟨⟨v1, v2, v3, v4, v5, v6⟩, vn⟩ := Cal.date_valid n h1 (by omega)
  have e : Cal.dM n = 12 := by omega
  rw [e] at v6 h vn
  have c := Cal.cum_succ (Cal.dY n) 12 v1 v2 (by omega) (by omega)
  rw [show (12 : Int) + 1 = 13 from rfl, Cal.cum_13] at c
  have s := Cal.bef_succ (Cal.dY n) v1 v2
  have y : Cal.dY n + 1 ≤ 9999 := by
    by_cases k : Cal.dY n = 9999
    · rw [k] at s; rw [show (9999 : Int) + 1 = 10000 from rfl, Cal.bef_10000] at s
      rw [k] at c vn h
      unfold Cal.num at vn; omega
    · omega
  have p := Cal.dim_pos (Cal.dY n + 1) 1 (by omega) y (by omega) (by omega)
  obtain ⟨a, b, d⟩ := Cal.date_of (n + 1) (Cal.dY n + 1) 1 1 ⟨by omega, y, by omega, by omega, by omega, by omega⟩ (by unfold Cal.num at vn ⊢; rw [Cal.cum_1]; omega)
  exact ⟨a.symm, b.symm, d.symm⟩
theorem leap_400 (y : Int) (h1 : 1 ≤ y) (h2 : y ≤ 9599) : Cal.leapB (y + 400) = Cal.leapB y := by
  rw [Bool.eq_iff_iff, Cal.leapB_iff, Cal.leapB_iff]; omega
theorem dim_400 (y m : Int) (h1 : 1 ≤ y) (h2 : y ≤ 9599) : Cal.dim (y + 400) m = Cal.dim y m := by
  unfold Cal.dim Cal.lp; rw [leap_400 y h1 h2]
  by_cases h : m < 1 ∨ 12 < m
  · rw [if_pos (show y + 400 < 1 ∨ 9999 < y + 400 ∨ m < 1 ∨ 12 < m by omega), if_pos (show y < 1 ∨ 9999 < y ∨ m < 1 ∨ 12 < m by omega)]
  · rw [if_neg (show ¬ (y + 400 < 1 ∨ 9999 < y + 400 ∨ m < 1 ∨ 12 < m) by omega), if_neg (show ¬ (y < 1 ∨ 9999 < y ∨ m < 1 ∨ 12 < m) by omega)]
theorem num_400 (y m d : Int) (h1 : 1 ≤ y) (h2 : y ≤ 9599) : Cal.num (y + 400) m d = Cal.num y m d + 146097 := by
  have a : Cal.cum (y + 400) m = Cal.cum y m := by unfold Cal.cum Cal.lp; rw [leap_400 y h1 h2]
  unfold Cal.num; rw [a]; unfold Cal.bef; omega
theorem wd_400 (n : Int) : Cal.wd (n + 146097) = Cal.wd n := by unfold Cal.wd; omega
theorem wd_bd (n : Int) : 0 ≤ Cal.wd n ∧ Cal.wd n ≤ 6 := by unfold Cal.wd; omega

theorem law_cycle (y m d : Int) (w : World) :
    Calls Try.prog 8 #[.int .i64 y, .int .i64 m, .int .i64 d] w fun e w' => e = .returned (.bool true) ∧ Below w.heap.size w w' := by
  by_cases hy : 1 ≤ y ∧ y ≤ 9599
  · obtain ⟨y1, y2⟩ := hy
    have D4 := Lib.hid (dim_400 y m y1 y2)
    by_cases h : 1 ≤ d ∧ d ≤ Cal.dim y m
    · have H4 := Lib.hid (show 1 ≤ d ∧ d ≤ Cal.dim (y + 400) m by rw [D4.out]; exact h)
      have N4 := num_400 y m d y1 y2
      have n1 := Cal.num_bd y m d (range_of y m d h.1 h.2)
      have n2 := Cal.num_bd (y + 400) m d (range_of _ m d H4.out.1 H4.out.2)
      have HN1 := Lib.hid n1
      have HN2 := Lib.hid n2
      have H := Lib.hid h
      have E1 := Lib.hid (show (Cal.num (y + 400) m d == Cal.num y m d + 146097) = true by rw [N4]; simp)
      have E2 := Lib.hid (show (Cal.wd (Cal.num y m d) == Cal.wd (Cal.num (y + 400) m d)) = true by rw [N4, wd_400]; simp)
      clear h N4 n2
      go_enter Try.func8, Try.ntmps8
      go_wp2_with fail
      refine (days_yes _ _ _ _ H.out.1 H.out.2).mono ?_
      rintro e w' ⟨rfl, rfl⟩
      go_wp2_with fail
      refine (days_yes _ _ _ _ H4.out.1 H4.out.2).mono ?_
      rintro e w' ⟨rfl, rfl⟩
      go_wp2_with fail
      refine (wd_yes _ _ HN1.out.1 HN1.out.2).mono ?_
      rintro e w' ⟨rfl, rfl⟩
      go_wp2_with fail
      refine (wd_yes _ _ HN2.out.1 HN2.out.2).mono ?_
      rintro e w' ⟨rfl, rfl⟩
      go_wp2_with fail
      refine (alive_any _).mono ?_
      rintro e w2 ⟨rfl, hb⟩
      have HB := Lib.hid hb
      clear hb
      have e1 := E1.out
      have e2 := E2.out
      go_wp2_with fail
      go_ret
      exact ⟨rfl, HB.out⟩
    · have H4 := Lib.hid (show ¬ (1 ≤ d ∧ d ≤ Cal.dim (y + 400) m) by rw [D4.out]; exact h)
      have H := Lib.hid h
      clear h
      go_enter Try.func8, Try.ntmps8
      go_wp2_with fail
      refine (days_no _ _ _ _ H.out).mono ?_
      rintro e w' ⟨rfl, rfl⟩
      go_wp2_with fail
      refine (days_no _ _ _ _ H4.out).mono ?_
      rintro e w' ⟨rfl, rfl⟩
      go_wp2_with fail
      refine (alive_any _).mono ?_
      rintro e w2 ⟨rfl, hb⟩
      have HB := Lib.hid hb
      clear hb
      go_wp2_with fail
      go_ret
      exact ⟨rfl, HB.out⟩
  · have hy' : y < 1 ∨ 9599 < y := by omega
    clear hy
    rcases hy' with hy | hy
    all_goals
      go_enter Try.func8, Try.ntmps8
      go_wp2_with fail
      refine (alive_any _).mono ?_
      rintro e w2 ⟨rfl, hb⟩
      have HB := Lib.hid hb
      clear hb
      go_wp2_with fail
      go_ret
      exact ⟨rfl, HB.out⟩

theorem law_seconds (y m d h mi s : Int) (w : World) :
    Calls Try.prog 7 #[.agg #[.int .i64 y, .int .i64 m, .int .i64 d], .agg #[.int .i64 h, .int .i64 mi, .int .i64 s]] w fun e w' => e = .returned (.bool true) ∧ Below w.heap.size w w' := by
  have F0 : ∀ a b c : Int, ∀ w1 : World, Below w.heap.size w ((w.alloc (.cells #[.int .i64 y, .int .i64 m, .int .i64 d] 41)).alloc (.cells #[.int .i64 h, .int .i64 mi, .int .i64 s] 41)) := fun _ _ _ _ => ((Below.refl _ _).alloc (Nat.le_refl _) _).alloc (by simp) _
  by_cases hd : 1 ≤ d ∧ d ≤ Cal.dim y m
  · by_cases hc : 0 ≤ h ∧ h ≤ 23 ∧ 0 ≤ mi ∧ mi ≤ 59 ∧ 0 ≤ s ∧ s ≤ 59
    · have hn := Cal.num_bd y m d (range_of y m d hd.1 hd.2)
      have n1 : -62135596800 ≤ Cal.num y m d * 86400 + (h * 3600 + mi * 60 + s) := by omega
      have n2 : Cal.num y m d * 86400 + (h * 3600 + mi * 60 + s) ≤ 253402300799 := by omega
      have H := Lib.hid hd
      have HC := Lib.hid hc
      clear hd hc hn
      go_enter Try.func7, Try.ntmps7
      go_wp2_with fail
      refine (sec_yes _ _ _ _ _ _ _ H.out.1 H.out.2 HC.out.1 HC.out.2.1 HC.out.2.2.1 HC.out.2.2.2.1 HC.out.2.2.2.2.1 HC.out.2.2.2.2.2).mono ?_
      rintro e w' ⟨rfl, rfl⟩
      go_wp2_with fail
      refine (rsec_yes _ _ _ _ _ _ _ H.out.1 H.out.2 HC.out.1 HC.out.2.1 HC.out.2.2.1 HC.out.2.2.2.1 HC.out.2.2.2.2.1 HC.out.2.2.2.2.2).mono ?_
      rintro e w' ⟨rfl, rfl⟩
      go_wp2_with fail
      refine (alive_any _).mono ?_
      rintro e w2 ⟨rfl, hb⟩
      have HB := Lib.hid ((F0 0 0 0 w).trans (hb.mono (by simp; omega)))
      clear hb
      go_wp2_with fail
      go_ret
      exact ⟨rfl, HB.out⟩
    · have H := Lib.hid hd
      have HC := Lib.hid hc
      clear hd hc
      go_enter Try.func7, Try.ntmps7
      go_wp2_with fail
      refine (sec_no _ _ _ _ _ _ _ H.out.1 H.out.2 HC.out).mono ?_
      rintro e w' ⟨rfl, rfl⟩
      go_wp2_with fail
      refine (rsec_no _ _ _ _ _ _ _ H.out.1 H.out.2 HC.out).mono ?_
      rintro e w' ⟨rfl, rfl⟩
      go_wp2_with fail
      refine (alive_any _).mono ?_
      rintro e w2 ⟨rfl, hb⟩
      have HB := Lib.hid ((F0 0 0 0 w).trans (hb.mono (by simp; omega)))
      clear hb
      go_wp2_with fail
      go_ret
      exact ⟨rfl, HB.out⟩
  · have H := Lib.hid hd
    clear hd
    go_enter Try.func7, Try.ntmps7
    go_wp2_with fail
    refine (sec_no_date _ _ _ _ _ _ _ H.out).mono ?_
    rintro e w' ⟨rfl, rfl⟩
    go_wp2_with fail
    refine (rsec_no_date _ _ _ _ _ _ _ H.out).mono ?_
    rintro e w' ⟨rfl, rfl⟩
    go_wp2_with fail
    refine (alive_any _).mono ?_
    rintro e w2 ⟨rfl, hb⟩
    have HB := Lib.hid ((F0 0 0 0 w).trans (hb.mono (by simp; omega)))
    clear hb
    go_wp2_with fail
    go_ret
    exact ⟨rfl, HB.out⟩

set_option maxRecDepth 100000 in
set_option maxHeartbeats 1000000 in
theorem law_next (n : Int) (w : World) :
    Calls Try.prog 6 #[.int .i64 n] w fun e w' => e = .returned (.bool true) ∧ Below w.heap.size w w' := by
  by_cases h : -719162 ≤ n ∧ n < 2932896
  · obtain ⟨h1, h2⟩ := h
    have bw := wd_bd n
    have W1 := Lib.hid (show (Cal.wd (n + 1) != (Cal.wd n + 1) % 7) = false by rw [wd_next]; simp)
    obtain ⟨⟨v1, v2, v3, v4, v5, v6⟩, _⟩ := Cal.date_valid n h1 (by omega)
    have v7 := Cal.dim_bd (Cal.dY n) (Cal.dM n)
    by_cases c1 : Cal.dD n < Cal.dim (Cal.dY n) (Cal.dM n)
    · obtain ⟨a, b, c⟩ := next_in n h1 h2 c1
      have E1 := Lib.hid (show (Cal.dY (n + 1) == Cal.dY n) = true by rw [a]; simp)
      have E2 := Lib.hid (show (Cal.dM (n + 1) == Cal.dM n) = true by rw [b]; simp)
      have E3 := Lib.hid (show (Cal.dD (n + 1) == Cal.dD n + 1) = true by rw [c]; simp)
      clear a b c
      go_enter Try.func6, Try.ntmps6
      go_wp2_with fail
      refine (date_yes n _ h1 (by omega)).mono ?_
      rintro e w1 ⟨rfl, hb⟩
      have HB := Lib.hid hb
      clear hb
      go_wp2_with fail
      refine (date_yes (n + 1) _ (by omega) (by omega)).mono ?_
      rintro e w2 ⟨rfl, hb⟩
      have HB2 := Lib.hid (HB.out.trans (hb.mono HB.out.size))
      clear hb
      go_wp2_with fail
      refine (wd_yes n _ h1 (by omega)).mono ?_
      rintro e w' ⟨rfl, rfl⟩
      go_wp2_with fail
      refine (wd_yes (n + 1) _ (by omega) (by omega)).mono ?_
      rintro e w' ⟨rfl, rfl⟩
      have e0 := W1.out
      go_wp2_with fail
      refine (dim_any _ _ _).mono ?_
      rintro e w' ⟨rfl, rfl⟩
      go_wp2_with fail
      refine (alive_any _).mono ?_
      rintro e w3 ⟨rfl, hb⟩
      have HB3 := Lib.hid (HB2.out.trans (hb.mono HB2.out.size))
      clear hb
      have e1 := E1.out
      have e2 := E2.out
      have e3 := E3.out
      go_wp2_with fail
      go_ret
      exact ⟨rfl, HB3.out⟩
    · by_cases c2 : Cal.dM n < 12
      · obtain ⟨a, b, c⟩ := next_month n h1 h2 c1 c2
        have E1 := Lib.hid (show (Cal.dY (n + 1) == Cal.dY n) = true by rw [a]; simp)
        have E2 := Lib.hid (show (Cal.dM (n + 1) == Cal.dM n + 1) = true by rw [b]; simp)
        have E3 := Lib.hid (show (Cal.dD (n + 1) == 1) = true by rw [c]; simp)
        clear a b c
        go_enter Try.func6, Try.ntmps6
        go_wp2_with fail
        refine (date_yes n _ h1 (by omega)).mono ?_
        rintro e w1 ⟨rfl, hb⟩
        have HB := Lib.hid hb
        clear hb
        go_wp2_with fail
        refine (date_yes (n + 1) _ (by omega) (by omega)).mono ?_
        rintro e w2 ⟨rfl, hb⟩
        have HB2 := Lib.hid (HB.out.trans (hb.mono HB.out.size))
        clear hb
        go_wp2_with fail
        refine (wd_yes n _ h1 (by omega)).mono ?_
        rintro e w' ⟨rfl, rfl⟩
        go_wp2_with fail
        refine (wd_yes (n + 1) _ (by omega) (by omega)).mono ?_
        rintro e w' ⟨rfl, rfl⟩
        have e0 := W1.out
        go_wp2_with fail
        refine (dim_any _ _ _).mono ?_
        rintro e w' ⟨rfl, rfl⟩
        go_wp2_with fail
        refine (alive_any _).mono ?_
        rintro e w3 ⟨rfl, hb⟩
        have HB3 := Lib.hid (HB2.out.trans (hb.mono HB2.out.size))
        clear hb
        have e1 := E1.out
        have e2 := E2.out
        have e3 := E3.out
        go_wp2_with fail
        go_ret
        exact ⟨rfl, HB3.out⟩
      · obtain ⟨a, b, c⟩ := next_year n h1 h2 c1 c2
        have E1 := Lib.hid (show (Cal.dY (n + 1) == Cal.dY n + 1) = true by rw [a]; simp)
        have E2 := Lib.hid (show (Cal.dM (n + 1) == 1) = true by rw [b]; simp)
        have E3 := Lib.hid (show (Cal.dD (n + 1) == 1) = true by rw [c]; simp)
        clear a b c
        go_enter Try.func6, Try.ntmps6
        go_wp2_with fail
        refine (date_yes n _ h1 (by omega)).mono ?_
        rintro e w1 ⟨rfl, hb⟩
        have HB := Lib.hid hb
        clear hb
        go_wp2_with fail
        refine (date_yes (n + 1) _ (by omega) (by omega)).mono ?_
        rintro e w2 ⟨rfl, hb⟩
        have HB2 := Lib.hid (HB.out.trans (hb.mono HB.out.size))
        clear hb
        go_wp2_with fail
        refine (wd_yes n _ h1 (by omega)).mono ?_
        rintro e w' ⟨rfl, rfl⟩
        go_wp2_with fail
        refine (wd_yes (n + 1) _ (by omega) (by omega)).mono ?_
        rintro e w' ⟨rfl, rfl⟩
        have e0 := W1.out
        go_wp2_with fail
        refine (dim_any _ _ _).mono ?_
        rintro e w' ⟨rfl, rfl⟩
        go_wp2_with fail
        refine (alive_any _).mono ?_
        rintro e w3 ⟨rfl, hb⟩
        have HB3 := Lib.hid (HB2.out.trans (hb.mono HB2.out.size))
        clear hb
        have e1 := E1.out
        have e2 := E2.out
        have e3 := E3.out
        go_wp2_with fail
        go_ret
        exact ⟨rfl, HB3.out⟩
  · have h' : n < -719162 ∨ 2932896 ≤ n := by omega
    clear h
    rcases h' with h | h
    all_goals
      go_enter Try.func6, Try.ntmps6
      go_wp2_with fail
      refine (alive_any _).mono ?_
      rintro e w2 ⟨rfl, hb⟩
      have HB := Lib.hid hb
      clear hb
      go_wp2_with fail
      go_ret
      exact ⟨rfl, HB.out⟩
end Go.Proofs.Ytnihnljbdkcbiaa.Civ
