import Derived.Test.YtnihnljbdkcbiaaProg
import Derived.Test.YtnihnljbdkcbiaaCivW3
import Derived.WalkKit
import Derived.Outline
import Derived.Below
import Derived.Lib.Hide
namespace Go.Proofs.Ytnihnljbdkcbiaa.Civ
open Go Go.RowKit Go.Proofs.Ytnihnljbdkcbiaa

theorem days_2000 (w : World) : Calls Try.prog 14 #[.int .i64 2000, .int .i64 3, .int .i64 1] w fun e w' => e = .returned (.tuple #[.int .i64 11017, .int .i64 0]) ∧ w = w' :=
  days_yes 2000 3 1 w (by decide) (by decide)
theorem date_19000 (w : World) : Calls Try.prog 16 #[.int .i64 19000] w fun e w' => e = .returned (.tuple #[.int .i64 2022, .int .i64 1, .int .i64 8, .int .i64 0]) ∧ Below w.heap.size w w' :=
  date_yes 19000 w (by decide) (by decide)
theorem wd_19000 (w : World) : Calls Try.prog 18 #[.int .i64 19000] w fun e w' => e = .returned (.tuple #[.int .i64 6, .int .i64 0]) ∧ w = w' :=
  wd_yes 19000 w (by decide) (by decide)
theorem days_1900 (w : World) : Calls Try.prog 14 #[.int .i64 1900, .int .i64 2, .int .i64 29] w fun e w' => e = .returned (.tuple #[.int .i64 0, .int .i64 3]) ∧ w = w' :=
  days_no 1900 2 29 w (by decide)
theorem sec_1970 (w : World) : Calls Try.prog 20 #[.int .i64 1970, .int .i64 1, .int .i64 2, .int .i64 0, .int .i64 1, .int .i64 1] w fun e w' => e = .returned (.tuple #[.int .i64 86461, .int .i64 0]) ∧ w = w' :=
  sec_yes 1970 1 2 0 1 1 w (by decide) (by decide) (by decide) (by decide) (by decide) (by decide) (by decide) (by decide)
theorem leap_2000 (w : World) : Calls Try.prog 10 #[.int .i64 2000] w fun e w' => e = .returned (.bool true) ∧ w = w' :=
  leap_any 2000 w
theorem dim_2001 (w : World) : Calls Try.prog 12 #[.int .i64 2001, .int .i64 2] w fun e w' => e = .returned (.int .i64 28) ∧ w = w' :=
  dim_any 2001 2 w

set_option maxRecDepth 100000 in
set_option maxHeartbeats 1000000 in
theorem alive_any (w : World) : Calls Try.prog 9 #[] w fun e w' => e = .returned (.bool true) ∧ Below w.heap.size w w' := by
  go_enter Try.func9, Try.ntmps9
  go_wp2_with fail
  refine (days_2000 _).mono ?_
  rintro e w' ⟨rfl, rfl⟩
  go_wp2_with fail
  refine (date_19000 _).mono ?_
  rintro e w1 ⟨rfl, hb⟩
  have HB := Lib.hid hb
  clear hb
  go_wp2_with fail
  refine (wd_19000 _).mono ?_
  rintro e w' ⟨rfl, rfl⟩
  go_wp2_with fail
  refine (days_1900 _).mono ?_
  rintro e w' ⟨rfl, rfl⟩
  go_wp2_with fail
  refine (sec_1970 _).mono ?_
  rintro e w' ⟨rfl, rfl⟩
  go_wp2_with fail
  refine (leap_2000 _).mono ?_
  rintro e w' ⟨rfl, rfl⟩
  go_wp2_with fail
  refine (dim_2001 _).mono ?_
  rintro e w' ⟨rfl, rfl⟩
  go_wp2_with fail
  go_ret
  exact ⟨rfl, HB.out⟩

theorem law_years (y m : Int) (w : World) :
    Calls Try.prog 3 #[.int .i64 y, .int .i64 m] w fun e w' => e = .returned (.bool true) ∧ Below w.heap.size w w' := by
  go_enter Try.func3, Try.ntmps3
  go_wp2_with fail
  refine (alive_any _).mono ?_
  rintro e w1 ⟨rfl, hb⟩
  have HB := Lib.hid hb
  clear hb
  go_wp2_with (first | (go_at_call 10; refine (leap_any _ _).mono ?_; rintro e w' ⟨rfl, rfl⟩) | (go_at_call 11; refine (rleap_any _ _).mono ?_; rintro e w' ⟨rfl, rfl⟩) | (go_at_call 12; refine (dim_any _ _ _).mono ?_; rintro e w' ⟨rfl, rfl⟩) | (go_at_call 13; refine (rdim_any _ _ _).mono ?_; rintro e w' ⟨rfl, rfl⟩))
  go_ret
  exact ⟨rfl, HB.out⟩

theorem law_days (y m d : Int) (w : World) :
    Calls Try.prog 4 #[.int .i64 y, .int .i64 m, .int .i64 d] w fun e w' => e = .returned (.bool true) ∧ Below w.heap.size w w' := by
  by_cases h : 1 ≤ d ∧ d ≤ Cal.dim y m
  · have hv := range_of y m d h.1 h.2
    have hn := Cal.num_bd y m d hv
    obtain ⟨eY, eM, eD⟩ := Cal.date_of _ y m d hv rfl
    have EY := Lib.hid (show (Cal.dY (Cal.num y m d) == y) = true by rw [← eY]; simp)
    have EM := Lib.hid (show (Cal.dM (Cal.num y m d) == m) = true by rw [← eM]; simp)
    have ED := Lib.hid (show (Cal.dD (Cal.num y m d) == d) = true by rw [← eD]; simp)
    have H := Lib.hid h
    clear h eY eM eD hv
    go_enter Try.func4, Try.ntmps4
    go_wp2_with fail
    refine (days_yes _ _ _ _ H.out.1 H.out.2).mono ?_
    rintro e w' ⟨rfl, rfl⟩
    go_wp2_with fail
    refine (rdays_yes _ _ _ _ H.out.1 H.out.2).mono ?_
    rintro e w' ⟨rfl, rfl⟩
    go_wp2_with fail
    refine (date_yes _ _ hn.1 hn.2).mono ?_
    rintro e w1 ⟨rfl, hb⟩
    have HB := Lib.hid hb
    clear hb
    go_wp2_with fail
    refine (alive_any _).mono ?_
    rintro e w2 ⟨rfl, hb⟩
    have HB2 := Lib.hid (HB.out.trans (hb.mono HB.out.size))
    clear hb
    have ey := EY.out
    have em := EM.out
    have ed := ED.out
    go_wp2_with fail
    go_ret
    exact ⟨rfl, HB2.out⟩
  · have H := Lib.hid h
    clear h
    go_enter Try.func4, Try.ntmps4
    go_wp2_with fail
    refine (days_no _ _ _ _ H.out).mono ?_
    rintro e w' ⟨rfl, rfl⟩
    go_wp2_with fail
    refine (rdays_no _ _ _ _ H.out).mono ?_
    rintro e w' ⟨rfl, rfl⟩
    go_wp2_with fail
    refine (alive_any _).mono ?_
    rintro e w2 ⟨rfl, hb⟩
    have HB := Lib.hid hb
    clear hb
    go_wp2_with fail
    go_ret
    exact ⟨rfl, HB.out⟩

set_option maxRecDepth 100000 in
theorem law_date (n : Int) (w : World) :
    Calls Try.prog 5 #[.int .i64 n] w fun e w' => e = .returned (.bool true) ∧ Below w.heap.size w w' := by
  by_cases h : -719162 ≤ n ∧ n ≤ 2932896
  · obtain ⟨h1, h2⟩ := h
    obtain ⟨⟨_, _, _, _, v5, v6⟩, vn⟩ := Cal.date_valid n h1 h2
    have VN := Lib.hid (show (Cal.num (Cal.dY n) (Cal.dM n) (Cal.dD n) == n) = true by rw [vn]; simp)
    have H := Lib.hid (And.intro v5 v6)
    clear vn v5 v6
    go_enter Try.func5, Try.ntmps5
    go_wp2_with fail
    refine (date_yes _ _ h1 h2).mono ?_
    rintro e w1 ⟨rfl, hb⟩
    have HB := Lib.hid hb
    clear hb
    go_wp2_with fail
    refine (rdate_yes _ _ h1 h2).mono ?_
    rintro e w' ⟨rfl, rfl⟩
    go_wp2_with fail
    refine (wd_yes _ _ h1 h2).mono ?_
    rintro e w' ⟨rfl, rfl⟩
    go_wp2_with fail
    refine (rwd_yes _ _ h1 h2).mono ?_
    rintro e w' ⟨rfl, rfl⟩
    go_wp2_with fail
    refine (days_yes _ _ _ _ H.out.1 H.out.2).mono ?_
    rintro e w' ⟨rfl, rfl⟩
    go_wp2_with fail
    refine (alive_any _).mono ?_
    rintro e w2 ⟨rfl, hb⟩
    have HB2 := Lib.hid (HB.out.trans (hb.mono HB.out.size))
    clear hb
    have ey := VN.out
    go_wp2_with fail
    go_ret
    exact ⟨rfl, HB2.out⟩
  · have h' : n < -719162 ∨ 2932896 < n := by omega
    have H := Lib.hid h'
    clear h h'
    go_enter Try.func5, Try.ntmps5
    go_wp2_with fail
    refine (date_no _ _ H.out).mono ?_
    rintro e w' ⟨rfl, rfl⟩
    go_wp2_with fail
    refine (rdate_no _ _ H.out).mono ?_
    rintro e w' ⟨rfl, rfl⟩
    go_wp2_with fail
    refine (wd_no _ _ H.out).mono ?_
    rintro e w' ⟨rfl, rfl⟩
    go_wp2_with fail
    refine (rwd_no _ _ H.out).mono ?_
    rintro e w' ⟨rfl, rfl⟩
    go_wp2_with fail
    refine (alive_any _).mono ?_
    rintro e w2 ⟨rfl, hb⟩
    have HB := Lib.hid hb
    clear hb
    go_wp2_with fail
    go_ret
    exact ⟨rfl, HB.out⟩
end Go.Proofs.Ytnihnljbdkcbiaa.Civ
