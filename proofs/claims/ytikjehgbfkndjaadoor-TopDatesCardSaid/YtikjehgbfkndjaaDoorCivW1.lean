import Derived.Test.YtikjehgbfkndjaaDoorProg
import Derived.Test.YtikjehgbfkndjaaDoorCal
import Derived.WalkKit
import Derived.Outline
import Derived.Below
import Derived.Lib.Hide
import Derived.RegionTactic
import Derived.BigQuiet
import Derived.Deep.QuietTactic
import Derived.ChangeAlike
namespace Go.Proofs.YtikjehgbfkndjaaDoor.Civ
open Go Go.RowKit Go.Proofs.YtikjehgbfkndjaaDoor

theorem ret_bool {a b : Bool} (h : a = b) : Ending.returned (.bool a) = .returned (.bool b) := by rw [h]
theorem ret_int {k : IntKind} {a b : Int} (h : a = b) : Ending.returned (.int k a) = .returned (.int k b) := by rw [h]

theorem leap_any (y : Int) (w : World) :
    Calls Tryd.prog 53 #[.int .i64 y] w fun e w' => e = .returned (.bool (Cal.leapB y)) ∧ w = w' := by
  by_cases h1 : 1 ≤ y
  · by_cases h2 : y ≤ 9999
    · rcases h3 : (y % 4 == 0) with _ | _ <;> rcases h4 : (y % 100 == 0) with _ | _ <;> rcases h5 : (y % 400 == 0) with _ | _
      all_goals
        have g3 := h3
        have g4 := h4
        have g5 := h5
        simp at g3 g4 g5
      all_goals try (exfalso; omega)
      all_goals
        have n4 : (y % 100 != 0) = !(y % 100 == 0) := rfl
        rw [h4] at n4
        simp only [Bool.not_true, Bool.not_false] at n4
        first | (have H := Lib.hid (Cal.leap_yes (y := y) (by omega))) | (have H := Lib.hid (Cal.leap_no (y := y) (by omega)))
        clear g3 g4 g5
        go_enter Tryd.func53, Tryd.ntmps53
        go_wp2
        go_ret
        exact ⟨ret_bool H.out.symm, rfl⟩
    · have H := Lib.hid (Cal.leap_no (y := y) (by omega))
      go_enter Tryd.func53, Tryd.ntmps53
      go_wp2
      go_ret
      exact ⟨ret_bool H.out.symm, rfl⟩
  · have H := Lib.hid (Cal.leap_no (y := y) (by omega))
    go_enter Tryd.func53, Tryd.ntmps53
    go_wp2
    go_ret
    exact ⟨ret_bool H.out.symm, rfl⟩
theorem rleap_any (y : Int) (w : World) :
    Calls Tryd.prog 50 #[.int .i64 y] w fun e w' => e = .returned (.bool (Cal.leapB y)) ∧ w = w' := by
  by_cases h1 : 1 ≤ y
  · by_cases h2 : y ≤ 9999
    · rcases h3 : (y % 4 == 0) with _ | _ <;> rcases h4 : (y % 100 == 0) with _ | _ <;> rcases h5 : (y % 400 == 0) with _ | _
      all_goals
        have g3 := h3
        have g4 := h4
        have g5 := h5
        simp at g3 g4 g5
      all_goals try (exfalso; omega)
      all_goals
        have n4 : (y % 100 != 0) = !(y % 100 == 0) := rfl
        rw [h4] at n4
        simp only [Bool.not_true, Bool.not_false] at n4
        first | (have H := Lib.hid (Cal.leap_yes (y := y) (by omega))) | (have H := Lib.hid (Cal.leap_no (y := y) (by omega)))
        clear g3 g4 g5
        go_enter Tryd.func50, Tryd.ntmps50
        go_wp2
        go_ret
        exact ⟨ret_bool H.out.symm, rfl⟩
    · have H := Lib.hid (Cal.leap_no (y := y) (by omega))
      go_enter Tryd.func50, Tryd.ntmps50
      go_wp2
      go_ret
      exact ⟨ret_bool H.out.symm, rfl⟩
  · have H := Lib.hid (Cal.leap_no (y := y) (by omega))
    go_enter Tryd.func50, Tryd.ntmps50
    go_wp2
    go_ret
    exact ⟨ret_bool H.out.symm, rfl⟩
set_option maxHeartbeats 400000 in
theorem dim_any (y m : Int) (w : World) :
    Calls Tryd.prog 40 #[.int .i64 y, .int .i64 m] w fun e w' => e = .returned (.int .i64 (Cal.dim y m)) ∧ w = w' := by
  by_cases h1 : y < 1
  · have H := Lib.hid (Cal.dim_out y m (by omega))
    go_enter Tryd.func40, Tryd.ntmps40
    go_wp2_with (go_at_call 53; refine (leap_any _ _).mono ?_; rintro e w' ⟨rfl, rfl⟩)
    go_ret
    exact ⟨ret_int H.out.symm, rfl⟩
  by_cases h2 : 9999 < y
  · have H := Lib.hid (Cal.dim_out y m (by omega))
    go_enter Tryd.func40, Tryd.ntmps40
    go_wp2_with (go_at_call 53; refine (leap_any _ _).mono ?_; rintro e w' ⟨rfl, rfl⟩)
    go_ret
    exact ⟨ret_int H.out.symm, rfl⟩
  by_cases h3 : m < 1
  · have H := Lib.hid (Cal.dim_out y m (by omega))
    go_enter Tryd.func40, Tryd.ntmps40
    go_wp2_with (go_at_call 53; refine (leap_any _ _).mono ?_; rintro e w' ⟨rfl, rfl⟩)
    go_ret
    exact ⟨ret_int H.out.symm, rfl⟩
  by_cases h4 : 12 < m
  · have H := Lib.hid (Cal.dim_out y m (by omega))
    go_enter Tryd.func40, Tryd.ntmps40
    go_wp2_with (go_at_call 53; refine (leap_any _ _).mono ?_; rintro e w' ⟨rfl, rfl⟩)
    go_ret
    exact ⟨ret_int H.out.symm, rfl⟩
  by_cases h5 : m = 2
  · subst h5
    have d := Cal.dim_feb y (by omega) (by omega)
    rcases hl : Cal.leapB y with _ | _
    · rw [Cal.lp_false hl] at d
      have H := Lib.hid d
      clear d
      go_enter Tryd.func40, Tryd.ntmps40
      go_wp2_with (go_at_call 53; refine (leap_any _ _).mono ?_; rintro e w' ⟨rfl, rfl⟩)
      go_ret
      exact ⟨ret_int H.out.symm, rfl⟩
    · rw [Cal.lp_true hl] at d
      have H := Lib.hid d
      clear d
      go_enter Tryd.func40, Tryd.ntmps40
      go_wp2_with (go_at_call 53; refine (leap_any _ _).mono ?_; rintro e w' ⟨rfl, rfl⟩)
      go_ret
      exact ⟨ret_int H.out.symm, rfl⟩
  have n5 : (m == 2) = false := by simpa using h5
  have H := Lib.hid (Cal.dim_else y m (by omega) (by omega) (by omega) (by omega) h5)
  go_enter Tryd.func40, Tryd.ntmps40
  go_wp2_with (go_at_call 53; refine (leap_any _ _).mono ?_; rintro e w' ⟨rfl, rfl⟩)
  go_ret
  exact ⟨ret_int H.out.symm, rfl⟩
set_option maxHeartbeats 400000 in
theorem rdim_any (y m : Int) (w : World) :
    Calls Tryd.prog 51 #[.int .i64 y, .int .i64 m] w fun e w' => e = .returned (.int .i64 (Cal.dim y m)) ∧ w = w' := by
  by_cases h1 : y < 1
  · have H := Lib.hid (Cal.dim_out y m (by omega))
    go_enter Tryd.func51, Tryd.ntmps51
    go_wp2_with (go_at_call 50; refine (rleap_any _ _).mono ?_; rintro e w' ⟨rfl, rfl⟩)
    go_ret
    exact ⟨ret_int H.out.symm, rfl⟩
  by_cases h2 : 9999 < y
  · have H := Lib.hid (Cal.dim_out y m (by omega))
    go_enter Tryd.func51, Tryd.ntmps51
    go_wp2_with (go_at_call 50; refine (rleap_any _ _).mono ?_; rintro e w' ⟨rfl, rfl⟩)
    go_ret
    exact ⟨ret_int H.out.symm, rfl⟩
  by_cases h3 : m < 1
  · have H := Lib.hid (Cal.dim_out y m (by omega))
    go_enter Tryd.func51, Tryd.ntmps51
    go_wp2_with (go_at_call 50; refine (rleap_any _ _).mono ?_; rintro e w' ⟨rfl, rfl⟩)
    go_ret
    exact ⟨ret_int H.out.symm, rfl⟩
  by_cases h4 : 12 < m
  · have H := Lib.hid (Cal.dim_out y m (by omega))
    go_enter Tryd.func51, Tryd.ntmps51
    go_wp2_with (go_at_call 50; refine (rleap_any _ _).mono ?_; rintro e w' ⟨rfl, rfl⟩)
    go_ret
    exact ⟨ret_int H.out.symm, rfl⟩
  by_cases h5 : m = 2
  · subst h5
    have d := Cal.dim_feb y (by omega) (by omega)
    rcases hl : Cal.leapB y with _ | _
    · rw [Cal.lp_false hl] at d
      have H := Lib.hid d
      clear d
      go_enter Tryd.func51, Tryd.ntmps51
      go_wp2_with (go_at_call 50; refine (rleap_any _ _).mono ?_; rintro e w' ⟨rfl, rfl⟩)
      go_ret
      exact ⟨ret_int H.out.symm, rfl⟩
    · rw [Cal.lp_true hl] at d
      have H := Lib.hid d
      clear d
      go_enter Tryd.func51, Tryd.ntmps51
      go_wp2_with (go_at_call 50; refine (rleap_any _ _).mono ?_; rintro e w' ⟨rfl, rfl⟩)
      go_ret
      exact ⟨ret_int H.out.symm, rfl⟩
  have n5 : (m == 2) = false := by simpa using h5
  by_cases h6 : m = 4 ∨ m = 6 ∨ m = 9 ∨ m = 11
  · have d := Cal.dim_30 y m (by omega) (by omega) h6
    have H := Lib.hid d
    clear d
    rcases h6 with rfl | rfl | rfl | rfl
    all_goals
      go_enter Tryd.func51, Tryd.ntmps51
      go_wp2_with (go_at_call 50; refine (rleap_any _ _).mono ?_; rintro e w' ⟨rfl, rfl⟩)
      go_ret
      exact ⟨ret_int H.out.symm, rfl⟩
  · have d := Cal.dim_31 y m (by omega) (by omega) (by omega) (by omega) h5 h6
    have H := Lib.hid d
    clear d
    have a4 : (m == 4) = false := by simp; omega
    have a6 : (m == 6) = false := by simp; omega
    have a9 : (m == 9) = false := by simp; omega
    have a11 : (m == 11) = false := by simp; omega
    clear h6
    go_enter Tryd.func51, Tryd.ntmps51
    go_wp2_with (go_at_call 50; refine (rleap_any _ _).mono ?_; rintro e w' ⟨rfl, rfl⟩)
    go_ret
    exact ⟨ret_int H.out.symm, rfl⟩
end Go.Proofs.YtikjehgbfkndjaaDoor.Civ
