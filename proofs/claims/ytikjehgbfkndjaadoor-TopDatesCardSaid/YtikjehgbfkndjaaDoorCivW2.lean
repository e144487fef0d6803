import Derived.Test.YtikjehgbfkndjaaDoorProg
import Derived.Test.YtikjehgbfkndjaaDoorCivW1
import Derived.WalkKit
import Derived.Outline
import Derived.Below
import Derived.Lib.Hide
import Derived.RegionTactic
import Derived.BigQuiet
import Derived.Deep.QuietTactic
import Derived.ChangeAlike
namespace Go.Proofs.YtikjehgbfkndjaaDoor.Civ
open Go Go.RowKit Go.Proofs.YtikjehgbfkndjaaDoor

theorem ret_two {k l : IntKind} {a b c d : Int} (h : a = b) (g : c = d) : Ending.returned (.tuple #[.int k a, .int l c]) = .returned (.tuple #[.int k b, .int l d]) := by rw [h, g]
theorem range_of (y m d : Int) (h1 : 1 ≤ d) (h2 : d ≤ Cal.dim y m) : Cal.valid y m d := by
  by_cases h : y < 1 ∨ 9999 < y ∨ m < 1 ∨ 12 < m
  · rw [Cal.dim_out y m h] at h2; omega
  · exact ⟨by omega, by omega, by omega, by omega, h1, h2⟩
theorem tmod7 (n : Int) : n.tmod 7 = if 0 ≤ n then n % 7 else -((-n) % 7) := by
  split
  · exact Int.tmod_eq_emod_of_nonneg ‹_›
  · have e : n = - (-n) := by omega
    rw [e, Int.neg_tmod, Int.tmod_eq_emod_of_nonneg (by omega)]; simp
theorem days_no (y m d : Int) (w : World) (h : ¬ (1 ≤ d ∧ d ≤ Cal.dim y m)) :
    Calls Tryd.prog 43 #[.int .i64 y, .int .i64 m, .int .i64 d] w fun e w' => e = .returned (.tuple #[.int .i64 0, .int .i64 3]) ∧ w = w' := by
  by_cases h1 : d < 1
  · clear h
    go_enter Tryd.func43, Tryd.ntmps43
    go_wp2
    go_ret2
    exact ⟨rfl, rfl⟩
  · have h2 : Cal.dim y m < d := by omega
    clear h
    go_enter Tryd.func43, Tryd.ntmps43
    go_wp2_with (go_at_call 40; refine (dim_any _ _ _).mono ?_; rintro e w' ⟨rfl, rfl⟩)
    go_ret2
    exact ⟨rfl, rfl⟩
theorem rdays_no (y m d : Int) (w : World) (h : ¬ (1 ≤ d ∧ d ≤ Cal.dim y m)) :
    Calls Tryd.prog 52 #[.int .i64 y, .int .i64 m, .int .i64 d] w fun e w' => e = .returned (.tuple #[.int .i64 0, .int .i64 3]) ∧ w = w' := by
  by_cases h1 : d < 1
  · clear h
    go_enter Tryd.func52, Tryd.ntmps52
    go_wp2
    go_ret2
    exact ⟨rfl, rfl⟩
  · have h2 : Cal.dim y m < d := by omega
    clear h
    go_enter Tryd.func52, Tryd.ntmps52
    go_wp2_with (go_at_call 51; refine (rdim_any _ _ _).mono ?_; rintro e w' ⟨rfl, rfl⟩)
    go_ret2
    exact ⟨rfl, rfl⟩
set_option maxHeartbeats 400000 in
theorem before_any (y : Int) (w : World) (h1 : 1 ≤ y) (h2 : y ≤ 9999) :
    Calls Tryd.prog 61 #[.int .i64 y] w fun e w' => e = .returned (.int .i64 (Cal.bef y)) ∧ w = w' := by
  go_enter Tryd.func61, Tryd.ntmps61
  go_wp2
  go_loop [3, 4] (fun n i => ∃ k : Int, 1 ≤ k ∧ k ≤ y ∧ i = .int .i64 k ∧ n = .int .i64 (Cal.bef k)) (fun _ i => (y - intOf i).toNat)
  case atStart => exact ⟨1, by omega, by omega, rfl, by rw [Cal.bef_1]⟩
  case round =>
    obtain ⟨k, hk1, hk2, rfl, rfl⟩ := hrel
    have hb := Cal.bef_bd k hk1 (by omega)
    by_cases hlt : k < y
    · have H := Lib.hid (Cal.bef_succ k hk1 (by omega))
      rcases hl : Cal.leapB k with _ | _
      · have H2 := Lib.hid (Cal.lp_false hl)
        go_wp2_with (go_at_call 50; refine (rleap_any _ _).mono ?_; rintro e w' ⟨rfl, rfl⟩)
        go_round
        case rel => exact ⟨k + 1, by omega, by omega, rfl, by rw [H.out, H2.out]; go_num⟩
        case measure => simp [intOf]; omega
      · have H2 := Lib.hid (Cal.lp_true hl)
        go_wp2_with (go_at_call 50; refine (rleap_any _ _).mono ?_; rintro e w' ⟨rfl, rfl⟩)
        go_round
        case rel => exact ⟨k + 1, by omega, by omega, rfl, by rw [H.out, H2.out]⟩
        case measure => simp [intOf]; omega
    · have hy : k = y := by omega
      subst hy
      go_wp2
      go_ret
      exact ⟨rfl, rfl⟩
set_option maxHeartbeats 400000 in
theorem days_yes (y m d : Int) (w : World) (h1 : 1 ≤ d) (h2 : d ≤ Cal.dim y m) :
    Calls Tryd.prog 43 #[.int .i64 y, .int .i64 m, .int .i64 d] w fun e w' => e = .returned (.tuple #[.int .i64 (Cal.num y m d), .int .i64 0]) ∧ w = w' := by
  obtain ⟨a1, a2, a3, a4, _, _⟩ := range_of y m d h1 h2
  have hd := Cal.dim_bd y m
  go_enter Tryd.func43, Tryd.ntmps43
  go_wp2_with (go_at_call 40; refine (dim_any _ _ _).mono ?_; rintro e w' ⟨rfl, rfl⟩)
  go_loop [9, 38] (fun n i => ∃ k : Int, 0 ≤ k ∧ k ≤ m - 1 ∧ i = .int .i64 k ∧ n = .int .i64 (Cal.bef y + Cal.cum y (k + 1) + d - 1)) (fun _ i => (m - 1 - intOf i).toNat)
  case atStart => exact ⟨0, by omega, by omega, rfl, by rw [show (0 : Int) + 1 = 1 from rfl, Cal.cum_1]; unfold Cal.bef; go_num⟩
  case round =>
    obtain ⟨k, hk1, hk2, rfl, rfl⟩ := hrel
    have hb := Cal.bef_bd y a1 (by omega)
    have hc := Cal.cum_bd y (k + 1) (by omega) (by omega)
    by_cases hlt : k < m - 1
    · have hdk := Cal.dim_bd y (k + 1)
      have H := Lib.hid (Cal.cum_succ y (k + 1) a1 a2 (by omega) (by omega))
      go_wp2_with (go_at_call 40; refine (dim_any _ _ _).mono ?_; rintro e w' ⟨rfl, rfl⟩)
      go_round
      case rel => exact ⟨k + 1, by omega, by omega, rfl, by rw [H.out]; go_num⟩
      case measure => simp [intOf]; omega
    · have hy : k + 1 = m := by omega
      subst hy
      go_wp2
      go_ret2
      exact ⟨ret_two (by unfold Cal.num; omega) rfl, rfl⟩
set_option maxHeartbeats 400000 in
theorem rdays_yes (y m d : Int) (w : World) (h1 : 1 ≤ d) (h2 : d ≤ Cal.dim y m) :
    Calls Tryd.prog 52 #[.int .i64 y, .int .i64 m, .int .i64 d] w fun e w' => e = .returned (.tuple #[.int .i64 (Cal.num y m d), .int .i64 0]) ∧ w = w' := by
  obtain ⟨a1, a2, a3, a4, _, _⟩ := range_of y m d h1 h2
  have hd := Cal.dim_bd y m
  have hb := Cal.bef_bd y a1 (by omega)
  go_enter Tryd.func52, Tryd.ntmps52
  go_wp2_with (first | (go_at_call 51; refine (rdim_any _ _ _).mono ?_; rintro e w' ⟨rfl, rfl⟩) | (go_at_call 61; refine (before_any _ _ (by omega) (by omega)).mono ?_; rintro e w' ⟨rfl, rfl⟩))
  go_loop [8, 9] (fun n i => ∃ k : Int, 1 ≤ k ∧ k ≤ m ∧ i = .int .i64 k ∧ n = .int .i64 (Cal.bef y - 719162 + Cal.cum y k)) (fun _ i => (m - intOf i).toNat)
  case atStart => exact ⟨1, by omega, by omega, rfl, by rw [Cal.cum_1]; go_num⟩
  case round =>
    obtain ⟨k, hk1, hk2, rfl, rfl⟩ := hrel
    have hc := Cal.cum_bd y k (by omega) (by omega)
    by_cases hlt : k < m
    · have hdk := Cal.dim_bd y k
      have H := Lib.hid (Cal.cum_succ y k a1 a2 (by omega) (by omega))
      go_wp2_with (go_at_call 51; refine (rdim_any _ _ _).mono ?_; rintro e w' ⟨rfl, rfl⟩)
      go_round
      case rel => exact ⟨k + 1, by omega, by omega, rfl, by rw [H.out]; go_num⟩
      case measure => simp [intOf]; omega
    · have hy : k = m := by omega
      subst hy
      go_wp2
      go_ret2
      exact ⟨ret_two (by unfold Cal.num; omega) rfl, rfl⟩
theorem wd_no (n : Int) (w : World) (h : n < -719162 ∨ 2932896 < n) :
    Calls Tryd.prog 15 #[.int .i64 n] w fun e w' => e = .returned (.tuple #[.int .i64 0, .int .i64 3]) ∧ w = w' := by
  rcases h with h | h
  all_goals
    go_enter Tryd.func15, Tryd.ntmps15
    go_wp2
    go_ret2
    exact ⟨rfl, rfl⟩
theorem wd_yes (n : Int) (w : World) (h1 : -719162 ≤ n) (h2 : n ≤ 2932896) :
    Calls Tryd.prog 15 #[.int .i64 n] w fun e w' => e = .returned (.tuple #[.int .i64 (Cal.wd n), .int .i64 0]) ∧ w = w' := by
  have t := tmod7 n
  by_cases h0 : 0 ≤ n
  · rw [if_pos h0] at t
    clear t
    go_enter Tryd.func15, Tryd.ntmps15
    go_wp2
    go_ret2
    exact ⟨ret_two (by unfold Cal.wd; omega) rfl, rfl⟩
  · rw [if_neg h0] at t
    have b1 : -6 ≤ n.tmod 7 := by rw [t]; omega
    have b2 : n.tmod 7 ≤ 0 := by rw [t]; omega
    have T := Lib.hid t
    clear t
    go_enter Tryd.func15, Tryd.ntmps15
    go_wp2
    go_ret2
    exact ⟨ret_two (by rw [T.out]; unfold Cal.wd; omega) rfl, rfl⟩
theorem sec_no_date (y m d h mi s : Int) (w : World) (hn : ¬ (1 ≤ d ∧ d ≤ Cal.dim y m)) :
    Calls Tryd.prog 25 #[.int .i64 y, .int .i64 m, .int .i64 d, .int .i64 h, .int .i64 mi, .int .i64 s] w fun e w' => e = .returned (.tuple #[.int .i64 0, .int .i64 3]) ∧ w = w' := by
  have H := Lib.hid hn
  clear hn
  go_enter Tryd.func25, Tryd.ntmps25
  go_wp2_with (go_at_call 43; refine (days_no _ _ _ _ H.out).mono ?_; rintro e w' ⟨rfl, rfl⟩)
  go_ret2
  exact ⟨rfl, rfl⟩
theorem sec_no (y m d h mi s : Int) (w : World) (h1 : 1 ≤ d) (h2 : d ≤ Cal.dim y m) (hn : ¬ (0 ≤ h ∧ h ≤ 23 ∧ 0 ≤ mi ∧ mi ≤ 59 ∧ 0 ≤ s ∧ s ≤ 59)) :
    Calls Tryd.prog 25 #[.int .i64 y, .int .i64 m, .int .i64 d, .int .i64 h, .int .i64 mi, .int .i64 s] w fun e w' => e = .returned (.tuple #[.int .i64 0, .int .i64 3]) ∧ w = w' := by
  have G1 := Lib.hid h1
  have G2 := Lib.hid h2
  clear h1 h2
  by_cases c1 : h < 0
  · clear hn
    go_enter Tryd.func25, Tryd.ntmps25
    go_wp2_with (go_at_call 43; refine (days_yes _ _ _ _ G1.out G2.out).mono ?_; rintro e w' ⟨rfl, rfl⟩)
    go_ret2
    exact ⟨rfl, rfl⟩
  by_cases c2 : 23 < h
  · clear hn
    go_enter Tryd.func25, Tryd.ntmps25
    go_wp2_with (go_at_call 43; refine (days_yes _ _ _ _ G1.out G2.out).mono ?_; rintro e w' ⟨rfl, rfl⟩)
    go_ret2
    exact ⟨rfl, rfl⟩
  by_cases c3 : mi < 0
  · clear hn
    go_enter Tryd.func25, Tryd.ntmps25
    go_wp2_with (go_at_call 43; refine (days_yes _ _ _ _ G1.out G2.out).mono ?_; rintro e w' ⟨rfl, rfl⟩)
    go_ret2
    exact ⟨rfl, rfl⟩
  by_cases c4 : 59 < mi
  · clear hn
    go_enter Tryd.func25, Tryd.ntmps25
    go_wp2_with (go_at_call 43; refine (days_yes _ _ _ _ G1.out G2.out).mono ?_; rintro e w' ⟨rfl, rfl⟩)
    go_ret2
    exact ⟨rfl, rfl⟩
  by_cases c5 : s < 0
  · clear hn
    go_enter Tryd.func25, Tryd.ntmps25
    go_wp2_with (go_at_call 43; refine (days_yes _ _ _ _ G1.out G2.out).mono ?_; rintro e w' ⟨rfl, rfl⟩)
    go_ret2
    exact ⟨rfl, rfl⟩
  · have c6 : 59 < s := by omega
    clear hn
    go_enter Tryd.func25, Tryd.ntmps25
    go_wp2_with (go_at_call 43; refine (days_yes _ _ _ _ G1.out G2.out).mono ?_; rintro e w' ⟨rfl, rfl⟩)
    go_ret2
    exact ⟨rfl, rfl⟩
theorem rsec_no_date (y m d h mi s : Int) (w : World) (hn : ¬ (1 ≤ d ∧ d ≤ Cal.dim y m)) :
    Calls Tryd.prog 37 #[.int .i64 y, .int .i64 m, .int .i64 d, .int .i64 h, .int .i64 mi, .int .i64 s] w fun e w' => e = .returned (.tuple #[.int .i64 0, .int .i64 3]) ∧ w = w' := by
  have H := Lib.hid hn
  clear hn
  go_enter Tryd.func37, Tryd.ntmps37
  go_wp2_with (go_at_call 52; refine (rdays_no _ _ _ _ H.out).mono ?_; rintro e w' ⟨rfl, rfl⟩)
  go_ret2
  exact ⟨rfl, rfl⟩
theorem rsec_no (y m d h mi s : Int) (w : World) (h1 : 1 ≤ d) (h2 : d ≤ Cal.dim y m) (hn : ¬ (0 ≤ h ∧ h ≤ 23 ∧ 0 ≤ mi ∧ mi ≤ 59 ∧ 0 ≤ s ∧ s ≤ 59)) :
    Calls Tryd.prog 37 #[.int .i64 y, .int .i64 m, .int .i64 d, .int .i64 h, .int .i64 mi, .int .i64 s] w fun e w' => e = .returned (.tuple #[.int .i64 0, .int .i64 3]) ∧ w = w' := by
  have G1 := Lib.hid h1
  have G2 := Lib.hid h2
  clear h1 h2
  by_cases c1 : h < 0
  · clear hn
    go_enter Tryd.func37, Tryd.ntmps37
    go_wp2_with (go_at_call 52; refine (rdays_yes _ _ _ _ G1.out G2.out).mono ?_; rintro e w' ⟨rfl, rfl⟩)
    go_ret2
    exact ⟨rfl, rfl⟩
  by_cases c2 : 23 < h
  · clear hn
    go_enter Tryd.func37, Tryd.ntmps37
    go_wp2_with (go_at_call 52; refine (rdays_yes _ _ _ _ G1.out G2.out).mono ?_; rintro e w' ⟨rfl, rfl⟩)
    go_ret2
    exact ⟨rfl, rfl⟩
  by_cases c3 : mi < 0
  · clear hn
    go_enter Tryd.func37, Tryd.ntmps37
    go_wp2_with (go_at_call 52; refine (rdays_yes _ _ _ _ G1.out G2.out).mono ?_; rintro e w' ⟨rfl, rfl⟩)
    go_ret2
    exact ⟨rfl, rfl⟩
  by_cases c4 : 59 < mi
  · clear hn
    go_enter Tryd.func37, Tryd.ntmps37
    go_wp2_with (go_at_call 52; refine (rdays_yes _ _ _ _ G1.out G2.out).mono ?_; rintro e w' ⟨rfl, rfl⟩)
    go_ret2
    exact ⟨rfl, rfl⟩
  by_cases c5 : s < 0
  · clear hn
    go_enter Tryd.func37, Tryd.ntmps37
    go_wp2_with (go_at_call 52; refine (rdays_yes _ _ _ _ G1.out G2.out).mono ?_; rintro e w' ⟨rfl, rfl⟩)
    go_ret2
    exact ⟨rfl, rfl⟩
  · have c6 : 59 < s := by omega
    clear hn
    go_enter Tryd.func37, Tryd.ntmps37
    go_wp2_with (go_at_call 52; refine (rdays_yes _ _ _ _ G1.out G2.out).mono ?_; rintro e w' ⟨rfl, rfl⟩)
    go_ret2
    exact ⟨rfl, rfl⟩
theorem sec_yes (y m d h mi s : Int) (w : World) (h1 : 1 ≤ d) (h2 : d ≤ Cal.dim y m) (a1 : 0 ≤ h) (a2 : h ≤ 23) (a3 : 0 ≤ mi) (a4 : mi ≤ 59) (a5 : 0 ≤ s) (a6 : s ≤ 59) :
    Calls Tryd.prog 25 #[.int .i64 y, .int .i64 m, .int .i64 d, .int .i64 h, .int .i64 mi, .int .i64 s] w fun e w' => e = .returned (.tuple #[.int .i64 (Cal.num y m d * 86400 + (h * 3600 + mi * 60 + s)), .int .i64 0]) ∧ w = w' := by
  have hb := Cal.num_bd y m d (range_of y m d h1 h2)
  have G1 := Lib.hid h1
  have G2 := Lib.hid h2
  clear h1 h2
  go_enter Tryd.func25, Tryd.ntmps25
  go_wp2_with (go_at_call 43; refine (days_yes _ _ _ _ G1.out G2.out).mono ?_; rintro e w' ⟨rfl, rfl⟩)
  go_ret2
  exact ⟨ret_two (by omega) rfl, rfl⟩
theorem rsec_yes (y m d h mi s : Int) (w : World) (h1 : 1 ≤ d) (h2 : d ≤ Cal.dim y m) (a1 : 0 ≤ h) (a2 : h ≤ 23) (a3 : 0 ≤ mi) (a4 : mi ≤ 59) (a5 : 0 ≤ s) (a6 : s ≤ 59) :
    Calls Tryd.prog 37 #[.int .i64 y, .int .i64 m, .int .i64 d, .int .i64 h, .int .i64 mi, .int .i64 s] w fun e w' => e = .returned (.tuple #[.int .i64 (Cal.num y m d * 86400 + (h * 3600 + mi * 60 + s)), .int .i64 0]) ∧ w = w' := by
  have hb := Cal.num_bd y m d (range_of y m d h1 h2)
  have G1 := Lib.hid h1
  have G2 := Lib.hid h2
  clear h1 h2
  go_enter Tryd.func37, Tryd.ntmps37
  go_wp2_with (go_at_call 52; refine (rdays_yes _ _ _ _ G1.out G2.out).mono ?_; rintro e w' ⟨rfl, rfl⟩)
  go_ret2
  exact ⟨ret_two (by omega) rfl, rfl⟩
end Go.Proofs.YtikjehgbfkndjaaDoor.Civ
