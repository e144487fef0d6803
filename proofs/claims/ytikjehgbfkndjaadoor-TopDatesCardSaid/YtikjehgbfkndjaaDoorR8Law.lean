/- TopDates. -/
import Derived.Test.YtikjehgbfkndjaaDoorR8F
import Derived.Test.YtikjehgbfkndjaaDoorRfLaw
namespace Go.Proofs.YtikjehgbfkndjaaDoor.R8
open Go Go.RowKit Go.Proofs.YtikjehgbfkndjaaDoor Go.Proofs.YtikjehgbfkndjaaDoor.Bs Go.Proofs.YtikjehgbfkndjaaDoor.Rp
set_option linter.unusedVariables false

theorem fmt8_zero : fmt8 0 = (⟨#[84, 104, 117, 44, 32, 48, 49, 32, 74, 97, 110, 32, 49, 57, 55, 48, 32, 48, 48, 58, 48, 48, 58, 48, 48, 32, 71, 77, 84]⟩ : ByteArray).data.toList := by decide +kernel
set_option maxRecDepth 100000 in
set_option maxHeartbeats 4000000 in
theorem formats_is (W : World) (hT : PowTab W) (hDT : DayTab W) (hMT : MonTab W) :
    Calls Tryd.prog 10 #[] W fun e w' => e = .returned (.bool true) ∧ Below W.heap.size W w' := by
  have HT := Lib.hid hT
  have HD := Lib.hid hDT
  have HM := Lib.hid hMT
  clear hT hDT hMT
  go_enter Tryd.func10, Tryd.ntmps10
  go_wp2_with fail
  refine (fmt8_is 0 ⟨#[84, 104, 117, 44, 32, 48, 49, 32, 74, 97, 110, 32, 49, 57, 55, 48, 32, 48, 48, 58, 48, 48, 58, 48, 48, 32, 71, 77, 84]⟩ _ HT.out HD.out HM.out (by decide) (by decide) fmt8_zero).mono ?_
  rintro e w1 ⟨rfl, hb⟩
  have HB1 := Lib.hid hb
  clear hb
  go_wp2_with fail
  go_ret
  exact ⟨rfl, HB1.out⟩

def DayU : Array Value := #[.string ⟨#[83, 117, 110]⟩, .string ⟨#[77, 111, 110]⟩, .string ⟨#[84, 117, 101]⟩, .string ⟨#[87, 101, 100]⟩, .string ⟨#[84, 104, 117]⟩, .string ⟨#[70, 114, 105]⟩, .string ⟨#[83, 97, 116]⟩]
theorem idx_dayU (i : Nat) (h : i < 7) (w : World) : (Instr.index 30 (.agg DayU) (.int .i64 i)).run Tryd.prog w = .ok (.string (str (up (dayL.getD i [])))) w := by
  have e : i = 0 ∨ i = 1 ∨ i = 2 ∨ i = 3 ∨ i = 4 ∨ i = 5 ∨ i = 6 := by omega
  rcases e with rfl | rfl | rfl | rfl | rfl | rfl | rfl
  all_goals
    change _ = _
    kernel_rfl
theorem text_head (w y m d h mi s : Nat) (hw : w < 7) (R : ByteArray) (hR : text w y m d h mi s = R.data.toList) : (R.extract 0 3).toList = (str (up (dayL.getD w []))).toList ∧ 3 ≤ R.size := by
  obtain ⟨x, y1, z, _, _, e, _⟩ := day_three w hw
  constructor
  · rw [Lib.toList_data, Lib.toList_data, take_ext, ← hR, text, e]; rfl
  · have := congrArg List.length hR
    rw [text, e] at this
    simp only [List.length_append, List.length_cons, List.length_nil] at this
    have h2 : R.data.toList.length = R.size := by simp
    omega
theorem days_since (t : Int) (h1 : -62135596800 ≤ t) : (t - (-62135596800)).tdiv 86400 = Rf.dy t + 719162 := by
  rw [Int.tdiv_eq_ediv_of_nonneg (by omega)]
  unfold Rf.dy
  omega
set_option maxRecDepth 100000 in
set_option maxHeartbeats 4000000 in
theorem dates_out (t : Int) (W : World) (hT : PowTab W) (hDT : DayTab W) (hMT : MonTab W) (h : t < -62135596800 ∨ (-62135596800 ≤ t ∧ 253402300799 < t)) :
    Calls Tryd.prog 3 #[.int .i64 t] W fun e w' => e = .returned (.bool true) ∧ Below W.heap.size W w' := by
  have HT := Lib.hid hT
  have HD := Lib.hid hDT
  have HM := Lib.hid hMT
  clear hT hDT hMT
  rcases h with h | ⟨h, h'⟩
  all_goals
    go_enter Tryd.func3, Tryd.ntmps3
    go_wp2_with fail
    refine (formats_is _ HT.out HD.out HM.out).mono ?_
    rintro e w1 ⟨rfl, hb⟩
    have HB1 := Lib.hid hb
    clear hb
    go_wp2_with fail
    go_ret
    exact ⟨rfl, HB1.out⟩
set_option maxRecDepth 100000 in
set_option maxHeartbeats 4000000 in
theorem dates_in (t D q : Int) (w : Nat) (X R : ByteArray) (W : World) (hT : PowTab W) (hDT : DayTab W) (hMT : MonTab W) (hL : MaxLen W) (t1 : -62135596800 ≤ t) (t2 : t ≤ 253402300799) (hX : Rf.fmtL t = X.data.toList) (hR : fmt8 t = R.data.toList)
    (hq : (t - (-62135596800)).tdiv 86400 = q) (q1 : q - 719162 = D) (D1 : -719162 ≤ D) (D2 : D ≤ 2932896) (hw : Cal.wd D = w) (w7 : w < 7) (hh : (R.extract 0 3).toList = (str (up (dayL.getD w []))).toList) (h3 : 3 ≤ R.size) :
    Calls Tryd.prog 3 #[.int .i64 t] W fun e w' => e = .returned (.bool true) ∧ Below W.heap.size W w' := by
  have HT := Lib.hid hT
  have HD := Lib.hid hDT
  have HM := Lib.hid hMT
  have HL := Lib.hid hL
  have HX := Lib.hid hX
  have HR := Lib.hid hR
  have HW := Lib.hid hw
  have HH := Lib.hid hh
  have xs : X.size ≤ 1000 := by
    have e := congrArg List.length hX
    rw [Rf.fmtL_len] at e
    have : X.data.toList.length = X.size := by simp
    omega
  have g3 : decide ((R.size : Int) < 3) = false := by simp; omega
  clear hT hDT hMT hL hX hR hw hh
  have hq' : (t + 62135596800).tdiv 86400 = q := by rw [← hq]; rfl
  go_enter Tryd.func3, Tryd.ntmps3
  go_wp2_with fail
  refine (Rp.fmt_yes t _ HT.out t1 t2 X HX.out).mono ?_
  rintro e w1 ⟨rfl, hb⟩
  have HB1 := Lib.hid hb
  clear hb
  go_wp2_with fail
  refine (fmt8_is t R _ (HT.out.below HB1.out) (HD.out.below HB1.out) (HM.out.below HB1.out) t1 t2 HR.out).mono ?_
  rintro e w2 ⟨rfl, hb⟩
  have HB2 := Lib.hid (below_trans HB1.out hb)
  clear hb
  go_wp2_with fail
  refine (Rp.parse_any X _ (by omega) t 0 (by rw [← HX.out]; exact Rf.rp_fmtL t t1 t2)).mono ?_
  rintro e w3 ⟨rfl, hb⟩
  have HB3 := Lib.hid (below_trans HB2.out hb)
  clear hb
  go_wp2_with fail
  refine (parse8_of t R _ (HD.out.below HB3.out) (HM.out.below HB3.out) (HL.out.below HB3.out) t1 t2 HR.out).mono ?_
  rintro e w4 ⟨rfl, hb⟩
  have HB4 := Lib.hid (below_trans HB3.out hb)
  clear hb
  go_wp2_with fail
  refine (Civ.wd_yes _ _ D1 D2).mono ?_
  rintro e w5 ⟨rfl, rfl⟩
  rw [HW.out]
  go_wp2_with fail
  have cF : ∀ d os, Calls Tryd.prog 10 #[] (Sort.grow (redrawn w4 d) os) fun e w'' => e = .returned (.bool true) ∧ ∃ p : Regrown, w'' = Sort.grow (redrawn w4 p.d) p.os := fun d os => Calls.regrown_of (formats_is _ (HT.out.below (below_trans HB4.out (below_regrown w4 d os))) (HD.out.below (below_trans HB4.out (below_regrown w4 d os))) (HM.out.below (below_trans HB4.out (below_regrown w4 d os))))
  have hix := idx_dayU w w7
  unfold DayU at hix
  obtain ⟨N, hN⟩ : ∃ N, str (up (dayL.getD w [])) = N := ⟨_, rfl⟩
  rw [hN] at hix
  have geq : ((R.extract 0 3).toList == N.toList) = true := by rw [HH.out, hN]; simp
  have i3 : (3 : Int) ≤ R.size := by omega
  clear hN
  refine wp_region_quiet_below (by kernel_rfl) (by kernel_rfl) ?_
  quiet_step (exact cF _ _)
  repeat (first | go_big_quiet_step (fail) | quiet_step (fail))
  refine wpQuiet_nil ?_
  intro _ hw'
  obtain ⟨⟨dq, osq⟩, hw''⟩ := hw'
  subst hw''
  have HB5 := Lib.hid (below_trans HB4.out (below_regrown w4 dq osq))
  go_wp2_with fail
  go_ret
  exact ⟨rfl, HB5.out⟩
theorem law_dates (t : Int) (W : World) (hT : PowTab W) (hDT : DayTab W) (hMT : MonTab W) (hL : MaxLen W) :
    Calls Tryd.prog 3 #[.int .i64 t] W fun e w' => e = .returned (.bool true) ∧ Below W.heap.size W w' := by
  by_cases h : -62135596800 ≤ t ∧ t ≤ 253402300799
  · obtain ⟨D, S, y, m, d, h', mi, s, w, D1, D2, S1, S2, te, hw, w7, m1, m9, hX, hf, p, y9, d9, hD⟩ := parts8 t h.1 h.2
    obtain ⟨X, hXX, -⟩ := ba_ex (Rf.fmtL t)
    obtain ⟨R, hRR, -⟩ := ba_ex (fmt8 t)
    obtain ⟨hh, h3⟩ := text_head w y m d h' mi s w7 R (by rw [← hf]; exact hRR)
    exact dates_in t D _ w X R W hT hDT hMT hL h.1 h.2 hXX hRR (days_since t h.1) (by rw [hD]; omega) D1 D2 hw w7 hh h3
  · exact dates_out t W hT hDT hMT (by omega)
end Go.Proofs.YtikjehgbfkndjaaDoor.R8
