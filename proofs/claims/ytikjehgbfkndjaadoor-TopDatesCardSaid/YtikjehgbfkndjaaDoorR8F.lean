/- rfc822.Format. -/
import Derived.Test.YtikjehgbfkndjaaDoorR8P
import Derived.Test.YtikjehgbfkndjaaDoorRfW8
import Derived.Lib.QuietBelow
import Derived.BigQuiet
namespace Go.Proofs.YtikjehgbfkndjaaDoor.R8
open Go Go.RowKit Go.Proofs.YtikjehgbfkndjaaDoor Go.Proofs.YtikjehgbfkndjaaDoor.Bs Go.Proofs.YtikjehgbfkndjaaDoor.Rp
set_option linter.unusedVariables false

theorem day_cell {w : World} (h : DayTab w) (i : Nat) (hi : i < 7) : w.cell? ⟨0, i, none⟩ = some (.string (str (dayL.getD i []))) := by
  obtain ⟨t, fr, h1⟩ := h
  unfold World.cell?
  simp only [h1]
  have e : i = 0 ∨ i = 1 ∨ i = 2 ∨ i = 3 ∨ i = 4 ∨ i = 5 ∨ i = 6 := by omega
  rcases e with rfl | rfl | rfl | rfl | rfl | rfl | rfl <;> rfl
theorem mon_cell {w : World} (h : MonTab w) (i : Nat) (hi : i < 12) : w.cell? ⟨1, i, none⟩ = some (.string (str (monL.getD i []))) := by
  obtain ⟨t, fr, h1⟩ := h
  unfold World.cell?
  simp only [h1]
  have e : i = 0 ∨ i = 1 ∨ i = 2 ∨ i = 3 ∨ i = 4 ∨ i = 5 ∨ i = 6 ∨ i = 7 ∨ i = 8 ∨ i = 9 ∨ i = 10 ∨ i = 11 := by omega
  rcases e with rfl | rfl | rfl | rfl | rfl | rfl | rfl | rfl | rfl | rfl | rfl | rfl <;> rfl
theorem title_day (i : Nat) (hi : i < 7) (W : World) : Calls Tryd.prog 23 #[.string (str (dayL.getD i []))] W fun e w' => e = .returned (.string (str (up (dayL.getD i [])))) ∧ Below W.heap.size W w' := by
  obtain ⟨x, y, z, e1, h1, e2, h2⟩ := day_three i hi
  rw [e2, e1]
  exact title_is _ _ x y z W rfl h1 h2 rfl
theorem title_mon (i : Nat) (hi : i < 12) (W : World) : Calls Tryd.prog 23 #[.string (str (monL.getD i []))] W fun e w' => e = .returned (.string (str (up (monL.getD i [])))) ∧ Below W.heap.size W w' := by
  obtain ⟨x, y, z, e1, h1, e2, h2⟩ := mon_three i hi
  rw [e2, e1]
  exact title_is _ _ x y z W rfl h1 h2 rfl
theorem form_cuts (X : ByteArray) (y m d h mi s : Nat) (hX : Rf.form y m d h mi s 84 ++ [90] = X.data.toList) :
    X.extract 5 7 = str (Rf.dig 2 m) ∧ X.extract 8 10 = str (Rf.dig 2 d) ∧ X.extract 0 4 = str (Rf.dig 4 y) ∧ X.extract 11 19 = str (clk h mi s) ∧ X.size = 20 := by
  have ex : ∀ a b, (X.extract a b).data.toList = (X.data.toList.take b).drop a := by
    intro a b; simp [List.drop_take]
  refine ⟨ba_eq ?_, ba_eq ?_, ba_eq ?_, ba_eq ?_, ?_⟩
  · rw [ex, ← hX]; rfl
  · rw [ex, ← hX]; rfl
  · rw [ex, ← hX]; rfl
  · rw [ex, ← hX]; rfl
  · have e := congrArg List.length hX
    have e2 : (Rf.form y m d h mi s 84 ++ [90]).length = 20 := rfl
    rw [e2] at e
    simpa using e.symm
/-- The text of a time in the form of RSS. -/
def fmt8 (t : Int) : List UInt8 := text (Cal.wd (Rf.dy t)).toNat (Cal.dY (Rf.dy t)).toNat (Cal.dM (Rf.dy t)).toNat (Cal.dD (Rf.dy t)).toNat (Rf.sc t / 3600).toNat (Rf.sc t / 60 % 60).toNat (Rf.sc t % 60).toNat
theorem parts8 (t : Int) (h1 : -62135596800 ≤ t) (h2 : t ≤ 253402300799) : ∃ (D S : Int) (y m d h mi s w : Nat), -719162 ≤ D ∧ D ≤ 2932896 ∧ 0 ≤ S ∧ S < 86400 ∧ t = D * 86400 + S ∧ Cal.wd D = w ∧ w < 7 ∧ 1 ≤ m ∧ m ≤ 12 ∧
    Rf.fmtL t = Rf.form y m d h mi s 84 ++ [90] ∧ fmt8 t = text w y m d h mi s ∧ Rf.Parts t y m d h mi s ∧ y ≤ 9999 ∧ d < 100 ∧ D = Rf.dy t := by
  have p := Rf.parts t h1 h2
  have b1 : -719162 ≤ Rf.dy t := by unfold Rf.dy; omega
  have b2 : Rf.dy t ≤ 2932896 := by unfold Rf.dy; omega
  obtain ⟨⟨v1, v2, v3, v4, v5, v6⟩, vn⟩ := Cal.date_valid (Rf.dy t) b1 b2
  have s1 : 0 ≤ Rf.sc t ∧ Rf.sc t < 86400 := by unfold Rf.sc; omega
  have w1 : 0 ≤ Cal.wd (Rf.dy t) ∧ Cal.wd (Rf.dy t) < 7 := by unfold Cal.wd; omega
  have := p.d2
  exact ⟨Rf.dy t, Rf.sc t, _, _, _, _, _, _, (Cal.wd (Rf.dy t)).toNat, b1, b2, s1.1, s1.2, by unfold Rf.dy Rf.sc; omega, (Int.toNat_of_nonneg w1.1).symm, by omega, by omega, p.m2, rfl, rfl, p, p.y4, by omega, rfl⟩
set_option maxRecDepth 100000 in
set_option maxHeartbeats 2000000 in
theorem fmt8A (t q r D : Int) (w y m d h mi s : Nat) (X R : ByteArray) (W : World) (hT : PowTab W) (hDT : DayTab W) (hMT : MonTab W) (t1 : -62135596800 ≤ t) (t2 : t ≤ 253402300799) (hq : t.tdiv 86400 = q) (hr : t.tmod 86400 = r) (r1 : 0 ≤ r) (r2 : r < 86400) (hD : q = D) (D1 : -719162 ≤ D) (D2 : D ≤ 2932896) (hw : Cal.wd D = w) (w7 : w < 7) (m1 : 1 ≤ m) (m9 : m ≤ 12)
    (hX : Rf.form y m d h mi s 84 ++ [90] = X.data.toList) (hF : Rf.fmtL t = X.data.toList) (hR : text w y m d h mi s = R.data.toList) :
    Calls Tryd.prog 12 #[.int .i64 t] W fun e w' => e = .returned (.tuple #[.string R, .int .i64 0]) ∧ Below W.heap.size W w' := by
  subst hD
  obtain ⟨x1, x2, x3, x4, xs⟩ := form_cuts X y m d h mi s hX
  have HTT := Lib.hid hT
  have HD := Lib.hid hDT
  have HM := Lib.hid hMT
  have HF := Lib.hid hF
  have HR := Lib.hid hR
  have HW := Lib.hid hw
  clear hX hF hR hT hDT hMT hw
  go_enter Tryd.func12, Tryd.ntmps12
  go_wp2_with fail
  refine (Rp.fmt_yes t _ HTT.out t1 t2 X HF.out).mono ?_
  rintro e w1 ⟨rfl, hb⟩
  have HB1 := Lib.hid hb
  clear hb
  go_wp2_with fail
  refine (Civ.wd_yes _ _ D1 D2).mono ?_
  rintro e w2 ⟨rfl, rfl⟩
  rw [HW.out]
  go_wp2_with fail
  refine (number_is _ 2 m 2 2 _ _ rfl rfl _ (by decide) (by decide) (by decide) (by decide) (by decide) (by omega) rfl).mono ?_
  rintro e w3 ⟨rfl, hb⟩
  have HB3 := Lib.hid (below_trans HB1.out hb)
  clear hb
  have hDc := day_cell (HD.out.below HB3.out) w w7
  have hMc := mon_cell (HM.out.below HB3.out) (m - 1) (by omega)
  obtain ⟨N1, hN1⟩ : ∃ N, str (dayL.getD w []) = N := ⟨_, rfl⟩
  obtain ⟨N2, hN2⟩ : ∃ N, str (monL.getD (m - 1) []) = N := ⟨_, rfl⟩
  obtain ⟨U1, hU1⟩ : ∃ N, str (up (dayL.getD w [])) = N := ⟨_, rfl⟩
  obtain ⟨U2, hU2⟩ : ∃ N, str (up (monL.getD (m - 1) [])) = N := ⟨_, rfl⟩
  have cT1 : ∀ d os, Calls Tryd.prog 23 #[.string N1] (Sort.grow (redrawn w3 d) os) fun e w'' => e = .returned (.string U1) ∧ ∃ p : Regrown, w'' = Sort.grow (redrawn w3 p.d) p.os := fun d os => Calls.regrown_of (by rw [← hN1, ← hU1]; exact title_day w w7 _)
  have cT2 : ∀ d os, Calls Tryd.prog 23 #[.string N2] (Sort.grow (redrawn w3 d) os) fun e w'' => e = .returned (.string U2) ∧ ∃ p : Regrown, w'' = Sort.grow (redrawn w3 p.d) p.os := fun d os => Calls.regrown_of (by rw [← hN2, ← hU2]; exact title_mon (m - 1) (by omega) _)
  rw [hN1] at hDc
  rw [hN2] at hMc
  have cD : ∀ d os, (Sort.grow (redrawn w3 d) os).cell? ⟨0, w, none⟩ = some (.string N1) := fun d os => cell_regrown hDc d os
  have cM : ∀ d os, (Sort.grow (redrawn w3 d) os).cell? ⟨1, m - 1, none⟩ = some (.string N2) := fun d os => cell_regrown hMc d os
  have HU := Lib.hid (And.intro (congrArg (fun (x : ByteArray) => x.data.toList) hU1) (congrArg (fun (x : ByteArray) => x.data.toList) hU2))
  have z1 : U1.size = 3 := by obtain ⟨x, y, z, _, _, e, _⟩ := day_three w w7; rw [← hU1, e]; rfl
  have z2 : U2.size = 3 := by obtain ⟨x, y, z, _, _, e, _⟩ := mon_three (m - 1) (by omega); rw [← hU2, e]; rfl
  clear hN1 hN2 hU1 hU2 hDc hMc
  obtain ⟨D2, e2⟩ : ∃ N, str (Rf.dig 2 d) = N := ⟨_, rfl⟩
  obtain ⟨Y4, e3⟩ : ∃ N, str (Rf.dig 4 y) = N := ⟨_, rfl⟩
  obtain ⟨C8, e4⟩ : ∃ N, str (clk h mi s) = N := ⟨_, rfl⟩
  have z3 : D2.size = 2 := by rw [← e2]; rfl
  have z4 : Y4.size = 4 := by rw [← e3]; rfl
  have z5 : C8.size = 8 := by rw [← e4]; rfl
  rw [e2] at x2
  rw [e3] at x3
  rw [e4] at x4
  have HV := Lib.hid (And.intro (congrArg (fun (x : ByteArray) => x.data.toList) e2) (And.intro (congrArg (fun (x : ByteArray) => x.data.toList) e3) (congrArg (fun (x : ByteArray) => x.data.toList) e4)))
  clear e2 e3 e4
  have HEQ := Lib.hid (show U1 ++ ⟨#[44, 32]⟩ ++ D2 ++ ⟨#[32]⟩ ++ U2 ++ ⟨#[32]⟩ ++ Y4 ++ ⟨#[32]⟩ ++ C8 ++ ⟨#[32, 71, 77, 84]⟩ = R by
    apply ba_eq
    rw [← HR.out]
    simp only [toList_append]
    rw [← HU.out.1, ← HU.out.2, ← HV.out.1, ← HV.out.2.1, ← HV.out.2.2]
    simp [text, str_list])
  have k0 : decide ((w : Int) < 7) = true := by simp; omega
  have k1 : ((m : Int) - 1).toNat = m - 1 := by omega
  have k2 : IntKind.i64.wrap ((m : Int) - 1) = (m : Int) - 1 := IntWalk.i64_in _ (by omega)
  have k3 : (0 : Int) ≤ (m : Int) - 1 := by omega
  have k4 : (m : Int) - 1 < 12 := by omega
  go_wp2_with fail
  refine wp_region_quiet_below (by kernel_rfl) (by kernel_rfl) ?_
  iterate 4 (first | go_big_quiet_step (fail) | quiet_step (exact cT1 _ _))
  clear cT1
  repeat (first | go_big_quiet_step (fail) | quiet_step (exact cT2 _ _) | quiet_step (fail))
  refine wpQuiet_nil ?_
  intro _ hw'
  obtain ⟨⟨dq, osq⟩, hw''⟩ := hw'
  subst hw''
  have HB4 := Lib.hid (below_trans HB3.out (below_regrown w3 dq osq))
  go_wp2_with fail
  go_ret2
  exact ⟨congrArg (fun x => Ending.returned (.tuple #[.string x, .int .i64 0])) HEQ.out, HB4.out⟩
set_option maxRecDepth 100000 in
set_option maxHeartbeats 2000000 in
theorem fmt8B (t q r D : Int) (w y m d h mi s : Nat) (X R : ByteArray) (W : World) (hT : PowTab W) (hDT : DayTab W) (hMT : MonTab W) (t1 : -62135596800 ≤ t) (t2 : t ≤ 253402300799) (hq : t.tdiv 86400 = q) (hr : t.tmod 86400 = r) (r1 : r < 0) (r2 : -86400 < r) (hD : q - 1 = D) (D1 : -719162 ≤ D) (D2 : D ≤ 2932896) (hw : Cal.wd D = w) (w7 : w < 7) (m1 : 1 ≤ m) (m9 : m ≤ 12)
    (hX : Rf.form y m d h mi s 84 ++ [90] = X.data.toList) (hF : Rf.fmtL t = X.data.toList) (hR : text w y m d h mi s = R.data.toList) :
    Calls Tryd.prog 12 #[.int .i64 t] W fun e w' => e = .returned (.tuple #[.string R, .int .i64 0]) ∧ Below W.heap.size W w' := by
  have q1 : -719161 ≤ q := by omega
  have q2 : q ≤ 2932897 := by omega
  obtain ⟨x1, x2, x3, x4, xs⟩ := form_cuts X y m d h mi s hX
  have HTT := Lib.hid hT
  have HD := Lib.hid hDT
  have HM := Lib.hid hMT
  have HF := Lib.hid hF
  have HR := Lib.hid hR
  have HW := Lib.hid hw
  clear hX hF hR hT hDT hMT hw
  go_enter Tryd.func12, Tryd.ntmps12
  go_wp2_with fail
  refine (Rp.fmt_yes t _ HTT.out t1 t2 X HF.out).mono ?_
  rintro e w1 ⟨rfl, hb⟩
  have HB1 := Lib.hid hb
  clear hb
  go_wp2_with fail
  refine (Civ.wd_yes _ _ D1 D2).mono ?_
  rintro e w2 ⟨rfl, rfl⟩
  rw [HW.out]
  go_wp2_with fail
  refine (number_is _ 2 m 2 2 _ _ rfl rfl _ (by decide) (by decide) (by decide) (by decide) (by decide) (by omega) rfl).mono ?_
  rintro e w3 ⟨rfl, hb⟩
  have HB3 := Lib.hid (below_trans HB1.out hb)
  clear hb
  have hDc := day_cell (HD.out.below HB3.out) w w7
  have hMc := mon_cell (HM.out.below HB3.out) (m - 1) (by omega)
  obtain ⟨N1, hN1⟩ : ∃ N, str (dayL.getD w []) = N := ⟨_, rfl⟩
  obtain ⟨N2, hN2⟩ : ∃ N, str (monL.getD (m - 1) []) = N := ⟨_, rfl⟩
  obtain ⟨U1, hU1⟩ : ∃ N, str (up (dayL.getD w [])) = N := ⟨_, rfl⟩
  obtain ⟨U2, hU2⟩ : ∃ N, str (up (monL.getD (m - 1) [])) = N := ⟨_, rfl⟩
  have cT1 : ∀ d os, Calls Tryd.prog 23 #[.string N1] (Sort.grow (redrawn w3 d) os) fun e w'' => e = .returned (.string U1) ∧ ∃ p : Regrown, w'' = Sort.grow (redrawn w3 p.d) p.os := fun d os => Calls.regrown_of (by rw [← hN1, ← hU1]; exact title_day w w7 _)
  have cT2 : ∀ d os, Calls Tryd.prog 23 #[.string N2] (Sort.grow (redrawn w3 d) os) fun e w'' => e = .returned (.string U2) ∧ ∃ p : Regrown, w'' = Sort.grow (redrawn w3 p.d) p.os := fun d os => Calls.regrown_of (by rw [← hN2, ← hU2]; exact title_mon (m - 1) (by omega) _)
  rw [hN1] at hDc
  rw [hN2] at hMc
  have cD : ∀ d os, (Sort.grow (redrawn w3 d) os).cell? ⟨0, w, none⟩ = some (.string N1) := fun d os => cell_regrown hDc d os
  have cM : ∀ d os, (Sort.grow (redrawn w3 d) os).cell? ⟨1, m - 1, none⟩ = some (.string N2) := fun d os => cell_regrown hMc d os
  have HU := Lib.hid (And.intro (congrArg (fun (x : ByteArray) => x.data.toList) hU1) (congrArg (fun (x : ByteArray) => x.data.toList) hU2))
  have z1 : U1.size = 3 := by obtain ⟨x, y, z, _, _, e, _⟩ := day_three w w7; rw [← hU1, e]; rfl
  have z2 : U2.size = 3 := by obtain ⟨x, y, z, _, _, e, _⟩ := mon_three (m - 1) (by omega); rw [← hU2, e]; rfl
  clear hN1 hN2 hU1 hU2 hDc hMc
  obtain ⟨D2, e2⟩ : ∃ N, str (Rf.dig 2 d) = N := ⟨_, rfl⟩
  obtain ⟨Y4, e3⟩ : ∃ N, str (Rf.dig 4 y) = N := ⟨_, rfl⟩
  obtain ⟨C8, e4⟩ : ∃ N, str (clk h mi s) = N := ⟨_, rfl⟩
  have z3 : D2.size = 2 := by rw [← e2]; rfl
  have z4 : Y4.size = 4 := by rw [← e3]; rfl
  have z5 : C8.size = 8 := by rw [← e4]; rfl
  rw [e2] at x2
  rw [e3] at x3
  rw [e4] at x4
  have HV := Lib.hid (And.intro (congrArg (fun (x : ByteArray) => x.data.toList) e2) (And.intro (congrArg (fun (x : ByteArray) => x.data.toList) e3) (congrArg (fun (x : ByteArray) => x.data.toList) e4)))
  clear e2 e3 e4
  have HEQ := Lib.hid (show U1 ++ ⟨#[44, 32]⟩ ++ D2 ++ ⟨#[32]⟩ ++ U2 ++ ⟨#[32]⟩ ++ Y4 ++ ⟨#[32]⟩ ++ C8 ++ ⟨#[32, 71, 77, 84]⟩ = R by
    apply ba_eq
    rw [← HR.out]
    simp only [toList_append]
    rw [← HU.out.1, ← HU.out.2, ← HV.out.1, ← HV.out.2.1, ← HV.out.2.2]
    simp [text, str_list])
  have k0 : decide ((w : Int) < 7) = true := by simp; omega
  have k1 : ((m : Int) - 1).toNat = m - 1 := by omega
  have k2 : IntKind.i64.wrap ((m : Int) - 1) = (m : Int) - 1 := IntWalk.i64_in _ (by omega)
  have k3 : (0 : Int) ≤ (m : Int) - 1 := by omega
  have k4 : (m : Int) - 1 < 12 := by omega
  go_wp2_with fail
  refine wp_region_quiet_below (by kernel_rfl) (by kernel_rfl) ?_
  iterate 4 (first | go_big_quiet_step (fail) | quiet_step (exact cT1 _ _))
  clear cT1
  repeat (first | go_big_quiet_step (fail) | quiet_step (exact cT2 _ _) | quiet_step (fail))
  refine wpQuiet_nil ?_
  intro _ hw'
  obtain ⟨⟨dq, osq⟩, hw''⟩ := hw'
  subst hw''
  have HB4 := Lib.hid (below_trans HB3.out (below_regrown w3 dq osq))
  go_wp2_with fail
  go_ret2
  exact ⟨congrArg (fun x => Ending.returned (.tuple #[.string x, .int .i64 0])) HEQ.out, HB4.out⟩
theorem fmt8_is (t : Int) (R : ByteArray) (W : World) (hT : PowTab W) (hDT : DayTab W) (hMT : MonTab W) (t1 : -62135596800 ≤ t) (t2 : t ≤ 253402300799) (hR : fmt8 t = R.data.toList) :
    Calls Tryd.prog 12 #[.int .i64 t] W fun e w' => e = .returned (.tuple #[.string R, .int .i64 0]) ∧ Below W.heap.size W w' := by
  obtain ⟨D, S, y, m, d, h, mi, s, w, D1, D2, S1, S2, te, hw, w7, m1, m9, hX, hf, -⟩ := parts8 t t1 t2
  obtain ⟨X, hXX, -⟩ := ba_ex (Rf.fmtL t)
  rw [hf] at hR
  rw [hX] at hXX
  rcases day_sec t with ⟨r1, r2, e⟩ | ⟨r1, r2, e⟩
  · exact fmt8A t _ _ D w y m d h mi s X R W hT hDT hMT t1 t2 rfl rfl r1 r2 (by omega) D1 D2 hw w7 m1 m9 hXX (by rw [hX]; exact hXX) hR
  · exact fmt8B t _ _ D w y m d h mi s X R W hT hDT hMT t1 t2 rfl rfl r1 r2 (by omega) D1 D2 hw w7 m1 m9 hXX (by rw [hX]; exact hXX) hR
theorem parse8_of (t : Int) (R : ByteArray) (W : World) (hDT : DayTab W) (hMT : MonTab W) (hL : MaxLen W) (t1 : -62135596800 ≤ t) (t2 : t ≤ 253402300799) (hR : fmt8 t = R.data.toList) :
    Calls Tryd.prog 14 #[.string R] W fun e w' => e = .returned (.tuple #[.int .i64 t, .int .i64 0]) ∧ Below W.heap.size W w' := by
  obtain ⟨D, S, y, m, d, h, mi, s, w, D1, D2, S1, S2, te, hw, w7, m1, m9, hX, hf, p, y9, d9, hD⟩ := parts8 t t1 t2
  rw [hf] at hR
  obtain ⟨v1, v2, v3, v4, v5, v6⟩ := p.v
  have a1 := p.hb
  have a2 := p.mib
  have a3 := p.sb
  have hs : Rf.secV y m d h mi s = (t, 0) := by
    have ho : Rf.okS y m d h mi s = true := by
      unfold Rf.okS
      simp only [Bool.and_eq_true, decide_eq_true_eq]
      exact ⟨⟨by omega, by omega⟩, by omega, by omega, by omega, by omega, by omega, by omega⟩
    unfold Rf.secV
    rw [if_pos ho]
    exact congrArg (fun x => (x, (0 : Int))) p.te.symm
  exact parse8_is R w y m d h mi s t W w7 y9 m1 m9 d9 (by omega) (by omega) (by omega) hDT hMT hL hR hs t1 t2
end Go.Proofs.YtikjehgbfkndjaaDoor.R8
