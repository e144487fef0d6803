/- Chapter 3: both programs' contracts by their answers, and the examples. Printed by wip/genrl.py. -/
import Derived.Test.YtikjehgbfkndjaaDoorRfW7
import Derived.Test.YtikjehgbfkndjaaDoorRfW3
namespace Go.Proofs.YtikjehgbfkndjaaDoor.Rl
open Go Go.RowKit Go.Proofs.YtikjehgbfkndjaaDoor Go.Proofs.YtikjehgbfkndjaaDoor.Bs Go.Proofs.YtikjehgbfkndjaaDoor.Rp
set_option linter.unusedVariables false

def fv (t : Int) : List UInt8 × Int := if -62135596800 ≤ t ∧ t ≤ 253402300799 then (Rf.fmtL t, 0) else ([], 3)
theorem fv_tag {t : Int} {l : List UInt8} {z : Int} (h : fv t = (l, z)) : 0 ≤ z ∧ z ≤ 3 := by
  unfold fv at h
  split at h <;> cases h <;> omega
theorem rp_tag2 {l : List UInt8} {u z : Int} (h : Rf.rp l = (u, z)) : 0 ≤ z ∧ z ≤ 20 := by
  have := Rf.rp_tag l
  rw [h] at this
  simp only at this
  omega
theorem fmt_ba (t : Int) (X : ByteArray) (z : Int) (W : World) (t1 : -9223372036854775808 ≤ t) (t2 : t ≤ 9223372036854775807) (hT : PowTab W) (h : fv t = (X.data.toList, z)) :
    Calls Tryd.prog 11 #[.int .i64 t] W fun e w' => e = .returned (.tuple #[.string X, .int .i64 z]) ∧ Below W.heap.size W w' := by
  unfold fv at h
  split at h
  · rename_i hr
    simp only [Prod.mk.injEq] at h
    obtain ⟨h, rfl⟩ := h
    exact fmt_yes t W hT hr.1 hr.2 X h
  · rename_i hr
    simp only [Prod.mk.injEq] at h
    obtain ⟨h, rfl⟩ := h
    rw [← ba_of (A := X) h.symm]
    exact fmt_no t W t1 t2 (by omega)
theorem rfmt_ba (t : Int) (X : ByteArray) (z : Int) (W : World) (h : fv t = (X.data.toList, z)) :
    Calls Tryd.prog 16 #[.int .i64 t] W fun e w' => e = .returned (.tuple #[.string X, .int .i64 z]) ∧ Below W.heap.size W w' := by
  unfold fv at h
  split at h
  · rename_i hr
    simp only [Prod.mk.injEq] at h
    obtain ⟨h, rfl⟩ := h
    exact rfmt_yes t W hr.1 hr.2 X h
  · rename_i hr
    simp only [Prod.mk.injEq] at h
    obtain ⟨h, rfl⟩ := h
    rw [← ba_of (A := X) h.symm]
    exact rfmt_no t W (by omega)
theorem rparse_any (s : ByteArray) (W : World) (hs : s.size ≤ 1000000000) (u z : Int) (hv : Rf.rp s.data.toList = (u, z)) :
    Calls Tryd.prog 18 #[.string s] W fun e w' => e = .returned (.tuple #[.int .i64 u, .int .i64 z]) ∧ w' = W := by
  have BAD : Rf.rp s.data.toList = (0, 20) → (Calls Tryd.prog 18 #[.string s] W fun e w' => e = .returned (.tuple #[.int .i64 0, .int .i64 20]) ∧ w' = W) → Calls Tryd.prog 18 #[.string s] W fun e w' => e = .returned (.tuple #[.int .i64 u, .int .i64 z]) ∧ w' = W := fun h c => by
    rw [hv] at h; cases h; exact c
  rcases h0 : Rf.isB s.data.toList 4 45 45 with _ | _
  · exact BAD (Rw.rp_no (by unfold Rf.sepsB; rw [h0]; rfl)) (Rw.rparse_sep0 s W hs h0)
  rcases h1 : Rf.isB s.data.toList 7 45 45 with _ | _
  · exact BAD (Rw.rp_no (by unfold Rf.sepsB; rw [h0, h1]; rfl)) (Rw.rparse_sep1 s W hs h0 h1)
  rcases h2 : Rf.isB s.data.toList 10 84 116 with _ | _
  · exact BAD (Rw.rp_no (by unfold Rf.sepsB; rw [h0, h1, h2]; rfl)) (Rw.rparse_sep2 s W hs h0 h1 h2)
  rcases h3 : Rf.isB s.data.toList 13 58 58 with _ | _
  · exact BAD (Rw.rp_no (by unfold Rf.sepsB; rw [h0, h1, h2, h3]; rfl)) (Rw.rparse_sep3 s W hs h0 h1 h2 h3)
  rcases h4 : Rf.isB s.data.toList 16 58 58 with _ | _
  · exact BAD (Rw.rp_no (by unfold Rf.sepsB; rw [h0, h1, h2, h3, h4]; rfl)) (Rw.rparse_sep4 s W hs h0 h1 h2 h3 h4)
  have hsep : Rf.sepsB s.data.toList = true := by unfold Rf.sepsB; rw [h0, h1, h2, h3, h4]; rfl
  rcases ho : Rf.okS (Rf.numZ (s.data.toList.drop 0) 4) (Rf.numZ (s.data.toList.drop 5) 2) (Rf.numZ (s.data.toList.drop 8) 2) (Rf.numZ (s.data.toList.drop 11) 2) (Rf.numZ (s.data.toList.drop 14) 2) (Rf.numZ (s.data.toList.drop 17) 2) with _ | _
  · exact BAD (Rw.rp_bad ho) (Rw.rparse_bad s _ _ _ _ _ _ W hs h0 h1 h2 h3 h4 rfl rfl rfl rfl rfl rfl ho)
  have hrp := Rw.rp_yes hsep rfl rfl rfl rfl rfl rfl ho
  have fin : ∀ v : Int × Int, Rf.rp s.data.toList = v → (Calls Tryd.prog 18 #[.string s] W fun e w' => e = .returned (.tuple #[.int .i64 v.1, .int .i64 v.2]) ∧ w' = W) → Calls Tryd.prog 18 #[.string s] W fun e w' => e = .returned (.tuple #[.int .i64 u, .int .i64 z]) ∧ w' = W := fun v h c => by
    rw [hv] at h; subst h; exact c
  rcases h5 : Rf.isB s.data.toList 19 46 46 with _ | _
  · refine fin _ ?_ (Rw.rparse_plain s _ _ _ _ _ _ W hs h0 h1 h2 h3 h4 rfl rfl rfl rfl rfl rfl ho h5 _ _ rfl rfl)
    rw [show Rf.rp s.data.toList = _ from hrp]
    unfold Rf.tl
    rw [Rw.frac_plain h5]
    rfl
  · rcases h6 : Rf.isD (s.data.toList.getD 20 0) with _ | _
    · exact BAD (hrp.trans (Rw.tl_none (Rw.frac_bad h5 h6))) (Rw.rparse_frac s _ _ _ _ _ _ W hs h0 h1 h2 h3 h4 rfl rfl rfl rfl rfl rfl ho h5 h6)
    · refine fin _ ?_ (Rw.rparse_dot s _ _ _ _ _ _ W hs h0 h1 h2 h3 h4 rfl rfl rfl rfl rfl rfl ho h5 h6 _ _ rfl rfl)
      rw [show Rf.rp s.data.toList = _ from hrp]
      unfold Rf.tl
      rw [Rw.frac_good h5 h6]
      rfl
theorem ex1 : fv 0 = ([49, 57, 55, 48, 45, 48, 49, 45, 48, 49, 84, 48, 48, 58, 48, 48, 58, 48, 48, 90], 0) := by decide +kernel
theorem ex2 : Rf.rp [50, 48, 50, 50, 45, 48, 49, 45, 48, 56, 84, 48, 49, 58, 51, 48, 58, 48, 48, 46, 53, 43, 48, 49, 58, 51, 48] = (1641600000, 0) := by decide +kernel
theorem ex3 : Rf.rp [50, 48, 50, 50, 45, 48, 49, 45, 48, 56, 84, 48, 48, 58, 48, 48, 58, 54, 48, 90] = (0, 20) := by decide +kernel
theorem ex4 : Rf.rp [48, 48, 48, 49, 45, 48, 49, 45, 48, 49, 84, 48, 48, 58, 48, 48, 58, 48, 48, 43, 48, 48, 58, 48, 49] = (0, 3) := by decide +kernel
set_option maxRecDepth 100000 in
set_option maxHeartbeats 4000000 in
theorem alive03 (w : World) (hT : PowTab w) :
    Calls Tryd.prog 17 #[] w fun e w' => e = .returned (.bool true) ∧ Below w.heap.size w w' := by
  have HT := Lib.hid hT
  clear hT
  go_enter Tryd.func17, Tryd.ntmps17
  go_wp2_with fail
  refine (fmt_ba 0 ⟨#[49, 57, 55, 48, 45, 48, 49, 45, 48, 49, 84, 48, 48, 58, 48, 48, 58, 48, 48, 90]⟩ 0 _ (by decide) (by decide) HT.out ex1).mono ?_
  rintro e w1 ⟨rfl, hb⟩
  have HB1 := Lib.hid (hb)
  clear hb
  go_wp2_with fail
  refine (parse_any ⟨#[50, 48, 50, 50, 45, 48, 49, 45, 48, 56, 84, 48, 49, 58, 51, 48, 58, 48, 48, 46, 53, 43, 48, 49, 58, 51, 48]⟩ _ (by decide) 1641600000 0 ex2).mono ?_
  rintro e w2 ⟨rfl, hb⟩
  have HB2 := Lib.hid (below_trans HB1.out hb)
  clear hb
  go_wp2_with fail
  refine (parse_any ⟨#[50, 48, 50, 50, 45, 48, 49, 45, 48, 56, 84, 48, 48, 58, 48, 48, 58, 54, 48, 90]⟩ _ (by decide) 0 20 ex3).mono ?_
  rintro e w3 ⟨rfl, hb⟩
  have HB3 := Lib.hid (below_trans HB2.out hb)
  clear hb
  go_wp2_with fail
  refine (parse_any ⟨#[48, 48, 48, 49, 45, 48, 49, 45, 48, 49, 84, 48, 48, 58, 48, 48, 58, 48, 48, 43, 48, 48, 58, 48, 49]⟩ _ (by decide) 0 3 ex4).mono ?_
  rintro e w4 ⟨rfl, hb⟩
  have HB4 := Lib.hid (below_trans HB3.out hb)
  clear hb
  go_wp2_with fail
  go_ret
  exact ⟨rfl, HB4.out⟩
end Go.Proofs.YtikjehgbfkndjaaDoor.Rl
