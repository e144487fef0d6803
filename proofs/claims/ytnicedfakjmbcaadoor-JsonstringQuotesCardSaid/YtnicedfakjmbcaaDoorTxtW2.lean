import Derived.Test.YtnicedfakjmbcaaDoorTxtW1
import Derived.Deep.DeepCutAuto
namespace Go.Proofs.YtnicedfakjmbcaaDoor.Tx
open Go Go.RowKit Go.Proofs.YtnicedfakjmbcaaDoor
def letB (r : Int) : Bool := decide ((65 ≤ r ∧ r ≤ 90) ∨ (97 ≤ r ∧ r ≤ 122) ∨ r = 95)
theorem letB_t {r : Int} (h : (65 ≤ r ∧ r ≤ 90) ∨ (97 ≤ r ∧ r ≤ 122) ∨ r = 95) : letB r = true := decide_eq_true h
theorem letB_f {r : Int} (h : ¬ ((65 ≤ r ∧ r ≤ 90) ∨ (97 ≤ r ∧ r ≤ 122) ∨ r = 95)) : letB r = false := decide_eq_false h
def lowB (r : Int) : Bool := decide ((192 ≤ r ∧ r ≤ 767 ∧ r ≠ 215 ∧ r ≠ 247) ∨ (880 ≤ r ∧ r ≤ 8191 ∧ r ≠ 894))
theorem lowB_t {r : Int} (h : (192 ≤ r ∧ r ≤ 767 ∧ r ≠ 215 ∧ r ≠ 247) ∨ (880 ≤ r ∧ r ≤ 8191 ∧ r ≠ 894)) : lowB r = true := decide_eq_true h
theorem lowB_f {r : Int} (h : ¬ ((192 ≤ r ∧ r ≤ 767 ∧ r ≠ 215 ∧ r ≠ 247) ∨ (880 ≤ r ∧ r ≤ 8191 ∧ r ≠ 894))) : lowB r = false := decide_eq_false h
def midB (r : Int) : Bool := decide (r = 8204 ∨ r = 8205 ∨ (8304 ≤ r ∧ r ≤ 8591) ∨ (11264 ≤ r ∧ r ≤ 12271) ∨ (12289 ≤ r ∧ r ≤ 55295))
theorem midB_t {r : Int} (h : r = 8204 ∨ r = 8205 ∨ (8304 ≤ r ∧ r ≤ 8591) ∨ (11264 ≤ r ∧ r ≤ 12271) ∨ (12289 ≤ r ∧ r ≤ 55295)) : midB r = true := decide_eq_true h
theorem midB_f {r : Int} (h : ¬ (r = 8204 ∨ r = 8205 ∨ (8304 ≤ r ∧ r ≤ 8591) ∨ (11264 ≤ r ∧ r ≤ 12271) ∨ (12289 ≤ r ∧ r ≤ 55295))) : midB r = false := decide_eq_false h
def higB (r : Int) : Bool := decide ((63744 ≤ r ∧ r ≤ 64975) ∨ (65008 ≤ r ∧ r ≤ 65533) ∨ (65536 ≤ r ∧ r ≤ 983039))
theorem higB_t {r : Int} (h : (63744 ≤ r ∧ r ≤ 64975) ∨ (65008 ≤ r ∧ r ≤ 65533) ∨ (65536 ≤ r ∧ r ≤ 983039)) : higB r = true := decide_eq_true h
theorem higB_f {r : Int} (h : ¬ ((63744 ≤ r ∧ r ≤ 64975) ∨ (65008 ≤ r ∧ r ≤ 65533) ∨ (65536 ≤ r ∧ r ≤ 983039))) : higB r = false := decide_eq_false h
theorem start_or (r : Int) : Txt.startB r = (letB r || lowB r || midB r || higB r) := by
  unfold Txt.startB letB lowB midB higB
  rw [Bool.eq_iff_iff]
  simp only [Bool.or_eq_true, decide_eq_true_eq]
  omega
set_option maxRecDepth 100000 in
set_option maxHeartbeats 4000000 in
theorem rstart_any (r : Int) (w : World) :
    Calls Tryd.prog 26 #[.int .i64 r] w fun e w' => e = .returned (.bool (Txt.startB r)) ∧ w = w' := by
  have HS := Lib.hid (start_or r)
  go_enter Tryd.func26, Tryd.ntmps26
  go_upto_region 1 with fail
  go_cut [3] (fun c wx => c = .bool (letB r) ∧ w = wx)
  case first =>
    have ht := @letB_t r
    have hf := @letB_f r
    have hr : r < 65 ∨ (65 ≤ r ∧ r ≤ 90) ∨ (91 ≤ r ∧ r ≤ 94) ∨ r = 95 ∨ r = 96 ∨ (97 ≤ r ∧ r ≤ 122) ∨ 123 ≤ r := by omega
    rcases hr with h | ⟨h, h'⟩ | ⟨h, h'⟩ | rfl | rfl | ⟨h, h'⟩ | h
    all_goals
      first | (have H := Lib.hid (ht (by omega))) | (have H := Lib.hid (hf (by omega)))
      clear ht hf HS
      go_wp2
      go_meet
      exact ⟨by first | (rw [H.out]; done) | exact congrArg Value.bool (by rw [H.out]; simp; omega), rfl⟩
  case rest =>
    obtain ⟨rfl, rfl⟩ := hcut
    go_upto_region 2 with fail
    go_cut [4] (fun c wx => c = .bool (lowB r) ∧ w = wx)
    case first =>
      have ht := @lowB_t r
      have hf := @lowB_f r
      have hr : r < 192 ∨ (192 ≤ r ∧ r ≤ 214) ∨ r = 215 ∨ (216 ≤ r ∧ r ≤ 246) ∨ r = 247 ∨ (248 ≤ r ∧ r ≤ 767) ∨ (768 ≤ r ∧ r ≤ 879) ∨ (880 ≤ r ∧ r ≤ 893) ∨ r = 894 ∨ (895 ≤ r ∧ r ≤ 8191) ∨ 8192 ≤ r := by omega
      rcases hr with h | ⟨h, h'⟩ | rfl | ⟨h, h'⟩ | rfl | ⟨h, h'⟩ | ⟨h, h'⟩ | ⟨h, h'⟩ | rfl | ⟨h, h'⟩ | h
      all_goals
        first | (have H := Lib.hid (ht (by omega))) | (have H := Lib.hid (hf (by omega)))
        clear ht hf HS
        go_wp2
        go_meet
        exact ⟨by first | (rw [H.out]; done) | exact congrArg Value.bool (by rw [H.out]; simp; omega), rfl⟩
    case rest =>
      obtain ⟨rfl, rfl⟩ := hcut
      go_upto_region 3 with fail
      go_cut [5] (fun c wx => c = .bool (midB r) ∧ w = wx)
      case first =>
        have ht := @midB_t r
        have hf := @midB_f r
        have hr : r < 8204 ∨ r = 8204 ∨ r = 8205 ∨ (8206 ≤ r ∧ r ≤ 8303) ∨ (8304 ≤ r ∧ r ≤ 8591) ∨ (8592 ≤ r ∧ r ≤ 11263) ∨ (11264 ≤ r ∧ r ≤ 12271) ∨ (12272 ≤ r ∧ r ≤ 12288) ∨ (12289 ≤ r ∧ r ≤ 55295) ∨ 55296 ≤ r := by omega
        rcases hr with h | rfl | rfl | ⟨h, h'⟩ | ⟨h, h'⟩ | ⟨h, h'⟩ | ⟨h, h'⟩ | ⟨h, h'⟩ | ⟨h, h'⟩ | h
        all_goals
          first | (have H := Lib.hid (ht (by omega))) | (have H := Lib.hid (hf (by omega)))
          clear ht hf HS
          go_wp2
          go_meet
          exact ⟨by first | (rw [H.out]; done) | exact congrArg Value.bool (by rw [H.out]; simp; omega), rfl⟩
      case rest =>
        obtain ⟨rfl, rfl⟩ := hcut
        go_upto_region 4 with fail
        go_cut [6] (fun c wx => c = .bool (higB r) ∧ w = wx)
        case first =>
          have ht := @higB_t r
          have hf := @higB_f r
          have hr : r < 63744 ∨ (63744 ≤ r ∧ r ≤ 64975) ∨ (64976 ≤ r ∧ r ≤ 65007) ∨ (65008 ≤ r ∧ r ≤ 65533) ∨ (65534 ≤ r ∧ r ≤ 65535) ∨ (65536 ≤ r ∧ r ≤ 983039) ∨ 983040 ≤ r := by omega
          rcases hr with h | ⟨h, h'⟩ | ⟨h, h'⟩ | ⟨h, h'⟩ | ⟨h, h'⟩ | ⟨h, h'⟩ | h
          all_goals
            first | (have H := Lib.hid (ht (by omega))) | (have H := Lib.hid (hf (by omega)))
            clear ht hf HS
            go_wp2
            go_meet
            exact ⟨by first | (rw [H.out]; done) | exact congrArg Value.bool (by rw [H.out]; simp; omega), rfl⟩
        case rest =>
          obtain ⟨rfl, rfl⟩ := hcut
          rcases h1 : letB r with _ | _
          · rcases h2 : lowB r with _ | _
            · rcases h3 : midB r with _ | _
              · rcases h4 : higB r with _ | _
                all_goals
                  go_wp2
                  go_ret
                  exact ⟨ret_bool (by rw [HS.out, h1, h2, h3, h4]; rfl), rfl⟩
              · go_wp2
                go_ret
                exact ⟨ret_bool (by rw [HS.out, h1, h2, h3]; rfl), rfl⟩
            · go_wp2
              go_ret
              exact ⟨ret_bool (by rw [HS.out, h1, h2]; rfl), rfl⟩
          · go_wp2
            go_ret
            exact ⟨ret_bool (by rw [HS.out, h1]; rfl), rfl⟩
end Go.Proofs.YtnicedfakjmbcaaDoor.Tx
