import Derived.Test.YtbodoncomeegpaaGreatDoorProg
import Derived.Test.YtbodoncomeegpaaGreatDoorTxt2
import Derived.Test.YtbodoncomeegpaaGreatDoorShelf
import Derived.WalkKit
import Derived.Outline
import Derived.Below
import Derived.OneCell
import Derived.Lib.Hide
import Derived.RegionTactic
import Derived.BigQuiet
import Derived.Deep.QuietTactic
import Derived.ChangeAlike
import Derived.Laws.Rows
namespace Go.Proofs.YtbodoncomeegpaaGreatDoor.Tx
open Go Go.RowKit Go.Proofs.YtbodoncomeegpaaGreatDoor

theorem ret_bool {a b : Bool} (h : a = b) : Ending.returned (.bool a) = .returned (.bool b) := by rw [h]
theorem ret_int {k : IntKind} {a b : Int} (h : a = b) : Ending.returned (.int k a) = .returned (.int k b) := by rw [h]
theorem startB_t {r : Int} (h : (65 ≤ r ∧ r ≤ 90) ∨ r = 95 ∨ (97 ≤ r ∧ r ≤ 122) ∨ (192 ≤ r ∧ r ≤ 214) ∨ (216 ≤ r ∧ r ≤ 246) ∨ (248 ≤ r ∧ r ≤ 767) ∨ (880 ≤ r ∧ r ≤ 893) ∨ (895 ≤ r ∧ r ≤ 8191) ∨ (8204 ≤ r ∧ r ≤ 8205) ∨ (8304 ≤ r ∧ r ≤ 8591) ∨ (11264 ≤ r ∧ r ≤ 12271) ∨ (12289 ≤ r ∧ r ≤ 55295) ∨ (63744 ≤ r ∧ r ≤ 64975) ∨ (65008 ≤ r ∧ r ≤ 65533) ∨ (65536 ≤ r ∧ r ≤ 983039)) : Txt.startB r = true := decide_eq_true h
theorem startB_f {r : Int} (h : ¬ ((65 ≤ r ∧ r ≤ 90) ∨ r = 95 ∨ (97 ≤ r ∧ r ≤ 122) ∨ (192 ≤ r ∧ r ≤ 214) ∨ (216 ≤ r ∧ r ≤ 246) ∨ (248 ≤ r ∧ r ≤ 767) ∨ (880 ≤ r ∧ r ≤ 893) ∨ (895 ≤ r ∧ r ≤ 8191) ∨ (8204 ≤ r ∧ r ≤ 8205) ∨ (8304 ≤ r ∧ r ≤ 8591) ∨ (11264 ≤ r ∧ r ≤ 12271) ∨ (12289 ≤ r ∧ r ≤ 55295) ∨ (63744 ≤ r ∧ r ≤ 64975) ∨ (65008 ≤ r ∧ r ≤ 65533) ∨ (65536 ≤ r ∧ r ≤ 983039))) : Txt.startB r = false := decide_eq_false h
theorem moreB_t {r : Int} (h : (45 ≤ r ∧ r ≤ 46) ∨ (48 ≤ r ∧ r ≤ 57) ∨ r = 183 ∨ (768 ≤ r ∧ r ≤ 879) ∨ (8255 ≤ r ∧ r ≤ 8256)) : Txt.moreB r = true := decide_eq_true h
theorem moreB_f {r : Int} (h : ¬ ((45 ≤ r ∧ r ≤ 46) ∨ (48 ≤ r ∧ r ≤ 57) ∨ r = 183 ∨ (768 ≤ r ∧ r ≤ 879) ∨ (8255 ≤ r ∧ r ≤ 8256))) : Txt.moreB r = false := decide_eq_false h
theorem charB_t {r : Int} (h : r = 9 ∨ r = 10 ∨ r = 13 ∨ (32 ≤ r ∧ r ≤ 55295) ∨ (57344 ≤ r ∧ r ≤ 65533) ∨ (65536 ≤ r ∧ r ≤ 1114111)) : Txt.isCharB r = true := decide_eq_true h
theorem charB_f {r : Int} (h : ¬ (r = 9 ∨ r = 10 ∨ r = 13 ∨ (32 ≤ r ∧ r ≤ 55295) ∨ (57344 ≤ r ∧ r ≤ 65533) ∨ (65536 ≤ r ∧ r ≤ 1114111))) : Txt.isCharB r = false := decide_eq_false h
theorem spB_t {c : Int} (h : c = 32 ∨ c = 9 ∨ c = 10 ∨ c = 13) : Txt.spB c = true := decide_eq_true h
theorem spB_f {c : Int} (h : ¬ (c = 32 ∨ c = 9 ∨ c = 10 ∨ c = 13)) : Txt.spB c = false := decide_eq_false h
theorem vr_t {r : Int} (h : (0 ≤ r ∧ r < 0xD800) ∨ (0xDFFF < r ∧ r ≤ 0x10FFFF)) : Lib.validRune r = true := decide_eq_true h
theorem vr_f {r : Int} (h : ¬ ((0 ≤ r ∧ r < 0xD800) ∨ (0xDFFF < r ∧ r ≤ 0x10FFFF))) : Lib.validRune r = false := decide_eq_false h
theorem space_any (c : Int) (w : World) :
    Calls Tryz.prog 168 #[.int .u8 c] w fun e w' => e = .returned (.bool (Txt.spB c)) ∧ w = w' := by
  rcases h1 : (c == 32) with _ | _ <;> rcases h2 : (c == 9) with _ | _ <;> rcases h3 : (c == 10) with _ | _ <;> rcases h4 : (c == 13) with _ | _
  all_goals
    have g1 := h1
    have g2 := h2
    have g3 := h3
    have g4 := h4
    simp at g1 g2 g3 g4
  all_goals try (exfalso; omega)
  all_goals
    first | (have H := Lib.hid (spB_t (c := c) (by omega))) | (have H := Lib.hid (spB_f (c := c) (by omega)))
    clear g1 g2 g3 g4
    go_enter Tryz.func168, Tryz.ntmps168
    go_wp2
    go_ret
    first | exact ⟨ret_bool H.out.symm, rfl⟩ | exact ⟨ret_bool (by rw [H.out]; simp; omega), rfl⟩
theorem rspace_any (c : Int) (w : World) :
    Calls Tryz.prog 90 #[.int .u8 c] w fun e w' => e = .returned (.bool (Txt.spB c)) ∧ w = w' := by
  rcases h1 : (c == 32) with _ | _ <;> rcases h2 : (c == 9) with _ | _ <;> rcases h3 : (c == 10) with _ | _ <;> rcases h4 : (c == 13) with _ | _
  all_goals
    have g1 := h1
    have g2 := h2
    have g3 := h3
    have g4 := h4
    simp at g1 g2 g3 g4
  all_goals try (exfalso; omega)
  all_goals
    first | (have H := Lib.hid (spB_t (c := c) (by omega))) | (have H := Lib.hid (spB_f (c := c) (by omega)))
    clear g1 g2 g3 g4
    go_enter Tryz.func90, Tryz.ntmps90
    go_wp2
    go_ret
    first | exact ⟨ret_bool H.out.symm, rfl⟩ | exact ⟨ret_bool (by rw [H.out]; simp; omega), rfl⟩
set_option maxHeartbeats 4000000 in
theorem rchar_any (r : Int) (w : World) :
    Calls Tryz.prog 89 #[.int .i64 r] w fun e w' => e = .returned (.bool (Txt.isCharB r)) ∧ w = w' := by
  have hr : r < 9 ∨ r = 9 ∨ r = 10 ∨ (11 ≤ r ∧ r ≤ 12) ∨ r = 13 ∨ (14 ≤ r ∧ r ≤ 31) ∨ (32 ≤ r ∧ r ≤ 55295) ∨ (55296 ≤ r ∧ r ≤ 57343) ∨ (57344 ≤ r ∧ r ≤ 65533) ∨ (65534 ≤ r ∧ r ≤ 65535) ∨ (65536 ≤ r ∧ r ≤ 1114111) ∨ 1114112 ≤ r := by omega
  have ht := @charB_t r
  have hf := @charB_f r
  rcases hr with h | rfl | rfl | ⟨h, h'⟩ | rfl | ⟨h, h'⟩ | ⟨h, h'⟩ | ⟨h, h'⟩ | ⟨h, h'⟩ | ⟨h, h'⟩ | ⟨h, h'⟩ | h
  all_goals
    first | (have H := Lib.hid (ht (by omega))) | (have H := Lib.hid (hf (by omega)))
    clear ht hf
    go_enter Tryz.func89, Tryz.ntmps89
    go_wp2
    go_ret
    first | exact ⟨ret_bool H.out.symm, rfl⟩ | exact ⟨ret_bool (by rw [H.out]; simp; omega), rfl⟩
set_option maxHeartbeats 4000000 in
theorem char_any (r : Int) (w : World) :
    Calls Tryz.prog 167 #[.int .i32 r] w fun e w' => e = .returned (.bool (Txt.isCharB r)) ∧ w = w' := by
  have hr : r < 0 ∨ (0 ≤ r ∧ r ≤ 8) ∨ r = 9 ∨ r = 10 ∨ (11 ≤ r ∧ r ≤ 12) ∨ r = 13 ∨ (14 ≤ r ∧ r ≤ 31) ∨ (32 ≤ r ∧ r ≤ 55295) ∨ (55296 ≤ r ∧ r ≤ 57343) ∨ (57344 ≤ r ∧ r ≤ 65533) ∨ r = 65534 ∨ r = 65535 ∨ (65536 ≤ r ∧ r ≤ 1114111) ∨ 1114112 ≤ r := by omega
  have ht := @charB_t r
  have hf := @charB_f r
  have vt := @vr_t r
  have vf := @vr_f r
  rcases hr with h | ⟨h, h'⟩ | rfl | rfl | ⟨h, h'⟩ | rfl | ⟨h, h'⟩ | ⟨h, h'⟩ | ⟨h, h'⟩ | ⟨h, h'⟩ | rfl | rfl | ⟨h, h'⟩ | h
  all_goals
    first | (have H := Lib.hid (ht (by omega))) | (have H := Lib.hid (hf (by omega)))
    first | (have V := vt (by omega)) | (have V := vf (by omega))
    clear ht hf vt vf
    go_enter Tryz.func167, Tryz.ntmps167
    go_wp2_with (go_at_call 140; refine (Tryz.utf8_ValidRune _ _).mono ?_; rintro e w' ⟨rfl, rfl⟩)
    go_ret
    first | exact ⟨ret_bool H.out.symm, rfl⟩ | exact ⟨ret_bool (by rw [H.out]; simp; omega), rfl⟩
end Go.Proofs.YtbodoncomeegpaaGreatDoor.Tx
