import Derived.Test.YtbodoncomeegpaaGreatDoorTxtW1
import Derived.Deep.DeepCutAuto
namespace Go.Proofs.YtbodoncomeegpaaGreatDoor.Tx
open Go Go.RowKit Go.Proofs.YtbodoncomeegpaaGreatDoor
def letB (r : Int) : Bool := decide ((65 ≤ r ∧ r ≤ 90) ∨ (97 ≤ r ∧ r ≤ 122) ∨ r = 95)
theorem letB_t {r : Int} (h : (65 ≤ r ∧ r ≤ 90) ∨ (97 ≤ r ∧ r ≤ 122) ∨ r = 95) : letB r = true := decide_eq_true h
theorem letB_f {r : Int} (h : ¬ ((65 ≤ r ∧ r ≤ 90) ∨ (97 ≤ r ∧ r ≤ 122) ∨ r = 95)) : letB r = false := decide_eq_false h
def lowB (r : Int) : Bool := decide ((192 ≤ r ∧ r ≤ 767 ∧ r ≠ 215 ∧ r ≠ 247) ∨ (880 ≤ r ∧ r ≤ 8191 ∧ r ≠ 894))
theorem lowB_t {r : Int} (h : (192 ≤ r ∧ r ≤ 767 ∧ r ≠ 215 ∧ r ≠ 247) ∨ (880 ≤ r ∧ r ≤ 8191 ∧ r ≠ 894)) : lowB r = true := decide_eq_true h
theorem lowB_f {r : Int} (h : ¬ ((192 ≤ r ∧ r ≤ 767 ∧ r ≠ 215 ∧ r ≠ 247) ∨ (880 ≤ r ∧ r ≤ 8191 ∧ r ≠ 894))) : lowB r = false := decide_eq_false h
def midB (r : Int) : Bool := decide (r = 8204 ∨ r = 8205 ∨ (8304 ≤ r ∧ r ≤ 8591) ∨ (11264 ≤ r ∧ r ≤ 12271) ∨ (12289 ≤ r ∧ r ≤ 55295))
theorem midB_t {r : Int} (h : r = 8204 ∨ r = 8205 ∨ (8304 ≤ r ∧ r ≤ 8591) ∨ (11264 ≤ r ∧ r ≤ 12271) ∨ (12289 ≤ r ∧ r ≤ 55295)) : midB r = true := decide_eq_true h
theorem midB_f {r : Int} (h : ¬ (r = 8204 ∨ r = 8205 ∨ (8304 ≤ r ∧ r ≤ 8591) ∨ (11264 ≤ r ∧ r ≤ 12271) ∨ (12289 ≤ r ∧ r ≤ 55295))) : midB r = false := decide_eq_false h
def higB (r : Int) : Bool := decide ((63744 ≤ r ∧ r ≤ 64975) ∨ (65008 ≤ r ∧ r ≤ 65533) ∨ (65536 ≤ r ∧ r ≤ 983039))
theorem higB_t {r : Int} (h : (63744 ≤ r ∧ r ≤ 64975) ∨ (65008 ≤ r ∧ r ≤ 65533) ∨ (65536 ≤ r ∧ r ≤ 983039)) : higB r = true := decide_eq_true h
theorem higB_f {r : Int} (h : ¬ ((63744 ≤ r ∧ r ≤ 64975) ∨ (65008 ≤ r ∧ r ≤ 65533) ∨ (65536 ≤ r ∧ r ≤ 983039))) : higB r = false := decide_eq_false h
theorem start_or (r : Int) : Txt.startB r = (letB r || lowB r || midB r || higB r) := by
  unfold Txt.startB letB lowB midB higB
  rw [Bool.eq_iff_iff]
  simp only [Bool.or_eq_true, decide_eq_true_eq]
  omega
end Go.Proofs.YtbodoncomeegpaaGreatDoor.Tx
