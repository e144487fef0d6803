/- SyncDir's closure. -/
import Derived.Test.YtcobjjaicckgpaaVfW12
import Derived.Deep.RegionHeld3
import Derived.Deep.DrawnRows
namespace Go.Proofs.Ytcobjjaicckgpaa.Vf
open Go Go.RowKit Go.Maps Go.Proofs.Ytcobjjaicckgpaa Go.Proofs.Ytcobjjaicckgpaa.Bs
set_option linter.unusedVariables false
attribute [local go_sem ↓] Go.wp_at_zero Go.wp_at_succ

set_option maxRecDepth 100000 in
set_option maxHeartbeats 4000000 in
theorem syncdir1_walk (F p nb : Nat) (W : World) (x1 x3 : Value) (es : Array MapEntry) (ck : Nat) (hp : W.cell? ⟨p, 0, none⟩ = some (.pointer (some ⟨F, 0, none⟩))) (h0 : W.cell? ⟨F, 0, none⟩ = some (.map (some nb))) (h1 : W.cell? ⟨F, 1, none⟩ = some x1) (h3 : W.cell? ⟨F, 3, none⟩ = some x3) (f1 : W.frozen? ⟨F, 1, none⟩ = false) (f3 : W.frozen? ⟨F, 3, none⟩ = false) (hm : W.heap[nb]? = some (.map es ck)) :
    Calls Try.prog 36 #[.pointer (some ⟨p, 0, none⟩)] W fun e w' => e = .returned (.int .i64 0) ∧ w' = ((W.drew.alloc (.map es ck)).setCell ⟨F, 1, none⟩ (.map (some W.heap.size))).setCell ⟨F, 3, none⟩ (.slice none 0 0) := by
  have cC : Calls Try.prog 37 #[.map (some nb)] W.drew fun e w' => e = .returned (.map (some W.heap.size)) ∧ w'.cell? ⟨p, 0, none⟩ = some (.pointer (some ⟨F, 0, none⟩)) ∧ w'.cell? ⟨F, 0, none⟩ = some (.map (some nb)) ∧ w'.cell? ⟨F, 1, none⟩ = some x1 ∧ w'.cell? ⟨F, 3, none⟩ = some x3 ∧ w'.frozen? ⟨F, 1, none⟩ = false ∧ w'.frozen? ⟨F, 3, none⟩ = false ∧ Hid (w' = W.drew.alloc (.map es ck)) := by
    refine (mclone_is nb es ck W.drew hm).mono ?_
    rintro e w' ⟨rfl, rfl⟩
    have hb := old_block W.drew (.map es ck) F (lt_of_cell h1)
    have hb2 := old_block W.drew (.map es ck) p (lt_of_cell hp)
    refine ⟨rfl, ?_, ?_, ?_, ?_, ?_, ?_, rfl⟩
    · unfold World.cell? at hp ⊢; rw [hb2]; exact hp
    · unfold World.cell? at h0 ⊢; rw [hb]; exact h0
    · unfold World.cell? at h1 ⊢; rw [hb]; exact h1
    · unfold World.cell? at h3 ⊢; rw [hb]; exact h3
    · unfold World.frozen? at f1 ⊢; rw [hb]; exact f1
    · unfold World.frozen? at f3 ⊢; rw [hb]; exact f3
  have CC := Lib.hid cC
  clear cC hm
  go_enter Try.func36, Try.ntmps36
  go_wp2_with fail
  go_region_held3 (fun w' => w'.cell? ⟨p, 0, none⟩ = some (.pointer (some ⟨F, 0, none⟩)) ∧ w'.cell? ⟨F, 0, none⟩ = some (.map (some nb))) (first | go_keep | ((try dsimp only); refine ⟨?_, ?_⟩ <;> (first | exact (World.cell?_setCell_other _ _ _ _ (by simp)).trans (by assumption) | exact (World.cell?_setCell_other _ _ _ _ (by simp)).trans ((World.cell?_setCell_other _ _ _ _ (by simp)).trans (by assumption)))))
    (first
      | (go_at_call 37; refine CC.out.mono ?_; rintro e w2 ⟨rfl, q1, q2, q3, q4, q5, q6, HW⟩; clear h0 h1 h3 f1 f3))
  all_goals go_wp2_with fail
  all_goals go_ret
  all_goals exact ⟨rfl, by rw [HW.out]⟩
end Go.Proofs.Ytcobjjaicckgpaa.Vf
