/- New, Arm, Down. -/
import Derived.Test.YtcobjjaicckgpaaVfW19
namespace Go.Proofs.Ytcobjjaicckgpaa.Vf
open Go Go.RowKit Go.Maps Go.Proofs.Ytcobjjaicckgpaa Go.Proofs.Ytcobjjaicckgpaa.Bs
set_option linter.unusedVariables false

def AS.new : AS := ⟨[], [], [], [], false, false, 0, 0⟩
set_option maxRecDepth 100000 in
set_option maxHeartbeats 4000000 in
theorem new_is (W : World) :
    Calls Try.prog 8 #[] W fun e w' => ∃ o s, e = .returned (.pointer (some ⟨o.F, 0, none⟩)) ∧ Is w' W.heap.size o s ∧ Ab AS.new s ∧ (o.Z = fun _ => False) ∧ Below W.heap.size W w' ∧ ∀ k, foot o s k → W.heap.size ≤ k := by
  have b0 := (Below.refl W.heap.size W).alloc (Nat.le_refl _) (.map #[] 0)
  have b1 := b0.alloc b0.size (.map #[] 0)
  have s1 : (W.alloc (.map #[] 0)).heap.size = W.heap.size + 1 := alloc_sz _ _
  have s2 : ((W.alloc (.map #[] 0)).alloc (.map #[] 0)).heap.size = W.heap.size + 2 := by rw [alloc_sz, s1]
  have b2 := b1.alloc b1.size (.cells #[.map (some W.heap.size), .map (some (W.heap.size + 1)), .slice none 0 0, .slice none 0 0, .bool false, .bool false, .int .i64 0, .int .i64 0] 64)
  have hF := new_block ((W.alloc (.map #[] 0)).alloc (.map #[] 0)) (.cells #[.map (some W.heap.size), .map (some (W.heap.size + 1)), .slice none 0 0, .slice none 0 0, .bool false, .bool false, .int .i64 0, .int .i64 0] 64)
  rw [s2] at hF
  have hN : Dir (W.alloc (.map #[] 0)) W.heap.size [] := ⟨0, World.ownsMap_made W Try.prog 9 Rp⟩
  have hD : Dir ((W.alloc (.map #[] 0)).alloc (.map #[] 0)) (W.heap.size + 1) [] := by
    have := World.ownsMap_made (W.alloc (.map #[] 0)) Try.prog 9 Rp
    rw [s1] at this
    exact ⟨0, this⟩
  have HI : Hid (Is (((W.alloc (.map #[] 0)).alloc (.map #[] 0)).alloc (.cells #[.map (some W.heap.size), .map (some (W.heap.size + 1)), .slice none 0 0, .slice none 0 0, .bool false, .bool false, .int .i64 0, .int .i64 0] 64)) W.heap.size ⟨W.heap.size + 2, W.heap.size, W.heap.size + 1, .slice none 0 0, .slice none 0 0, fun _ => False⟩ (conc id AS.new)) :=
    { fs := hF
      names := (hN.of_block (old_block _ _ _ (by omega))).of_block (old_block _ _ _ (by omega))
      dur := hD.of_block (old_block _ _ _ (by omega))
      nd := by show W.heap.size ≠ W.heap.size + 1; omega
      files := ⟨rfl, .inl ⟨rfl, rfl⟩⟩
      pend := ⟨rfl, .inl ⟨rfl, rfl⟩⟩
      each := fun f hf => by cases hf
      zl := fun k hk => hk.elim
      dist := List.nodup_nil
      bF := by show W.heap.size ≤ W.heap.size + 2; omega
      bn := Nat.le_refl _
      bd := by show W.heap.size ≤ W.heap.size + 1; omega
      bf := fun f hf => by cases hf }
  have HB := Lib.hid b2
  clear b0 b1 b2 s1 s2 hF hN hD
  have hM : ∀ w : World, (Instr.makeMap 58 none).run Try.prog w = .ok (.map (some w.heap.size)) (w.alloc (.map #[] 0)) := fun w => rfl
  go_enter Try.func8, Try.ntmps8
  go_wp2_with fail
  go_ret
  refine ⟨⟨W.heap.size + 2, W.heap.size, W.heap.size + 1, .slice none 0 0, .slice none 0 0, fun _ => False⟩, _, rfl, HI.out, ⟨id, rfl⟩, rfl, HB.out, ?_⟩
  rintro k (rfl | rfl | rfl | hk | hk | ⟨f, hf, rfl⟩)
  · show W.heap.size ≤ W.heap.size + 2; omega
  · exact Nat.le_refl _
  · show W.heap.size ≤ W.heap.size + 1; omega
  · simp [Value.ownBlock] at hk
  · simp [Value.ownBlock] at hk
  · cases hf
set_option maxRecDepth 100000 in
set_option maxHeartbeats 4000000 in
theorem down_is (B : Nat) (o : Loc) (s : St) (W : World) (h : Is W B o s) :
    Calls Try.prog 24 #[.pointer (some ⟨o.F, 0, none⟩)] W fun e w' => e = .returned (.bool s.down) ∧ w' = W := by
  obtain ⟨-, -, c4, -⟩ := fs_flags h.fs
  generalize s.down = x at c4 ⊢
  clear h
  cases x
  all_goals
    go_enter Try.func24, Try.ntmps24
    go_wp2_with fail
    go_ret
    exact ⟨rfl, rfl⟩
set_option maxRecDepth 100000 in
set_option maxHeartbeats 4000000 in
theorem down_nil (W : World) :
    Calls Try.prog 24 #[.pointer none] W fun e w' => e = .returned (.bool false) ∧ w' = W := by
  go_enter Try.func24, Try.ntmps24
  go_wp2_with fail
  go_ret
  exact ⟨rfl, rfl⟩
set_option maxRecDepth 100000 in
set_option maxHeartbeats 4000000 in
theorem arm_nil (n e : Int) (W : World) :
    Calls Try.prog 21 #[.pointer none, .int .i64 n, .int .i64 e] W fun e w' => e = .returned (.int .i64 1) ∧ w' = W := by
  go_enter Try.func21, Try.ntmps21
  go_wp2_with fail
  go_ret
  exact ⟨rfl, rfl⟩
set_option maxRecDepth 100000 in
set_option maxHeartbeats 4000000 in
theorem arm_neg (B : Nat) (o : Loc) (n e : Int) (W : World) (hn : decide (n < (0 : Int)) = true) :
    Calls Try.prog 21 #[.pointer (some ⟨o.F, 0, none⟩), .int .i64 n, .int .i64 e] W fun e w' => e = .returned (.int .i64 2) ∧ w' = W := by
  go_enter Try.func21, Try.ntmps21
  go_wp2_with fail
  go_ret
  exact ⟨rfl, rfl⟩
set_option maxRecDepth 100000 in
set_option maxHeartbeats 4000000 in
theorem arm_bad (B : Nat) (o : Loc) (n e : Int) (W : World) (hn : decide (n < (0 : Int)) = false) (h1 : (e != (25 : Int)) = true) (h2 : (e != (26 : Int)) = true) (h3 : (e != (24 : Int)) = true) :
    Calls Try.prog 21 #[.pointer (some ⟨o.F, 0, none⟩), .int .i64 n, .int .i64 e] W fun e w' => e = .returned (.int .i64 2) ∧ w' = W := by
  go_enter Try.func21, Try.ntmps21
  go_wp2_with fail
  go_ret
  exact ⟨rfl, rfl⟩
set_option maxRecDepth 100000 in
set_option maxHeartbeats 4000000 in
theorem arm_down (B : Nat) (o : Loc) (s : St) (n e : Int) (W : World) (h : Is W B o s) (hd : s.down = true) (hn : decide (n < (0 : Int)) = false) (he : e = 25 ∨ e = 26 ∨ e = 24) :
    Calls Try.prog 21 #[.pointer (some ⟨o.F, 0, none⟩), .int .i64 n, .int .i64 e] W fun e w' => e = .returned (.int .i64 24) ∧ w' = W := by
  obtain ⟨-, -, c4, -⟩ := fs_flags h.fs
  rw [hd] at c4
  clear h
  rcases he with rfl | rfl | rfl
  all_goals
    go_enter Try.func21, Try.ntmps21
    go_wp2_with fail
    go_ret
    exact ⟨rfl, rfl⟩
set_option maxRecDepth 100000 in
set_option maxHeartbeats 4000000 in
theorem arm_ok (B : Nat) (o : Loc) (s : St) (n e : Int) (W : World) (h : Is W B o s) (hd : s.down = false) (hn : decide (n < (0 : Int)) = false) (he : e = 25 ∨ e = 26 ∨ e = 24) :
    Calls Try.prog 21 #[.pointer (some ⟨o.F, 0, none⟩), .int .i64 n, .int .i64 e] W fun e' w' => e' = .returned (.int .i64 0) ∧ w' = ((W.setCell ⟨o.F, 5, none⟩ (.bool true)).setCell ⟨o.F, 6, none⟩ (.int .i64 n)).setCell ⟨o.F, 7, none⟩ (.int .i64 e) := by
  obtain ⟨-, -, c4, c5, c6, c7, fz⟩ := fs_flags h.fs
  have f5 := fz 5
  have f6 := fz 6
  have f7 := fz 7
  rw [hd] at c4
  clear h fz
  rcases he with rfl | rfl | rfl
  all_goals
    go_enter Try.func21, Try.ntmps21
    go_wp2_with fail
    go_ret
    exact ⟨rfl, rfl⟩
def AS.arm (n e : Int) (a : AS) : Int × AS := if n < 0 ∨ ¬ (e = 25 ∨ e = 26 ∨ e = 24) then (2, a) else if a.down = true then (24, a) else (0, { a with armed := true, after := n, err := e })
theorem arm_is (B : Nat) (o : Loc) (s : St) (a : AS) (n e : Int) (W : World) (h : Is W B o s) (ha : Ab a s) :
    Calls Try.prog 21 #[.pointer (some ⟨o.F, 0, none⟩), .int .i64 n, .int .i64 e] W (Did B o s W (AS.arm n e) a) := by
  obtain ⟨bl, rfl⟩ := id ha
  by_cases hn : n < 0
  · have e1 : AS.arm n e a = (2, a) := by unfold AS.arm; rw [if_pos (.inl hn)]
    refine (arm_neg B o n e W (decide_eq_true hn)).mono ?_
    rintro e w' ⟨rfl, rfl⟩
    exact Did.quiet (r := 2) h ha 0 (by rw [e1]; rfl) (by rw [e1])
  by_cases he : e = 25 ∨ e = 26 ∨ e = 24
  · have hc : ¬ (n < 0 ∨ ¬ (e = 25 ∨ e = 26 ∨ e = 24)) := by
      rintro (h1 | h1)
      · exact hn h1
      · exact h1 he
    cases hd : a.down with
    | true =>
      have e1 : AS.arm n e a = (24, a) := by unfold AS.arm; rw [if_neg hc, if_pos hd]
      refine (arm_down B o _ n e W h hd (decide_eq_false hn) he).mono ?_
      rintro e' w' ⟨rfl, rfl⟩
      exact Did.quiet (r := 24) h ha 0 (by rw [e1]; rfl) (by rw [e1])
    | false =>
      have e1 : AS.arm n e a = (0, { a with armed := true, after := n, err := e }) := by unfold AS.arm; rw [if_neg hc, if_neg (by rw [hd]; decide)]
      refine (arm_ok B o _ n e W h hd (decide_eq_false hn) he).mono ?_
      rintro e' w' ⟨rfl, rfl⟩
      have h1 : Is (W.setCell ⟨o.F, 5, none⟩ (.bool true)) B o { conc bl a with armed := true } := h.flag rfl rfl rfl rfl rfl
      have h2 : Is ((W.setCell ⟨o.F, 5, none⟩ (.bool true)).setCell ⟨o.F, 6, none⟩ (.int .i64 n)) B o { conc bl a with armed := true, after := n } := h1.flag rfl rfl rfl rfl rfl
      have h3 : Is (((W.setCell ⟨o.F, 5, none⟩ (.bool true)).setCell ⟨o.F, 6, none⟩ (.int .i64 n)).setCell ⟨o.F, 7, none⟩ (.int .i64 e)) B o { conc bl a with armed := true, after := n, err := e } := h2.flag rfl rfl rfl rfl rfl
      exact ⟨0, _, o, rfl, ⟨by rw [e1], bl, by rw [e1]; rfl⟩, rfl, rfl, h3, ((Fr.set _ _ _ _ (.inl rfl)).trans (Fr.set _ _ _ (foot o (conc bl a)) (.inl rfl)) (fun _ _ e => e)).trans (Fr.set _ _ _ (foot o (conc bl a)) (.inl rfl)) (fun _ _ e => e), fun k hk => .inl hk⟩
  · have e1 : AS.arm n e a = (2, a) := by unfold AS.arm; rw [if_pos (.inr he)]
    have h25 : e ≠ 25 := fun h => he (.inl h)
    have h26 : e ≠ 26 := fun h => he (.inr (.inl h))
    have h24 : e ≠ 24 := fun h => he (.inr (.inr h))
    refine (arm_bad B o n e W (decide_eq_false hn) (by simpa using h25) (by simpa using h26) (by simpa using h24)).mono ?_
    rintro e w' ⟨rfl, rfl⟩
    exact Did.quiet (r := 2) h ha 0 (by rw [e1]; rfl) (by rw [e1])
end Go.Proofs.Ytcobjjaicckgpaa.Vf
