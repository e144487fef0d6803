/- operate. -/
import Derived.Test.YtcobjjaicckgpaaVfW6
namespace Go.Proofs.Ytcobjjaicckgpaa.Vf
open Go Go.RowKit Go.Maps Go.Proofs.Ytcobjjaicckgpaa Go.Proofs.Ytcobjjaicckgpaa.Bs
set_option linter.unusedVariables false

set_option maxRecDepth 100000 in
set_option maxHeartbeats 4000000 in
theorem operate_nil (p q : Value) (W : World) :
    Calls Try.prog 30 #[.pointer none, p, q] W fun e w' => e = .returned (.int .i64 1) ∧ w' = W := by
  go_enter Try.func30, Try.ntmps30
  go_wp2_with fail
  go_ret
  exact ⟨rfl, rfl⟩
set_option maxRecDepth 100000 in
set_option maxHeartbeats 4000000 in
theorem operate_down (B : Nat) (o : Loc) (s : St) (p q : Value) (W : World) (h : Is W B o s) (hd : s.down = true) :
    Calls Try.prog 30 #[.pointer (some ⟨o.F, 0, none⟩), p, q] W fun e w' => e = .returned (.int .i64 24) ∧ w' = W := by
  obtain ⟨-, -, c4, -⟩ := fs_flags h.fs
  rw [hd] at c4
  clear h
  go_enter Try.func30, Try.ntmps30
  go_wp2_with fail
  go_ret
  exact ⟨rfl, rfl⟩
set_option maxRecDepth 100000 in
set_option maxHeartbeats 4000000 in
theorem plain_write (B : Nat) (o : Loc) (s : St) (x1 x2 x3 q : Value) (W : World) (Q : Int → World → Prop) (h : Is W B o s) (hd : s.down = false) (ha : s.armed = false)
    (hp : Calls Try.prog 31 #[x1, x2, x3] W fun e w' => ∃ r, e = .returned (.int .i64 r) ∧ Q r w') :
    Calls Try.prog 30 #[.pointer (some ⟨o.F, 0, none⟩), .func (.func 31) #[] #[x1, x2, x3], q] W fun e w' => ∃ r, e = .returned (.int .i64 r) ∧ Q r w' := by
  obtain ⟨-, -, c4, c5, -⟩ := fs_flags h.fs
  rw [hd] at c4
  rw [ha] at c5
  clear h
  have HP := Lib.hid hp
  clear hp
  go_enter Try.func30, Try.ntmps30
  go_wp2_with fail
  refine HP.out.mono ?_
  rintro e w1 ⟨r, rfl, hQ⟩
  have HQ := Lib.hid hQ
  clear hQ
  go_wp2_with fail
  go_ret
  exact ⟨r, rfl, HQ.out⟩
set_option maxRecDepth 100000 in
set_option maxHeartbeats 4000000 in
theorem plain_sync (B : Nat) (o : Loc) (s : St) (x1 x2 q : Value) (W : World) (Q : Int → World → Prop) (h : Is W B o s) (hd : s.down = false) (ha : s.armed = false)
    (hp : Calls Try.prog 34 #[x1, x2] W fun e w' => ∃ r, e = .returned (.int .i64 r) ∧ Q r w') :
    Calls Try.prog 30 #[.pointer (some ⟨o.F, 0, none⟩), .func (.func 34) #[] #[x1, x2], q] W fun e w' => ∃ r, e = .returned (.int .i64 r) ∧ Q r w' := by
  obtain ⟨-, -, c4, c5, -⟩ := fs_flags h.fs
  rw [hd] at c4
  rw [ha] at c5
  clear h
  have HP := Lib.hid hp
  clear hp
  go_enter Try.func30, Try.ntmps30
  go_wp2_with fail
  refine HP.out.mono ?_
  rintro e w1 ⟨r, rfl, hQ⟩
  have HQ := Lib.hid hQ
  clear hQ
  go_wp2_with fail
  go_ret
  exact ⟨r, rfl, HQ.out⟩
set_option maxRecDepth 100000 in
set_option maxHeartbeats 4000000 in
theorem plain_syncdir (B : Nat) (o : Loc) (s : St) (x1 q : Value) (W : World) (Q : Int → World → Prop) (h : Is W B o s) (hd : s.down = false) (ha : s.armed = false)
    (hp : Calls Try.prog 36 #[x1] W fun e w' => ∃ r, e = .returned (.int .i64 r) ∧ Q r w') :
    Calls Try.prog 30 #[.pointer (some ⟨o.F, 0, none⟩), .func (.func 36) #[] #[x1], q] W fun e w' => ∃ r, e = .returned (.int .i64 r) ∧ Q r w' := by
  obtain ⟨-, -, c4, c5, -⟩ := fs_flags h.fs
  rw [hd] at c4
  rw [ha] at c5
  clear h
  have HP := Lib.hid hp
  clear hp
  go_enter Try.func30, Try.ntmps30
  go_wp2_with fail
  refine HP.out.mono ?_
  rintro e w1 ⟨r, rfl, hQ⟩
  have HQ := Lib.hid hQ
  clear hQ
  go_wp2_with fail
  go_ret
  exact ⟨r, rfl, HQ.out⟩
set_option maxRecDepth 100000 in
set_option maxHeartbeats 4000000 in
theorem plain_rename (B : Nat) (o : Loc) (s : St) (x1 x2 x3 q : Value) (W : World) (Q : Int → World → Prop) (h : Is W B o s) (hd : s.down = false) (ha : s.armed = false)
    (hp : Calls Try.prog 38 #[x1, x2, x3] W fun e w' => ∃ r, e = .returned (.int .i64 r) ∧ Q r w') :
    Calls Try.prog 30 #[.pointer (some ⟨o.F, 0, none⟩), .func (.func 38) #[] #[x1, x2, x3], q] W fun e w' => ∃ r, e = .returned (.int .i64 r) ∧ Q r w' := by
  obtain ⟨-, -, c4, c5, -⟩ := fs_flags h.fs
  rw [hd] at c4
  rw [ha] at c5
  clear h
  have HP := Lib.hid hp
  clear hp
  go_enter Try.func30, Try.ntmps30
  go_wp2_with fail
  refine HP.out.mono ?_
  rintro e w1 ⟨r, rfl, hQ⟩
  have HQ := Lib.hid hQ
  clear hQ
  go_wp2_with fail
  go_ret
  exact ⟨r, rfl, HQ.out⟩
set_option maxRecDepth 100000 in
set_option maxHeartbeats 4000000 in
theorem plain_remove (B : Nat) (o : Loc) (s : St) (x1 x2 q : Value) (W : World) (Q : Int → World → Prop) (h : Is W B o s) (hd : s.down = false) (ha : s.armed = false)
    (hp : Calls Try.prog 51 #[x1, x2] W fun e w' => ∃ r, e = .returned (.int .i64 r) ∧ Q r w') :
    Calls Try.prog 30 #[.pointer (some ⟨o.F, 0, none⟩), .func (.func 51) #[] #[x1, x2], q] W fun e w' => ∃ r, e = .returned (.int .i64 r) ∧ Q r w' := by
  obtain ⟨-, -, c4, c5, -⟩ := fs_flags h.fs
  rw [hd] at c4
  rw [ha] at c5
  clear h
  have HP := Lib.hid hp
  clear hp
  go_enter Try.func30, Try.ntmps30
  go_wp2_with fail
  refine HP.out.mono ?_
  rintro e w1 ⟨r, rfl, hQ⟩
  have HQ := Lib.hid hQ
  clear hQ
  go_wp2_with fail
  go_ret
  exact ⟨r, rfl, HQ.out⟩
end Go.Proofs.Ytcobjjaicckgpaa.Vf
