/- operate, over each of the closures. -/
import Derived.Test.YtcobjjaicckgpaaVfW16
namespace Go.Proofs.Ytcobjjaicckgpaa.Vf
open Go Go.RowKit Go.Maps Go.Proofs.Ytcobjjaicckgpaa Go.Proofs.Ytcobjjaicckgpaa.Bs
set_option linter.unusedVariables false

/-- A field of the file system that is a flag is set. -/
theorem Is.flag {w : World} {B j : Nat} {o : Loc} {s s' : St} {v : Value} (h : Is w B o s) (h1 : s'.files = s.files) (h2 : s'.names = s.names) (h3 : s'.dur = s.dur) (h4 : s'.pend = s.pend) (hc : (fsCells o s).setIfInBounds j v = fsCells o s') : Is (w.setCell ⟨o.F, j, none⟩ v) B o s' := by
  have hF := heap_setCell_same w o.F j _ _ v h.fs
  have K : ∀ k, k ≠ o.F → (w.setCell ⟨o.F, j, none⟩ v).heap[k]? = w.heap[k]? := fun k hk => heap_setCell_other _ _ _ _ hk
  have KC : ∀ k cur t fr, w.heap[k]? = some (Obj.cells cur t fr) → t ≠ 64 → (w.setCell ⟨o.F, j, none⟩ v).heap[k]? = w.heap[k]? := fun k cur t fr hk ht => K k (ne_of hk h.fs ht)
  have KM : ∀ b m, Dir w b m → (w.setCell ⟨o.F, j, none⟩ v).heap[b]? = w.heap[b]? := fun b m hd => K b (fun e => hd.neB h.fs e.symm)
  exact
    { fs := by rw [hF]; rw [← hc]
      names := by rw [h2]; exact h.names.of_block (KM _ _ h.names)
      dur := by rw [h3]; exact h.dur.of_block (KM _ _ h.dur)
      nd := h.nd
      files := by rw [h1]; exact own_kept h.files fun k hk => by obtain ⟨cur, hc⟩ := own_block h.files hk; exact KC _ _ _ _ hc (by decide)
      pend := by rw [h4]; exact own_kept h.pend fun k hk => by obtain ⟨cur, hc⟩ := own_block h.pend hk; exact KC _ _ _ _ hc (by decide)
      each := fun f hf => by
        rw [h1] at hf
        exact (h.each f hf).kept (by obtain ⟨dv, rv, h1, _⟩ := h.each f hf; exact KC _ _ _ _ h1 (by decide)) (fun k cur fr hc => KC _ _ _ _ hc (by decide))
      zl := zl_kept h.zl (fun k cur fr hc => KC _ _ _ _ hc (by decide))
      dist := by rw [h1]; exact h.dist
      bF := h.bF
      bn := h.bn
      bd := h.bd
      bf := by rw [h1]; exact h.bf }
theorem run_neq_func {P : Program} (w : World) (t : TypeId) (fn : Fn) (fi ca : Array Value) {ps rs : Array TypeId} {vd : Bool} (ht : P.underlying t = some (.func ps rs vd)) :
    (binOp .neq t (.func fn fi ca) .nilFunc).run P w = .ok (.bool true) w := by
  have h : ∀ d : Nat, (Op.equalIn (d + 1) t (.func fn fi ca) .nilFunc).run P w = .ok false w := fun d => by
    simp [Op.equalIn, run_underlying ht]
  simp only [binOp]
  simp [Op.equal, Op.maxDepth, h 9999]
theorem run_neq_nilfunc {P : Program} (w : World) (t : TypeId) {ps rs : Array TypeId} {vd : Bool} (ht : P.underlying t = some (.func ps rs vd)) :
    (binOp .neq t .nilFunc .nilFunc).run P w = .ok (.bool false) w := by
  have h : ∀ d : Nat, (Op.equalIn (d + 1) t .nilFunc .nilFunc).run P w = .ok true w := fun d => by
    simp [Op.equalIn, run_underlying ht]
  simp only [binOp]
  simp [Op.equal, Op.maxDepth, h 9999]
theorem foot_flag {o : Loc} {s s' : St} {k : Nat} (h1 : s'.files = s.files) (h : foot o s' k) : foot o s k := by
  unfold foot at h ⊢
  rw [h1] at h
  exact h
theorem op_down {B : Nat} {o : Loc} {s : St} {a : AS} {W : World} {P : AS → Int × AS} {Q : AS → AS} (p q : Value) (h : Is W B o s) (ha : Ab a s) (hd : a.down = true) :
    Calls Try.prog 30 #[.pointer (some ⟨o.F, 0, none⟩), p, q] W (Did B o s W (AS.op P Q) a) := by
  obtain ⟨bl, rfl⟩ := id ha
  refine (operate_down B o _ p q W h hd).mono ?_
  rintro e w' ⟨rfl, rfl⟩
  have e1 : AS.op P Q a = (24, a) := by unfold AS.op; rw [if_pos hd]
  exact Did.quiet (r := 24) h ha 0 (by rw [e1]; rfl) (by rw [e1])
theorem Did.weak {B : Nat} {o : Loc} {s : St} {a : AS} {W w' : World} {p p' : AS → Int × AS} {e : Ending} (h : Did B o s W p a e w') (hp : p' a = p a) : Did B o s W p' a e w' := by
  obtain ⟨r, s', o', h0, ⟨h1, h2⟩, h3⟩ := h
  exact ⟨r, s', o', h0, ⟨by rw [hp]; exact h1, by rw [hp]; exact h2⟩, h3⟩
set_option maxRecDepth 100000 in
set_option maxHeartbeats 4000000 in
theorem after_write (B : Nat) (o : Loc) (s : St) (z : Int) (x1 x2 x3 q : Value) (W : World) (Q : Int → World → Prop) (h : Is W B o s) (hd : s.down = false) (ha : s.armed = true) (hz : (0 : Int) < s.after) (hw : IntKind.i64.wrap (s.after - 1) = z)
    (hp : Calls Try.prog 31 #[x1, x2, x3] (W.setCell ⟨o.F, 6, none⟩ (.int .i64 z)) fun e w' => ∃ r, e = .returned (.int .i64 r) ∧ Q r w') :
    Calls Try.prog 30 #[.pointer (some ⟨o.F, 0, none⟩), .func (.func 31) #[] #[x1, x2, x3], q] W fun e w' => ∃ r, e = .returned (.int .i64 r) ∧ Q r w' := by
  obtain ⟨-, -, c4, c5, c6, -, fz⟩ := fs_flags h.fs
  have f6 := fz 6
  rw [hd] at c4
  rw [ha] at c5
  generalize s.after = x at c6 hz hw
  clear h fz
  have HP := Lib.hid hp
  clear hp
  go_enter Try.func30, Try.ntmps30
  go_wp2_with fail
  refine HP.out.mono ?_
  rintro e w1 ⟨r, rfl, hQ⟩
  have HQ := Lib.hid hQ
  clear hQ
  go_wp2_with fail
  go_ret
  exact ⟨r, rfl, HQ.out⟩
set_option maxRecDepth 100000 in
set_option maxHeartbeats 4000000 in
theorem after_sync (B : Nat) (o : Loc) (s : St) (z : Int) (x1 x2 q : Value) (W : World) (Q : Int → World → Prop) (h : Is W B o s) (hd : s.down = false) (ha : s.armed = true) (hz : (0 : Int) < s.after) (hw : IntKind.i64.wrap (s.after - 1) = z)
    (hp : Calls Try.prog 34 #[x1, x2] (W.setCell ⟨o.F, 6, none⟩ (.int .i64 z)) fun e w' => ∃ r, e = .returned (.int .i64 r) ∧ Q r w') :
    Calls Try.prog 30 #[.pointer (some ⟨o.F, 0, none⟩), .func (.func 34) #[] #[x1, x2], q] W fun e w' => ∃ r, e = .returned (.int .i64 r) ∧ Q r w' := by
  obtain ⟨-, -, c4, c5, c6, -, fz⟩ := fs_flags h.fs
  have f6 := fz 6
  rw [hd] at c4
  rw [ha] at c5
  generalize s.after = x at c6 hz hw
  clear h fz
  have HP := Lib.hid hp
  clear hp
  go_enter Try.func30, Try.ntmps30
  go_wp2_with fail
  refine HP.out.mono ?_
  rintro e w1 ⟨r, rfl, hQ⟩
  have HQ := Lib.hid hQ
  clear hQ
  go_wp2_with fail
  go_ret
  exact ⟨r, rfl, HQ.out⟩
set_option maxRecDepth 100000 in
set_option maxHeartbeats 4000000 in
theorem after_syncdir (B : Nat) (o : Loc) (s : St) (z : Int) (x1 q : Value) (W : World) (Q : Int → World → Prop) (h : Is W B o s) (hd : s.down = false) (ha : s.armed = true) (hz : (0 : Int) < s.after) (hw : IntKind.i64.wrap (s.after - 1) = z)
    (hp : Calls Try.prog 36 #[x1] (W.setCell ⟨o.F, 6, none⟩ (.int .i64 z)) fun e w' => ∃ r, e = .returned (.int .i64 r) ∧ Q r w') :
    Calls Try.prog 30 #[.pointer (some ⟨o.F, 0, none⟩), .func (.func 36) #[] #[x1], q] W fun e w' => ∃ r, e = .returned (.int .i64 r) ∧ Q r w' := by
  obtain ⟨-, -, c4, c5, c6, -, fz⟩ := fs_flags h.fs
  have f6 := fz 6
  rw [hd] at c4
  rw [ha] at c5
  generalize s.after = x at c6 hz hw
  clear h fz
  have HP := Lib.hid hp
  clear hp
  go_enter Try.func30, Try.ntmps30
  go_wp2_with fail
  refine HP.out.mono ?_
  rintro e w1 ⟨r, rfl, hQ⟩
  have HQ := Lib.hid hQ
  clear hQ
  go_wp2_with fail
  go_ret
  exact ⟨r, rfl, HQ.out⟩
set_option maxRecDepth 100000 in
set_option maxHeartbeats 4000000 in
theorem after_rename (B : Nat) (o : Loc) (s : St) (z : Int) (x1 x2 x3 q : Value) (W : World) (Q : Int → World → Prop) (h : Is W B o s) (hd : s.down = false) (ha : s.armed = true) (hz : (0 : Int) < s.after) (hw : IntKind.i64.wrap (s.after - 1) = z)
    (hp : Calls Try.prog 38 #[x1, x2, x3] (W.setCell ⟨o.F, 6, none⟩ (.int .i64 z)) fun e w' => ∃ r, e = .returned (.int .i64 r) ∧ Q r w') :
    Calls Try.prog 30 #[.pointer (some ⟨o.F, 0, none⟩), .func (.func 38) #[] #[x1, x2, x3], q] W fun e w' => ∃ r, e = .returned (.int .i64 r) ∧ Q r w' := by
  obtain ⟨-, -, c4, c5, c6, -, fz⟩ := fs_flags h.fs
  have f6 := fz 6
  rw [hd] at c4
  rw [ha] at c5
  generalize s.after = x at c6 hz hw
  clear h fz
  have HP := Lib.hid hp
  clear hp
  go_enter Try.func30, Try.ntmps30
  go_wp2_with fail
  refine HP.out.mono ?_
  rintro e w1 ⟨r, rfl, hQ⟩
  have HQ := Lib.hid hQ
  clear hQ
  go_wp2_with fail
  go_ret
  exact ⟨r, rfl, HQ.out⟩
set_option maxRecDepth 100000 in
set_option maxHeartbeats 4000000 in
theorem after_remove (B : Nat) (o : Loc) (s : St) (z : Int) (x1 x2 q : Value) (W : World) (Q : Int → World → Prop) (h : Is W B o s) (hd : s.down = false) (ha : s.armed = true) (hz : (0 : Int) < s.after) (hw : IntKind.i64.wrap (s.after - 1) = z)
    (hp : Calls Try.prog 51 #[x1, x2] (W.setCell ⟨o.F, 6, none⟩ (.int .i64 z)) fun e w' => ∃ r, e = .returned (.int .i64 r) ∧ Q r w') :
    Calls Try.prog 30 #[.pointer (some ⟨o.F, 0, none⟩), .func (.func 51) #[] #[x1, x2], q] W fun e w' => ∃ r, e = .returned (.int .i64 r) ∧ Q r w' := by
  obtain ⟨-, -, c4, c5, c6, -, fz⟩ := fs_flags h.fs
  have f6 := fz 6
  rw [hd] at c4
  rw [ha] at c5
  generalize s.after = x at c6 hz hw
  clear h fz
  have HP := Lib.hid hp
  clear hp
  go_enter Try.func30, Try.ntmps30
  go_wp2_with fail
  refine HP.out.mono ?_
  rintro e w1 ⟨r, rfl, hQ⟩
  have HQ := Lib.hid hQ
  clear hQ
  go_wp2_with fail
  go_ret
  exact ⟨r, rfl, HQ.out⟩
set_option maxRecDepth 100000 in
set_option maxHeartbeats 4000000 in
theorem fail_nil (B : Nat) (o : Loc) (s : St) (dn : Bool) (p : Value) (W : World) (h : Is W B o s) (hd : s.down = false) (ha : s.armed = true) (hz : decide ((0 : Int) < s.after) = false) (he : (s.err == 24) = dn) :
    Calls Try.prog 30 #[.pointer (some ⟨o.F, 0, none⟩), p, .nilFunc] W fun e w' => e = .returned (.int .i64 s.err) ∧ w' = (W.setCell ⟨o.F, 5, none⟩ (.bool false)).setCell ⟨o.F, 4, none⟩ (.bool dn) := by
  obtain ⟨-, -, c4, c5, c6, c7, fz⟩ := fs_flags h.fs
  have f5 := fz 5
  have f4 := fz 4
  rw [hd] at c4
  rw [ha] at c5
  generalize s.after = x at c6 hz
  generalize s.err = y at c7 he ⊢
  clear h fz
  have hN : ∀ w : World, (binOp .neq 1 .nilFunc .nilFunc).run Try.prog w = .ok (.bool false) w := fun w => run_neq_nilfunc w _ Try.underlying1
  go_enter Try.func30, Try.ntmps30
  go_wp2_with fail
  go_ret
  exact ⟨rfl, rfl⟩
set_option maxRecDepth 100000 in
set_option maxHeartbeats 4000000 in
theorem fail_write (B : Nat) (o : Loc) (s : St) (dn : Bool) (p x1 x2 x3 : Value) (W : World) (Q : World → Prop) (h : Is W B o s) (hd : s.down = false) (ha : s.armed = true) (hz : decide ((0 : Int) < s.after) = false) (he : (s.err == 24) = dn)
    (hq : Calls Try.prog 33 #[x1, x2, x3] (W.setCell ⟨o.F, 5, none⟩ (.bool false)) fun e w' => e = .returned (.tuple #[]) ∧ Q w' ∧ w'.cell? ⟨o.F, 7, none⟩ = some (.int .i64 s.err) ∧ w'.cell? ⟨o.F, 4, none⟩ = some (.bool false) ∧ w'.frozen? ⟨o.F, 4, none⟩ = false) :
    Calls Try.prog 30 #[.pointer (some ⟨o.F, 0, none⟩), p, .func (.func 33) #[] #[x1, x2, x3]] W fun e w' => e = .returned (.int .i64 s.err) ∧ ∃ w1, Q w1 ∧ w' = w1.setCell ⟨o.F, 4, none⟩ (.bool dn) := by
  obtain ⟨-, -, c4, c5, c6, c7, fz⟩ := fs_flags h.fs
  have f5 := fz 5
  rw [hd] at c4
  rw [ha] at c5
  generalize s.after = x at c6 hz
  generalize s.err = y at c7 he hq ⊢
  have HQ := Lib.hid hq
  clear h fz hq
  have hN : ∀ w : World, (binOp .neq 1 (.func (.func 33) #[] #[x1, x2, x3]) .nilFunc).run Try.prog w = .ok (.bool true) w := fun w => run_neq_func w _ _ _ _ Try.underlying1
  go_enter Try.func30, Try.ntmps30
  go_wp2_with fail
  refine HQ.out.mono ?_
  clear c4 c5 c6 c7 f5
  rintro e w1 ⟨rfl, hR, c7, c4, f4⟩
  have HR := Lib.hid hR
  clear hR
  go_wp2_with fail
  go_ret
  exact ⟨rfl, w1, HR.out, rfl⟩
end Go.Proofs.Ytcobjjaicckgpaa.Vf
