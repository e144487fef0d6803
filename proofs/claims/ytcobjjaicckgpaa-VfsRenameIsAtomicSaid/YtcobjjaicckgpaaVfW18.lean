/- The operations. -/
import Derived.Test.YtcobjjaicckgpaaVfW17
namespace Go.Proofs.Ytcobjjaicckgpaa.Vf
open Go Go.RowKit Go.Maps Go.Proofs.Ytcobjjaicckgpaa Go.Proofs.Ytcobjjaicckgpaa.Bs
set_option linter.unusedVariables false

theorem Did.split {B : Nat} {o : Loc} {s : St} {W : World} {p : AS → Int × AS} {a : AS} {e : Ending} {w' : World} (h : Did B o s W p a e w') : ∃ r, e = .returned (.int .i64 r) ∧ Did B o s W p a (.returned (.int .i64 r)) w' := by
  obtain ⟨r, s', o', rfl, h⟩ := h
  exact ⟨r, rfl, r, s', o', rfl, h⟩
/-- 'after' is a number that an int holds. -/
def AS.Af (a : AS) : Prop := 0 ≤ a.after ∧ a.after ≤ 9223372036854775807
theorem wrap_pred {x : Int} (h0 : 0 < x) (h1 : x ≤ 9223372036854775807) : IntKind.i64.wrap (x - 1) = x - 1 := by rw [IntKind.wrap_i64]; omega
theorem fail_done {B : Nat} {o : Loc} {s : St} {a : AS} {W : World} {P : AS → Int × AS} (h : Is W B o s) (ha : Ab a s) (hd : a.down = false) (hr : a.armed = true) (hz : ¬ 0 < a.after) :
    Did B o s W (AS.op P id) a (.returned (.int .i64 s.err)) ((W.setCell ⟨o.F, 5, none⟩ (.bool false)).setCell ⟨o.F, 4, none⟩ (.bool (a.err == 24))) := by
  obtain ⟨bl, rfl⟩ := id ha
  have h1 : Is (W.setCell ⟨o.F, 5, none⟩ (.bool false)) B o { conc bl a with armed := false } := h.flag rfl rfl rfl rfl rfl
  have h2 : Is ((W.setCell ⟨o.F, 5, none⟩ (.bool false)).setCell ⟨o.F, 4, none⟩ (.bool (a.err == 24))) B o { conc bl a with armed := false, down := a.err == 24 } := h1.flag rfl rfl rfl rfl rfl
  have e1 : AS.op P id a = (a.err, { a with armed := false, down := a.err == 24 }) := by
    unfold AS.op
    simp only [hd, hr, hz, Bool.false_eq_true, Bool.true_eq_false, if_false, id]
  refine ⟨_, _, o, rfl, ⟨by rw [e1]; rfl, bl, by rw [e1]; rfl⟩, rfl, rfl, h2, (Fr.set _ _ _ _ (.inl rfl)).trans (Fr.set _ _ _ (foot o (conc bl a)) (.inl rfl)) (fun _ _ e => e), fun k hk => .inl hk⟩
/-- operate, where nothing is done if it fails. -/
theorem op_nil {B : Nat} {o : Loc} {s : St} {a : AS} {W : World} {P : AS → Int × AS} {p : Value} (C : World → (Ending → World → Prop) → Prop) (h : Is W B o s) (ha : Ab a s) (hw : a.Wf) (hs : a.Sm) (hf : a.Af)
    (plain : ∀ Q : Int → World → Prop, s.down = false → s.armed = false → C W (fun e w' => ∃ r, e = .returned (.int .i64 r) ∧ Q r w') → Calls Try.prog 30 #[.pointer (some ⟨o.F, 0, none⟩), p, .nilFunc] W fun e w' => ∃ r, e = .returned (.int .i64 r) ∧ Q r w')
    (after : ∀ (z : Int) (Q : Int → World → Prop), s.down = false → s.armed = true → (0 : Int) < s.after → IntKind.i64.wrap (s.after - 1) = z → C (W.setCell ⟨o.F, 6, none⟩ (.int .i64 z)) (fun e w' => ∃ r, e = .returned (.int .i64 r) ∧ Q r w') → Calls Try.prog 30 #[.pointer (some ⟨o.F, 0, none⟩), p, .nilFunc] W fun e w' => ∃ r, e = .returned (.int .i64 r) ∧ Q r w')
    (mono : ∀ (w : World) (Q Q' : Ending → World → Prop), C w Q → (∀ e w', Q e w' → Q' e w') → C w Q')
    (hc : ∀ (W' : World) (s' : St) (a' : AS), Is W' B o s' → Ab a' s' → a'.Wf → a'.Sm → (∀ k, k ≠ o.F → W'.heap[k]? = W.heap[k]?) → C W' (Did B o s' W' P a')) :
    Calls Try.prog 30 #[.pointer (some ⟨o.F, 0, none⟩), p, .nilFunc] W (Did B o s W (AS.op P id) a) := by
  obtain ⟨bl, rfl⟩ := id ha
  cases hd : a.down with
  | true => exact op_down p .nilFunc h ha hd
  | false =>
    cases hr : a.armed with
    | false =>
      refine (plain (fun r w' => Did B o (conc bl a) W P a (.returned (.int .i64 r)) w') hd hr (mono _ _ _ (hc W _ a h ha hw hs fun _ _ => rfl) fun e w' hD => hD.split)).mono ?_
      rintro e w' ⟨r, rfl, hD⟩
      exact hD.weak (by unfold AS.op; simp only [hd, hr, Bool.false_eq_true, if_false, if_true])
    | true =>
      by_cases hz : 0 < a.after
      · have h1 : Is (W.setCell ⟨o.F, 6, none⟩ (.int .i64 (a.after - 1))) B o { conc bl a with after := a.after - 1 } := h.flag rfl rfl rfl rfl rfl
        have ha1 : Ab { a with after := a.after - 1 } { conc bl a with after := a.after - 1 } := ⟨bl, rfl⟩
        refine (after (a.after - 1) (fun r w' => Did B o { conc bl a with after := a.after - 1 } (W.setCell ⟨o.F, 6, none⟩ (.int .i64 (a.after - 1))) P { a with after := a.after - 1 } (.returned (.int .i64 r)) w') hd hr hz (wrap_pred hz hf.2) (mono _ _ _ (hc _ _ _ h1 ha1 ⟨hw.names, hw.dur, hw.pend⟩ ⟨hs.files, hs.names, hs.pend⟩ fun k hk => heap_setCell_other _ _ _ _ hk) fun e w' hD => hD.split)).mono ?_
        rintro e w' ⟨r, rfl, hD⟩
        have e1 : AS.op P id a = P { a with after := a.after - 1 } := by
          unfold AS.op
          simp only [hd, hr, hz, Bool.false_eq_true, Bool.true_eq_false, if_false, if_true]
        obtain ⟨r', s', o', g0, ⟨g1, g2⟩, g3, g4, g5, g6, g7⟩ := Did.from (s := { conc bl a with after := a.after - 1 }) (Fr.set W ⟨o.F, 6, none⟩ (.int .i64 (a.after - 1)) (foot o { conc bl a with after := a.after - 1 }) (.inl rfl)) hD
        exact ⟨r', s', o', g0, ⟨by rw [e1]; exact g1, by rw [e1]; exact g2⟩, g3, g4, g5, g6, g7⟩
      · refine (fail_nil B o _ (a.err == 24) p W h hd hr (decide_eq_false hz) rfl).mono ?_
        rintro e w' ⟨rfl, rfl⟩
        exact fail_done h ha hd hr hz
theorem keep_cell {W W' : World} {F p : Nat} {v : Value} (hn : p ≠ F) (hK : ∀ k, k ≠ F → W'.heap[k]? = W.heap[k]?) (h : W.cell? ⟨p, 0, none⟩ = some v) : W'.cell? ⟨p, 0, none⟩ = some v := by
  unfold World.cell? at h ⊢
  rw [hK p hn]
  exact h
theorem cell_alloc {w : World} {p : Nat} {v : Value} (h : w.cell? ⟨p, 0, none⟩ = some v) (x : Obj) : (w.alloc x).cell? ⟨p, 0, none⟩ = some v := by
  have hlt := lt_of_cell h
  unfold World.cell? at h ⊢
  rw [old_block _ _ _ hlt]
  exact h
theorem op_sync {B p q : Nat} {o : Loc} {s : St} {a : AS} {W : World} {k : ByteArray} (h : Is W B o s) (ha : Ab a s) (hw : a.Wf) (hs : a.Sm) (hf : a.Af) (hp : W.cell? ⟨p, 0, none⟩ = some (.pointer (some ⟨o.F, 0, none⟩))) (hq : W.cell? ⟨q, 0, none⟩ = some (.string k)) (np : p ≠ o.F) (nq : q ≠ o.F) (hk : k.size ≤ 1000000) :
    Calls Try.prog 30 #[.pointer (some ⟨o.F, 0, none⟩), .func (.func 34) #[] #[.pointer (some ⟨p, 0, none⟩), .pointer (some ⟨q, 0, none⟩)], .nilFunc] W (Did B o s W (AS.op (AS.sync k) id) a) :=
  op_nil (fun w Q => Calls Try.prog 34 #[.pointer (some ⟨p, 0, none⟩), .pointer (some ⟨q, 0, none⟩)] w Q) h ha hw hs hf
    (fun Q hd hr hp => plain_sync B o s _ _ .nilFunc W Q h hd hr hp)
    (fun z Q hd hr hz hwr hp => after_sync B o s z _ _ .nilFunc W Q h hd hr hz hwr hp)
    (fun w Q Q' hq hm => hq.mono fun e w' => hm e w')
    (fun W' s' a' hI hA hw' hs' hK => sync1_is B o.F p q o s' a' k W' hI hA hw' rfl (keep_cell np hK hp) (keep_cell nq hK hq) hk)
set_option maxRecDepth 100000 in
set_option maxHeartbeats 4000000 in
theorem sync_is (B : Nat) (o : Loc) (s : St) (a : AS) (k : ByteArray) (W : World) (h : Is W B o s) (ha : Ab a s) (hw : a.Wf) (hs : a.Sm) (hf : a.Af) (hk : k.size ≤ 1000000) :
    Calls Try.prog 10 #[.pointer (some ⟨o.F, 0, none⟩), .string k] W (Did B o s W (AS.op (AS.sync k) id) a) := by
  obtain ⟨F, hF⟩ : ∃ F, o.F = F := ⟨_, rfl⟩
  have hlt := lt_of_heap h.fs
  rw [hF] at hlt ⊢
  have b0 : Below W.heap.size W (W.alloc (.cells #[.pointer (some ⟨F, 0, none⟩)] 26)) := (Below.refl W.heap.size W).alloc (Nat.le_refl _) (.cells #[.pointer (some ⟨F, 0, none⟩)] 26)
  have s0 : W.heap.size = W.heap.size := rfl
  have c0 : (W.alloc (.cells #[.pointer (some ⟨F, 0, none⟩)] 26)).cell? ⟨W.heap.size, 0, none⟩ = some (.pointer (some ⟨F, 0, none⟩)) := by unfold World.cell?; simp only [heap_alloc_new]; rfl
  have b1 : Below W.heap.size W ((W.alloc (.cells #[.pointer (some ⟨F, 0, none⟩)] 26)).alloc (.cells #[.string k] 9)) := b0.alloc (b0.size) (.cells #[.string k] 9)
  have s1 : (W.alloc (.cells #[.pointer (some ⟨F, 0, none⟩)] 26)).heap.size = W.heap.size + 1 := by rw [alloc_sz, s0]
  have c1 : ((W.alloc (.cells #[.pointer (some ⟨F, 0, none⟩)] 26)).alloc (.cells #[.string k] 9)).cell? ⟨W.heap.size + 1, 0, none⟩ = some (.string k) := by rw [← s1]; unfold World.cell?; simp only [heap_alloc_new]; rfl
  have c0_ := cell_alloc c0 (.cells #[.string k] 9)
  have cO := op_sync (o := o) (h.below b1) ha hw hs hf (by rw [hF]; exact c0_) c1 (by omega) (by omega) hk
  rw [hF] at cO
  have HO := Lib.hid cO
  have HF := Lib.hid (Fr.of_below b1 (foot o s))
  clear h cO b0 b1 s0 s1 c0 hF
  go_enter Try.func10, Try.ntmps10
  go_wp2_with fail
  refine HO.out.mono ?_
  rintro e w1 hD
  obtain ⟨r, rfl, hD⟩ := hD.split
  have HD := Lib.hid hD
  clear hD
  go_wp2_with fail
  go_ret
  exact HD.out.from HF.out
theorem op_remove {B p q : Nat} {o : Loc} {s : St} {a : AS} {W : World} {k : ByteArray} (h : Is W B o s) (ha : Ab a s) (hw : a.Wf) (hs : a.Sm) (hf : a.Af) (hp : W.cell? ⟨p, 0, none⟩ = some (.pointer (some ⟨o.F, 0, none⟩))) (hq : W.cell? ⟨q, 0, none⟩ = some (.string k)) (np : p ≠ o.F) (nq : q ≠ o.F) (hk : k.size ≤ 1000000) :
    Calls Try.prog 30 #[.pointer (some ⟨o.F, 0, none⟩), .func (.func 51) #[] #[.pointer (some ⟨p, 0, none⟩), .pointer (some ⟨q, 0, none⟩)], .nilFunc] W (Did B o s W (AS.op (AS.remove k) id) a) :=
  op_nil (fun w Q => Calls Try.prog 51 #[.pointer (some ⟨p, 0, none⟩), .pointer (some ⟨q, 0, none⟩)] w Q) h ha hw hs hf
    (fun Q hd hr hp => plain_remove B o s _ _ .nilFunc W Q h hd hr hp)
    (fun z Q hd hr hz hwr hp => after_remove B o s z _ _ .nilFunc W Q h hd hr hz hwr hp)
    (fun w Q Q' hq hm => hq.mono fun e w' => hm e w')
    (fun W' s' a' hI hA hw' hs' hK => remove1_is B o.F p q o s' a' k W' hI hA hw' hs' rfl (keep_cell np hK hp) (keep_cell nq hK hq) hk)
set_option maxRecDepth 100000 in
set_option maxHeartbeats 4000000 in
theorem remove_is (B : Nat) (o : Loc) (s : St) (a : AS) (k : ByteArray) (W : World) (h : Is W B o s) (ha : Ab a s) (hw : a.Wf) (hs : a.Sm) (hf : a.Af) (hk : k.size ≤ 1000000) :
    Calls Try.prog 28 #[.pointer (some ⟨o.F, 0, none⟩), .string k] W (Did B o s W (AS.op (AS.remove k) id) a) := by
  obtain ⟨F, hF⟩ : ∃ F, o.F = F := ⟨_, rfl⟩
  have hlt := lt_of_heap h.fs
  rw [hF] at hlt ⊢
  have b0 : Below W.heap.size W (W.alloc (.cells #[.pointer (some ⟨F, 0, none⟩)] 26)) := (Below.refl W.heap.size W).alloc (Nat.le_refl _) (.cells #[.pointer (some ⟨F, 0, none⟩)] 26)
  have s0 : W.heap.size = W.heap.size := rfl
  have c0 : (W.alloc (.cells #[.pointer (some ⟨F, 0, none⟩)] 26)).cell? ⟨W.heap.size, 0, none⟩ = some (.pointer (some ⟨F, 0, none⟩)) := by unfold World.cell?; simp only [heap_alloc_new]; rfl
  have b1 : Below W.heap.size W ((W.alloc (.cells #[.pointer (some ⟨F, 0, none⟩)] 26)).alloc (.cells #[.string k] 9)) := b0.alloc (b0.size) (.cells #[.string k] 9)
  have s1 : (W.alloc (.cells #[.pointer (some ⟨F, 0, none⟩)] 26)).heap.size = W.heap.size + 1 := by rw [alloc_sz, s0]
  have c1 : ((W.alloc (.cells #[.pointer (some ⟨F, 0, none⟩)] 26)).alloc (.cells #[.string k] 9)).cell? ⟨W.heap.size + 1, 0, none⟩ = some (.string k) := by rw [← s1]; unfold World.cell?; simp only [heap_alloc_new]; rfl
  have c0_ := cell_alloc c0 (.cells #[.string k] 9)
  have cO := op_remove (o := o) (h.below b1) ha hw hs hf (by rw [hF]; exact c0_) c1 (by omega) (by omega) hk
  rw [hF] at cO
  have HO := Lib.hid cO
  have HF := Lib.hid (Fr.of_below b1 (foot o s))
  clear h cO b0 b1 s0 s1 c0 hF
  go_enter Try.func28, Try.ntmps28
  go_wp2_with fail
  refine HO.out.mono ?_
  rintro e w1 hD
  obtain ⟨r, rfl, hD⟩ := hD.split
  have HD := Lib.hid hD
  clear hD
  go_wp2_with fail
  go_ret
  exact HD.out.from HF.out
theorem op_rename {B p q r : Nat} {o : Loc} {s : St} {a : AS} {W : World} {k t : ByteArray} (h : Is W B o s) (ha : Ab a s) (hw : a.Wf) (hs : a.Sm) (hf : a.Af) (hp : W.cell? ⟨p, 0, none⟩ = some (.pointer (some ⟨o.F, 0, none⟩))) (hq : W.cell? ⟨q, 0, none⟩ = some (.string k)) (hr : W.cell? ⟨r, 0, none⟩ = some (.string t)) (np : p ≠ o.F) (nq : q ≠ o.F) (nr : r ≠ o.F) (hk : k.size ≤ 1000000) (ht : t.size ≤ 1000000) :
    Calls Try.prog 30 #[.pointer (some ⟨o.F, 0, none⟩), .func (.func 38) #[] #[.pointer (some ⟨p, 0, none⟩), .pointer (some ⟨q, 0, none⟩), .pointer (some ⟨r, 0, none⟩)], .nilFunc] W (Did B o s W (AS.op (AS.rename k t) id) a) :=
  op_nil (fun w Q => Calls Try.prog 38 #[.pointer (some ⟨p, 0, none⟩), .pointer (some ⟨q, 0, none⟩), .pointer (some ⟨r, 0, none⟩)] w Q) h ha hw hs hf
    (fun Q hd hr hp => plain_rename B o s _ _ _ .nilFunc W Q h hd hr hp)
    (fun z Q hd hr hz hwr hp => after_rename B o s z _ _ _ .nilFunc W Q h hd hr hz hwr hp)
    (fun w Q Q' hq hm => hq.mono fun e w' => hm e w')
    (fun W' s' a' hI hA hw' hs' hK => rename1_is B o.F p q r o s' a' k t W' hI hA hw' hs' rfl (keep_cell np hK hp) (keep_cell nq hK hq) (keep_cell nr hK hr) hk ht)
set_option maxRecDepth 100000 in
set_option maxHeartbeats 4000000 in
theorem rename_is (B : Nat) (o : Loc) (s : St) (a : AS) (k t : ByteArray) (W : World) (h : Is W B o s) (ha : Ab a s) (hw : a.Wf) (hs : a.Sm) (hf : a.Af) (hk : k.size ≤ 1000000) (ht : t.size ≤ 1000000) :
    Calls Try.prog 12 #[.pointer (some ⟨o.F, 0, none⟩), .string k, .string t] W (Did B o s W (AS.op (AS.rename k t) id) a) := by
  obtain ⟨F, hF⟩ : ∃ F, o.F = F := ⟨_, rfl⟩
  have hlt := lt_of_heap h.fs
  rw [hF] at hlt ⊢
  have b0 : Below W.heap.size W (W.alloc (.cells #[.pointer (some ⟨F, 0, none⟩)] 26)) := (Below.refl W.heap.size W).alloc (Nat.le_refl _) (.cells #[.pointer (some ⟨F, 0, none⟩)] 26)
  have s0 : W.heap.size = W.heap.size := rfl
  have c0 : (W.alloc (.cells #[.pointer (some ⟨F, 0, none⟩)] 26)).cell? ⟨W.heap.size, 0, none⟩ = some (.pointer (some ⟨F, 0, none⟩)) := by unfold World.cell?; simp only [heap_alloc_new]; rfl
  have b1 : Below W.heap.size W ((W.alloc (.cells #[.pointer (some ⟨F, 0, none⟩)] 26)).alloc (.cells #[.string k] 9)) := b0.alloc (b0.size) (.cells #[.string k] 9)
  have s1 : (W.alloc (.cells #[.pointer (some ⟨F, 0, none⟩)] 26)).heap.size = W.heap.size + 1 := by rw [alloc_sz, s0]
  have c1 : ((W.alloc (.cells #[.pointer (some ⟨F, 0, none⟩)] 26)).alloc (.cells #[.string k] 9)).cell? ⟨W.heap.size + 1, 0, none⟩ = some (.string k) := by rw [← s1]; unfold World.cell?; simp only [heap_alloc_new]; rfl
  have b2 : Below W.heap.size W (((W.alloc (.cells #[.pointer (some ⟨F, 0, none⟩)] 26)).alloc (.cells #[.string k] 9)).alloc (.cells #[.string t] 9)) := b1.alloc (b1.size) (.cells #[.string t] 9)
  have s2 : ((W.alloc (.cells #[.pointer (some ⟨F, 0, none⟩)] 26)).alloc (.cells #[.string k] 9)).heap.size = W.heap.size + 2 := by rw [alloc_sz, s1]
  have c2 : (((W.alloc (.cells #[.pointer (some ⟨F, 0, none⟩)] 26)).alloc (.cells #[.string k] 9)).alloc (.cells #[.string t] 9)).cell? ⟨W.heap.size + 2, 0, none⟩ = some (.string t) := by rw [← s2]; unfold World.cell?; simp only [heap_alloc_new]; rfl
  have c0_ := cell_alloc c0 (.cells #[.string k] 9)
  have c0__ := cell_alloc c0_ (.cells #[.string t] 9)
  have c1_ := cell_alloc c1 (.cells #[.string t] 9)
  have cO := op_rename (o := o) (h.below b2) ha hw hs hf (by rw [hF]; exact c0__) c1_ c2 (by omega) (by omega) (by omega) hk ht
  rw [hF] at cO
  have HO := Lib.hid cO
  have HF := Lib.hid (Fr.of_below b2 (foot o s))
  clear h cO b0 b1 b2 s0 s1 s2 c0 c0_ c1 hF
  go_enter Try.func12, Try.ntmps12
  go_wp2_with fail
  refine HO.out.mono ?_
  rintro e w1 hD
  obtain ⟨r, rfl, hD⟩ := hD.split
  have HD := Lib.hid hD
  clear hD
  go_wp2_with fail
  go_ret
  exact HD.out.from HF.out
theorem op_syncdir {B p : Nat} {o : Loc} {s : St} {a : AS} {W : World}  (h : Is W B o s) (ha : Ab a s) (hw : a.Wf) (hs : a.Sm) (hf : a.Af) (hp : W.cell? ⟨p, 0, none⟩ = some (.pointer (some ⟨o.F, 0, none⟩))) (np : p ≠ o.F)  :
    Calls Try.prog 30 #[.pointer (some ⟨o.F, 0, none⟩), .func (.func 36) #[] #[.pointer (some ⟨p, 0, none⟩)], .nilFunc] W (Did B o s W (AS.op AS.syncdir id) a) :=
  op_nil (fun w Q => Calls Try.prog 36 #[.pointer (some ⟨p, 0, none⟩)] w Q) h ha hw hs hf
    (fun Q hd hr hp => plain_syncdir B o s _ .nilFunc W Q h hd hr hp)
    (fun z Q hd hr hz hwr hp => after_syncdir B o s z _ .nilFunc W Q h hd hr hz hwr hp)
    (fun w Q Q' hq hm => hq.mono fun e w' => hm e w')
    (fun W' s' a' hI hA hw' hs' hK => syncdir1_is B o.F p o s' a' W' hI hA rfl (keep_cell np hK hp))
set_option maxRecDepth 100000 in
set_option maxHeartbeats 4000000 in
theorem syncdir_is (B : Nat) (o : Loc) (s : St) (a : AS)  (W : World) (h : Is W B o s) (ha : Ab a s) (hw : a.Wf) (hs : a.Sm) (hf : a.Af)  :
    Calls Try.prog 11 #[.pointer (some ⟨o.F, 0, none⟩)] W (Did B o s W (AS.op AS.syncdir id) a) := by
  obtain ⟨F, hF⟩ : ∃ F, o.F = F := ⟨_, rfl⟩
  have hlt := lt_of_heap h.fs
  rw [hF] at hlt ⊢
  have b0 : Below W.heap.size W (W.alloc (.cells #[.pointer (some ⟨F, 0, none⟩)] 26)) := (Below.refl W.heap.size W).alloc (Nat.le_refl _) (.cells #[.pointer (some ⟨F, 0, none⟩)] 26)
  have s0 : W.heap.size = W.heap.size := rfl
  have c0 : (W.alloc (.cells #[.pointer (some ⟨F, 0, none⟩)] 26)).cell? ⟨W.heap.size, 0, none⟩ = some (.pointer (some ⟨F, 0, none⟩)) := by unfold World.cell?; simp only [heap_alloc_new]; rfl
  have cO := op_syncdir (o := o) (h.below b0) ha hw hs hf (by rw [hF]; exact c0) (by omega) 
  rw [hF] at cO
  have HO := Lib.hid cO
  have HF := Lib.hid (Fr.of_below b0 (foot o s))
  clear h cO b0 s0 hF
  go_enter Try.func11, Try.ntmps11
  go_wp2_with fail
  refine HO.out.mono ?_
  rintro e w1 hD
  obtain ⟨r, rfl, hD⟩ := hD.split
  have HD := Lib.hid hD
  clear hD
  go_wp2_with fail
  go_ret
  exact HD.out.from HF.out
end Go.Proofs.Ytcobjjaicckgpaa.Vf
