/- Write. -/
import Derived.Test.YtcobjjaicckgpaaVfW18
namespace Go.Proofs.Ytcobjjaicckgpaa.Vf
open Go Go.RowKit Go.Maps Go.Proofs.Ytcobjjaicckgpaa Go.Proofs.Ytcobjjaicckgpaa.Bs
set_option linter.unusedVariables false

theorem AS.put_flags (k : ByteArray) (l : List UInt8) (a : AS) : (AS.put k l a).2.err = a.err ∧ (AS.put k l a).2.down = a.down ∧ (AS.put k l a).2.armed = a.armed ∧ (AS.put k l a).2.after = a.after := by
  unfold AS.put
  split
  · exact ⟨rfl, rfl, rfl, rfl⟩
  · split <;> exact ⟨rfl, rfl, rfl, rfl⟩
/-- What a failing Write does. -/
def AS.tear (k : ByteArray) (l : List UInt8) (a : AS) : AS := (AS.put k (l.take (l.length / 2)) a).2
theorem op_write {B p q r : Nat} {o : Loc} {s : St} {a : AS} {W : World} {k : ByteArray} {v : Value} {l : List UInt8} (h : Is W B o s) (ha : Ab a s) (hw : a.Wf) (hs : a.Sm) (hf : a.Af) (hp : W.cell? ⟨p, 0, none⟩ = some (.pointer (some ⟨o.F, 0, none⟩))) (hq : W.cell? ⟨q, 0, none⟩ = some (.string k)) (hr : W.cell? ⟨r, 0, none⟩ = some v) (np : p ≠ o.F) (nq : q ≠ o.F) (nr : r ≠ o.F) (hk : k.size ≤ 1000000) (hl : l.length ≤ 1000000) (hv : Rd W v l) :
    Calls Try.prog 30 #[.pointer (some ⟨o.F, 0, none⟩), .func (.func 31) #[] #[.pointer (some ⟨p, 0, none⟩), .pointer (some ⟨q, 0, none⟩), .pointer (some ⟨r, 0, none⟩)], .func (.func 33) #[] #[.pointer (some ⟨p, 0, none⟩), .pointer (some ⟨q, 0, none⟩), .pointer (some ⟨r, 0, none⟩)]] W (Did B o s W (AS.op (AS.put k l) (AS.tear k l)) a) := by
  obtain ⟨bl, rfl⟩ := id ha
  have KV : ∀ (j : Nat) (x : Value), Rd (W.setCell ⟨o.F, j, none⟩ x) v l := fun j x => hv.kept fun g cur fr hc => heap_setCell_other _ _ _ _ (ne_of hc h.fs (by decide))
  cases hd : a.down with
  | true => exact op_down _ _ h ha hd
  | false =>
    cases hr' : a.armed with
    | false =>
      refine (plain_write B o _ _ _ _ _ W (fun r w' => Did B o (conc bl a) W (AS.put k l) a (.returned (.int .i64 r)) w') h hd hr' ((write1_is B o.F p q r o _ a k v l W h ha hw hs rfl hp hq hr hk hl hv).mono fun e w' hD => hD.split)).mono ?_
      rintro e w' ⟨r, rfl, hD⟩
      exact hD.weak (by unfold AS.op; simp only [hd, hr', Bool.false_eq_true, if_false, if_true])
    | true =>
      by_cases hz : 0 < a.after
      · have h1 : Is (W.setCell ⟨o.F, 6, none⟩ (.int .i64 (a.after - 1))) B o { conc bl a with after := a.after - 1 } := h.flag rfl rfl rfl rfl rfl
        have ha1 : Ab { a with after := a.after - 1 } { conc bl a with after := a.after - 1 } := ⟨bl, rfl⟩
        have hK : ∀ k, k ≠ o.F → (W.setCell ⟨o.F, 6, none⟩ (.int .i64 (a.after - 1))).heap[k]? = W.heap[k]? := fun k hk => heap_setCell_other _ _ _ _ hk
        refine (after_write B o _ (a.after - 1) _ _ _ _ W (fun r w' => Did B o { conc bl a with after := a.after - 1 } (W.setCell ⟨o.F, 6, none⟩ (.int .i64 (a.after - 1))) (AS.put k l) { a with after := a.after - 1 } (.returned (.int .i64 r)) w') h hd hr' hz (wrap_pred hz hf.2)
          ((write1_is B o.F p q r o _ _ k v l _ h1 ha1 ⟨hw.names, hw.dur, hw.pend⟩ ⟨hs.files, hs.names, hs.pend⟩ rfl (keep_cell np hK hp) (keep_cell nq hK hq) (keep_cell nr hK hr) hk hl (KV 6 _)).mono fun e w' hD => hD.split)).mono ?_
        rintro e w' ⟨r, rfl, hD⟩
        have e1 : AS.op (AS.put k l) (AS.tear k l) a = AS.put k l { a with after := a.after - 1 } := by
          unfold AS.op
          simp only [hd, hr', hz, Bool.false_eq_true, Bool.true_eq_false, if_false, if_true]
        obtain ⟨r', s', o', g0, ⟨g1, g2⟩, g3, g4, g5, g6, g7⟩ := Did.from (s := { conc bl a with after := a.after - 1 }) (Fr.set W ⟨o.F, 6, none⟩ (.int .i64 (a.after - 1)) (foot o { conc bl a with after := a.after - 1 }) (.inl rfl)) hD
        exact ⟨r', s', o', g0, ⟨by rw [e1]; exact g1, by rw [e1]; exact g2⟩, g3, g4, g5, g6, g7⟩
      · have h1 : Is (W.setCell ⟨o.F, 5, none⟩ (.bool false)) B o { conc bl a with armed := false } := h.flag rfl rfl rfl rfl rfl
        have ha1 : Ab { a with armed := false } { conc bl a with armed := false } := ⟨bl, rfl⟩
        have hK : ∀ k, k ≠ o.F → (W.setCell ⟨o.F, 5, none⟩ (.bool false)).heap[k]? = W.heap[k]? := fun k hk => heap_setCell_other _ _ _ _ hk
        have hfl := AS.put_flags k (l.take (l.length / 2)) { a with armed := false }
        refine (fail_write B o _ (a.err == 24) _ _ _ _ W (fun w' => ∃ e', Did B o { conc bl a with armed := false } (W.setCell ⟨o.F, 5, none⟩ (.bool false)) (AS.put k (l.take (l.length / 2))) { a with armed := false } e' w') h hd hr' (decide_eq_false hz) rfl
          ((write2_is B o.F p q r o _ _ k v l _ h1 ha1 ⟨hw.names, hw.dur, hw.pend⟩ ⟨hs.files, hs.names, hs.pend⟩ rfl (keep_cell np hK hp) (keep_cell nq hK hq) (keep_cell nr hK hr) hk hl (KV 5 _)).mono ?_)).mono ?_
        · rintro e w' ⟨rfl, e', hD⟩
          refine ⟨rfl, ⟨e', hD⟩, ?_⟩
          obtain ⟨r', s', o', g0, ⟨g1, bl', g2⟩, g3, g4, g5, g6, g7⟩ := hD
          obtain ⟨-, -, c4, -, -, c7, fz⟩ := fs_flags g5.fs
          rw [g3] at c4 c7 fz
          subst g2
          refine ⟨?_, ?_, fz 4⟩
          · rw [c7]; exact congrArg (fun x => some (Value.int .i64 x)) hfl.1
          · rw [c4]; exact congrArg (fun x => some (Value.bool x)) (hfl.2.1.trans hd)
        · rintro e w' ⟨rfl, w1, ⟨e', r', s', o', g0, ⟨g1, bl', g2⟩, g3, g4, g5, g6, g7⟩, rfl⟩
          subst g2
          have h2 : Is (w1.setCell ⟨o'.F, 4, none⟩ (.bool (a.err == 24))) B o' { conc bl' (AS.put k (l.take (l.length / 2)) { a with armed := false }).2 with down := a.err == 24 } := g5.flag rfl rfl rfl rfl rfl
          rw [g3] at h2
          have e1 : AS.op (AS.put k l) (AS.tear k l) a = (a.err, { AS.tear k l { a with armed := false } with down := a.err == 24 }) := by
            unfold AS.op
            simp only [hd, hr', hz, Bool.false_eq_true, Bool.true_eq_false, if_false]
          have f1 := ((Fr.set W ⟨o.F, 5, none⟩ (.bool false) (foot o (conc bl a)) (.inl rfl)).trans g6 (fun _ _ e => e)).trans (Fr.set w1 ⟨o.F, 4, none⟩ (.bool (a.err == 24)) (foot o (conc bl a)) (.inl rfl)) (fun _ _ e => e)
          refine ⟨_, _, o', rfl, ⟨by rw [e1]; rfl, bl', by rw [e1]; rfl⟩, g3, g4, h2, f1, fun k hk => ?_⟩
          rcases g7 k hk with e | e
          · exact .inl e
          · exact .inr (by simpa using e)
theorem cell_allocV {w : World} {p : Nat} {v : Value} (h : w.cell? ⟨p, 0, none⟩ = some v) (x : Obj) : (w.alloc x).cell? ⟨p, 0, none⟩ = some v := cell_alloc h x
set_option maxRecDepth 100000 in
set_option maxHeartbeats 4000000 in
theorem write_is (B : Nat) (o : Loc) (s : St) (a : AS) (k : ByteArray) (v : Value) (l : List UInt8) (W : World) (h : Is W B o s) (ha : Ab a s) (hw : a.Wf) (hs : a.Sm) (hf : a.Af) (hk : k.size ≤ 1000000) (hl : l.length ≤ 1000000) (hv : Rd W v l) :
    Calls Try.prog 9 #[.pointer (some ⟨o.F, 0, none⟩), .string k, v] W (Did B o s W (AS.op (AS.put k l) (AS.tear k l)) a) := by
  obtain ⟨F, hF⟩ : ∃ F, o.F = F := ⟨_, rfl⟩
  have hlt := lt_of_heap h.fs
  rw [hF] at hlt ⊢
  obtain ⟨a1, n1, p1, hdv⟩ := hv.slice
  subst hdv
  have b0 : Below W.heap.size W (W.alloc (.cells #[.pointer (some ⟨F, 0, none⟩)] 26)) := (Below.refl W.heap.size W).alloc (Nat.le_refl _) (.cells #[.pointer (some ⟨F, 0, none⟩)] 26)
  have c0 : (W.alloc (.cells #[.pointer (some ⟨F, 0, none⟩)] 26)).cell? ⟨W.heap.size, 0, none⟩ = some (.pointer (some ⟨F, 0, none⟩)) := by unfold World.cell?; simp only [heap_alloc_new]; rfl
  have b1 : Below W.heap.size W ((W.alloc (.cells #[.pointer (some ⟨F, 0, none⟩)] 26)).alloc (.cells #[.string k] 9)) := b0.alloc b0.size (.cells #[.string k] 9)
  have s1 : (W.alloc (.cells #[.pointer (some ⟨F, 0, none⟩)] 26)).heap.size = W.heap.size + 1 := by rw [alloc_sz]
  have c1 : ((W.alloc (.cells #[.pointer (some ⟨F, 0, none⟩)] 26)).alloc (.cells #[.string k] 9)).cell? ⟨W.heap.size + 1, 0, none⟩ = some (.string k) := by rw [← s1]; unfold World.cell?; simp only [heap_alloc_new]; rfl
  have c0_ := cell_alloc c0 (.cells #[.string k] 9)
  have b2 : Below W.heap.size W (((W.alloc (.cells #[.pointer (some ⟨F, 0, none⟩)] 26)).alloc (.cells #[.string k] 9)).alloc (.cells #[.slice a1 n1 p1] 30)) := b1.alloc b1.size (.cells #[.slice a1 n1 p1] 30)
  have s2 : ((W.alloc (.cells #[.pointer (some ⟨F, 0, none⟩)] 26)).alloc (.cells #[.string k] 9)).heap.size = W.heap.size + 2 := by rw [alloc_sz, s1]
  have c2 : (((W.alloc (.cells #[.pointer (some ⟨F, 0, none⟩)] 26)).alloc (.cells #[.string k] 9)).alloc (.cells #[.slice a1 n1 p1] 30)).cell? ⟨W.heap.size + 2, 0, none⟩ = some (.slice a1 n1 p1) := by rw [← s2]; unfold World.cell?; simp only [heap_alloc_new]; rfl
  have c1_ := cell_alloc c1 (.cells #[.slice a1 n1 p1] 30)
  have c0__ := cell_alloc c0_ (.cells #[.slice a1 n1 p1] 30)
  have hv2 := hv.kept (fun g cur fr hc => b2.block g (lt_of_heap hc))
  have cO := op_write (o := o) (h.below b2) ha hw hs hf (by rw [hF]; exact c0__) c1_ c2 (by omega) (by omega) (by omega) hk hl hv2
  rw [hF] at cO
  have HO := Lib.hid cO
  have HF := Lib.hid (Fr.of_below b2 (foot o s))
  clear h cO b0 b1 b2 s1 s2 c0 c1 c2 c0_ c0__ c1_ hF hv hv2
  go_enter Try.func9, Try.ntmps9
  go_wp2_with fail
  refine HO.out.mono ?_
  rintro e w1 hD
  obtain ⟨r, rfl, hD⟩ := hD.split
  have HD := Lib.hid hD
  clear hD
  go_wp2_with fail
  go_ret
  exact HD.out.from HF.out
end Go.Proofs.Ytcobjjaicckgpaa.Vf
