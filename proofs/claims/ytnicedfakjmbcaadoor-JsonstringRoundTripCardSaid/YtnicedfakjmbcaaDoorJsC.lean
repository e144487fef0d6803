import Derived.Test.YtnicedfakjmbcaaDoorJsW11
namespace Go.Proofs.YtnicedfakjmbcaaDoor.Jw
open Go Go.RowKit Go.Proofs.YtnicedfakjmbcaaDoor Go.Proofs.YtnicedfakjmbcaaDoor.Tx

/-! ### the contracts of both programs, by their answers -/
structure JTabs (w : World) : Prop where
  u : Lib.Utf8Tabs 2 3 w
  l : LetTab w
theorem JTabs.below {w w' : World} (h : JTabs w) (hb : Below w.heap.size w w') : JTabs w' := ⟨u8_below h.u hb, h.l.below hb⟩
theorem ba_of {A : ByteArray} {l : List UInt8} (h : A.data.toList = l) : (⟨l.toArray⟩ : ByteArray) = A := by
  obtain ⟨⟨d⟩⟩ := A
  subst h
  rfl
theorem ba_ex (l : List UInt8) : ∃ A : ByteArray, l = A.data.toList ∧ A.size = l.length := ⟨⟨l.toArray⟩, rfl, by show l.toArray.size = _; simp⟩
theorem toList_append (s t : ByteArray) : (s ++ t).data.toList = s.data.toList ++ t.data.toList := by simp
theorem ba_eq {A B : ByteArray} (h : A.data.toList = B.data.toList) : A = B := by rw [← ba_of (A := A) rfl, h, ba_of (A := B) rfl]
def qv (l : List UInt8) : List UInt8 × Int := if Lib.validD l = true then (Js.quote l, 0) else ([], 5)
def pv (l : List UInt8) (a : Int) : List UInt8 × Int × Int :=
  if 0 ≤ a ∧ a < l.length ∧ l.getD a.toNat 0 = 34 then fin a.toNat (Js.parse (l.drop (a.toNat + 1))) else ([], a, 7)
theorem prs_tag : ∀ (f : Nat) (l : List UInt8), (Js.prs f l).1 ≤ 16
  | 0, _ => by simp [Js.prs]
  | f + 1, l => by
    unfold Js.prs
    have h1 := prs_tag f (l.drop (Js.seqV l).2)
    have h2 := prs_tag f (l.drop (Txt.dec l).2)
    repeat' split
    all_goals first | exact h1 | exact h2 | simp
theorem fin_tag (k : Nat) (l : List UInt8) : 0 ≤ (fin k (Js.parse l)).2.2 ∧ (fin k (Js.parse l)).2.2 ≤ 16 := by
  have := prs_tag l.length l
  unfold fin Js.parse
  repeat' split
  all_goals simp
  omega
theorem pv_tag {l : List UInt8} {a : Int} {t : List UInt8} {x z : Int} (h : pv l a = (t, x, z)) : 0 ≤ z ∧ z ≤ 16 := by
  have e : z = (pv l a).2.2 := by rw [h]
  rw [e]
  unfold pv
  split
  · exact fin_tag _ _
  · simp
theorem qv_tag {l : List UInt8} {t : List UInt8} {z : Int} (h : qv l = (t, z)) : 0 ≤ z ∧ z ≤ 5 := by
  have e : z = (qv l).2 := by rw [h]
  rw [e]
  unfold qv
  split <;> simp
theorem pv_out {s : ByteArray} {a : Int} (h : a < 0 ∨ (s.size : Int) ≤ a) : pv s.data.toList a = ([], a, 7) := by
  unfold pv
  rw [if_neg]
  simp only [Array.length_toList]
  rintro ⟨h1, h2, _⟩
  have h3 : (s.data.size : Int) = (s.size : Int) := rfl
  omega
theorem getD_at (s : ByteArray) (k : Nat) (h : k < s.size) : s.data.toList.getD k 0 = s[k] := by
  have := drop_at s k 0 (by omega)
  simpa using this
theorem pv_no {s : ByteArray} {k : Nat} (hk : k < s.size) (h : s[k] ≠ 34) : pv s.data.toList k = ([], (k : Int), 7) := by
  unfold pv
  rw [if_neg]
  rintro ⟨_, _, h3⟩
  rw [Int.toNat_natCast, getD_at s k hk] at h3
  exact h h3
theorem pv_in {s : ByteArray} {k : Nat} (hk : k < s.size) (h : s[k] = 34) : pv s.data.toList k = fin k (Js.parse (s.data.toList.drop (k + 1))) := by
  unfold pv
  rw [if_pos]
  · rw [Int.toNat_natCast]
  · refine ⟨Int.natCast_nonneg k, ?_, ?_⟩
    · simp only [Array.length_toList]
      have h3 : s.data.size = s.size := rfl
      omega
    · rw [Int.toNat_natCast, getD_at s k hk]; exact h
theorem parse_ba (s t : ByteArray) (a x z : Int) (w : World) (hs : s.size ≤ 1000000000) (hT : JTabs w) (h : pv s.data.toList a = (t.data.toList, x, z)) :
    Calls Tryd.prog 38 #[.string s, .int .i64 a] w fun e w' => e = .returned (.tuple #[.string t, .int .i64 x, .int .i64 z]) ∧ Below w.heap.size w w' := by
  by_cases h1 : a < 0 ∨ (s.size : Int) ≤ a
  · rw [pv_out h1] at h
    simp only [Prod.mk.injEq] at h
    obtain ⟨e1, rfl, rfl⟩ := h
    rw [← ba_of (A := t) e1.symm]
    exact parse_out s a w h1
  · obtain ⟨k, rfl⟩ : ∃ k : Nat, a = k := ⟨a.toNat, by omega⟩
    have hk : k < s.size := by omega
    by_cases h2 : s[k] = 34
    · rw [pv_in hk h2] at h
      have := parse_in s k w hk hs hT.u hT.l h2
      rw [h] at this
      rw [← ba_of (A := t) rfl]
      exact this
    · rw [pv_no hk h2] at h
      simp only [Prod.mk.injEq] at h
      obtain ⟨e1, rfl, rfl⟩ := h
      rw [← ba_of (A := t) e1.symm]
      exact parse_no s k w hk h2
theorem rparse_ba (s t : ByteArray) (a x z : Int) (w : World) (hs : s.size ≤ 1000000000) (h : pv s.data.toList a = (t.data.toList, x, z)) :
    Calls Tryd.prog 39 #[.string s, .int .i64 a] w fun e w' => e = .returned (.tuple #[.string t, .int .i64 x, .int .i64 z]) ∧ Below w.heap.size w w' := by
  by_cases h1 : a < 0 ∨ (s.size : Int) ≤ a
  · rw [pv_out h1] at h
    simp only [Prod.mk.injEq] at h
    obtain ⟨e1, rfl, rfl⟩ := h
    rw [← ba_of (A := t) e1.symm]
    exact rparse_out s a w h1
  · obtain ⟨k, rfl⟩ : ∃ k : Nat, a = k := ⟨a.toNat, by omega⟩
    have hk : k < s.size := by omega
    by_cases h2 : s[k] = 34
    · rw [pv_in hk h2] at h
      have := rparse_in s k w hk hs h2
      rw [h] at this
      rw [← ba_of (A := t) rfl]
      exact this
    · rw [pv_no hk h2] at h
      simp only [Prod.mk.injEq] at h
      obtain ⟨e1, rfl, rfl⟩ := h
      rw [← ba_of (A := t) e1.symm]
      exact rparse_no s k w hk h2
theorem quote_ba (s t : ByteArray) (z : Int) (w : World) (hs : s.size ≤ 1000000000) (hT : JTabs w) (h : qv s.data.toList = (t.data.toList, z)) :
    Calls Tryd.prog 36 #[.string s] w fun e w' => e = .returned (.tuple #[.string t, .int .i64 z]) ∧ Below w.heap.size w w' := by
  unfold qv at h
  by_cases hv : Lib.validD s.data.toList = true
  · rw [if_pos hv] at h
    simp only [Prod.mk.injEq] at h
    obtain ⟨e1, rfl⟩ := h
    rw [← ba_of (A := t) e1.symm]
    exact quote_any s w hs hT.u hT.l hv
  · rw [if_neg hv] at h
    simp only [Prod.mk.injEq] at h
    obtain ⟨e1, rfl⟩ := h
    rw [← ba_of (A := t) e1.symm]
    exact quote_bad s w hs hT.u (by simpa using hv)
theorem rquote_ba (s t : ByteArray) (z : Int) (w : World) (hs : s.size ≤ 1000000000) (h : qv s.data.toList = (t.data.toList, z)) :
    Calls Tryd.prog 37 #[.string s] w fun e w' => e = .returned (.tuple #[.string t, .int .i64 z]) ∧ Below w.heap.size w w' := by
  unfold qv at h
  by_cases hv : Lib.validD s.data.toList = true
  · rw [if_pos hv] at h
    simp only [Prod.mk.injEq] at h
    obtain ⟨e1, rfl⟩ := h
    rw [← ba_of (A := t) e1.symm]
    exact rquote_any s w hs hv
  · rw [if_neg hv] at h
    simp only [Prod.mk.injEq] at h
    obtain ⟨e1, rfl⟩ := h
    rw [← ba_of (A := t) e1.symm]
    exact rquote_bad s w hs (by simpa using hv)

/-! ### the examples of the chapter -/
set_option maxRecDepth 100000 in
set_option maxHeartbeats 2000000 in
theorem alive10 (w : World) (hT : JTabs w) :
    Calls Tryd.prog 35 #[] w fun e w' => e = .returned (.bool true) ∧ Below w.heap.size w w' := by
  have HT := Lib.hid hT
  clear hT
  have e1 := Lib.hid (show qv [97, 10, 34] = ([34, 97, 92, 110, 92, 34, 34], 0) by decide +kernel)
  have e2 := Lib.hid (show pv [34, 92, 117, 48, 48, 52, 49, 92, 117, 100, 56, 51, 100, 92, 117, 100, 101, 48, 48, 34] 0 = ([65, 240, 159, 152, 128], 20, 0) by decide +kernel)
  have e3 := Lib.hid (show pv [34, 97, 92, 117, 100, 56, 51, 100, 34] 0 = ([], 2, 16) by decide +kernel)
  go_enter Tryd.func35, Tryd.ntmps35
  go_wp2_with fail
  refine (quote_ba ⟨#[97, 10, 34]⟩ ⟨#[34, 97, 92, 110, 92, 34, 34]⟩ 0 _ (by decide) HT.out e1.out).mono ?_
  rintro e w1 ⟨rfl, hb⟩
  have HB1 := Lib.hid hb
  clear hb
  go_wp2_with fail
  refine (parse_ba ⟨#[34, 92, 117, 48, 48, 52, 49, 92, 117, 100, 56, 51, 100, 92, 117, 100, 101, 48, 48, 34]⟩ ⟨#[65, 240, 159, 152, 128]⟩ 0 20 0 _ (by decide) (HT.out.below HB1.out) e2.out).mono ?_
  rintro e w2 ⟨rfl, hb⟩
  have HB2 := Lib.hid (below_trans HB1.out hb)
  clear hb
  go_wp2_with fail
  refine (parse_ba ⟨#[34, 97, 92, 117, 100, 56, 51, 100, 34]⟩ ⟨#[]⟩ 0 2 16 _ (by decide) (HT.out.below HB2.out) e3.out).mono ?_
  rintro e w3 ⟨rfl, hb⟩
  have HB3 := Lib.hid (below_trans HB2.out hb)
  clear hb
  go_wp2_with fail
  go_ret
  exact ⟨rfl, HB3.out⟩
end Go.Proofs.YtnicedfakjmbcaaDoor.Jw
