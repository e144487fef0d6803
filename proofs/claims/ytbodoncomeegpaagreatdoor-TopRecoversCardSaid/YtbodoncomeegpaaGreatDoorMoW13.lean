/- The program's CheckFeed, walked: the valid case. -/
import Derived.Test.YtbodoncomeegpaaGreatDoorMoW12
namespace Go.Proofs.YtbodoncomeegpaaGreatDoor.Mw
open Go Go.RowKit Go.Proofs.YtbodoncomeegpaaGreatDoor Go.Proofs.YtbodoncomeegpaaGreatDoor.Rw
set_option linter.unusedVariables false

set_option maxRecDepth 100000
set_option maxHeartbeats 16000000
theorem contains_no (p : List ByteArray) (v : Value) (W : World) (hp : Rw W v 1 (p.map sCell)) (lp : p.length ≤ 8796093022208) (h : p.all (fun p => Mo.neS p && Mo.okS p) = true) :
    Calls Tryz.prog 95 #[v, .string ⟨#[]⟩] W fun e w' => e = .returned (.bool false) ∧ w' = W := by
  obtain ⟨g, off, ad, cap, rfl, had, hc⟩ := path_at hp
  by_cases h0 : p.length = 0
  · rw [h0]
    exact Tryz.slices_Contains_string_empty ad cap _ W
  · obtain rfl := had (by omega)
    have c := Tryz.slices_Contains_string g off p.length cap p ⟨#[]⟩ W (Nat.le_refl _) (by omega) (fun j hj => by
      rw [hc j hj, List.getD_eq_getElem?_getD, List.getElem?_eq_getElem hj]
      rfl)
    have e : Lib.containsS (p.take p.length) ⟨#[]⟩ = false := by
      rw [Bool.eq_false_iff]
      intro e
      rw [Lib.containsS_iff, List.take_of_length_le (Nat.le_refl _)] at e
      have := List.all_eq_true.1 h _ e
      rw [Bool.and_eq_true] at this
      exact absurd this.1 (by unfold Mo.neS; rw [ByteArray.toList_eq]; simp)
    rw [e] at c
    exact c
theorem all_imp {p : List ByteArray} (h : p.all (fun p => Mo.neS p && Mo.okS p) = true) : p.all Mo.okS = true := by
  rw [List.all_eq_true] at h ⊢
  intro x hx
  have := h x hx
  rw [Bool.and_eq_true] at this
  exact this.2
theorem checkF_ok (f : Mo.Fd) (vp ve : Value) (W : World) (hp : Rw W vp 1 (f.path.map sCell)) (he : Rw W ve 5 (f.ents.map eCells)) (hT : Lib.Utf8Tabs 2 3 W) (hb : FdB f) (hk : Mo.okF f = true) :
    Calls Tryz.prog 70 #[.agg (fCells f vp ve).toArray] W fun x w' => x = .returned (.int .i64 0) ∧ Below W.heap.size W w' := by
  obtain ⟨p, i, t, l, u, es⟩ := f
  unfold Mo.okF at hk
  simp only [Bool.and_eq_true] at hk
  obtain ⟨⟨⟨⟨⟨⟨⟨k1, k2⟩, k3⟩, k4⟩, k5⟩, k6⟩, k7⟩, k8⟩ := hk
  have hne : (i.toList.isEmpty) = false := by
    unfold Mo.neS at k3
    revert k3
    cases i.toList.isEmpty <;> simp
  have hln : p.length ≤ 64 := of_decide_eq_true k1
  obtain ⟨x0, x1, x2, x3, x4, x5⟩ := cells6 (w := W) (x0 := vp) (x1 := .string i) (x2 := .string t) (x3 := .string l) (x4 := .int .i64 u) (x5 := ve) (t := 45)
  have HB0 := Lib.hid ((Below.refl W.heap.size W).alloc (Nat.le_refl _) (.cells #[vp, .string i, .string t, .string l, .int .i64 u, ve] 45))
  have CC := Lib.hid (fun w (hw : Below W.heap.size W w) => contains_no p vp w (hp.under hw) hb.plen k2)
  have CA := Lib.hid (fun w (hw : Below W.heap.size W w) => all_is p vp w (hp.under hw) (Tx.u8_below hT hw) hb.plen hb.path)
  rw [all_imp k2] at CA
  have CT := Lib.hid (fun w => inTime_ok u w k4)
  have CO := Lib.hid (fun w (hw : Below W.heap.size W w) => ordE_ok es ve w (he.under hw) (Tx.u8_below hT hw) hb.elen hb.ents k8)
  have CB := Lib.hid (fun w cap (hw : Below W.heap.size W w) => all_is [i, t, l] (.slice (some ⟨w.heap.size, 0, none⟩) 3 cap) (w.alloc (.cells #[.string i, .string t, .string l] 9)) (rw_new w [i, t, l] 9 cap) (Tx.u8_below hT (hw.alloc hw.size _)) (by simp) (by
    intro q hq
    rcases List.mem_cons.1 hq with rfl | hq
    · exact hb.id
    rcases List.mem_cons.1 hq with rfl | hq
    · exact hb.title
    rcases List.mem_cons.1 hq with rfl | hq
    · exact hb.link
    · cases hq))
  rw [show [i, t, l].all Mo.okS = true by simp only [List.all_cons, List.all_nil, k5, k6, k7]; rfl] at CB
  obtain ⟨-, -, pa, pc, rfl, -, -⟩ := path_at hp
  obtain ⟨-, -, ea, ec, rfl, -, -⟩ := ents_at he
  obtain ⟨pn, hpn⟩ : ∃ n, p.length = n := ⟨_, rfl⟩
  obtain ⟨en, hen⟩ : ∃ n, es.length = n := ⟨_, rfl⟩
  simp only at x0 x5 CC CA CO HB0
  show Calls Tryz.prog 70 #[.agg #[.slice pa p.length pc, .string i, .string t, .string l, .int .i64 u, .slice ea es.length ec]] W _
  rw [hpn] at x0 CC CA hln HB0 ⊢
  rw [hen] at x0 x1 x2 x3 x4 x5 CO HB0 ⊢
  rw [hpn] at x1 x2 x3 x4 x5
  have i1 : (pn : Int) ≤ 64 := by omega
  clear hp he hT hb k1 k2 k3 k4 k5 k6 k7 k8 hln hpn hen
  go_enter Tryz.func70, Tryz.ntmps70
  go_wp2_with fail
  generalize W.alloc (.cells #[.slice pa pn pc, .string i, .string t, .string l, .int .i64 u, .slice ea en ec] 45) = w1 at x0 x1 x2 x3 x4 x5 HB0 ⊢
  refine (CC.out _ HB0.out).mono ?_
  rintro e w2 ⟨rfl, rfl⟩
  go_wp2_with fail
  refine (CA.out _ HB0.out).mono ?_
  rintro e w3 ⟨rfl, hb3⟩
  have HB3 := Lib.hid (below_seq HB0.out hb3)
  replace x1 := cell_under x1 hb3
  replace x2 := cell_under x2 hb3
  replace x3 := cell_under x3 hb3
  replace x4 := cell_under x4 hb3
  replace x5 := cell_under x5 hb3
  clear x0 hb3 HB0 CC CA
  go_wp2_with fail
  refine (CT.out _).mono ?_
  rintro e w4 ⟨rfl, rfl⟩
  go_wp2_with fail
  refine (CB.out _ _ HB3.out).mono ?_
  rintro e w5 ⟨rfl, hb5⟩
  have hba := (Below.refl w4.heap.size w4).alloc (Nat.le_refl _) (.cells #[.string i, .string t, .string l] 9)
  have HB5 := Lib.hid (below_seq (HB3.out.alloc HB3.out.size (.cells #[.string i, .string t, .string l] 9)) hb5)
  replace x5 := cell_under (cell_under x5 hba) hb5
  clear x1 x2 x3 x4 hb5 hba HB3 CT CB
  go_wp2_with fail
  refine (CO.out _ HB5.out).mono ?_
  rintro e w6 ⟨rfl, hb6⟩
  have HB6 := Lib.hid (below_seq HB5.out hb6)
  clear x5 hb6 HB5 CO
  go_wp2_with fail
  refine (checked_ok _).mono ?_
  rintro e w7 ⟨rfl, rfl⟩
  go_wp2_with fail
  go_ret
  exact ⟨rfl, HB6.out⟩
end Go.Proofs.YtbodoncomeegpaaGreatDoor.Mw
