/- The store's texts and object, walked. -/
import Derived.Test.YtbodoncomeegpaaGreatDoorMoE2
namespace Go.Proofs.YtbodoncomeegpaaGreatDoor.Me
open Go Go.RowKit Go.Proofs.YtbodoncomeegpaaGreatDoor Go.Proofs.YtbodoncomeegpaaGreatDoor.Rw Go.Proofs.YtbodoncomeegpaaGreatDoor.Vf Go.Proofs.YtbodoncomeegpaaGreatDoor.Mw
set_option linter.unusedVariables false

set_option maxRecDepth 100000
set_option maxHeartbeats 16000000
theorem one_row {w : World} {c : List Value} {sz : Nat} {t : TypeId} (h : c.length = sz) : (w.alloc (.cells c.toArray t)).ownsRow w.heap.size t sz (.slice (some ⟨w.heap.size, 0, none⟩) 1 1) 1 c :=
  own_new (heap_alloc_new w _) (Nat.le_refl _) (by omega) (by unfold maxLen; omega)
theorem take_map {α β : Type} (f : α → β) (l : List α) {k : Nat} (hk : k < l.length) : (l.take (k + 1)).map f = (l.take k).map f ++ [f l[k]] := by
  rw [List.take_add_one, List.getElem?_eq_getElem hk, List.map_append]
  rfl
theorem texts_is (l : List ByteArray) (v : Value) (W : World) (h : Rw W v 1 (l.map sCell)) (hl : l.length ≤ 100000) :
    Calls Tryz.prog 43 #[v] W fun e w' => (∃ v2, e = .returned v2 ∧ VRow W.heap.size w' v2 (l.map Jv.J.str)) ∧ Below W.heap.size W w' := by
  obtain ⟨g, off, ad, cap, rfl, had, hc⟩ := path_at h
  obtain ⟨m, hm⟩ : ∃ m, l.length = m := ⟨_, rfl⟩
  rw [hm] at had hl ⊢
  have HM := Lib.hid hm
  have HAD := Lib.hid had
  have HC := Lib.hid hc
  obtain ⟨ti, tz, hi, hz0, hz1, hz2, hz3⟩ := info_sz infoV
  have HI := Lib.hid (And.intro hi (And.intro hz0 (And.intro hz1 (And.intro hz2 hz3))))
  clear h had hc hm hi hz0 hz1 hz2 hz3
  go_enter Tryz.func43, Tryz.ntmps43
  go_wp2_with fail
  go_loopw [3, 8] (fun o x wr => ∃ k : Nat, k ≤ m ∧ x = .int .i64 k ∧ Hid (VRow W.heap.size wr o ((l.take k).map Jv.J.str)) ∧ Hid (Below W.heap.size W wr)) (fun o x _ => m - (intOf x).toNat)
  case atStart => exact ⟨0, Nat.zero_le _, rfl, Lib.hid Row.nil, Lib.hid (Below.refl _ _)⟩
  case round =>
    obtain ⟨k, hk, rfl, hr, hb⟩ := hrel
    by_cases hlt : k < m
    · obtain rfl := HAD.out (by omega)
      have hkl : k < l.length := by rw [HM.out]; exact hlt
      have y0 := cell_under (HC.out k hkl) hb.out
      have HK := Lib.hid (take_map Jv.J.str l hkl)
      have HLn := Lib.hid (show ((l.take k).map Jv.J.str).length = k by simp; omega)
      generalize l[k] = p at y0 HK
      have i1 : (k : Int) < (m : Int) := by omega
      have i0 : (0 : Int) ≤ (k : Int) := by omega
      go_wp2_with fail
      refine (str_is p _).mono ?_
      rintro e w1 ⟨rfl, hb1⟩
      have HB1 := Lib.hid (below_seq hb.out hb1)
      have hr1 := hr.out.below hb1
      have hba := (Below.refl w1.heap.size w1).alloc (Nat.le_refl _) (.cells #[.int .i64 3, .bool false, .int .i64 0, .string p, .slice none 0 0, .slice none 0 0, .int .i64 0] 98)
      have HBA := Lib.hid (below_seq HB1.out hba)
      have HR1 := Lib.hid (hr1.below hba)
      have HO := Lib.hid (one_row (w := w1) (c := vCells 3 false 0 p nilV nilV 0) (sz := 7) (t := 98) rfl)
      have HS := Lib.hid (show w1.heap.size ≤ (w1.alloc (.cells #[.int .i64 3, .bool false, .int .i64 0, .string p, .slice none 0 0, .slice none 0 0, .int .i64 0] 98)).heap.size from hba.size)
      clear hb1 hr hr1 hba y0
      obtain ⟨L, hL, ho, hE⟩ := HR1.out
      rw [HLn.out] at ho
      have hone : ∀ u ∈ vCells 3 false 0 p nilV nilV 0, u.oneCell' = true := (Val.str (S := 0) (w := w1) p).one
      have HQ := Lib.hid (And.intro hL (And.intro ho (And.intro hE hone)))
      clear hL ho hE hone
      go_wp2_with (at_builtin; (refine wpList_append_row _ rfl _ _ 95 rfl W.heap.size w1.heap.size 98 ti tz 7 96 Tryz.underlying95 HI.out.1 HI.out.2.1 HI.out.2.2.1 HI.out.2.2.2.1 HI.out.2.2.2.2 (by decide) _ k L.flatten rfl HQ.out.2.1 _ 1 (vCells 3 false 0 p nilV nilV 0) rfl HO.out HQ.out.2.2.2 ?a3 ?a4 ?a5 ?_))
      case a3 => unfold maxLen; omega
      case a4 => omega
      case a5 => exact HBA.out.size
      intro v1 w2 hown hgrow hv1
      have HB2 := Lib.hid (below_grew hgrow HBA.out (fun q hq => (own_lt HQ.out.2.1 hq).1) HBA.out.size)
      have HR2 : Hid (VRow W.heap.size w2 v1 ((l.take (k + 1)).map Jv.J.str)) := Lib.hid (by
        rw [HK.out]
        refine Row.appended (M := [vCells 3 false 0 p nilV nilV 0]) (l2 := [.str p]) HQ.out.1 HQ.out.2.2.1 (Flat.one rfl HQ.out.2.2.2) (fun u hu => All.one ?_) ?_ hgrow (by rw [show (w1.alloc (.cells #[.int .i64 3, .bool false, .int .i64 0, .string p, .slice none 0 0, .slice none 0 0, .int .i64 0] 98)).heap.size = w1.heap.size + 1 from Array.size_push _]; exact hv1)
        · unfold Jv; exact ⟨0, rfl⟩
        · rw [HLn.out]; simpa using hown)
      clear hown hgrow hv1
      go_wp2_with fail
      go_roundw
      case rel => exact ⟨k + 1, by omega, by go_num, HR2, HB2⟩
      case measure => simp [intOf]; omega
    · have gl : decide ((k : Int) < (m : Int)) = false := decide_eq_false (by omega)
      have HF : Hid (l.take k = l) := Lib.hid (List.take_of_length_le (by rw [HM.out]; omega))
      go_wp2_with fail
      go_ret
      exact ⟨⟨_, rfl, by have := hr.out; rw [HF.out] at this; exact this⟩, hb.out⟩
end Go.Proofs.YtbodoncomeegpaaGreatDoor.Me
