/- The program's model, walked: all. -/
import Derived.Test.YtbodoncomeegpaaGreatDoorMoW6
import Derived.Test.YtbodoncomeegpaaGreatDoorTxtW9
namespace Go.Proofs.YtbodoncomeegpaaGreatDoor.Mw
open Go Go.RowKit Go.Proofs.YtbodoncomeegpaaGreatDoor Go.Proofs.YtbodoncomeegpaaGreatDoor.Rw
set_option linter.unusedVariables false

set_option maxRecDepth 100000
set_option maxHeartbeats 16000000
theorem okS_valid (s : ByteArray) : Tx.validB s.data.toList = Mo.okS s := rfl
theorem allk {P : ByteArray → Bool} {l : List ByteArray} {k : Nat} (hk : k < l.length) (h : (l.take k).all P = true) (h2 : P l[k] = true) : (l.take (k + 1)).all P = true := by
  rw [List.take_add_one, List.getElem?_eq_getElem hk, List.all_append, h]
  simpa using h2
theorem allbad {P : ByteArray → Bool} {l : List ByteArray} {k : Nat} (hk : k < l.length) (h2 : P l[k] = false) : l.all P = false := by
  rw [List.all_eq_false]
  exact ⟨_, List.getElem_mem hk, by rw [h2]; decide⟩
theorem all_is (l : List ByteArray) (v : Value) (W : World) (h : Rw W v 1 (l.map sCell)) (hT : Lib.Utf8Tabs 2 3 W) (hl : l.length ≤ 8796093022208) (hs : ∀ p ∈ l, p.size ≤ 140737488355327) :
    Calls Tryz.prog 96 #[v] W fun e w' => e = .returned (.bool (l.all Mo.okS)) ∧ Below W.heap.size W w' := by
  obtain ⟨g, off, ad, cap, rfl, had, hc⟩ := path_at h
  obtain ⟨m, hm⟩ : ∃ m, l.length = m := ⟨_, rfl⟩
  rw [hm] at had hl ⊢
  have HM := Lib.hid hm
  have HAD := Lib.hid had
  have HC := Lib.hid hc
  have HT := Lib.hid hT
  have HS := Lib.hid hs
  clear h hm had hc hT hs
  go_enter Tryz.func96, Tryz.ntmps96
  go_wp2_with fail
  go_loopw [7] (fun x wr => ∃ k : Nat, k ≤ m ∧ x = .int .i64 k ∧ Hid ((l.take k).all Mo.okS = true) ∧ Hid (Below W.heap.size W wr)) (fun x _ => m - (intOf x).toNat)
  case atStart => exact ⟨0, Nat.zero_le _, rfl, rfl, Below.refl _ _⟩
  case round =>
    obtain ⟨k, hk, rfl, hx, hbr⟩ := hrel
    by_cases hlt : k < m
    · obtain rfl := HAD.out (by omega)
      have hkl : k < l.length := by rw [HM.out]; exact hlt
      have y0 := cell_under (HC.out k hkl) hbr.out
      have hz := HS.out _ (List.getElem_mem hkl)
      have HK := Lib.hid (allk hkl hx.out)
      have HF := Lib.hid (allbad (P := Mo.okS) hkl)
      generalize l[k] = p at y0 hz HK HF
      have i1 : (k : Int) < (m : Int) := by omega
      have i0 : (0 : Int) ≤ (k : Int) := by omega
      obtain ⟨b, hb⟩ : ∃ b, Mo.okS p = b := ⟨_, rfl⟩
      have C8 := Lib.hid (fun u (hu : Lib.Utf8Tabs 2 3 u) => Tx.valid_any p u hz hu)
      rw [okS_valid, hb] at C8
      rw [hb] at HK HF
      clear hb hx hz
      go_wp2_with fail
      refine (C8.out _ (Tx.u8_below HT.out hbr.out)).mono ?_
      rintro e w8 ⟨rfl, hb8⟩
      have HB8 := Lib.hid (below_seq hbr.out hb8)
      clear hb8 hbr
      cases b with
      | false =>
        have HV := Lib.hid (HF.out rfl)
        go_wp2_with fail
        go_ret
        exact ⟨by rw [HV.out]; rfl, HB8.out⟩
      | true =>
        have HN := Lib.hid (HK.out rfl)
        go_wp2_with fail
        go_roundw
        case rel => exact ⟨k + 1, by omega, by go_num, HN, HB8⟩
        case measure => simp [intOf]; omega
    · have gl : decide ((k : Int) < (m : Int)) = false := decide_eq_false (by omega)
      have HV : Hid (l.all Mo.okS = true) := Lib.hid (by
        have h1 := hx.out
        rw [List.take_of_length_le (by rw [HM.out]; omega)] at h1
        exact h1)
      go_wp2_with fail
      go_ret
      exact ⟨by rw [HV.out]; rfl, hbr.out⟩
end Go.Proofs.YtbodoncomeegpaaGreatDoor.Mw
