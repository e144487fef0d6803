import Derived.Test.YtnicedfakjmbcaaDoorTxtW6
import Derived.Lib.OthersKept
namespace Go.Proofs.YtnicedfakjmbcaaDoor.Tx
open Go Go.RowKit Go.Proofs.YtnicedfakjmbcaaDoor

theorem iter_below {w w' : World} {k : Nat} {s : ByteArray} {pos : Nat} (hb : Below w.heap.size w w') (h : w.heap[k]? = some (.stringIter s pos)) : w'.heap[k]? = some (.stringIter s pos) := by
  rw [hb.block k ((Array.getElem?_eq_some_iff.1 h).1)]; exact h
set_option maxRecDepth 100000 in
set_option maxHeartbeats 2000000 in
theorem isname_any (s : ByteArray) (w : World) (hs : s.size ≤ 9223372036854775807) (hU : Lib.Utf8Tabs 2 3 w) (hT : NameTabs w) :
    Calls Tryd.prog 31 #[.string s] w fun e w' => e = .returned (.bool (Txt.isNameB s.data.toList)) ∧ Below w.heap.size w w' := by
  have HU := Lib.hid hU
  have HT := Lib.hid hT
  clear hU hT
  have hcV := Tryd.utf8_ValidString s w hs HU.out
  rcases hv : Lib.validD s.data.toList with _ | _
  · rw [hv] at hcV
    have HV := Lib.hid hcV
    have HE := Lib.hid (Txt.name_invalid hv)
    clear hcV hv
    go_enter Tryd.func31, Tryd.ntmps31
    go_wp2_with fail
    refine (HV.out).mono ?_
    rintro e w1 ⟨rfl, hb1⟩
    have HB1 := Lib.hid hb1
    clear hb1
    go_wp2_with fail
    go_ret
    exact ⟨ret_bool HE.out.symm, HB1.out⟩
  · rw [hv] at hcV
    have HV := Lib.hid hcV
    have HVD := Lib.hid hv
    clear hcV hv
    go_enter Tryd.func31, Tryd.ntmps31
    go_wp2_with fail
    refine (HV.out).mono ?_
    rintro e w1 ⟨rfl, hb1⟩
    have HB1 := Lib.hid hb1
    have hz1 := hb1.size
    clear hb1
    go_wp2_with fail
    go_loopw [] (fun wr => ∃ pos : Nat, pos ≤ s.size ∧ Hid (wr.heap[w1.heap.size]? = some (.stringIter s pos)) ∧ Hid (Below w.heap.size w wr) ∧ Hid (Below w1.heap.size w1 wr) ∧ Hid (Lib.validD (s.data.toList.drop pos) = true) ∧ Hid (Txt.nm true s.data.toList = Txt.nm (decide (pos = 0)) (s.data.toList.drop pos))) (fun wr => s.size - wr.iterPos w1.heap.size)
    case atStart =>
      exact ⟨0, Nat.zero_le _, World.iter_heap w1 s 0, (HB1.out).alloc hz1 _, (Below.refl _ _).alloc (Nat.le_refl _) _, by simpa [Hid] using HVD.out, by simp [Hid]⟩
    case round =>
      obtain ⟨pos, hpos, hit, HB, HBw, hval, hch⟩ := hrel
      have hsz : w1.heap.size < wr.heap.size := (Array.getElem?_eq_some_iff.1 hit.out).1
      by_cases hp : pos < s.size
      · obtain ⟨v1, v2, v3⟩ := Txt.dec_valid (drop_ne hp) hval.out
        have hst := Txt.nm_step (decide (pos = 0)) (s.data.toList.drop pos) (drop_ne hp)
        obtain ⟨Rn, M, hd⟩ : ∃ Rn M, Txt.dec (s.data.toList.drop pos) = (Rn, M) := ⟨_, _, rfl⟩
        obtain ⟨q1, q2, q3⟩ := step_at s pos Rn M hd hp
        have hu : Utf8.decode s pos = (Rn, M) := by rw [← Lib.decodeL_drop, ← v2, hd]
        rw [if_neg v1, hd] at hst
        rw [hd] at v1 v3
        have q4 : 1 ≤ M := by simp at v1; omega
        have hnx0 := fun ty => Lib.run_next_any_at (P := Tryd.prog) wr w1.heap.size s pos ty hit.out hp
        rw [hu] at hnx0
        have hit2 := Lib.hid (Lib.iterAt_heap wr w1.heap.size s pos (pos + M) hit.out)
        have HB2 := Lib.hid (Lib.below_iterAt HB.out (k := w1.heap.size) hz1 s (pos + M))
        have HBw2 := Lib.hid (Lib.below_iterAt HBw.out (k := w1.heap.size) (Nat.le_refl _) s (pos + M))
        have hip := Lib.hid (show wr.iterPos w1.heap.size = pos by simp only [World.iterPos, hit.out])
        have HV3 := Lib.hid v3
        clear hd hu v1 v2 v3
        have hst' := Lib.hid hst
        clear hst
        have hnx := hnx0
        clear hnx0
        rcases hc : Txt.nameB Rn with _ | _
        · have HE := Lib.hid (show Txt.isNameB s.data.toList = false by unfold Txt.isNameB; rw [hch.out, hst'.out, if_pos hc]; simp)
          go_wp2_with fail
          refine (name_any _ _ ((HT.out.below HB1.out).below HBw2.out)).mono ?_
          rintro e w2 ⟨rfl, hb2⟩
          have HB3 := Lib.hid (below_trans HB2.out hb2)
          clear hb2
          go_wp2_with fail
          go_ret
          exact ⟨ret_bool HE.out.symm, HB3.out⟩
        · by_cases hk0 : pos = 0
          · subst hk0
            have HB2 := Lib.hid (show Below w.heap.size w (wr.iterAt w1.heap.size s M) by have := HB2.out; rwa [Nat.zero_add] at this)
            have HBw2 := Lib.hid (show Below w1.heap.size w1 (wr.iterAt w1.heap.size s M) by have := HBw2.out; rwa [Nat.zero_add] at this)
            have hit2 := Lib.hid (show (wr.iterAt w1.heap.size s M).heap[w1.heap.size]? = some (.stringIter s M) by have := hit2.out; rwa [Nat.zero_add] at this)
            rcases hsb : Txt.startB Rn with _ | _
            · have HE := Lib.hid (show Txt.isNameB s.data.toList = false by unfold Txt.isNameB; rw [hch.out, hst'.out, if_neg (by rw [hc]; simp), if_pos ⟨by simp, hsb⟩]; simp)
              go_wp2_with fail
              refine (name_any _ _ ((HT.out.below HB1.out).below HBw2.out)).mono ?_
              rintro e w2 ⟨rfl, hb2⟩
              have HB3 := Lib.hid (below_trans HB2.out hb2)
              have HBw3 := Lib.hid (below_trans HBw2.out hb2)
              have HI3 := Lib.hid (iter_below hb2 hit2.out)
              clear hb2
              go_wp2_with fail
              refine (start_any _ _ ((HT.out.below HB1.out).below HBw3.out)).mono ?_
              rintro e w3 ⟨rfl, hb3⟩
              have HB4 := Lib.hid (below_trans HB3.out hb3)
              have HBw4 := Lib.hid (below_trans HBw3.out hb3)
              have HI4 := Lib.hid (iter_below hb3 HI3.out)
              clear hb3
              go_wp2_with fail
              go_ret
              exact ⟨ret_bool HE.out.symm, HB4.out⟩
            · have HE := Lib.hid (show Txt.nm true s.data.toList = Txt.nm (decide (M = 0)) (s.data.toList.drop M) by
                rw [hch.out, hst'.out, if_neg (by rw [hc]; simp), if_neg (by rw [hsb]; simp)]; congr 1; simp; omega)
              have HV4 := Lib.hid (show Lib.validD (s.data.toList.drop M) = true from HV3.out)
              go_wp2_with fail
              refine (name_any _ _ ((HT.out.below HB1.out).below HBw2.out)).mono ?_
              rintro e w2 ⟨rfl, hb2⟩
              have HB3 := Lib.hid (below_trans HB2.out hb2)
              have HBw3 := Lib.hid (below_trans HBw2.out hb2)
              have HI3 := Lib.hid (iter_below hb2 hit2.out)
              clear hb2
              go_wp2_with fail
              refine (start_any _ _ ((HT.out.below HB1.out).below HBw3.out)).mono ?_
              rintro e w3 ⟨rfl, hb3⟩
              have HB4 := Lib.hid (below_trans HB3.out hb3)
              have HBw4 := Lib.hid (below_trans HBw3.out hb3)
              have HI4 := Lib.hid (iter_below hb3 HI3.out)
              clear hb3
              go_wp2_with fail
              go_roundw
              case rel => exact ⟨M, by omega, HI4.out, HB4.out, HBw4.out, HV4.out, HE.out⟩
              case measure =>
                rw [hip.out]
                simp only [World.iterPos, HI4.out]
                omega
          · have HE := Lib.hid (show Txt.nm true s.data.toList = Txt.nm (decide (pos + M = 0)) (s.data.toList.drop (pos + M)) by
              rw [hch.out, hst'.out, if_neg (by rw [hc]; simp), if_neg (by simp [hk0]), List.drop_drop]; congr 1; simp; omega)
            have HV4 := Lib.hid (show Lib.validD (s.data.toList.drop (pos + M)) = true by rw [← List.drop_drop]; exact HV3.out)
            have k0 : ((pos : Int) == 0) = false := by simpa using hk0
            clear hk0
            go_wp2_with fail
            refine (name_any _ _ ((HT.out.below HB1.out).below HBw2.out)).mono ?_
            rintro e w2 ⟨rfl, hb2⟩
            have HB3 := Lib.hid (below_trans HB2.out hb2)
            have HBw3 := Lib.hid (below_trans HBw2.out hb2)
            have HI3 := Lib.hid (iter_below hb2 hit2.out)
            clear hb2
            go_wp2_with fail
            go_roundw
            case rel => exact ⟨pos + M, by omega, HI3.out, HB3.out, HBw3.out, HV4.out, HE.out⟩
            case measure =>
              rw [hip.out]
              simp only [World.iterPos, HI3.out]
              omega
      · obtain rfl : pos = s.size := by omega
        have hnx := fun ty => Lib.run_next_end_at (P := Tryd.prog) wr w1.heap.size s s.size ty hit.out hp
        have hE : Txt.isNameB s.data.toList = decide (0 < s.size) := by
          have e : s.data.toList.drop s.size = [] := List.drop_of_length_le (Nat.le_of_eq (by simp))
          unfold Txt.isNameB
          rw [hch.out, e, Txt.nm_nil, Bool.and_true, decide_eq_decide, ← List.length_pos_iff]
          simp
        have hS : (!s.toList.isEmpty) = decide (0 < s.size) := by
          rw [Lib.toList_data, Bool.eq_iff_iff]
          simp only [Bool.not_eq_true', List.isEmpty_eq_false_iff, decide_eq_true_eq, ne_eq, ← List.length_pos_iff]
          simp
        have HE := Lib.hid hE
        have HS := Lib.hid hS
        clear hE hS
        go_wp2_with fail
        go_ret
        exact ⟨ret_bool (by rw [HE.out, ← HS.out]), HB.out⟩
end Go.Proofs.YtnicedfakjmbcaaDoor.Tx
