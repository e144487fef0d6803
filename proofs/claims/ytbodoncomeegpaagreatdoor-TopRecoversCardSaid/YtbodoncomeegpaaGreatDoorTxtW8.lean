import Derived.Test.YtbodoncomeegpaaGreatDoorTxtW7
import Derived.Test.YtbodoncomeegpaaGreatDoorBld
import Derived.Lib.BufferRead
namespace Go.Proofs.YtbodoncomeegpaaGreatDoor.Tx
open Go Go.RowKit Go.Proofs.YtbodoncomeegpaaGreatDoor

theorem take_snoc (s : ByteArray) (k : Nat) (h : k < s.size) : s.data.toList.take (k + 1) = s.data.toList.take k ++ [s[k]] := by
  rw [List.take_succ_eq_append_getElem (by simpa using h)]; rfl
theorem cells_snoc (o : List UInt8) (c : UInt8) : Lib.byteCells o ++ [.int .u8 c.toNat] = Lib.byteCells (o ++ [c]) := by simp [Lib.byteCells]
theorem cells_32 (o : List UInt8) : Lib.byteCells o ++ [.int .u8 32] = Lib.byteCells (o ++ [32]) := by simp [Lib.byteCells]
theorem sp_eq (c : UInt8) : Txt.spB (c.toNat : Int) = Txt.sp c := rfl
theorem gap_len (o : List UInt8) : decide (0 < (Lib.byteCells o).length) = !o.isEmpty := by
  cases o <;> simp [Lib.byteCells]
theorem fold_take_le (s : ByteArray) (k : Nat) : (Txt.cfold (s.data.toList.take k)).1.length ≤ k ∧ ((Txt.cfold (s.data.toList.take k)).2 = true → (Txt.cfold (s.data.toList.take k)).1.length < k) := by
  obtain ⟨_, b, c⟩ := Txt.cfold_length (s.data.toList.take k)
  have : (s.data.toList.take k).length ≤ k := List.length_take_le _ _
  exact ⟨by omega, fun h => by have := b h; omega⟩

set_option maxRecDepth 100000 in
set_option maxHeartbeats 2000000 in
theorem collapse_any (s : ByteArray) (w : World) (hs : s.size ≤ 140737488355327) :
    Calls Tryz.prog 144 #[.string s] w fun e w' => e = .returned (.string ⟨(Txt.collapse s.data.toList).toArray⟩) ∧ Below w.heap.size w w' := by
  go_enter Tryz.func144, Tryz.ntmps144
  go_wp2
  go_loopw [4, 8] (fun g i wr => ∃ (k : Nat) (gb : Bool) (o : List UInt8), k ≤ s.size ∧ i = .int .i64 k ∧ g = .bool gb ∧ Hid (Txt.cfold (s.data.toList.take k) = (o, gb)) ∧ Hid (Lib.IsBuilder Bld.TB Bld.TU w.heap.size w.heap.size (Lib.byteCells o) wr) ∧ Hid (Below w.heap.size w wr)) (fun _ i _ => s.size - (intOf i).toNat)
  case atStart => exact ⟨0, false, [], Nat.zero_le _, rfl, rfl, rfl, Lib.fresh_isBuilder Bld.TB Bld.TU w, (Below.refl _ _).alloc (Nat.le_refl _) _⟩
  case round =>
    obtain ⟨k, gb, o, hk, rfl, rfl, HF, HI, HB⟩ := hrel
    have hz := HB.out.size
    have hle := fold_take_le s k
    rw [HF.out] at hle
    obtain ⟨hl1, hl2⟩ := hle
    simp only at hl1 hl2
    have hcl : (Lib.byteCells o).length = o.length := Lib.byteCells_length o
    have HCL := Lib.hid hcl
    clear hcl
    by_cases hlt : k < s.size
    · have B0 := UInt8.toNat_lt s[k]
      have HS := Lib.hid (take_snoc s k hlt)
      rcases hc : Txt.sp s[k] with _ | _
      · have hcb : Txt.spB (s[k].toNat : Int) = false := hc
        cases gb with
        | false =>
          have HE := Lib.hid (show Txt.cfold (s.data.toList.take (k + 1)) = (o ++ [s[k]], false) by rw [HS.out, Txt.cfold_snoc, HF.out, Txt.cst_no hc]; rfl)
          clear hl2 hc
          go_wp2_with fail
          refine (space_any _ _).mono ?_
          rintro e w' ⟨rfl, rfl⟩
          go_wp2_with fail
          refine (Bld.writeByte w.heap.size w.heap.size (Lib.byteCells o) _ _ HI.out (by rw [HCL.out]; omega) hz).mono ?_
          rintro e w1 ⟨rfl, hI1, hb1⟩
          have HI1 := Lib.hid (show Lib.IsBuilder Bld.TB Bld.TU w.heap.size w.heap.size (Lib.byteCells (o ++ [s[k]])) w1 by rw [← cells_snoc]; exact hI1)
          have HB1 := Lib.hid (HB.out.trans hb1)
          clear hI1 hb1
          go_wp2_with fail
          go_roundw
          case rel => exact ⟨k + 1, false, o ++ [s[k]], by omega, by go_num, rfl, HE.out, HI1.out, HB1.out⟩
          case measure => simp [intOf]; omega
        | true =>
          have hl3 := hl2 rfl
          have HE := Lib.hid (show Txt.cfold (s.data.toList.take (k + 1)) = (o ++ [32] ++ [s[k]], false) by rw [HS.out, Txt.cfold_snoc, HF.out, Txt.cst_no hc]; rfl)
          clear hl2 hc
          go_wp2_with fail
          refine (space_any _ _).mono ?_
          rintro e w' ⟨rfl, rfl⟩
          go_wp2_with fail
          refine (Bld.writeByte w.heap.size w.heap.size (Lib.byteCells o) _ _ HI.out (by rw [HCL.out]; omega) hz).mono ?_
          rintro e w1 ⟨rfl, hI1, hb1⟩
          have HI1 := Lib.hid (show Lib.IsBuilder Bld.TB Bld.TU w.heap.size w.heap.size (Lib.byteCells (o ++ [32])) w1 by rw [← cells_32]; exact hI1)
          have HB1 := Lib.hid (HB.out.trans hb1)
          have hz1 := HB1.out.size
          clear hI1 hb1
          go_wp2_with fail
          refine (Bld.writeByte w.heap.size w.heap.size (Lib.byteCells (o ++ [32])) _ _ HI1.out (by rw [Lib.byteCells_length]; simp; omega) hz1).mono ?_
          rintro e w2 ⟨rfl, hI2, hb2⟩
          have HI2 := Lib.hid (show Lib.IsBuilder Bld.TB Bld.TU w.heap.size w.heap.size (Lib.byteCells (o ++ [32] ++ [s[k]])) w2 by rw [← cells_snoc]; exact hI2)
          have HB2 := Lib.hid (HB1.out.trans hb2)
          clear hI2 hb2
          go_wp2_with fail
          go_roundw
          case rel => exact ⟨k + 1, false, o ++ [32] ++ [s[k]], by omega, by go_num, rfl, HE.out, HI2.out, HB2.out⟩
          case measure => simp [intOf]; omega
      · have hcb : Txt.spB (s[k].toNat : Int) = true := hc
        have HE := Lib.hid (show Txt.cfold (s.data.toList.take (k + 1)) = (o, !o.isEmpty) by rw [HS.out, Txt.cfold_snoc, HF.out, Txt.cst_sp hc])
        have HG := Lib.hid (gap_len o)
        clear hl2 hc
        go_wp2_with fail
        refine (space_any _ _).mono ?_
        rintro e w' ⟨rfl, rfl⟩
        go_wp2_with fail
        refine (Tryz.Builder_Len w.heap.size w.heap.size (Lib.byteCells o) _ HI.out).mono ?_
        rintro e w' ⟨rfl, rfl⟩
        go_wp2_with fail
        go_roundw
        case rel => exact ⟨k + 1, !o.isEmpty, o, by omega, by go_num, by first | rw [← HG.out] | (rw [← HG.out]; simp), HE.out, HI.out, HB.out⟩
        case measure => simp [intOf]; omega
    · obtain rfl : k = s.size := by omega
      have HE := Lib.hid (show o = Txt.collapse s.data.toList by
        have := HF.out
        rw [List.take_of_length_le (by simp)] at this
        unfold Txt.collapse; rw [this])
      clear hl2
      go_wp2_with fail
      refine (Tryz.Builder_String_any w.heap.size w.heap.size o _ HI.out hz).mono ?_
      rintro e w1 ⟨rfl, hb1⟩
      have HB1 := Lib.hid (HB.out.trans hb1)
      clear hb1
      go_wp2_with fail
      go_ret
      exact ⟨ret_str (by rw [HE.out]), HB1.out⟩

/-! ### Collapse of the reference -/
theorem infoU' : (Tryz.prog.info? 5).map (fun i => (i.zero, i.size, i.bytes)) = some (some (.int .u8 0), 1, 1) := Bld.infoU
/-- A slice that the call owns, as bytes: turned into a string. -/
theorem conv_own {w : World} {base : Nat} {v : Value} {o : List UInt8} (h : w.ownsRow base 5 1 v o.length (Lib.byteCells o)) :
    (convert 36 9 v).run Tryz.prog w = .ok (.string ⟨o.toArray⟩) w := by
  rcases h.2 with ⟨rfl, h0⟩ | ⟨g, cap, cur, rfl, _, hg, _, _, _, htk⟩
  · have : o = [] := List.eq_nil_of_length_eq_zero h0
    subst this
    exact Lib.run_convert_nil_bytes w 36 9 5 0 Tryz.underlying36 Tryz.underlying5 Tryz.underlying9
  · exact run_convert_bytes_back w 36 9 5 ⟨g, 0, none⟩ cap o Tryz.underlying36 Tryz.underlying5 Tryz.underlying9
      (Lib.bytes_of_row hg (by simpa using htk))
theorem own_slice {w : World} {base : Nat} {v : Value} {n : Nat} {xs : List Value} (h : w.ownsRow base 5 1 v n xs) : ∃ a cap, v = .slice a n cap := by
  rcases h.2 with ⟨rfl, rfl⟩ | ⟨g, cap, cur, rfl, _⟩
  · exact ⟨_, _, rfl⟩
  · exact ⟨_, _, rfl⟩

theorem fold_prev (s : ByteArray) (j : Nat) (h : j < s.size) : (Txt.cfold (s.data.toList.take (j + 1))).2 = (Txt.sp s[j] && !(Txt.cfold (s.data.toList.take (j + 1))).1.isEmpty) := by
  rw [take_snoc s j h, Txt.fold_gap]
  cases hc : Txt.sp s[j]
  · rfl
  · rw [Txt.cfold_snoc]
    unfold Txt.cst
    rw [if_pos hc]
theorem one_new (w : World) (x : Value) (j : Nat) (u : Value) (hj : ([x] : List Value)[j]? = some u) : (w.alloc (.cells #[x] 5)).cell? ((⟨w.heap.size, 0, none⟩ : Addr).add j) = some u := by
  match j, hj with
  | 0, hj => simp at hj; subst hj; simp [Addr.add]
set_option maxRecDepth 100000 in
set_option maxHeartbeats 4000000 in
theorem rcollapse_any (s : ByteArray) (w : World) (hs : s.size ≤ 140737488355327) :
    Calls Tryz.prog 60 #[.string s] w fun e w' => e = .returned (.string ⟨(Txt.collapse s.data.toList).toArray⟩) ∧ Below w.heap.size w w' := by
  obtain ⟨i0, hi, hz0, hz1, hz2⟩ := info_parts infoU'
  have II := Lib.hid (And.intro hi (And.intro hz0 (And.intro hz1 hz2)))
  clear hi hz0 hz1 hz2
  go_enter Tryz.func60, Tryz.ntmps60
  go_wp2
  go_loopw [3, 4] (fun v i wr => ∃ (k : Nat) (o : List UInt8) (a : Option Addr) (cap : Nat), k ≤ s.size ∧ i = .int .i64 k ∧ v = .slice a o.length cap ∧ Hid ((Txt.cfold (s.data.toList.take k)).1 = o) ∧ Hid (wr.ownsRow w.heap.size 5 1 (.slice a o.length cap) o.length (Lib.byteCells o)) ∧ Hid (Below w.heap.size w wr)) (fun _ i _ => s.size - (intOf i).toNat)
  case atStart => exact ⟨0, [], none, 0, Nat.zero_le _, rfl, rfl, rfl, World.ownsRow_nil _ _ _ _, Below.refl _ _⟩
  case round =>
    obtain ⟨k, o, a, cap, hk, rfl, rfl, HF, HO, HB⟩ := hrel
    have hz := HB.out.size
    have hle := (fold_take_le s k).1
    rw [HF.out] at hle
    by_cases hlt : k < s.size
    · have B0 := UInt8.toNat_lt s[k]
      have HS := Lib.hid (take_snoc s k hlt)
      rcases hc : Txt.sp s[k] with _ | _
      · have hcb : Txt.spB (s[k].toNat : Int) = false := hc
        by_cases hk0 : k = 0
        · subst hk0
          have HE := Lib.hid (show (Txt.cfold (s.data.toList.take (0 + 1))).1 = o ++ [s[0]] by
            rw [HS.out, Txt.cfold_snoc, ← HF.out]
            show (Txt.cst ([], false) s[0]).1 = _
            rw [Txt.cst_no hc]; rfl)
          clear hc
          go_wp2_with fail
          refine (rspace_any _ _).mono ?_
          rintro e w' ⟨rfl, rfl⟩
          go_wp2_with (at_builtin; refine wpList_append_own _ rfl _ _ 36 rfl w.heap.size 5 i0 (.int .u8 0) 1 1 Tryz.underlying36 II.out.1 II.out.2.1 II.out.2.2.1 II.out.2.2.2 rfl (by decide) _ _ _ rfl (HO.out.alloc _) ⟨wr.heap.size, 0, none⟩ 1 1 [.int .u8 (s[0].toNat)] rfl rfl (one_new wr _) (fun u hu => by simp at hu; subst hu; rfl) ?a3 ?a4 ?a5 ?_)
          case a3 => unfold maxLen; omega
          case a4 => omega
          case a5 => simp; omega
          intro v1 w1 hown1 hgrow1 _
          obtain ⟨a1, cap1, hv1⟩ := own_slice hown1
          subst hv1
          have HO1 := Lib.hid (show w1.ownsRow w.heap.size 5 1 (.slice a1 (o ++ [s[0]]).length cap1) (o ++ [s[0]]).length (Lib.byteCells (o ++ [s[0]])) by rw [← cells_snoc]; simpa using hown1)
          have HB1 := Lib.hid ((HB.out.alloc hz _).grown hgrow1 (by simp; omega) (fun k hk => (HO.out.lt k hk).1))
          clear hown1 hgrow1
          go_wp2_with fail
          go_roundw
          case rel => exact ⟨0 + 1, o ++ [s[0]], a1, cap1, by omega, by go_num, by simp, HE.out, HO1.out, HB1.out⟩
          case measure => simp [intOf]; omega
        · obtain ⟨j, rfl⟩ : ∃ j, k = j + 1 := ⟨k - 1, by omega⟩
          have B1 := UInt8.toNat_lt (s[j]'(by omega))
          have HP := fold_prev s j (by omega)
          rw [HF.out] at HP
          have HFO := Lib.hid (show (Txt.cfold (s.data.toList.take (j + 1 + 1))).1 = (if (Txt.cfold (s.data.toList.take (j + 1))).2 = true then o ++ [32] else o) ++ [s[j + 1]] by
            rw [HS.out, Txt.cfold_snoc, ← HF.out]; unfold Txt.cst; rw [if_neg (by simp [hc])])
          clear hk0 hc
          rcases hcp : Txt.sp (s[j]'(by omega)) with _ | _
          · have hcpb : Txt.spB ((s[j]'(by omega)).toNat : Int) = false := hcp
            have HE := Lib.hid (show (Txt.cfold (s.data.toList.take (j + 1 + 1))).1 = o ++ [s[j + 1]] by rw [HFO.out, HP, hcp]; rfl)
            clear hcp HP
            go_wp2_with fail
            refine (rspace_any _ _).mono ?_
            rintro e w' ⟨rfl, rfl⟩
            go_wp2_with fail
            refine (rspace_any _ _).mono ?_
            rintro e w' ⟨rfl, rfl⟩
            go_wp2_with (at_builtin; refine wpList_append_own _ rfl _ _ 36 rfl w.heap.size 5 i0 (.int .u8 0) 1 1 Tryz.underlying36 II.out.1 II.out.2.1 II.out.2.2.1 II.out.2.2.2 rfl (by decide) _ _ _ rfl (HO.out.alloc _) ⟨wr.heap.size, 0, none⟩ 1 1 [.int .u8 (s[j + 1].toNat)] rfl rfl (one_new wr _) (fun u hu => by simp at hu; subst hu; rfl) ?a3 ?a4 ?a5 ?_)
            case a3 => unfold maxLen; omega
            case a4 => omega
            case a5 => simp; omega
            intro v1 w1 hown1 hgrow1 _
            obtain ⟨a1, cap1, hv1⟩ := own_slice hown1
            subst hv1
            have HO1 := Lib.hid (show w1.ownsRow w.heap.size 5 1 (.slice a1 (o ++ [s[j + 1]]).length cap1) (o ++ [s[j + 1]]).length (Lib.byteCells (o ++ [s[j + 1]])) by rw [← cells_snoc]; simpa using hown1)
            have HB1 := Lib.hid ((HB.out.alloc hz _).grown hgrow1 (by simp; omega) (fun k hk => (HO.out.lt k hk).1))
            clear hown1 hgrow1
            go_wp2_with fail
            go_roundw
            case rel => exact ⟨j + 1 + 1, o ++ [s[j + 1]], a1, cap1, by omega, by go_num, by simp, HE.out, HO1.out, HB1.out⟩
            case measure => simp [intOf]; omega
          · have hcpb : Txt.spB ((s[j]'(by omega)).toNat : Int) = true := hcp
            by_cases ho : o = []
            · have HE := Lib.hid (show (Txt.cfold (s.data.toList.take (j + 1 + 1))).1 = o ++ [s[j + 1]] by rw [HFO.out, HP, hcp, ho]; rfl)
              have hol : ¬ (0 < o.length) := by rw [ho]; simp
              clear hcp HP ho
              go_wp2_with fail
              refine (rspace_any _ _).mono ?_
              rintro e w' ⟨rfl, rfl⟩
              go_wp2_with fail
              refine (rspace_any _ _).mono ?_
              rintro e w' ⟨rfl, rfl⟩
              go_wp2_with (at_builtin; refine wpList_append_own _ rfl _ _ 36 rfl w.heap.size 5 i0 (.int .u8 0) 1 1 Tryz.underlying36 II.out.1 II.out.2.1 II.out.2.2.1 II.out.2.2.2 rfl (by decide) _ _ _ rfl (HO.out.alloc _) ⟨wr.heap.size, 0, none⟩ 1 1 [.int .u8 (s[j + 1].toNat)] rfl rfl (one_new wr _) (fun u hu => by simp at hu; subst hu; rfl) ?a3 ?a4 ?a5 ?_)
              case a3 => unfold maxLen; omega
              case a4 => omega
              case a5 => simp; omega
              intro v1 w1 hown1 hgrow1 _
              obtain ⟨a1, cap1, hv1⟩ := own_slice hown1
              subst hv1
              have HO1 := Lib.hid (show w1.ownsRow w.heap.size 5 1 (.slice a1 (o ++ [s[j + 1]]).length cap1) (o ++ [s[j + 1]]).length (Lib.byteCells (o ++ [s[j + 1]])) by rw [← cells_snoc]; simpa using hown1)
              have HB1 := Lib.hid ((HB.out.alloc hz _).grown hgrow1 (by simp; omega) (fun k hk => (HO.out.lt k hk).1))
              clear hown1 hgrow1
              go_wp2_with fail
              go_roundw
              case rel => exact ⟨j + 1 + 1, o ++ [s[j + 1]], a1, cap1, by omega, by go_num, by simp, HE.out, HO1.out, HB1.out⟩
              case measure => simp [intOf]; omega
            · have HE := Lib.hid (show (Txt.cfold (s.data.toList.take (j + 1 + 1))).1 = o ++ [32] ++ [s[j + 1]] by
                have : (!o.isEmpty) = true := by simp [ho]
                rw [HFO.out, HP, hcp, this]; rfl)
              have hol : 0 < o.length := List.length_pos_iff.2 ho
              have hl2 : o.length < j + 1 := by
                have e : (Txt.cfold (s.data.toList.take (j + 1))).2 = true := by
                  have : (!o.isEmpty) = true := by simp [ho]
                  rw [HP, hcp, this]; rfl
                have := (fold_take_le s (j + 1)).2 e
                rw [HF.out] at this; exact this
              clear hcp HP ho
              go_wp2_with fail
              refine (rspace_any _ _).mono ?_
              rintro e w' ⟨rfl, rfl⟩
              go_wp2_with fail
              refine (rspace_any _ _).mono ?_
              rintro e w' ⟨rfl, rfl⟩
              go_wp2_with (at_builtin; refine wpList_append_own _ rfl _ _ 36 rfl w.heap.size 5 i0 (.int .u8 0) 1 1 Tryz.underlying36 II.out.1 II.out.2.1 II.out.2.2.1 II.out.2.2.2 rfl (by decide) _ _ _ rfl (HO.out.alloc _) ⟨wr.heap.size, 0, none⟩ 1 1 [.int .u8 32] rfl rfl (one_new wr _) (fun u hu => by simp at hu; subst hu; rfl) ?a3 ?a4 ?a5 ?_)
              case a3 => unfold maxLen; omega
              case a4 => omega
              case a5 => simp; omega
              intro v1 w1 hown1 hgrow1 _
              obtain ⟨a1, cap1, hv1⟩ := own_slice hown1
              subst hv1
              have HO1 := Lib.hid (show w1.ownsRow w.heap.size 5 1 (.slice a1 (o.length + 1) cap1) (o.length + 1) (Lib.byteCells (o ++ [32])) by rw [← cells_32]; exact hown1)
              have HB1 := Lib.hid ((HB.out.alloc hz _).grown hgrow1 (by simp; omega) (fun k hk => (HO.out.lt k hk).1))
              have hz1 := HB1.out.size
              clear hown1 hgrow1
              go_wp2_with (at_builtin; refine wpList_append_own _ rfl _ _ 36 rfl w.heap.size 5 i0 (.int .u8 0) 1 1 Tryz.underlying36 II.out.1 II.out.2.1 II.out.2.2.1 II.out.2.2.2 rfl (by decide) _ _ _ rfl (HO1.out.alloc _) ⟨w1.heap.size, 0, none⟩ 1 1 [.int .u8 (s[j + 1].toNat)] rfl rfl (one_new w1 _) (fun u hu => by simp at hu; subst hu; rfl) ?b3 ?b4 ?b5 ?_)
              case b3 => unfold maxLen; omega
              case b4 => omega
              case b5 => simp; omega
              intro v2 w2 hown2 hgrow2 _
              obtain ⟨a2, cap2, hv2⟩ := own_slice hown2
              subst hv2
              have HO2 := Lib.hid (show w2.ownsRow w.heap.size 5 1 (.slice a2 (o ++ [32] ++ [s[j + 1]]).length cap2) (o ++ [32] ++ [s[j + 1]]).length (Lib.byteCells (o ++ [32] ++ [s[j + 1]])) by rw [← cells_snoc]; simpa using hown2)
              have HB2 := Lib.hid ((HB1.out.alloc hz1 _).grown hgrow2 (by simp; omega) (fun k hk => (HO1.out.lt k hk).1))
              clear hown2 hgrow2
              go_wp2_with fail
              go_roundw
              case rel => exact ⟨j + 1 + 1, o ++ [32] ++ [s[j + 1]], a2, cap2, by omega, by go_num, by simp, HE.out, HO2.out, HB2.out⟩
              case measure => simp [intOf]; omega
      · have hcb : Txt.spB (s[k].toNat : Int) = true := hc
        have HE := Lib.hid (show (Txt.cfold (s.data.toList.take (k + 1))).1 = o by rw [HS.out, Txt.cfold_snoc, ← HF.out]; unfold Txt.cst; rw [if_pos hc])
        clear hc
        go_wp2_with fail
        refine (rspace_any _ _).mono ?_
        rintro e w' ⟨rfl, rfl⟩
        go_wp2_with fail
        go_roundw
        case rel => exact ⟨k + 1, o, a, cap, by omega, by go_num, rfl, HE.out, HO.out, HB.out⟩
        case measure => simp [intOf]; omega
    · obtain rfl : k = s.size := by omega
      have HE := Lib.hid (show o = Txt.collapse s.data.toList by
        have := HF.out
        rw [List.take_of_length_le (by simp)] at this
        unfold Txt.collapse; rw [this])
      have hcv := conv_own HO.out
      go_wp2_with fail
      go_ret
      exact ⟨ret_str (by rw [HE.out]), HB.out⟩
end Go.Proofs.YtbodoncomeegpaaGreatDoor.Tx
