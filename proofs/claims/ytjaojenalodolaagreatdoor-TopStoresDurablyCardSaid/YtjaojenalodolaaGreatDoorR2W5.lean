/- The reference's str and object, walked. -/
import Derived.Test.YtjaojenalodolaaGreatDoorKR
import Derived.Test.YtjaojenalodolaaGreatDoorKP
import Derived.Deep.RegionHeld3
namespace Go.Proofs.YtjaojenalodolaaGreatDoor.R2
open Go Go.RowKit Go.Proofs.YtjaojenalodolaaGreatDoor Go.Proofs.YtjaojenalodolaaGreatDoor.Rw Go.Proofs.YtjaojenalodolaaGreatDoor.Vf Go.Proofs.YtjaojenalodolaaGreatDoor.Mw Go.Proofs.YtjaojenalodolaaGreatDoor.Me Go.Proofs.YtjaojenalodolaaGreatDoor.Pj Go.Proofs.YtjaojenalodolaaGreatDoor.De
set_option linter.unusedVariables false
set_option maxRecDepth 100000
set_option maxHeartbeats 16000000
theorem rstr_is (s : ByteArray) (w : World) : Calls Tryz.prog 56 #[.string s] w fun e w' => e = .returned (.agg #[.int .i64 3, .bool false, .int .i64 0, .string s, .slice none 0 0, .slice none 0 0, .int .i64 0]) ∧ Below w.heap.size w w' := by
  go_enter Tryz.func56, Tryz.ntmps56
  go_wp2_with fail
  refine bodyPost_ret (results_cell_row rfl _ _ w.heap.size _ _ _ _ rfl (heap_alloc_new _ _) Tryz.underlying82 rfl (by kernel_rfl)) rfl ?_
  exact ⟨rfl, (Below.refl _ _).alloc (Nat.le_refl _) _⟩
theorem cell_blw {n b j : Nat} {u w : World} {x : Value} (h : u.cell? ⟨b, j, none⟩ = some x) (hb : Below n u w) (hn : b < n) : w.cell? ⟨b, j, none⟩ = some x := by
  unfold World.cell? at h ⊢
  rw [hb.block b hn]
  exact h
def mCells (x : ByteArray × List Value) : List Value := (.string x.1 :: x.2) ++ [.int .i64 0]
def ZEl (w : World) (x : ByteArray × List Value) (c : List Value) : Prop := c = mCells x
def ld_obj : Op := .load 80 (.tmp 14)
theorem robject_is (ks : List ByteArray) (js : List Jv.J) (V : List (List Value)) (vk vv : Value) (W : World) (hk : Rw W vk 1 (ks.map sCell)) (hv : Rw W vv 7 V) (hA : All Jv W js V) (hn : ks.length = js.length) (hl : js.length ≤ 1000) :
    Calls Tryz.prog 58 #[vk, vv] W fun e w' => (∃ mv, e = .returned (.agg #[.int .i64 5, .bool false, .int .i64 0, .string ⟨#[]⟩, .slice none 0 0, mv, .int .i64 0]) ∧ Row ZEl 9 144 W.heap.size w' mv (List.zip ks V)) ∧ Below W.heap.size W w' := by
  obtain ⟨kg, ko, ka, kc, rfl, hka, hkc⟩ := path_at hk
  obtain ⟨vg, vo, va, vc, rfl, hva, hvc⟩ := vals_at hv hA
  obtain ⟨m, hm⟩ : ∃ m, js.length = m := ⟨_, rfl⟩
  rw [hn, hm] at hka ⊢
  rw [hm] at hva hl
  have HKN := Lib.hid (hn.trans hm)
  have HVN := Lib.hid (show V.length = m by rw [hA.1, hm])
  have HZN := Lib.hid (show (List.zip ks V).length = m by rw [List.length_zip, HKN.out, HVN.out]; omega)
  have HM := Lib.hid hm
  have HKA := Lib.hid hka
  have HKC := Lib.hid hkc
  have HVA := Lib.hid hva
  have HVC := Lib.hid hvc
  have hb0 := (Below.refl W.heap.size W).alloc (Nat.le_refl _) (.cells #[.int .i64 0, .bool false, .int .i64 0, .string ⟨#[]⟩, .slice none 0 0, .slice none 0 0, .int .i64 0] 82)
  have hb1 := hb0.alloc hb0.size (.cells #[.int .i64 5, .bool false, .int .i64 0, .string ⟨#[]⟩, .slice none 0 0, .slice none 0 0, .int .i64 0] 82)
  have HX := Lib.hid (heap_alloc2_old W (.cells #[.int .i64 0, .bool false, .int .i64 0, .string ⟨#[]⟩, .slice none 0 0, .slice none 0 0, .int .i64 0] 82) (.cells #[.int .i64 5, .bool false, .int .i64 0, .string ⟨#[]⟩, .slice none 0 0, .slice none 0 0, .int .i64 0] 82))
  have HY := Lib.hid (heap_alloc2_new W (.cells #[.int .i64 0, .bool false, .int .i64 0, .string ⟨#[]⟩, .slice none 0 0, .slice none 0 0, .int .i64 0] 82) (.cells #[.int .i64 5, .bool false, .int .i64 0, .string ⟨#[]⟩, .slice none 0 0, .slice none 0 0, .int .i64 0] 82))
  have HB1 := Lib.hid hb1
  obtain ⟨ti, tz, hi', hz0, hz1, hz2, hz3⟩ := info_sz infoM
  have HI := Lib.hid (And.intro hi' (And.intro hz0 (And.intro hz1 (And.intro hz2 hz3))))
  clear hk hv hA hn hm hka hkc hva hvc hb0 hb1 hi' hz0 hz1 hz2 hz3
  go_enter Tryz.func58, Tryz.ntmps58
  go_wp2_with fail
  obtain ⟨B, hB⟩ : ∃ n, W.heap.size + 1 = n := ⟨_, rfl⟩
  rw [hB] at HY ⊢
  have HBE := Lib.hid hB
  generalize ((W.alloc (.cells #[.int .i64 0, .bool false, .int .i64 0, .string ⟨#[]⟩, .slice none 0 0, .slice none 0 0, .int .i64 0] 82)).alloc (.cells #[.int .i64 5, .bool false, .int .i64 0, .string ⟨#[]⟩, .slice none 0 0, .slice none 0 0, .int .i64 0] 82)) = WE at HX HY HB1 ⊢
  have HBL := Lib.hid (Rw.lt_of_heap HY.out)
  clear hB
  go_loopw [6] (fun x wr => ∃ i : Nat, i ≤ m ∧ x = .int .i64 i ∧ Hid (∃ mv, Row ZEl 9 144 WE.heap.size wr mv ((List.zip ks V).take i) ∧ wr.heap[B]? = some (Obj.cells #[.int .i64 5, .bool false, .int .i64 0, .string ⟨#[]⟩, .slice none 0 0, mv, .int .i64 0] 82 (0, 0)) ∧ Sd B WE wr)) (fun x _ => m - (intOf x).toNat)
  case atStart => exact ⟨0, Nat.zero_le _, rfl, Lib.hid ⟨_, Row.nil, HY.out, Sd.refl _ _⟩⟩
  case round =>
    obtain ⟨i, hi, rfl, hst⟩ := hrel
    obtain ⟨mv, hrow, hbox, hsd⟩ := hst.out
    have HROW := Lib.hid hrow
    have HBOX := Lib.hid hbox
    have HSD := Lib.hid hsd
    have HBW := Lib.hid (show Below W.heap.size W _ from HB1.out.trans (hsd.under (by have := HBE.out; omega) HB1.out.size))
    clear hst hrow hbox hsd
    by_cases hlt : i < m
    · obtain rfl := HKA.out (by omega)
      obtain rfl := HVA.out (by omega)
      have hik : i < ks.length := by rw [HKN.out]; exact hlt
      have hij : i < js.length := by rw [HM.out]; exact hlt
      have hiV : i < V.length := by rw [HVN.out]; exact hlt
      have hiZ : i < (List.zip ks V).length := by rw [HZN.out]; exact hlt
      have hkg : kg < W.heap.size := Rw.lt_of_cell (HKC.out i hik)
      have k0 := cell_under (HKC.out i hik) HBW.out
      obtain ⟨ck, cb, cn, cs, a1, n1, c1, a2, n2, c2, cp, eV, y0, y1, y2, y3, y4, y5, y6⟩ := HVC.out i hij hiV
      have hvg : vg < W.heap.size := Rw.lt_of_cell y0
      replace y0 := cell_under y0 HBW.out
      replace y1 := cell_under y1 HBW.out
      replace y2 := cell_under y2 HBW.out
      replace y3 := cell_under y3 HBW.out
      replace y4 := cell_under y4 HBW.out
      replace y5 := cell_under y5 HBW.out
      replace y6 := cell_under y6 HBW.out
      have i1 : (i : Int) < (m : Int) := by omega
      have i0 : (0 : Int) ≤ (i : Int) := by omega
      have HTK := Lib.hid (show (List.zip ks V).take (i + 1) = (List.zip ks V).take i ++ [(ks[i], V[i])] by rw [List.take_add_one, List.getElem?_eq_getElem hiZ, List.getElem_zip]; rfl)
      have HTL := Lib.hid (show ((List.zip ks V).take i).length = i by rw [List.length_take, HZN.out]; omega)
      rw [eV] at HTK
      generalize ks[i] = key at k0 HTK
      obtain ⟨ad, cp9, hmv⟩ := Row.slice HROW.out
      subst hmv
      rw [HTL.out] at HROW HBOX
      have b5 := Me.box_at (j := 5) HBOX.out rfl
      clear eV
      have HC := Lib.hid (fun u (hu : Below W.heap.size wr u) => (show u.cell? ⟨kg, ko + i, none⟩ = some (.string key) ∧ u.cell? ⟨vg, vo + i * 7, none⟩ = some (.int .i64 ck) ∧ u.cell? ⟨vg, vo + i * 7 + 1, none⟩ = some (.bool cb) ∧ u.cell? ⟨vg, vo + i * 7 + 2, none⟩ = some (.int .i64 cn) ∧ u.cell? ⟨vg, vo + i * 7 + 3, none⟩ = some (.string cs) ∧ u.cell? ⟨vg, vo + i * 7 + 4, none⟩ = some (.slice a1 n1 c1) ∧ u.cell? ⟨vg, vo + i * 7 + 5, none⟩ = some (.slice a2 n2 c2) ∧ u.cell? ⟨vg, vo + i * 7 + 6, none⟩ = some (.int .i64 cp) from ⟨cell_blw k0 hu hkg, cell_blw y0 hu hvg, cell_blw y1 hu hvg, cell_blw y2 hu hvg, cell_blw y3 hu hvg, cell_blw y4 hu hvg, cell_blw y5 hu hvg, cell_blw y6 hu hvg⟩))
      have HZA := Lib.hid ((Below.refl wr.heap.size wr).alloc (Nat.le_refl _) (.cells #[.string key, .int .i64 ck, .bool cb, .int .i64 cn, .string cs, .slice a1 n1 c1, .slice a2 n2 c2, .int .i64 cp, .int .i64 0] 144))
      have b5z := cell_under b5 HZA.out
      have b5d := cell_under b5 (Below.refl wr.heap.size wr).drew
      have b5e := cell_under b5 HZA.out.drew
      have hld : ld_obj = .load 80 (.tmp 14) := rfl
      go_wp2_with fail
      rw [← hld]
      go_region_held3 (fun u => u.cell? ⟨kg, ko + i, none⟩ = some (.string key) ∧ u.cell? ⟨vg, vo + i * 7, none⟩ = some (.int .i64 ck) ∧ u.cell? ⟨vg, vo + i * 7 + 1, none⟩ = some (.bool cb) ∧ u.cell? ⟨vg, vo + i * 7 + 2, none⟩ = some (.int .i64 cn) ∧ u.cell? ⟨vg, vo + i * 7 + 3, none⟩ = some (.string cs) ∧ u.cell? ⟨vg, vo + i * 7 + 4, none⟩ = some (.slice a1 n1 c1) ∧ u.cell? ⟨vg, vo + i * 7 + 5, none⟩ = some (.slice a2 n2 c2) ∧ u.cell? ⟨vg, vo + i * 7 + 6, none⟩ = some (.int .i64 cp)) (first | (with_reducible assumption) | (with_reducible exact HC.out _ ((Below.refl wr.heap.size wr).mono HBW.out.size).drew) | (with_reducible exact HC.out _ (HZA.out.mono HBW.out.size)) | (with_reducible exact HC.out _ (HZA.out.mono HBW.out.size).drew))
        (first
          | (refine step_push (El := ZEl) _ rfl (.tmp 15) (.tmp 25) 80 rfl WE.heap.size wr.heap.size 144 ti tz 9 120 Tryz.underlying80 HI.out.1 HI.out.2.1 HI.out.2.2.1 HI.out.2.2.2.1 HI.out.2.2.2.2 (by decide) (.slice ad i cp9) ((List.zip ks V).take i) i HTL.out rfl ?b1 _ (key, vCells ck cb cn cs (.slice a1 n1 c1) (.slice a2 n2 c2) cp) (mCells (key, vCells ck cb cn cs (.slice a1 n1 c1) (.slice a2 n2 c2) cp)) rfl ?b2 ?b3 ?b4 ?b5 ?b6 ?b7 rfl ?_; (case b1 => exact HROW.out.below HZA.out.drew); (case b2 => exact one_row (c := mCells (key, vCells ck cb cn cs (.slice a1 n1 c1) (.slice a2 n2 c2) cp)) (sz := 9) rfl); (case b3 => exact (by intro u hu; simp only [mCells, vCells, List.cons_append, List.nil_append, List.mem_cons, List.not_mem_nil, or_false] at hu; rcases hu with rfl | rfl | rfl | rfl | rfl | rfl | rfl | rfl | rfl <;> rfl)); (case b4 => exact fun u _ => rfl); (case b5 => (unfold maxLen; omega)); (case b6 => omega); (case b7 => exact Nat.le_trans HSD.out.size HZA.out.drew.size); intro v1 w2 hrow2 hgrow hv1; obtain ⟨a8, c8, hv8⟩ := Row.slice hrow2; rw [List.length_append, HTL.out] at hv8; change v1 = .slice a8 (i + 1) c8 at hv8; subst hv8; have HROW6 := Lib.hid hrow2; have HBOX6 := Lib.hid (grown_heap hgrow hv1 HBL.out ((HZA.out.drew.block _ (Rw.lt_of_heap HBOX.out)).trans HBOX.out)); have HSD6 := Lib.hid (grown_sd (HSD.out.below HZA.out.drew) hgrow hv1 (Nat.le_refl _)); have HBG := Lib.hid (below_grew hgrow (HZA.out.drew.mono HBW.out.size) (fun q hq => Nat.le_trans HB1.out.size (hv1 q hq)) (Nat.le_trans HBW.out.size HZA.out.drew.size)); have sF := HC.out _ HBG.out; have sG := HC.out (w2.setCell ⟨B, 5, none⟩ (.slice a8 (i + 1) c8)) (HBG.out.trans ⟨rfl, rfl, rfl, by simp, fun k hk => heap_setCell_other _ _ _ _ (show k ≠ B by have := HBE.out; omega)⟩); have b6 := Me.box_at (j := 5) HBOX6.out rfl; have fr := frozen_of_row w2 _ 5 _ _ HBOX6.out; clear hrow2 hgrow hv1))
      all_goals
        go_wp2_with fail
        go_roundw
        case rel =>
          refine ⟨i + 1, by omega, by go_num, Lib.hid ⟨.slice a8 (i + 1) c8, ?_, heap_setCell_same _ B 5 _ _ _ HBOX6.out, HSD6.out.set 5 _⟩⟩
          have h3 := row_set (B := B) (j := 5) (x := .slice a8 (i + 1) c8) HROW6.out HBL.out
          rw [← HTK.out] at h3
          exact h3
        case measure => simp [intOf]; omega
    · have gl : decide ((i : Int) < (m : Int)) = false := decide_eq_false (by omega)
      have HTA : Hid ((List.zip ks V).take i = List.zip ks V) := Lib.hid (List.take_of_length_le (by rw [HZN.out]; omega))
      rw [HTA.out] at HROW
      have b0 := Me.box_at (j := 0) HBOX.out rfl
      have b1 := Me.box_at (j := 1) HBOX.out rfl
      have b2 := Me.box_at (j := 2) HBOX.out rfl
      have b3 := Me.box_at (j := 3) HBOX.out rfl
      have b4 := Me.box_at (j := 4) HBOX.out rfl
      have b5 := Me.box_at (j := 5) HBOX.out rfl
      have b6 := Me.box_at (j := 6) HBOX.out rfl
      have HR := Lib.hid ((HSD.out.block _ (Rw.lt_of_heap HX.out) (by have := HBE.out; omega)).trans HX.out)
      have HWL := Lib.hid (Rw.lt_of_heap HX.out)
      obtain ⟨ad, cp9, hmv⟩ := Row.slice HROW.out
      subst hmv
      generalize (List.zip ks V).length = nz at b5 HROW HBOX ⊢
      go_wp2_with (refine wpList_store_row rfl 82 _ _ rfl W.heap.size #[.int .i64 5, .bool false, .int .i64 0, .string ⟨#[]⟩, .slice none 0 0, .slice ad nz cp9, .int .i64 0] rfl rfl 82 _ HR.out (by kernel_rfl) rfl (by simp [Value.oneCell']) ?_)
      go_wp2_with fail
      have hz2 := setRow_heap _ W.heap.size _ #[.int .i64 5, .bool false, .int .i64 0, .string ⟨#[]⟩, .slice none 0 0, .slice ad nz cp9, .int .i64 0] _ _ HR.out
      refine bodyPost_ret (results_cell_row rfl _ _ W.heap.size _ _ _ _ rfl hz2 Tryz.underlying82 rfl (by kernel_rfl)) rfl ?_
      exact ⟨⟨.slice ad nz cp9, rfl, (row_keep HROW.out (by simp [World.setRow]) fun q h1 h2 => setRow_other _ W.heap.size q _ (by have := HWL.out; omega)).base HB1.out.size⟩, below_setRow HBW.out (Nat.le_refl _) _⟩
end Go.Proofs.YtjaojenalodolaaGreatDoor.R2
