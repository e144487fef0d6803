import Derived.Test.YtnicedfakjmbcaaDoorJsW7
namespace Go.Proofs.YtnicedfakjmbcaaDoor.Jw
open Go Go.RowKit Go.Proofs.YtnicedfakjmbcaaDoor Go.Proofs.YtnicedfakjmbcaaDoor.Tx

/-! ### WriteRune -/
theorem cells_rune (r : Int) (h : Lib.validRune r = true) : Lib.runeCells r = Lib.byteCells (Txt.enc r) := by
  unfold Txt.enc
  rw [if_pos h]
  unfold Lib.runeCells Lib.byteCells Lib.encodeRune
  rw [List.map_map]
  apply List.map_congr_left
  intro x hx
  have := Lib.encodeRuneZ_byte r x hx
  show Value.int .u8 x = Value.int .u8 ((x.toNat.toUInt8).toNat : Int)
  rw [Txt.toNat_u8 (by omega)]
  exact val_int (by omega)
set_option maxRecDepth 100000 in
set_option maxHeartbeats 2000000 in
theorem writeRune (B b : Nat) (bs : List Value) (r : Int) (w : World) (h : Lib.IsBuilder Bld.TB Bld.TU B b bs w) (hr0 : -2147483648 ≤ r) (hr1 : r ≤ 2147483647) (hlen : bs.length + 4 ≤ 140737488355328) (hBw : B ≤ w.heap.size) :
    Calls Tryd.prog 52 #[.pointer (some ⟨b, 0, none⟩), .int .i32 r] w fun e w' => ∃ z : Int, e = .returned (.tuple #[.int .i64 z, .nilIface]) ∧ (Lib.IsBuilder Bld.TB Bld.TU B b (bs ++ Lib.runeCells r) w' ∧ Below B w w') := by
  have HRL := Lib.hid (Lib.runeCells_le r)
  go_enter Tryd.func52, Tryd.ntmps52
  go_wp2_with fail
  refine (Bld.check_any B b bs _ h).mono ?_
  rintro e w1 ⟨rfl, h1, hb1⟩
  obtain ⟨hB, v, hbk, hown, hne⟩ := h1
  have c0 : w1.cell? ⟨b, 0, none⟩ = some (.pointer (some ⟨b, 0, none⟩)) := by rw [Lib.cell_of_heap hbk]; rfl
  have c1 : w1.cell? ⟨b, 1, none⟩ = some v := by rw [Lib.cell_of_heap hbk]; rfl
  have hz := hb1.size
  obtain ⟨ao, cap, rfl⟩ := own_slice hown
  go_wp2_with fail
  refine (Tryd.utf8_AppendRune_plain B _ bs.length bs r hr0 hr1 _ hown hlen (by omega)).mono ?_
  rintro e w2 ⟨v', rfl, hown', o, hgrow⟩
  have hlt : b < w1.heap.size := (Array.getElem?_eq_some_iff.1 hbk).1
  have hb2 : w2.heap[b]? = some (.cells #[.pointer (some ⟨b, 0, none⟩), .slice ao bs.length cap] Bld.TB (0, 0)) := by
    rw [hgrow.block b (by rw [alloc_sz]; omega) (fun e => hne e.symm), Lib.alloc_old w1 _ b hlt]
    exact hbk
  have d0 : w2.cell? ⟨b, 0, none⟩ = some (.pointer (some ⟨b, 0, none⟩)) := by rw [Lib.cell_of_heap hb2]; rfl
  have d1 : w2.cell? ⟨b, 1, none⟩ = some (.slice ao bs.length cap) := by rw [Lib.cell_of_heap hb2]; rfl
  have f1 : w2.frozen? ⟨b, 1, none⟩ = false := Lib.frozen_of_heap hb2 1
  obtain ⟨ao', cap', rfl⟩ := own_slice hown'
  have HIS := Lib.hid (Lib.BuilderAt.put (T := Bld.TB) (e := Bld.TU) hB hb2 (bs' := bs ++ Lib.runeCells r) (by simpa using hown') (by decide))
  have HBL := Lib.hid (((hb1.alloc (by omega) o).grown hgrow (by rw [alloc_sz]; omega) (fun k hk => (hown.lt k hk).1)).setCell (p := ⟨b, 1, none⟩) hB (.slice ao' (bs.length + (Lib.runeCells r).length) cap'))
  clear hown hgrow hown' hbk hb2
  go_wp2
  go_ret2
  exact ⟨_, rfl, .inr HIS.out, HBL.out⟩
end Go.Proofs.YtnicedfakjmbcaaDoor.Jw
