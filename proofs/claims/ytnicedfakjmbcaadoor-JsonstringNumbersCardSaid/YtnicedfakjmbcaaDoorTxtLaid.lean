import Derived.Test.YtnicedfakjmbcaaDoorRows
import Derived.Test.YtnicedfakjmbcaaDoorPairs
import Derived.Test.YtnicedfakjmbcaaDoorTxtW9
import Derived.Lib.LaidU8T
import Derived.KernelRfl
namespace Go.Proofs.YtnicedfakjmbcaaDoor.Ld
open Go Go.RowKit Go.Proofs.YtnicedfakjmbcaaDoor

theorem acc_eq : (Rows.laid_unicode_utf8_acceptRanges : DataW Unit) = Lib.acceptData := by kernel_rfl
theorem first_eq : (Rows.laid_unicode_utf8_first : DataW Unit) = Lib.firstData := by kernel_rfl
theorem start_eq : (Rows.laid_feedvault_text_startRanges : DataW Unit) = .agg ((List.range 15).map fun j => Lib.tabData .i32 [Txt.startTab.getD (2 * j) 0, Txt.startTab.getD (2 * j + 1) 0]) := by kernel_rfl
theorem more_eq : (Rows.laid_feedvault_text_moreRanges : DataW Unit) = .agg ((List.range 5).map fun j => Lib.tabData .i32 [Txt.moreTab.getD (2 * j) 0, Txt.moreTab.getD (2 * j + 1) 0]) := by kernel_rfl
theorem u8_of {W : World} (h3 : Lib.VarReads Tryd.prog W "unicode/utf8.first" Rows.laid_unicode_utf8_first) (h4 : Lib.VarReads Tryd.prog W "unicode/utf8.acceptRanges" Rows.laid_unicode_utf8_acceptRanges) :
    Lib.Utf8Tabs 2 3 W := by
  rw [first_eq] at h3
  rw [acc_eq] at h4
  exact utf8Tabs_of_readsT (U8Types.of196 Tryd.lays196) ⟨by kernel_rfl, by kernel_rfl, by kernel_rfl, by kernel_rfl, by kernel_rfl, by kernel_rfl, by kernel_rfl⟩ h3 h4
theorem start_of {W : World} (h : Lib.VarReads Tryd.prog W "feedvault/text.startRanges" Rows.laid_feedvault_text_startRanges) : ∃ t fr, W.heap[0]? = some (.cells Tx.startArr t fr) := by
  obtain ⟨g, t, cs, fuel, p, hg, hty, hvar, hd⟩ := h
  obtain rfl := Option.some.inj ((show Tryd.prog.globalNamed "feedvault/text.startRanges" = some 0 by kernel_rfl).symm.trans hg)
  obtain rfl := Option.some.inj ((show (Tryd.prog.globals[0]?).map (·.type) = some 58 by kernel_rfl).symm.trans hty)
  rw [start_eq] at hd
  have hcs := cells_of_pairs (zs := Txt.startTab) Tryd.underlying58 Tryd.underlying57 Tryd.underlying21 (by kernel_rfl) (by kernel_rfl) (by kernel_rfl) rfl
    (fun j hj => by simp [List.getElem?_map, List.getElem?_range hj]) hd
  have : cs = Tx.startArr := by
    apply Array.toList_inj.1
    rw [hcs]; rfl
  rw [← this]
  exact block_of_var hg hvar
theorem more_of {W : World} (h : Lib.VarReads Tryd.prog W "feedvault/text.moreRanges" Rows.laid_feedvault_text_moreRanges) : ∃ t fr, W.heap[1]? = some (.cells Tx.moreArr t fr) := by
  obtain ⟨g, t, cs, fuel, p, hg, hty, hvar, hd⟩ := h
  obtain rfl := Option.some.inj ((show Tryd.prog.globalNamed "feedvault/text.moreRanges" = some 1 by kernel_rfl).symm.trans hg)
  obtain rfl := Option.some.inj ((show (Tryd.prog.globals[1]?).map (·.type) = some 59 by kernel_rfl).symm.trans hty)
  rw [more_eq] at hd
  have hcs := cells_of_pairs (zs := Txt.moreTab) Tryd.underlying59 Tryd.underlying57 Tryd.underlying21 (by kernel_rfl) (by kernel_rfl) (by kernel_rfl) rfl
    (fun j hj => by simp [List.getElem?_map, List.getElem?_range hj]) hd
  have : cs = Tx.moreArr := by
    apply Array.toList_inj.1
    rw [hcs]; rfl
  rw [← this]
  exact block_of_var hg hvar
end Go.Proofs.YtnicedfakjmbcaaDoor.Ld
