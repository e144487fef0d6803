/- The package tables that TopStoresDurably reads, as the row lists them. -/
import Derived.Test.YtjaojenalodolaaGreatDoorRows
import Derived.Test.YtjaojenalodolaaGreatDoorPairs
import Derived.Test.YtjaojenalodolaaGreatDoorKL
import Derived.Lib.LaidU8T
import Derived.Lib.LaidTab
import Derived.Lib.SmallJoins
import Derived.KernelRfl
namespace Go.Proofs.YtjaojenalodolaaGreatDoor.Ld
open Go Go.RowKit Go.Proofs.YtjaojenalodolaaGreatDoor
theorem acc_eq : (Rows.laid_unicode_utf8_acceptRanges : DataW Unit) = Lib.acceptData := by kernel_rfl
theorem first_eq : (Rows.laid_unicode_utf8_first : DataW Unit) = Lib.firstData := by kernel_rfl
theorem u8_of {W : World} (h3 : Lib.VarReads Tryz.prog W "unicode/utf8.first" Rows.laid_unicode_utf8_first) (h4 : Lib.VarReads Tryz.prog W "unicode/utf8.acceptRanges" Rows.laid_unicode_utf8_acceptRanges) :
    Lib.Utf8Tabs 2 3 W := by
  rw [first_eq] at h3
  rw [acc_eq] at h4
  exact utf8Tabs_of_readsT (U8Types.of196 Tryz.lays196) ⟨by kernel_rfl, by kernel_rfl, by kernel_rfl, by kernel_rfl, by kernel_rfl, by kernel_rfl, by kernel_rfl⟩ h3 h4
theorem let_eq : (Rows.laid_feedvault_jsonstring_letters : DataW Unit) = .agg ((List.range 5).map fun j => Lib.tabData .u8 [Jw.letTab.getD (2 * j) 0, Jw.letTab.getD (2 * j + 1) 0]) := by kernel_rfl
theorem let_of {W : World} (h : Lib.VarReads Tryz.prog W "feedvault/jsonstring.letters" Rows.laid_feedvault_jsonstring_letters) : Jw.LetTab W := by
  obtain ⟨g, t, cs, fuel, p, hg, hty, hvar, hd⟩ := h
  obtain rfl := Option.some.inj ((show Tryz.prog.globalNamed "feedvault/jsonstring.letters" = some 6 by kernel_rfl).symm.trans hg)
  obtain rfl := Option.some.inj ((show (Tryz.prog.globals[6]?).map (·.type) = some 272 by kernel_rfl).symm.trans hty)
  rw [let_eq] at hd
  have hcs := cells_of_pairs (zs := Jw.letTab) Tryz.underlying272 Tryz.underlying271 Tryz.underlying5 (by kernel_rfl) (by kernel_rfl) (by kernel_rfl) rfl
    (fun j hj => by simp [List.getElem?_map, List.getElem?_range hj]) hd
  have : cs = Jw.letArr := by
    apply Array.toList_inj.1
    rw [hcs]; rfl
  rw [this] at hvar
  exact block_of_var hg hvar
theorem pow_eq : (Rows.laid_internal_strconv_uint64pow10 : DataW Unit) = Lib.tabData .u64 Lib.pow10Tab := by kernel_rfl
theorem pow_of {W : World} (h : Lib.VarReads Tryz.prog W "internal/strconv.uint64pow10" Rows.laid_internal_strconv_uint64pow10) : Me.Pow W := by
  obtain ⟨g, t, cs, fuel, p, hg, hty, hvar, hd⟩ := h
  obtain rfl := Option.some.inj ((show Tryz.prog.globalNamed "internal/strconv.uint64pow10" = some 5 by kernel_rfl).symm.trans hg)
  obtain rfl := Option.some.inj ((show (Tryz.prog.globals[5]?).map (·.type) = some 269 by kernel_rfl).symm.trans hty)
  rw [pow_eq] at hd
  have hcs := Lib.cells_of_tab Tryz.underlying269 Tryz.underlying246 (by kernel_rfl) (by kernel_rfl) hd
  unfold Me.Pow Lib.TabIs
  rw [hvar]
  congr 1
  apply Array.toList_inj.1
  rw [hcs]
theorem spc_eq : (Rows.laid_strings_asciiSpace : DataW Unit) = Lib.tabData .u8 Lib.asciiSpaceTab := by kernel_rfl
theorem spc_of {W : World} (h : Lib.VarReads Tryz.prog W "strings.asciiSpace" Rows.laid_strings_asciiSpace) : Me.Spaces W := by
  obtain ⟨g, t, cs, fuel, p, hg, hty, hvar, hd⟩ := h
  obtain rfl := Option.some.inj ((show Tryz.prog.globalNamed "strings.asciiSpace" = some 0 by kernel_rfl).symm.trans hg)
  obtain rfl := Option.some.inj ((show (Tryz.prog.globals[0]?).map (·.type) = some 186 by kernel_rfl).symm.trans hty)
  rw [spc_eq] at hd
  have hcs := Lib.cells_of_tab Tryz.underlying186 Tryz.underlying5 (by kernel_rfl) (by kernel_rfl) hd
  unfold Me.Spaces Lib.TabIs
  rw [hvar]
  congr 1
  apply Array.toList_inj.1
  rw [hcs]
theorem tabs_of {W : World} (h1 : Me.U8 W) (h2 : Jw.LetTab W) (h3 : Me.Pow W) (h4 : Me.Spaces W) : Me.WT W ∧ ∀ u, Below W.heap.size W u → Me.Spaces u :=
  ⟨⟨h1, h2, fun u hu => Joins.tab_stays (g := 5) (by kernel_rfl) h3 hu (Nat.le_refl _)⟩, fun u hu => Joins.tab_stays (g := 0) (by kernel_rfl) h4 hu (Nat.le_refl _)⟩
end Go.Proofs.YtjaojenalodolaaGreatDoor.Ld
