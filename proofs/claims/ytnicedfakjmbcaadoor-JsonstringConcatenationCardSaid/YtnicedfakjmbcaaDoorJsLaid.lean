import Derived.Test.YtnicedfakjmbcaaDoorTxtLaid
import Derived.Test.YtnicedfakjmbcaaDoorJsC
namespace Go.Proofs.YtnicedfakjmbcaaDoor.Ld
open Go Go.RowKit Go.Proofs.YtnicedfakjmbcaaDoor

theorem let_eq : (Rows.laid_feedvault_jsonstring_letters : DataW Unit) = .agg ((List.range 5).map fun j => Lib.tabData .u8 [Jw.letTab.getD (2 * j) 0, Jw.letTab.getD (2 * j + 1) 0]) := by kernel_rfl
theorem let_of {W : World} (h : Lib.VarReads Tryd.prog W "feedvault/jsonstring.letters" Rows.laid_feedvault_jsonstring_letters) : Jw.LetTab W := by
  obtain ⟨g, t, cs, fuel, p, hg, hty, hvar, hd⟩ := h
  obtain rfl := Option.some.inj ((show Tryd.prog.globalNamed "feedvault/jsonstring.letters" = some 4 by kernel_rfl).symm.trans hg)
  obtain rfl := Option.some.inj ((show (Tryd.prog.globals[4]?).map (·.type) = some 80 by kernel_rfl).symm.trans hty)
  rw [let_eq] at hd
  have hcs := cells_of_pairs (zs := Jw.letTab) Tryd.underlying80 Tryd.underlying79 Tryd.underlying5 (by kernel_rfl) (by kernel_rfl) (by kernel_rfl) rfl
    (fun j hj => by simp [List.getElem?_map, List.getElem?_range hj]) hd
  have : cs = Jw.letArr := by
    apply Array.toList_inj.1
    rw [hcs]; rfl
  rw [this] at hvar
  exact block_of_var hg hvar
end Go.Proofs.YtnicedfakjmbcaaDoor.Ld
