import Derived.Test.YtikjehgbfkndjaaDoorRows
import Derived.Test.YtikjehgbfkndjaaDoorRfW4
import Derived.Lib.LaidTab
import Derived.Lib.LaidU8
import Derived.KernelRfl
namespace Go.Proofs.YtikjehgbfkndjaaDoor.Ld
open Go Go.RowKit Go.Proofs.YtikjehgbfkndjaaDoor

theorem pow_eq : (Rows.laid_internal_strconv_uint64pow10 : DataW Unit) = Lib.tabData .u64 Lib.pow10Tab := by kernel_rfl
theorem pow_of {W : World} (h : Lib.VarReads Tryd.prog W "internal/strconv.uint64pow10" Rows.laid_internal_strconv_uint64pow10) : Rp.PowTab W := by
  obtain ⟨g, t, cs, fuel, p, hg, hty, hvar, hd⟩ := h
  obtain rfl := Option.some.inj ((show Tryd.prog.globalNamed "internal/strconv.uint64pow10" = some 5 by kernel_rfl).symm.trans hg)
  obtain rfl := Option.some.inj ((show (Tryd.prog.globals[5]?).map (·.type) = some 122 by kernel_rfl).symm.trans hty)
  rw [pow_eq] at hd
  have hcs := Lib.cells_of_tab Tryd.underlying122 Tryd.underlying109 (by kernel_rfl) (by kernel_rfl) hd
  unfold Rp.PowTab Lib.TabIs
  rw [hvar]
  congr 1
  apply Array.toList_inj.1
  rw [hcs]
end Go.Proofs.YtikjehgbfkndjaaDoor.Ld
