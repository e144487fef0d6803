import Derived.Test.YtikjehgbfkndjaaDoorRows
import Derived.Test.YtikjehgbfkndjaaDoorR8Law
import Derived.Test.YtikjehgbfkndjaaDoorRfLaid
import Derived.Lib.LaidTab
import Derived.Lib.LaidU8
import Derived.KernelRfl
namespace Go.Proofs.YtikjehgbfkndjaaDoor.Ld
open Go Go.RowKit Go.Proofs.YtikjehgbfkndjaaDoor

def strData {H : Type} (ls : List (List UInt8)) : DataW H := .agg (ls.map fun l => .lit (.string l))
theorem cells_of_strs {H : Type} {enc : TypeId × Value → H} {P : Program} {w : World} {base : Nat} {sp : Nat → Bool} {held : Bool} {fuel : Nat} {t e : TypeId} {n : Nat} {cs : List Value} {ls : List (List UInt8)} {p : List MemPlace}
    (ht : P.underlying t = some (.array n e)) (he : P.underlying e = some .string) (hce : P.cellsOf e = 1) (hct : P.cellsOf t = n)
    (h : DataW.trod enc P w base sp held fuel t cs = some (strData ls, p)) : cs = ls.map fun l => Value.string (R8.str l) := by
  cases fuel with
  | zero => simp [DataW.trod] at h
  | succ fuel =>
    simp only [DataW.trod, ht, hce, hct, Nat.mul_one] at h
    split at h
    · rename_i hl
      obtain ⟨xs, hm, hx⟩ := Option.map_eq_some_iff.1 h
      have hxs : xs.map (·.1) = ls.map fun l => (DataW.lit (.string l) : DataW H) := by
        have := congrArg Prod.fst hx
        simpa [strData] using this
      have hxl : xs.length = n := by simpa using Lib.mapM_length hm
      have hzl : ls.length = n := by
        have := congrArg List.length hxs
        simp at this
        omega
      apply List.ext_getElem?
      intro i
      by_cases hi : i < n
      · obtain ⟨b, hb, hf⟩ := Lib.mapM_at hm i i (by simp [hi])
        obtain ⟨z, hc, rfl, _⟩ := DataW.trod_string he hf
        have h1 : cs[i]? = some (.string z) := by
          have := congrArg (·[0]?) hc
          simpa [List.getElem?_take, List.getElem?_drop] using this
        have h2 : (xs.map (·.1))[i]? = some (DataW.lit (.string z.data.toList) : DataW H) := by simp [hb]
        rw [hxs] at h2
        simp only [List.getElem?_map, Option.map_eq_some_iff, DataW.lit.injEq, Lit.string.injEq] at h2
        obtain ⟨z', hz', hz2⟩ := h2
        have e : R8.str z' = z := Bs.ba_eq hz2
        simp [h1, hz', e]
      · rw [List.getElem?_eq_none (by omega), List.getElem?_eq_none (by simp; omega)]
    · cases h
theorem day_eq : (Rows.laid_feedvault_rfc822_dayNames : DataW Unit) = strData R8.dayL := by kernel_rfl
theorem mon_eq : (Rows.laid_feedvault_rfc822_monthNames : DataW Unit) = strData R8.monL := by kernel_rfl
theorem block_of {P : Program} {w : World} {n : String} {g : Nat} {cs : Array Value} (hg : P.globalNamed n = some g) (h : w.var? P n = some cs) : ∃ t fr, w.heap[g]? = some (.cells cs t fr) := by
  unfold World.var? at h
  rw [hg] at h
  simp only [Option.bind_some] at h
  cases e : w.heap[g]? with
  | none => rw [e] at h; simp at h
  | some o =>
    rw [e] at h
    cases o with
    | cells c t fr =>
      simp at h
      subst h
      exact ⟨t, fr, rfl⟩
    | _ => simp at h
theorem day_of {W : World} (h : Lib.VarReads Tryd.prog W "feedvault/rfc822.dayNames" Rows.laid_feedvault_rfc822_dayNames) : R8.DayTab W := by
  obtain ⟨g, t, cs, fuel, p, hg, hty, hvar, hd⟩ := h
  obtain rfl := Option.some.inj ((show Tryd.prog.globalNamed "feedvault/rfc822.dayNames" = some 0 by kernel_rfl).symm.trans hg)
  obtain rfl := Option.some.inj ((show (Tryd.prog.globals[0]?).map (·.type) = some 30 by kernel_rfl).symm.trans hty)
  rw [day_eq] at hd
  have hcs := cells_of_strs Tryd.underlying30 Tryd.underlying9 (by kernel_rfl) (by kernel_rfl) hd
  have : cs = R8.dayArr := by
    apply Array.toList_inj.1
    rw [hcs]; rfl
  rw [this] at hvar
  exact block_of hg hvar
theorem mon_of {W : World} (h : Lib.VarReads Tryd.prog W "feedvault/rfc822.monthNames" Rows.laid_feedvault_rfc822_monthNames) : R8.MonTab W := by
  obtain ⟨g, t, cs, fuel, p, hg, hty, hvar, hd⟩ := h
  obtain rfl := Option.some.inj ((show Tryd.prog.globalNamed "feedvault/rfc822.monthNames" = some 1 by kernel_rfl).symm.trans hg)
  obtain rfl := Option.some.inj ((show (Tryd.prog.globals[1]?).map (·.type) = some 50 by kernel_rfl).symm.trans hty)
  rw [mon_eq] at hd
  have hcs := cells_of_strs Tryd.underlying50 Tryd.underlying9 (by kernel_rfl) (by kernel_rfl) hd
  have : cs = R8.monArr := by
    apply Array.toList_inj.1
    rw [hcs]; rfl
  rw [this] at hvar
  exact block_of hg hvar
theorem law_dates4 (t : Int) (W : World) (h : Rp.PowTab W ∧ R8.DayTab W ∧ R8.MonTab W ∧ R8.MaxLen W) :
    Calls Tryd.prog 3 #[.int .i64 t] W fun e w' => e = .returned (.bool true) ∧ Below W.heap.size W w' := R8.law_dates t W h.1 h.2.1 h.2.2.1 h.2.2.2
theorem maxlen_of {W : World} (h : W.ShapedOpen Tryd.prog) : R8.MaxLen W := Tryd.laysM146.s1_3 W h
end Go.Proofs.YtikjehgbfkndjaaDoor.Ld
