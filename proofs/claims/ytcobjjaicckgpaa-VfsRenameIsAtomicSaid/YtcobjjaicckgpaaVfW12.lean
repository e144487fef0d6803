/- SyncDir's closure. -/
import Derived.Test.YtcobjjaicckgpaaVfW11
import Derived.Test.YtcobjjaicckgpaaShelf
namespace Go.Proofs.Ytcobjjaicckgpaa.Vf
open Go Go.RowKit Go.Maps Go.Proofs.Ytcobjjaicckgpaa Go.Proofs.Ytcobjjaicckgpaa.Bs
set_option linter.unusedVariables false

theorem mclone_is (b : Nat) (es : Array MapEntry) (ck : Nat) (w : World) (h : w.heap[b]? = some (.map es ck)) :
    Calls Try.prog 37 #[.map (some b)] w fun e w' => e = .returned (.map (some w.heap.size)) ∧ w' = w.alloc (.map es ck) := AnyW.maps_Clone Try.clone37 b es ck w h
/-- The state with the durable directory and the list of changes anew. -/
theorem Is.synced {w : World} {B : Nat} {o : Loc} {s : St} (h : Is w B o s) (es : Array MapEntry) (ck : Nat) (hm : w.heap[o.nb]? = some (.map es ck)) (hB : B ≤ w.heap.size) :
    Is (((w.alloc (.map es ck)).setCell ⟨o.F, 1, none⟩ (.map (some w.heap.size))).setCell ⟨o.F, 3, none⟩ (.slice none 0 0)) B { o with db := w.heap.size, ps := .slice none 0 0 } { s with dur := s.names, pend := [] } := by
  have hF := lt_of_heap h.fs
  have hF0 : (w.alloc (.map es ck)).heap[o.F]? = some (Obj.cells (fsCells o s) 64 (0, 0)) := by rw [old_block _ _ _ hF]; exact h.fs
  have h1 := heap_setCell_same _ o.F 1 _ _ (.map (some w.heap.size)) hF0
  have h2 := heap_setCell_same _ o.F 3 _ _ (.slice none 0 0) h1
  have K : ∀ k, k < w.heap.size → k ≠ o.F → (((w.alloc (.map es ck)).setCell ⟨o.F, 1, none⟩ (.map (some w.heap.size))).setCell ⟨o.F, 3, none⟩ (.slice none 0 0)).heap[k]? = w.heap[k]? := fun k hk hn => by
    rw [heap_setCell_other _ _ _ _ hn, heap_setCell_other _ _ _ _ hn, old_block _ _ _ hk]
  have KC : ∀ k cur t fr, w.heap[k]? = some (Obj.cells cur t fr) → t ≠ 64 → (((w.alloc (.map es ck)).setCell ⟨o.F, 1, none⟩ (.map (some w.heap.size))).setCell ⟨o.F, 3, none⟩ (.slice none 0 0)).heap[k]? = w.heap[k]? := fun k cur t fr hk ht => K k (lt_of_heap hk) (ne_of hk h.fs ht)
  have KN := K o.nb h.names.lt (fun e => h.names.neB h.fs e.symm)
  have hD : Dir (((w.alloc (.map es ck)).setCell ⟨o.F, 1, none⟩ (.map (some w.heap.size))).setCell ⟨o.F, 3, none⟩ (.slice none 0 0)) w.heap.size s.names := by
    obtain ⟨n, es', ck', hh, r⟩ := h.names
    rw [hm] at hh
    simp only [Option.some.injEq, Obj.map.injEq] at hh
    obtain ⟨rfl, rfl⟩ := hh
    refine ⟨n, es, ck, ?_, r⟩
    have hn : w.heap.size ≠ o.F := by omega
    rw [heap_setCell_other _ _ _ _ hn, heap_setCell_other _ _ _ _ hn]
    exact new_block w _
  exact
    { fs := by rw [h2]; rfl
      names := h.names.of_block KN
      dur := hD
      nd := by have := h.names.lt; show o.nb ≠ w.heap.size; omega
      files := own_kept h.files fun k hk => by obtain ⟨cur, hc⟩ := own_block h.files hk; exact KC _ _ _ _ hc (by decide)
      pend := ⟨rfl, .inl ⟨rfl, rfl⟩⟩
      each := fun f hf => (h.each f hf).kept (by obtain ⟨dv, rv, h1, _⟩ := h.each f hf; exact KC _ _ _ _ h1 (by decide)) (fun k cur fr hc => KC _ _ _ _ hc (by decide))
      zl := zl_kept h.zl (fun k cur fr hc => KC _ _ _ _ hc (by decide))
      dist := h.dist
      bF := h.bF
      bn := h.bn
      bd := hB
      bf := h.bf }
end Go.Proofs.Ytcobjjaicckgpaa.Vf
