/- Crash: what it computes, and what its loops need. -/
import Derived.Test.YtcobjjaicckgpaaVfW22
namespace Go.Proofs.Ytcobjjaicckgpaa.Vf
open Go Go.RowKit Go.Maps Go.Proofs.Ytcobjjaicckgpaa Go.Proofs.Ytcobjjaicckgpaa.Bs
set_option linter.unusedVariables false

/-- The durable directory behind the first k changes. -/
def AS.durK (a : AS) (ch : List Bool) : Nat → Nm
  | 0 => a.dur
  | k + 1 => match a.pend[k]? with
    | none => a.durK ch k
    | some c => if ch.getD k false = true then applyS (a.durK ch k) c.src c.dst c.file else a.durK ch k
def crashF (n : Int) (f : AF) : AF :=
  if f.synced = true then f else
  let d := if n < 0 then f.dur else if n < f.data.length then f.data.take n.toNat else f.data
  ⟨d, d, true⟩
def dirtyA (fs : List AF) : Nat := (fs.filter fun f => !f.synced).length
/-- The files behind the first k. -/
def AS.filesK (a : AS) (ls : List Int) : Nat → List AF
  | 0 => a.files
  | k + 1 => (a.filesK ls k).modify k (crashF (ls.getD (dirtyA (a.files.take k)) (-1)))
def AS.crash (ch : List Bool) (ls : List Int) (a : AS) : AS :=
  let d := a.durK ch a.pend.length
  ⟨a.filesK ls a.files.length, d, d, [], false, false, a.after, a.err⟩
theorem ins_len (x : List UInt8 × Nat) : ∀ m : Nm, (insS x m).length = m.length + 1
  | [] => rfl
  | y :: r => by
    unfold insS
    split
    · rfl
    · simp [ins_len x r]
theorem apply_len (m : Nm) (f t : ByteArray) (x : Nat) : (applyS m f t x).length ≤ m.length + 1 := by
  unfold applyS putS
  have h := del_len m f.data.toList
  simp only
  split <;> split
  · omega
  · omega
  · rw [ins_len]; have := del_len m t.data.toList; omega
  · rw [ins_len]; have := del_len (delS m f.data.toList) t.data.toList; omega
theorem AS.durK_len (a : AS) (ch : List Bool) : ∀ k, (a.durK ch k).length ≤ a.dur.length + k
  | 0 => Nat.le_refl _
  | k + 1 => by
    have ih := a.durK_len ch k
    unfold AS.durK
    split
    · omega
    · rename_i c _
      split
      · have := apply_len (a.durK ch k) c.src c.dst c.file; omega
      · omega
theorem AS.filesK_len (a : AS) (ls : List Int) : ∀ k, (a.filesK ls k).length = a.files.length
  | 0 => rfl
  | k + 1 => by
    unfold AS.filesK
    rw [List.length_modify, a.filesK_len ls k]
/-- Not yet reached: as at the start. -/
theorem AS.filesK_at (a : AS) (ls : List Int) (j : Nat) : ∀ k, k ≤ j → (a.filesK ls k)[j]? = a.files[j]?
  | 0, _ => rfl
  | k + 1, h => by
    unfold AS.filesK
    rw [List.getElem?_modify, a.filesK_at ls j k (by omega)]
    have hne : ¬ k = j := by omega
    simp [hne]
theorem dirtyA_step (fs : List AF) (k : Nat) (hk : k < fs.length) : dirtyA (fs.take (k + 1)) = dirtyA (fs.take k) + if fs[k].synced = true then 0 else 1 := by
  unfold dirtyA
  rw [List.take_add_one, List.filter_append, List.length_append, List.getElem?_eq_getElem hk]
  simp only [Option.toList_some, List.filter_cons, List.filter_nil]
  cases fs[k].synced <;> rfl

/-! ### the arguments' slices -/
/-- A slice of bools that reads as l, in block g. -/
def Bl (w : World) (v : Value) (l : List Bool) : Prop := ∃ g off ad c, v = .slice ad l.length c ∧ (0 < l.length → ad = some ⟨g, off, none⟩) ∧ ∀ j (hj : j < l.length), w.cell? ⟨g, off + j, none⟩ = some (.bool l[j])
def Il (w : World) (v : Value) (l : List Int) : Prop := ∃ g off ad c, v = .slice ad l.length c ∧ l.length ≤ c ∧ (0 < l.length → ad = some ⟨g, off, none⟩) ∧ ∀ j (hj : j < l.length), w.cell? ⟨g, off + j, none⟩ = some (.int .i64 l[j])
theorem Bl.kept {w w' : World} {v : Value} {l : List Bool} (h : Bl w v l) (hk : ∀ g, v.ownBlock = some g → w'.heap[g]? = w.heap[g]?) : Bl w' v l := by
  obtain ⟨g, off, ad, c, rfl, h1, h2⟩ := h
  refine ⟨g, off, ad, c, rfl, h1, fun j hj => ?_⟩
  have e := h1 (by omega)
  subst e
  have hc := h2 j hj
  unfold World.cell? at hc ⊢
  rw [hk g rfl]
  exact hc
theorem Il.kept {w w' : World} {v : Value} {l : List Int} (h : Il w v l) (hk : ∀ g, v.ownBlock = some g → w'.heap[g]? = w.heap[g]?) : Il w' v l := by
  obtain ⟨g, off, ad, c, rfl, h0, h1, h2⟩ := h
  refine ⟨g, off, ad, c, rfl, h0, h1, fun j hj => ?_⟩
  have e := h1 (by omega)
  subst e
  have hc := h2 j hj
  unfold World.cell? at hc ⊢
  rw [hk g rfl]
  exact hc
theorem Il.lt {w : World} {g off c n : Nat} {l : List Int} (h : Il w (.slice (some ⟨g, off, none⟩) n c) l) (h0 : 0 < l.length) : g < w.heap.size := by
  obtain ⟨g', off', ad, c', e, _, h1, h2⟩ := h
  injection e with e1
  rw [h1 h0] at e1
  injection e1 with e1
  injection e1 with e1
  subst e1
  exact lt_of_cell (h2 0 h0)
theorem run_tail (g off n c : Nat) (hn : 1 ≤ n) (hc : n ≤ c) : ∃ ad, (∀ w : World, (Instr.slice 24 (.slice (some ⟨g, off, none⟩) n c) (some (.int .i64 1)) none none).run Try.prog w = .ok (.slice ad (n - 1) (c - 1)) w) ∧ (0 < n - 1 → ad = some ⟨g, off + 1, none⟩) ∧ (ad = some ⟨g, off, none⟩ ∨ ad = some ⟨g, off + 1, none⟩) := by
  have h1 : ∀ w : World, (Instr.sliceBound (.int .i64 1) n .sliceB).run Try.prog w = .ok 1 w := fun w => by
    have := run_sliceBound (P := Try.prog) (w := w) .i64 1 n .sliceB (by omega) (by omega)
    simpa using this
  refine ⟨if c = 1 then some ⟨g, off, none⟩ else some ⟨g, off + 1, none⟩, fun w => ?_, ?_, ?_⟩
  · unfold Instr.slice Instr.sliceBounds
    simp [run_underlying Try.underlying24, h1 w, Addr.add]
  · intro h
    rw [if_neg (by omega)]
  · by_cases h : c = 1
    · rw [if_pos h]; exact .inl rfl
    · rw [if_neg h]; exact .inr rfl
theorem run_sliceAt_any {P : Program} {t e : TypeId} {x : Value} {lo hi mx : Option Value} (w : World) (h : P.underlying t = some (.slice e)) : (Instr.sliceAt t x lo hi mx).run P w = (Instr.slice t x lo hi mx).run P w := by
  simp [Instr.sliceAt, run_underlying h]
theorem drop_none {ls : List Int} {d : Nat} (h : ls.drop d = []) : ls.getD d (-1) = -1 := by
  have : ls.length ≤ d := List.drop_eq_nil_iff.1 h
  rw [List.getD_eq_getElem?_getD, List.getElem?_eq_none this]; rfl
theorem drop_some {ls r : List Int} {d : Nat} {n : Int} (h : ls.drop d = n :: r) : ls.getD d (-1) = n ∧ ls.drop (d + 1) = r := by
  constructor
  · have : (ls.drop d)[0]? = some n := by rw [h]; rfl
    rw [List.getElem?_drop] at this
    rw [List.getD_eq_getElem?_getD, show d = d + 0 from rfl, this]; rfl
  · rw [← List.tail_drop, h]; rfl
theorem modify_same {l : List AF} {k : Nat} {f : AF} {g : AF → AF} (h : l[k]? = some f) (hg : g f = f) : l.modify k g = l := by
  apply List.ext_getElem?
  intro j
  rw [List.getElem?_modify]
  by_cases e : k = j
  · subst e
    rw [h]
    simp [hg]
  · simp [e]
/-- The lengths that are left, behind one. -/
theorem Il.cons {w : World} {v : Value} {n : Int} {r : List Int} (h : Il w v (n :: r)) : ∃ g off c nn ad, v = .slice (some ⟨g, off, none⟩) nn c ∧ nn = r.length + 1 ∧ nn ≤ c ∧ w.cell? ⟨g, off, none⟩ = some (.int .i64 n) ∧ (∀ w : World, (Instr.slice 24 v (some (.int .i64 1)) none none).run Try.prog w = .ok (.slice ad (nn - 1) (c - 1)) w) ∧ (∀ w : World, (Instr.sliceAt 24 v (some (.int .i64 1)) none none).run Try.prog w = .ok (.slice ad (nn - 1) (c - 1)) w) ∧ Il w (.slice ad (nn - 1) (c - 1)) r ∧ ∀ b, (Value.slice ad (nn - 1) (c - 1)).ownBlock = some b → v.ownBlock = some b := by
  obtain ⟨g, off, ad, c, rfl, h0, h1, h2⟩ := h
  have e := h1 (by simp)
  subst e
  obtain ⟨ad', t1, t2, t3⟩ := run_tail g off (n :: r).length c (by simp) h0
  refine ⟨g, off, c, (n :: r).length, ad', rfl, by simp, h0, h2 0 (by simp), t1, fun w => ?_, ?_, ?_⟩
  · exact (run_sliceAt_any w Try.underlying24).trans (t1 w)
  · refine ⟨g, off + 1, ad', c - 1, by simp, by simp at h0 ⊢; omega, fun hr => t2 (by simpa using hr), fun j hj => ?_⟩
    have := h2 (j + 1) (by simpa using hj)
    rw [show off + 1 + j = off + (j + 1) by omega]
    exact this
  · intro b hb
    rcases t3 with rfl | rfl <;> exact hb
theorem Il.nil {w : World} {v : Value} (h : Il w v []) : ∃ ad c, v = .slice ad 0 c := by
  obtain ⟨g, off, ad, c, rfl, _⟩ := h
  exact ⟨ad, c, rfl⟩
end Go.Proofs.Ytcobjjaicckgpaa.Vf
