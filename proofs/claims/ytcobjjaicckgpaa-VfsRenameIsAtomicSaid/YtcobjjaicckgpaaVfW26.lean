/- A map from pointers to pointers (Clone's 'copies'), told by its entries. -/
import Derived.Test.YtcobjjaicckgpaaVfW25
import Derived.Maps.RangeWalk
import Derived.Maps.Ext
import Derived.LaidEql
namespace Go.Proofs.Ytcobjjaicckgpaa.Vf
open Go Go.RowKit Go.Maps Go.Proofs.Ytcobjjaicckgpaa Go.Proofs.Ytcobjjaicckgpaa.Bs
set_option linter.unusedVariables false

/-- Block b is a file's. -/
def IsF (w : World) (b : Nat) : Prop := ∃ cs, w.heap[b]? = some (Obj.cells cs 70 (0, 0))
theorem infoF : (Try.prog.info? 70).map (fun i => (i.zero, i.size, i.bytes)) = some (some (.agg #[.slice none 0 0, .slice none 0 0, .bool false]), 3, 56) := by kernel_rfl
theorem run_ptr_eq (w : World) (a b : Nat) (ha : IsF w a) (hb : IsF w b) : (Op.equal 66 (fptr a) (fptr b)).run Try.prog w = .ok (decide (a = b)) w := by
  obtain ⟨i, hi, -, hsz, -⟩ := info_parts infoF
  obtain ⟨ca, ha⟩ := ha
  obtain ⟨cb, hb⟩ := hb
  have hne : i.size ≠ 0 := by omega
  have h : ∀ d : Nat, (Op.equalIn (d + 1) 66 (fptr a) (fptr b)).run Try.prog w = .ok (decide (a = b)) w := fun d => by
    by_cases e : a = b
    · subst e
      simp [Op.equalIn, fptr, run_underlying Try.underlying66, sizeOf, typeInfo, hi, run_sameAddr_same]
    · have := run_sameAddr_other (P := Try.prog) w (a := ⟨a, 0, none⟩) (b := ⟨b, 0, none⟩) (by intro h; injection h with h; exact e h) ha hb
      simp [Op.equalIn, fptr, run_underlying Try.underlying66, sizeOf, typeInfo, hi, hne, this, e]
  exact h 9999
def cent (bl bl' : Nat → Nat) (i : Nat) : MapEntry := ⟨fptr (bl i), fptr (bl' i), i⟩
def cmap (bl bl' : Nat → Nat) (k : Nat) : Array MapEntry := ((List.range k).map (cent bl bl')).toArray
theorem ask_none (w : World) (bl bl' : Nat → Nat) (b : Nat) (hb : IsF w b) (l : List Nat) (hl : ∀ i ∈ l, IsF w (bl i) ∧ b ≠ bl i) : ∀ j, (Instr.findAsking 66 (fptr b) (l.map (cent bl bl')) j).run Try.prog w = .ok none w := by
  induction l with
  | nil => intro j; rfl
  | cons i r ih =>
    intro j
    have h1 := hl i (List.mem_cons_self)
    have h2 := run_ptr_eq w b (bl i) hb h1.1
    have h3 : decide (b = bl i) = false := decide_eq_false h1.2
    rw [h3] at h2
    have h4 := ih (fun x hx => hl x (List.mem_cons_of_mem _ hx)) (j + 1)
    unfold Instr.findAsking
    simp [cent, h2]
    exact h4
theorem ask_some (w : World) (bl bl' : Nat → Nat) (k : Nat) (l : List Nat) (hk : k ∈ l) (hl : ∀ i ∈ l, IsF w (bl i)) (hinj : ∀ i ∈ l, bl k = bl i → i = k) : ∀ j, ∃ q, (Instr.findAsking 66 (fptr (bl k)) (l.map (cent bl bl')) j).run Try.prog w = .ok (some (q, fptr (bl' k))) w := by
  induction l with
  | nil => cases hk
  | cons i r ih =>
    intro j
    have hb := hl k hk
    have h2 := run_ptr_eq w (bl k) (bl i) hb (hl i (List.mem_cons_self))
    by_cases e : bl k = bl i
    · have := hinj i (List.mem_cons_self) e
      subst this
      have h3 : decide (bl i = bl i) = true := decide_eq_true rfl
      rw [h3] at h2
      refine ⟨j, ?_⟩
      unfold Instr.findAsking
      simp [cent, h2]
    · have h3 : decide (bl k = bl i) = false := decide_eq_false e
      rw [h3] at h2
      have hk2 : k ∈ r := by
        rcases List.mem_cons.1 hk with rfl | h
        · exact absurd rfl e
        · exact h
      obtain ⟨q, hq⟩ := ih hk2 (fun x hx => hl x (List.mem_cons_of_mem _ hx)) (fun x hx => hinj x (List.mem_cons_of_mem _ hx)) (j + 1)
      refine ⟨q, ?_⟩
      unfold Instr.findAsking
      simp [cent, h2]
      exact hq
theorem key_none (w : World) (bl bl' : Nat → Nat) (b k : Nat) (hb : IsF w b) (hl : ∀ i, i < k → IsF w (bl i) ∧ b ≠ bl i) : (Instr.findKey 66 (fptr b) (cmap bl bl' k).toList).run Try.prog w = .ok none w := by
  unfold Instr.findKey cmap
  have h := ask_none w bl bl' b hb (List.range k) (fun i hi => hl i (List.mem_range.1 hi)) 0
  cases hk : (List.range k).map (cent bl bl') with
  | nil =>
    simp [run_underlying Try.underlying66, Instr.findNow]
  | cons x r =>
    rw [hk] at h
    have hx : ∃ c, x = cent bl bl' c := by
      have : x ∈ (List.range k).map (cent bl bl') := by rw [hk]; exact List.mem_cons_self
      obtain ⟨c, _, hc⟩ := List.mem_map.1 this
      exact ⟨c, hc.symm⟩
    obtain ⟨c, rfl⟩ := hx
    simp [run_underlying Try.underlying66, Instr.findNow, Instr.sameNow, cent, fptr]
    simpa [cent, fptr] using h
theorem key_some (w : World) (bl bl' : Nat → Nat) (j k : Nat) (hj : j < k) (hl : ∀ i, i < k → IsF w (bl i)) (hinj : ∀ i, i < k → bl j = bl i → i = j) : ∃ q, (Instr.findKey 66 (fptr (bl j)) (cmap bl bl' k).toList).run Try.prog w = .ok (some (q, fptr (bl' j))) w := by
  obtain ⟨q, h⟩ := ask_some w bl bl' j (List.range k) (List.mem_range.2 hj) (fun i hi => hl i (List.mem_range.1 hi)) (fun i hi => hinj i (List.mem_range.1 hi)) 0
  refine ⟨q, ?_⟩
  unfold Instr.findKey cmap
  cases hk : (List.range k).map (cent bl bl') with
  | nil => simp at hk; omega
  | cons x r =>
    rw [hk] at h
    have hx : ∃ c, x = cent bl bl' c := by
      have : x ∈ (List.range k).map (cent bl bl') := by rw [hk]; exact List.mem_cons_self
      obtain ⟨c, _, hc⟩ := List.mem_map.1 this
      exact ⟨c, hc.symm⟩
    obtain ⟨c, rfl⟩ := hx
    simp [run_underlying Try.underlying66, Instr.findNow, Instr.sameNow, cent, fptr]
    simpa [cent, fptr] using h
theorem check_ptr (e : Bool) (n : Nat) (b : Option Addr) (w : World) : (Instr.checkKey e (n + 1) 66 (.pointer b)).run Try.prog w = .ok () w := by
  unfold Instr.checkKey
  simp [run_underlying Try.underlying66]
/-- What a lookup of a file's copy finds. -/
theorem copies_look (w : World) (bl bl' : Nat → Nat) (cb j k ck : Nat) (hc : w.heap[cb]? = some (.map (cmap bl bl' k) ck)) (hj : j < k) (hl : ∀ i, i < k → IsF w (bl i)) (hinj : ∀ i, i < k → bl j = bl i → i = j) :
    (Instr.lookup 93 (.map (some cb)) (fptr (bl j)) false).run Try.prog w = .ok (fptr (bl' j)) w := by
  obtain ⟨q, h⟩ := key_some w bl bl' j k hj hl hinj
  have h2 := check_ptr (cmap bl bl' k).isEmpty 9999 (some ⟨bl j, 0, none⟩) w
  simp only [fptr] at h ⊢
  simp [Instr.lookup, run_underlying Try.underlying93, MapKept.run_getObj_map hc, h2, h, Result.andThen]
/-- A nil pointer's copy is nil. -/
theorem run_ptr_eq_nil (w : World) (b : Nat) : (Op.equal 66 (.pointer none) (fptr b)).run Try.prog w = .ok false w := by
  have h : ∀ d : Nat, (Op.equalIn (d + 1) 66 (.pointer none) (fptr b)).run Try.prog w = .ok false w := fun d => by
    simp [Op.equalIn, fptr, run_underlying Try.underlying66]
  exact h 9999
theorem ask_nil (w : World) (bl bl' : Nat → Nat) (l : List Nat) : ∀ j, (Instr.findAsking 66 (.pointer none) (l.map (cent bl bl')) j).run Try.prog w = .ok none w := by
  induction l with
  | nil => intro j; rfl
  | cons i r ih =>
    intro j
    have h2 := run_ptr_eq_nil w (bl i)
    have h4 := ih (j + 1)
    unfold Instr.findAsking
    simp [cent, h2]
    exact h4
theorem copies_nil (w : World) (bl bl' : Nat → Nat) (cb k ck : Nat) (hc : w.heap[cb]? = some (.map (cmap bl bl' k) ck)) :
    (Instr.lookup 93 (.map (some cb)) (.pointer none) false).run Try.prog w = .ok (.pointer none) w := by
  have h := ask_nil w bl bl' (List.range k) 0
  have h2 := check_ptr (cmap bl bl' k).isEmpty 9999 none w
  have hz : (zeroValue 66).run Try.prog w = .ok (.pointer none) w := Try.zeroValue66 w
  have hk : (Instr.findKey 66 (.pointer none) (cmap bl bl' k).toList).run Try.prog w = .ok none w := by
    unfold Instr.findKey cmap
    cases hk : (List.range k).map (cent bl bl') with
    | nil => simp [run_underlying Try.underlying66, Instr.findNow]
    | cons x r =>
      rw [hk] at h
      have hx : ∃ c, x = cent bl bl' c := by
        have : x ∈ (List.range k).map (cent bl bl') := by rw [hk]; exact List.mem_cons_self
        obtain ⟨c, _, hc⟩ := List.mem_map.1 this
        exact ⟨c, hc.symm⟩
      obtain ⟨c, rfl⟩ := hx
      simp [run_underlying Try.underlying66, Instr.findNow, Instr.sameNow, cent, fptr]
      simpa [cent, fptr] using h
  simp [Instr.lookup, run_underlying Try.underlying93, MapKept.run_getObj_map hc, h2, hk, hz, Result.andThen]
/-- A new file's copy is laid in. -/
theorem copies_put (w : World) (bl bl' : Nat → Nat) (cb k : Nat) (hc : w.heap[cb]? = some (.map (cmap bl bl' k) k)) (hb : IsF w (bl k)) (hl : ∀ i, i < k → IsF w (bl i) ∧ bl k ≠ bl i) :
    ∃ w', (Instr.mapUpdate 93 (.map (some cb)) (fptr (bl k)) (fptr (bl' k))).run Try.prog w = .ok () w' ∧ w'.heap[cb]? = some (.map (cmap bl bl' (k + 1)) (k + 1)) ∧ But cb w w' := by
  have h := key_none w bl bl' (bl k) k hb hl
  have h2 := check_ptr false 9999 (some ⟨bl k, 0, none⟩) w
  have hlt := lt_of_heap hc
  refine ⟨Go.ChangeMaps.setBlock w cb (.map ((cmap bl bl' k).push (cent bl bl' k)) (k + 1)), ?_, ?_, ?_⟩
  · simp only [fptr] at h
    simp [Instr.mapUpdate, fptr, run_underlying Try.underlying93, MapKept.run_getObj_map hc, h2, h, MapKept.run_setObj_map _ hc, Result.andThen, Go.ChangeMaps.setBlock, cent]
  · rw [Go.ChangeMaps.heap_setBlock_same hc]
    unfold cmap
    rw [List.range_succ, List.map_append]
    simp
  · exact ⟨rfl, rfl, rfl, by simp [Go.ChangeMaps.setBlock], fun i hi hn => Go.ChangeMaps.heap_setBlock_other hc _ (by intro e; exact hn (by rw [e]))⟩
end Go.Proofs.Ytcobjjaicckgpaa.Vf
