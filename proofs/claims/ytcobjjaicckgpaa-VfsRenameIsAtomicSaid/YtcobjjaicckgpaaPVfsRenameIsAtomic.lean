/- The law VfsRenameIsAtomic (feedvault/feedvaultlaw21.VfsRenameIsAtomic): for every input it returns true, and each argument reads afterwards as before. No condition. -/
import Derived.Test.YtcobjjaicckgpaaRows
import Derived.Test.YtcobjjaicckgpaaVfL2
import Derived.Test.YtcobjjaicckgpaaVfO
import Derived.WalkKit
import Derived.ProofKit
import Derived.OpenShut
import Derived.ShutString
import Derived.ChangeOld
import Derived.Below
import Derived.SizedLaws
import Derived.Laws.IdiomArrays
import Derived.Lib.SmallJoins
namespace Go.Proofs.Ytcobjjaicckgpaa.vfsRenameIsAtomic
open Go.ChangeShapes Go.WideShapes Go.ChangeAt Go.RowKit
open Go.ChangeMaps (open_string shut_string)
set_option linter.unusedVariables false

theorem own : ownKnob Try.prog.godebug = none := by kernel_rfl
theorem laidOut : laidOutB Try.prog = true := by kernel_rfl
theorem okWide_array {P : Program} {w : World} {r : Reach} {base : Nat} {t : TypeId} {v : Value} {n : Nat} {e : TypeId} (ht : P.underlying t = some (.array n e)) (h : Value.okWide P w r base t v) : ∃ cs, v = .agg cs ∧ cs.size = P.cellsOf t := by
  unfold Value.okWide at h
  rw [ht] at h
  obtain ⟨cs, h1, h2, _⟩ := h
  exact ⟨cs, h1, h2⟩
theorem array2 (T : Array Value) (h : T.size = 2) : ∃ x y : Value, T = #[x, y] := by
  obtain ⟨l⟩ := T
  match l, h with
  | [x, y], _ => exact ⟨x, y, rfl⟩
set_option maxRecDepth 100000 in
theorem strs_at {H : Type} {enc : TypeId × Value → H} {W : World} {v : Value} {d : DataW H} {p : List MemPlace} {base : Nat} (hv : Value.okWide Try.prog W .any base 22 v) (h : DataW.Trod enc Try.prog W 0 (fun _ => true) true 22 v d p) {ts : List TypeId} {ds : List (DataW H)} {j : Nat} (hj : ts[j]? = some 22) (hd : ds[j]? = some d) (hsz : (DataW.weightsEach Try.prog ts ds).all (· ≤ reachBytes) = true) :
    ∃ A D : ByteArray, v = .agg #[.string A, .string D] ∧ A.size ≤ 140737488355328 ∧ D.size ≤ 140737488355328 := by
  obtain ⟨cs, rfl, hn⟩ := okWide_array Try.underlying22 hv
  obtain ⟨x, y, rfl⟩ := array2 cs (hn.trans (show Try.prog.cellsOf 22 = 2 by kernel_rfl))
  obtain ⟨fuel, hf⟩ := h
  have hc1 : Try.prog.cellsOf 9 = 1 := by kernel_rfl
  obtain ⟨xs, m, _, hx, _, hl, he⟩ := DataW.trod_array Try.underlying22 (show DataW.trod enc Try.prog W 0 (fun _ => true) true fuel 22 [x, y] = some (d, p) from by simpa [Value.cells] using hf)
  have h0 := he 0 (by omega)
  have h1 := he 1 (by omega)
  rw [hc1] at h0 h1
  have e0 : (([x, y] : List Value).drop (0 * 1)).take 1 = [x] := rfl
  have e1 : (([x, y] : List Value).drop (1 * 1)).take 1 = [y] := rfl
  rw [e0, List.getElem?_eq_getElem (by omega)] at h0
  rw [e1, List.getElem?_eq_getElem (by omega)] at h1
  obtain ⟨A, hA, hA2, -⟩ := DataW.trod_string Try.underlying9 h0
  obtain ⟨D, hD, hD2, -⟩ := DataW.trod_string Try.underlying9 h1
  simp only [List.cons.injEq, and_true] at hA hD
  subst hA hD
  have hxs : xs = [(.lit (.string A.data.toList), []), (.lit (.string D.data.toList), [])] := by
    apply List.ext_getElem
    · simpa using hl
    · intro i h1 h2
      match i, h1 with
      | 0, _ => exact hA2
      | 1, _ => exact hD2
      | i + 2, h1 => omega
  subst hxs
  simp only [Prod.mk.injEq] at hx
  obtain ⟨rfl, -⟩ := hx
  have hr : reachBytes = 140737488351232 := by kernel_rfl
  have w0 := List.all_eq_true.1 hsz _ (DataW.weights_mem_each hj hd A.data.toList.length (by simp [DataW.weights, Try.underlying22, DataW.weightsAll]))
  have w1 := List.all_eq_true.1 hsz _ (DataW.weights_mem_each hj hd D.data.toList.length (by simp [DataW.weights, Try.underlying22, DataW.weightsAll]))
  simp only [decide_eq_true_eq] at w0 w1
  have s0 : A.data.toList.length = A.size := by simp
  have s1 : D.data.toList.length = D.size := by simp
  exact ⟨A, D, rfl, by omega, by omega⟩
set_option maxRecDepth 100000 in
theorem lifted (os : Os) (started : os.Started) (H : Type) (enc : TypeId × Value → H) :
    ReturnsInHanded {} Try.checked os 3 .any (Rows.vfsRenameIsAtomicSpec.pre6 enc Try.prog Try.f3 Rows.vfsRenameIsAtomicRow.domain false) (Rows.vfsRenameIsAtomicSpec.post enc Try.prog Try.f3 false true false false) := by
  refine returnsInHanded_of_change_sized (C := Try.checked) own started (by kernel_rfl) Try.func3
    (ChangeSpec.witness6 (enc := enc) (C := Try.checked) false ⟨#[], #[.agg #[.string ⟨#[]⟩, .string ⟨#[]⟩], .slice none 0 0, .slice none 0 0], []⟩ 8 (by kernel_rfl) (by kernel_rfl) (by kernel_rfl) (by kernel_rfl)) ?_
  intro W base args ds gs before hval0 hW hcnd hsz _
  have hval : ∀ (j : Nat) t v, Try.f3.params[j]? = some t → args[j]? = some v → Value.okWide Try.prog W .any base t v := hval0
  have hW' := hW
  obtain ⟨p, q, hA0, hV, rfl, hfz, hnd⟩ := hW
  have hA : DataW.TrodAll enc Try.prog W 0 (fun _ => true) true Try.f3.params.toList args.toList ds p := hA0
  rw [Try.params3] at hA hval
  obtain ⟨v0, vs0, d0, ds0, p0, q0, hargs, rfl, rfl, h0, r0⟩ := trodAll_cons hA
  obtain ⟨v1, vs1, d1, ds1, p1, q1, rfl, rfl, rfl, h1, r1⟩ := trodAll_cons r0
  obtain ⟨v2, vs2, d2, ds2, p2, q2, rfl, rfl, rfl, h2, r2⟩ := trodAll_cons r1
  obtain ⟨rfl, rfl, rfl⟩ := trodAll_nil r2
  obtain rfl : args = #[v0, v1, v2] := by cases args; simp_all
  obtain ⟨rfl, rfl⟩ := trodVars_none hV
  have lt0 : ∀ x ∈ p0, x.block < W.heap.size := by obtain ⟨m, hm⟩ := h0; exact DataW.trod_lt m _ _ _ hm
  have lt1 : ∀ x ∈ p1, x.block < W.heap.size := by obtain ⟨m, hm⟩ := h1; exact DataW.trod_lt m _ _ _ hm
  have lt2 : ∀ x ∈ p2, x.block < W.heap.size := by obtain ⟨m, hm⟩ := h2; exact DataW.trod_lt m _ _ _ hm
  obtain ⟨A, D, rfl, zA, zD⟩ := strs_at (hval 0 22 v0 rfl rfl) h0 (j := 0) (ts := (Try.f3.params.toList ++ Rows.vfsRenameIsAtomicSpec.plain.varTypes Try.prog)) rfl rfl hsz
  obtain ⟨ch, b1, z1, g1⟩ := VfO.bools_at (hval 1 23 v1 rfl rfl) h1 (j := 1) (ts := (Try.f3.params.toList ++ Rows.vfsRenameIsAtomicSpec.plain.varTypes Try.prog)) rfl rfl hsz
  obtain ⟨ls, b2, z2, g2⟩ := VfO.ints_at (hval 2 24 v2 rfl rfl) h2 (j := 2) (ts := (Try.f3.params.toList ++ Rows.vfsRenameIsAtomicSpec.plain.varTypes Try.prog)) rfl rfl hsz
  clear hA0 hval0
  refine (Vf.rename_law A D v1 v2 ch ls W b1 b2 zA zD z1 z2 g1 g2).mono fun e W' ⟨he, bel⟩ => ?_
  subst he
  exact ⟨_, rfl, _, _, _, [], _, [], hW', trodAll_mk1 (shut_bool Try.underlying4 _), (trodAll_cons_mk (Below.trod laidOut (by kernel_rfl) (of_decide_eq_true (by kernel_rfl)) h0 bel lt0) (trodAll_cons_mk (Below.trod laidOut (by kernel_rfl) (of_decide_eq_true (by kernel_rfl)) h1 bel lt1) (trodAll_cons_mk (Below.trod laidOut (by kernel_rfl) (of_decide_eq_true (by kernel_rfl)) h2 bel lt2) trodAll_mk0))), rfl, bel.frame _, fun h => by cases h⟩

theorem over : Rows.vfsRenameIsAtomicRow.holds Try.pinned (OpenSpec.ofChange Rows.vfsRenameIsAtomicSpec) :=
  OpenClaim.holds_of_wide 3 Try.f3 rfl rfl rfl rfl rfl rfl rfl ⟨rfl, rfl, rfl, rfl, rfl⟩ rfl rfl rfl rfl rfl (by kernel_rfl) Try.func3 (by kernel_rfl)
    (of_decide_eq_true (by kernel_rfl)) (by unfold Func.isWrapper; first | (rw [if_pos (by decide +kernel)]; kernel_rfl) | (rw [if_neg (by decide +kernel)]; exact ⟨rfl, rfl⟩))
    (fun os started H enc _ => lifted os started H enc)

/-- The given statement. -/
theorem proved : Rows.VfsRenameIsAtomicSaid := over
#print axioms proved
end Go.Proofs.Ytcobjjaicckgpaa.vfsRenameIsAtomic
