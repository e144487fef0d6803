/- The law CivilSeconds (feedvault/feedvaultlaw02.CivilSeconds): for every input it returns true, and each argument reads afterwards as before. No condition. -/
import Derived.Test.YtnihnljbdkcbiaaRows
import Derived.Test.YtnihnljbdkcbiaaCivLaw2
import Derived.WalkKit
import Derived.ProofKit
import Derived.OpenShut
import Derived.ShutString
import Derived.ChangeOld
import Derived.Below
import Derived.Laws.IdiomArrays
import Derived.Lib.SmallJoins
namespace Go.Proofs.Ytnihnljbdkcbiaa.civilSeconds
open Go.ChangeShapes Go.WideShapes Go.ChangeAt Go.RowKit
open Go.ChangeMaps (open_string shut_string)
set_option linter.unusedVariables false

theorem own : ownKnob Try.prog.godebug = none := by kernel_rfl
theorem laidOut : laidOutB Try.prog = true := by kernel_rfl

theorem okWide_array {P : Program} {w : World} {r : Reach} {base : Nat} {t : TypeId} {v : Value} {n : Nat} {e : TypeId} (ht : P.underlying t = some (.array n e)) (h : Value.okWide P w r base t v) : ∃ cs, v = .agg cs ∧ cs.size = P.cellsOf t := by
  unfold Value.okWide at h
  rw [ht] at h
  obtain ⟨cs, h1, h2, _⟩ := h
  exact ⟨cs, h1, h2⟩

set_option maxRecDepth 100000 in
theorem lifted (os : Os) (started : os.Started) (H : Type) (enc : TypeId × Value → H) :
    ReturnsInHanded {} Try.checked os 7 .any (Rows.civilSecondsSpec.pre6 enc Try.prog Try.f7 Rows.civilSecondsRow.domain false) (Rows.civilSecondsSpec.post enc Try.prog Try.f7 false true false false) := by
  refine returnsInHanded_of_change (C := Try.checked) own started (by kernel_rfl) Try.func7
    (ChangeSpec.witness6 (enc := enc) (C := Try.checked) false ⟨#[], #[.agg #[.int .i64 0, .int .i64 0, .int .i64 0], .agg #[.int .i64 0, .int .i64 0, .int .i64 0]], []⟩ 8 (by kernel_rfl) (by kernel_rfl) (by kernel_rfl) (by kernel_rfl)) ?_
  intro W base args ds gs before hval0 hW hcnd _
  have hval : ∀ (j : Nat) t v, Try.f7.params[j]? = some t → args[j]? = some v → Value.okWide Try.prog W .any base t v := hval0
  have hW' := hW
  obtain ⟨p, q, hA0, hV, rfl, hfz, hnd⟩ := hW
  have hA : DataW.TrodAll enc Try.prog W 0 (fun _ => true) true Try.f7.params.toList args.toList ds p := hA0
  rw [Try.params7] at hA hval
  obtain ⟨v0, vs0, d0, ds0, p0, q0, hargs, rfl, rfl, h0, r0⟩ := trodAll_cons hA
  obtain ⟨v1, vs1, d1, ds1, p1, q1, rfl, rfl, rfl, h1, r1⟩ := trodAll_cons r0
  obtain ⟨rfl, rfl, rfl⟩ := trodAll_nil r1
  obtain rfl : args = #[v0, v1] := by cases args; simp_all
  obtain ⟨rfl, rfl⟩ := trodVars_none hV
  have k0 := h0
  have lt0 : ∀ x ∈ p0, x.block < W.heap.size := by obtain ⟨m, hm⟩ := k0; exact DataW.trod_lt m _ _ _ hm
  obtain ⟨x0, y0, z0, hv0⟩ : ∃ x y z : Int, v0 = .agg #[.int .i64 x, .int .i64 y, .int .i64 z] := by
    obtain ⟨cs, rfl, hsz⟩ := okWide_array Try.underlying41 (hval 0 41 v0 rfl rfl)
    obtain ⟨c0, c1, c2, rfl⟩ := Go.Joins.array3 (hsz.trans (show Try.prog.cellsOf 41 = 3 by kernel_rfl))
    obtain ⟨fuel, hf⟩ := h0
    obtain ⟨y0, y1, y2, m, _, g0, g1, g2⟩ := trod_array3 Try.underlying41 (by kernel_rfl) (show DataW.trod enc Try.prog W 0 (fun _ => true) true fuel 41 [c0, c1, c2] = _ from by simpa [Value.cells] using hf)
    obtain ⟨x0, e0, _, _⟩ := DataW.trod_int Try.underlying3 g0
    obtain ⟨x1, e1, _, _⟩ := DataW.trod_int Try.underlying3 g1
    obtain ⟨x2, e2, _, _⟩ := DataW.trod_int Try.underlying3 g2
    simp at e0 e1 e2
    subst e0 e1 e2
    exact ⟨x0, x1, x2, rfl⟩
  subst hv0
  have k1 := h1
  have lt1 : ∀ x ∈ p1, x.block < W.heap.size := by obtain ⟨m, hm⟩ := k1; exact DataW.trod_lt m _ _ _ hm
  obtain ⟨x1, y1, z1, hv1⟩ : ∃ x y z : Int, v1 = .agg #[.int .i64 x, .int .i64 y, .int .i64 z] := by
    obtain ⟨cs, rfl, hsz⟩ := okWide_array Try.underlying41 (hval 1 41 v1 rfl rfl)
    obtain ⟨c0, c1, c2, rfl⟩ := Go.Joins.array3 (hsz.trans (show Try.prog.cellsOf 41 = 3 by kernel_rfl))
    obtain ⟨fuel, hf⟩ := h1
    obtain ⟨y0, y1, y2, m, _, g0, g1, g2⟩ := trod_array3 Try.underlying41 (by kernel_rfl) (show DataW.trod enc Try.prog W 0 (fun _ => true) true fuel 41 [c0, c1, c2] = _ from by simpa [Value.cells] using hf)
    obtain ⟨x0, e0, _, _⟩ := DataW.trod_int Try.underlying3 g0
    obtain ⟨x1, e1, _, _⟩ := DataW.trod_int Try.underlying3 g1
    obtain ⟨x2, e2, _, _⟩ := DataW.trod_int Try.underlying3 g2
    simp at e0 e1 e2
    subst e0 e1 e2
    exact ⟨x0, x1, x2, rfl⟩
  subst hv1
  clear hA0 hval0
  refine (Civ.law_seconds x0 y0 z0 x1 y1 z1 W ).mono fun e W' ⟨he, bel⟩ => ?_
  subst he
  exact ⟨_, rfl, _, _, _, [], _, [], hW', trodAll_mk1 (shut_bool Try.underlying4 _), (trodAll_cons_mk (Below.trod laidOut (by kernel_rfl) (of_decide_eq_true (by kernel_rfl)) k0 bel lt0) (trodAll_cons_mk (Below.trod laidOut (by kernel_rfl) (of_decide_eq_true (by kernel_rfl)) k1 bel lt1) trodAll_mk0)), rfl, bel.frame _, fun h => by cases h⟩

theorem over : Rows.civilSecondsRow.holds Try.pinned (OpenSpec.ofChange Rows.civilSecondsSpec) :=
  OpenClaim.holds_of_wide 7 Try.f7 rfl rfl rfl rfl rfl rfl rfl ⟨rfl, rfl, rfl, rfl, rfl⟩ rfl rfl rfl rfl rfl (by kernel_rfl) Try.func7 (by kernel_rfl)
    (of_decide_eq_true (by kernel_rfl)) (by unfold Func.isWrapper; first | (rw [if_pos (by decide +kernel)]; kernel_rfl) | (rw [if_neg (by decide +kernel)]; exact ⟨rfl, rfl⟩))
    (fun os started H enc _ => lifted os started H enc)

/-- The given statement. -/
theorem proved : Rows.CivilSecondsSaid := over
#print axioms proved
end Go.Proofs.Ytnihnljbdkcbiaa.civilSeconds
