/- The program's comparisons of entries and feeds, walked. -/
import Derived.Test.YtbodoncomeegpaaGreatDoorMoW9
namespace Go.Proofs.YtbodoncomeegpaaGreatDoor.Mw
open Go Go.RowKit Go.Proofs.YtbodoncomeegpaaGreatDoor Go.Proofs.YtbodoncomeegpaaGreatDoor.Rw
set_option linter.unusedVariables false

set_option maxRecDepth 100000
set_option maxHeartbeats 16000000
theorem cmpE_or (a b : Mo.En) : (if cmpI b.upd a.upd = 0 then Mo.cmpS a.id b.id else cmpI b.upd a.upd) = Mo.cmpE a b := by
  unfold cmpI Mo.cmpE
  by_cases h1 : b.upd < a.upd
  · simp [h1]
  · by_cases h2 : a.upd < b.upd
    · simp [h1, h2]
    · simp [h1, h2]
theorem two_cells (w : World) (x y : Value) (t : TypeId) : (w.alloc (.cells #[x, y] t)).cell? ⟨w.heap.size, 0, none⟩ = some x ∧ (w.alloc (.cells #[x, y] t)).cell? ⟨w.heap.size, 1, none⟩ = some y := by
  unfold World.cell?
  simp only [heap_alloc_new]
  exact ⟨rfl, rfl⟩
theorem cmpE_is (a b : Mo.En) (w : World) :
    Calls Tryz.prog 101 #[.agg (eCells a).toArray, .agg (eCells b).toArray] w fun e w' => e = .returned (.int .i64 (Mo.cmpE a b)) ∧ Below w.heap.size w w' := by
  rw [← cmpE_or]
  obtain ⟨aid, at', al, ac, au⟩ := a
  obtain ⟨bid, bt, bl, bc, bu⟩ := b
  simp only
  obtain ⟨x0, -, -, -, x4⟩ := cells5 (w := w) (x0 := .string aid) (x1 := .string at') (x2 := .string al) (x3 := .string ac) (x4 := .int .i64 au) (t := 47)
  have HB0 := Lib.hid ((Below.refl w.heap.size w).alloc (Nat.le_refl _) (.cells #[.string aid, .string at', .string al, .string ac, .int .i64 au] 47))
  show Calls Tryz.prog 101 #[.agg #[.string aid, .string at', .string al, .string ac, .int .i64 au], .agg #[.string bid, .string bt, .string bl, .string bc, .int .i64 bu]] w _
  have HX := Lib.hid (And.intro x0 x4)
  clear x0 x4
  generalize hw1 : (w.alloc (.cells #[.string aid, .string at', .string al, .string ac, .int .i64 au] 47)) = w1 at HB0 HX
  obtain ⟨y0, -, -, -, y4⟩ := cells5 (w := w1) (x0 := .string bid) (x1 := .string bt) (x2 := .string bl) (x3 := .string bc) (x4 := .int .i64 bu) (t := 47)
  have hb1 := (Below.refl w1.heap.size w1).alloc (Nat.le_refl _) (.cells #[.string bid, .string bt, .string bl, .string bc, .int .i64 bu] 47)
  have HB1 := Lib.hid (below_seq HB0.out hb1)
  have x0 := cell_under HX.out.1 hb1
  have x4 := cell_under HX.out.2 hb1
  have hsz : w1.heap.size = w.heap.size + 1 := by rw [← hw1]; show (w.heap.push _).size = _; simp
  rw [hsz] at y0 y4
  rw [← hw1] at x0 x4 y0 y4 HB1
  clear hw1 hb1 hsz HX HB0
  obtain ⟨c, hc⟩ : ∃ c, cmpI bu au = c := ⟨_, rfl⟩
  obtain ⟨d, hd⟩ : ∃ d, Mo.cmpS aid bid = d := ⟨_, rfl⟩
  have C1 := fun u => cmpInt_is bu au u
  have C2 := fun u => cmpStr_is aid bid u
  rw [hc] at C1 ⊢
  rw [hd] at C2 ⊢
  clear hc hd
  have CO := Lib.hid (fun g u h0 h1 => or_is c d g u h0 h1)
  obtain ⟨v, hv⟩ : ∃ v, (if c = 0 then d else c) = v := ⟨_, rfl⟩
  rw [hv] at CO ⊢
  clear hv
  go_enter Tryz.func101, Tryz.ntmps101
  go_wp2_with fail
  generalize (w.alloc _).alloc _ = W2 at x0 x4 y0 y4 HB1 ⊢
  refine wp_region_still_tail 10 (by kernel_rfl) (by kernel_rfl) ?_
  simp only [List.take_succ_cons, List.take_zero, List.drop_succ_cons, List.drop_zero]
  repeat (first | still_step | still_call (C1 _) | still_call (C2 _))
  refine wpStill_nil ?_
  change wpList _ _ _ _ _ (World.drew _)
  generalize hW : World.drew _ = W1
  have HBW : Hid (Below w.heap.size w W1) := Lib.hid (by rw [← hW]; exact HB1.out.drew)
  clear hW x0 x4 y0 y4 HB1 C1 C2
  have HT := Lib.hid (two_cells W1 (.int .i64 c) (.int .i64 d) 3)
  have HBA := Lib.hid (HBW.out.alloc HBW.out.size (.cells #[.int .i64 c, .int .i64 d] 3))
  go_wp2_with fail
  refine (CO.out _ _ HT.out.1 HT.out.2).mono ?_
  rintro e w2 ⟨rfl, rfl⟩
  go_wp2_with fail
  go_ret
  exact ⟨rfl, HBA.out⟩
theorem cmpF_is (f g : Mo.Fd) (vp ve vq vf : Value) (w : World) (hp : Rw w vp 1 (f.path.map sCell)) (hq : Rw w vq 1 (g.path.map sCell)) (he : ∃ a n c, ve = .slice a n c) (hf : ∃ a n c, vf = .slice a n c) (lp : f.path.length ≤ 8796093022208) (lq : g.path.length ≤ 8796093022208) :
    Calls Tryz.prog 71 #[.agg (fCells f vp ve).toArray, .agg (fCells g vq vf).toArray] w fun e w' => e = .returned (.int .i64 (Mo.cmpF f g)) ∧ Below w.heap.size w w' := by
  obtain ⟨fp, fi, ft, fl, fu, fe⟩ := f
  obtain ⟨gp, gi, gt, gl, gu, ge⟩ := g
  obtain ⟨a1, n1, c1, rfl⟩ := he
  obtain ⟨a2, n2, c2, rfl⟩ := hf
  obtain ⟨x0, x1, -⟩ := cells6 (w := w) (x0 := vp) (x1 := .string fi) (x2 := .string ft) (x3 := .string fl) (x4 := .int .i64 fu) (x5 := .slice a1 n1 c1) (t := 45)
  have HB0 := Lib.hid ((Below.refl w.heap.size w).alloc (Nat.le_refl _) (.cells #[vp, .string fi, .string ft, .string fl, .int .i64 fu, .slice a1 n1 c1] 45))
  change Calls _ _ _ _ (fun e w' => e = .returned (.int .i64 (if Mo.cmpP fp gp = 0 then Mo.cmpS fi gi else Mo.cmpP fp gp)) ∧ _)
  show Calls Tryz.prog 71 #[.agg #[vp, .string fi, .string ft, .string fl, .int .i64 fu, .slice a1 n1 c1], .agg #[vq, .string gi, .string gt, .string gl, .int .i64 gu, .slice a2 n2 c2]] w _
  have HX := Lib.hid (And.intro x0 x1)
  clear x0 x1
  generalize hw1 : (w.alloc (.cells #[vp, .string fi, .string ft, .string fl, .int .i64 fu, .slice a1 n1 c1] 45)) = w1 at HB0 HX
  obtain ⟨y0, y1, -⟩ := cells6 (w := w1) (x0 := vq) (x1 := .string gi) (x2 := .string gt) (x3 := .string gl) (x4 := .int .i64 gu) (x5 := .slice a2 n2 c2) (t := 45)
  have hb1 := (Below.refl w1.heap.size w1).alloc (Nat.le_refl _) (.cells #[vq, .string gi, .string gt, .string gl, .int .i64 gu, .slice a2 n2 c2] 45)
  have HB1 := Lib.hid (below_seq HB0.out hb1)
  have x0 := cell_under HX.out.1 hb1
  have x1 := cell_under HX.out.2 hb1
  have hsz : w1.heap.size = w.heap.size + 1 := by rw [← hw1]; show (w.heap.push _).size = _; simp
  rw [hsz] at y0 y1
  rw [← hw1] at x0 x1 y0 y1 HB1
  clear hw1 hb1 hsz HX HB0
  obtain ⟨pg, po, pa, pc, rfl, -, -⟩ := path_at hp
  obtain ⟨qg, qo, qa, qc, rfl, -, -⟩ := path_at hq
  have CP := Lib.hid (fun (u : World) (hu : Below w.heap.size w u) => paths_is fp gp _ _ u (hp.under hu) (hq.under hu) lp lq)
  have C1 := CP.out _ HB1.out.drew
  clear hp hq CP
  simp only at x0 x1 y0 y1
  obtain ⟨c, hc⟩ : ∃ c, Mo.cmpP fp gp = c := ⟨_, rfl⟩
  obtain ⟨d, hd⟩ : ∃ d, Mo.cmpS fi gi = d := ⟨_, rfl⟩
  have C2 := fun u => cmpStr_is fi gi u
  rw [hc] at C1 ⊢
  rw [hd] at C2 ⊢
  clear hc hd
  have CO := Lib.hid (fun g u h0 h1 => or_is c d g u h0 h1)
  obtain ⟨v, hv⟩ : ∃ v, (if c = 0 then d else c) = v := ⟨_, rfl⟩
  rw [hv] at CO ⊢
  clear hv
  go_enter Tryz.func71, Tryz.ntmps71
  go_wp2_with fail
  generalize (w.alloc _).alloc _ = W2 at x0 x1 y0 y1 HB1 C1 ⊢
  refine wp_region_still_tail 10 (by kernel_rfl) (by kernel_rfl) ?_
  simp only [List.take_succ_cons, List.take_zero, List.drop_succ_cons, List.drop_zero]
  repeat (first | still_step | still_call C1 | still_call (C2 _))
  refine wpStill_nil ?_
  change wpList _ _ _ _ _ (World.drew _)
  generalize hW : World.drew _ = W1
  have HBW : Hid (Below w.heap.size w W1) := Lib.hid (by rw [← hW]; exact HB1.out.drew)
  clear hW x0 x1 y0 y1 HB1 C1 C2
  have HT := Lib.hid (two_cells W1 (.int .i64 c) (.int .i64 d) 3)
  have HBA := Lib.hid (HBW.out.alloc HBW.out.size (.cells #[.int .i64 c, .int .i64 d] 3))
  go_wp2_with fail
  refine (CO.out _ _ HT.out.1 HT.out.2).mono ?_
  rintro e w2 ⟨rfl, rfl⟩
  go_wp2_with fail
  go_ret
  exact ⟨rfl, HBA.out⟩
end Go.Proofs.YtbodoncomeegpaaGreatDoor.Mw
