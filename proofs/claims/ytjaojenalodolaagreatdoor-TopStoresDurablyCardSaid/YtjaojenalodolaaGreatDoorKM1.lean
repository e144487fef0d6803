/- Parts of this proof, joined: MoW3, MoW4. -/
import Derived.Test.YtjaojenalodolaaGreatDoorMoW2
import Derived.Test.YtjaojenalodolaaGreatDoorKA
import Derived.Deep.RegionHeld3
/- The reference's checks of entries and feeds (feedvaultref13), walked. -/
namespace Go.Proofs.YtjaojenalodolaaGreatDoor.Mw
open Go Go.RowKit Go.Proofs.YtjaojenalodolaaGreatDoor Go.Proofs.YtjaojenalodolaaGreatDoor.Rw
set_option linter.unusedVariables false
set_option maxRecDepth 100000
set_option maxHeartbeats 8000000
theorem rok_is (s : ByteArray) (w : World) (hs : s.size ≤ 140737488355327) :
    Calls Tryz.prog 32 #[.string s] w fun e w' => e = .returned (.bool (Mo.okS s)) ∧ Below w.heap.size w w' := Tx.rvalid_any s w hs
def e22 (b : Bool) : Int := if b = true then 0 else 22
theorem cells5 {w : World} {x0 x1 x2 x3 x4 : Value} {t : TypeId} : (w.alloc (.cells #[x0, x1, x2, x3, x4] t)).cell? ⟨w.heap.size, 0, none⟩ = some x0 ∧ (w.alloc (.cells #[x0, x1, x2, x3, x4] t)).cell? ⟨w.heap.size, 1, none⟩ = some x1 ∧ (w.alloc (.cells #[x0, x1, x2, x3, x4] t)).cell? ⟨w.heap.size, 2, none⟩ = some x2 ∧ (w.alloc (.cells #[x0, x1, x2, x3, x4] t)).cell? ⟨w.heap.size, 3, none⟩ = some x3 ∧ (w.alloc (.cells #[x0, x1, x2, x3, x4] t)).cell? ⟨w.heap.size, 4, none⟩ = some x4 := by
  unfold World.cell?
  simp only [heap_alloc_new]
  exact ⟨rfl, rfl, rfl, rfl, rfl⟩
theorem rcmpE_is (a b : Mo.En) (w : World) :
    Calls Tryz.prog 35 #[.agg (eCells a).toArray, .agg (eCells b).toArray] w fun e w' => e = .returned (.int .i64 (Mo.cmpE a b)) ∧ Below w.heap.size w w' := by
  obtain ⟨aid, at', al, ac, au⟩ := a
  obtain ⟨bid, bt, bl, bc, bu⟩ := b
  obtain ⟨x0, -, -, -, x4⟩ := cells5 (w := w) (x0 := .string aid) (x1 := .string at') (x2 := .string al) (x3 := .string ac) (x4 := .int .i64 au) (t := 51)
  have HB0 := Lib.hid ((Below.refl w.heap.size w).alloc (Nat.le_refl _) (.cells #[.string aid, .string at', .string al, .string ac, .int .i64 au] 51))
  have hc : Mo.cmpE ⟨aid, at', al, ac, au⟩ ⟨bid, bt, bl, bc, bu⟩ = if bu < au then -1 else if au < bu then 1 else Mo.cmpS aid bid := rfl
  rw [hc]
  clear hc
  show Calls Tryz.prog 35 #[.agg #[.string aid, .string at', .string al, .string ac, .int .i64 au], .agg #[.string bid, .string bt, .string bl, .string bc, .int .i64 bu]] w _
  have HX := Lib.hid (And.intro x0 x4)
  clear x0 x4
  generalize hw1 : (w.alloc (.cells #[.string aid, .string at', .string al, .string ac, .int .i64 au] 51)) = w1 at HB0 HX
  obtain ⟨y0, -, -, -, y4⟩ := cells5 (w := w1) (x0 := .string bid) (x1 := .string bt) (x2 := .string bl) (x3 := .string bc) (x4 := .int .i64 bu) (t := 51)
  have hb1 := (Below.refl w1.heap.size w1).alloc (Nat.le_refl _) (.cells #[.string bid, .string bt, .string bl, .string bc, .int .i64 bu] 51)
  have HB1 := Lib.hid (below_seq HB0.out hb1)
  have x0 := cell_under HX.out.1 hb1
  have x4 := cell_under HX.out.2 hb1
  have hsz : w1.heap.size = w.heap.size + 1 := by rw [← hw1]; show (w.heap.push _).size = _; simp
  rw [hsz] at y0 y4
  rw [← hw1] at x0 x4 y0 y4 HB1
  clear hw1 hb1 hsz HX HB0
  by_cases c1 : bu < au
  · rw [if_pos c1]
    go_enter Tryz.func35, Tryz.ntmps35
    go_wp2_with fail
    go_ret
    exact ⟨rfl, HB1.out⟩
  rw [if_neg c1]
  by_cases c2 : au < bu
  · rw [if_pos c2]
    go_enter Tryz.func35, Tryz.ntmps35
    go_wp2_with fail
    go_ret
    exact ⟨rfl, HB1.out⟩
  rw [if_neg c2]
  go_enter Tryz.func35, Tryz.ntmps35
  go_wp2_with fail
  refine (rcompare_is aid bid _).mono ?_
  rintro e w' ⟨rfl, rfl⟩
  go_wp2_with fail
  go_ret
  exact ⟨rfl, HB1.out⟩
end Go.Proofs.YtjaojenalodolaaGreatDoor.Mw
/- The reference's CompareFeeds and CheckEntry (feedvaultref13), walked. -/
namespace Go.Proofs.YtjaojenalodolaaGreatDoor.Mw
open Go Go.RowKit Go.Proofs.YtjaojenalodolaaGreatDoor Go.Proofs.YtjaojenalodolaaGreatDoor.Rw
set_option linter.unusedVariables false
set_option maxRecDepth 100000
set_option maxHeartbeats 8000000
theorem rcmpF_is (f g : Mo.Fd) (vp ve vq vf : Value) (w : World) (hp : Rw w vp 1 (f.path.map sCell)) (hq : Rw w vq 1 (g.path.map sCell)) (he : ∃ a n c, ve = .slice a n c) (hf : ∃ a n c, vf = .slice a n c) (lp : f.path.length ≤ 8796093022208) (lq : g.path.length ≤ 8796093022208) :
    Calls Tryz.prog 17 #[.agg (fCells f vp ve).toArray, .agg (fCells g vq vf).toArray] w fun e w' => e = .returned (.int .i64 (Mo.cmpF f g)) ∧ Below w.heap.size w w' := by
  obtain ⟨fp, fi, ft, fl, fu, fe⟩ := f
  obtain ⟨gp, gi, gt, gl, gu, ge⟩ := g
  obtain ⟨a1, n1, c1, rfl⟩ := he
  obtain ⟨a2, n2, c2, rfl⟩ := hf
  obtain ⟨x0, x1, -⟩ := cells6 (w := w) (x0 := vp) (x1 := .string fi) (x2 := .string ft) (x3 := .string fl) (x4 := .int .i64 fu) (x5 := .slice a1 n1 c1) (t := 49)
  have HB0 := Lib.hid ((Below.refl w.heap.size w).alloc (Nat.le_refl _) (.cells #[vp, .string fi, .string ft, .string fl, .int .i64 fu, .slice a1 n1 c1] 49))
  have hc : Mo.cmpF ⟨fp, fi, ft, fl, fu, fe⟩ ⟨gp, gi, gt, gl, gu, ge⟩ = if Mo.cmpP fp gp = 0 then Mo.cmpS fi gi else Mo.cmpP fp gp := rfl
  have HC := Lib.hid hc
  clear hc
  show Calls Tryz.prog 17 #[.agg #[vp, .string fi, .string ft, .string fl, .int .i64 fu, .slice a1 n1 c1], .agg #[vq, .string gi, .string gt, .string gl, .int .i64 gu, .slice a2 n2 c2]] w _
  have HX := Lib.hid (And.intro x0 x1)
  clear x0 x1
  generalize hw1 : (w.alloc (.cells #[vp, .string fi, .string ft, .string fl, .int .i64 fu, .slice a1 n1 c1] 49)) = w1 at HB0 HX
  obtain ⟨y0, y1, -⟩ := cells6 (w := w1) (x0 := vq) (x1 := .string gi) (x2 := .string gt) (x3 := .string gl) (x4 := .int .i64 gu) (x5 := .slice a2 n2 c2) (t := 49)
  have hb1 := (Below.refl w1.heap.size w1).alloc (Nat.le_refl _) (.cells #[vq, .string gi, .string gt, .string gl, .int .i64 gu, .slice a2 n2 c2] 49)
  have HB1 := Lib.hid (below_seq HB0.out hb1)
  have x0 := cell_under HX.out.1 hb1
  have x1 := cell_under HX.out.2 hb1
  have hsz : w1.heap.size = w.heap.size + 1 := by rw [← hw1]; show (w.heap.push _).size = _; simp
  rw [hsz] at y0 y1
  rw [← hw1] at x0 x1 y0 y1 HB1
  clear hw1 hb1 hsz HX HB0
  obtain ⟨pg, po, pa, pc, rfl, -, -⟩ := path_at hp
  obtain ⟨qg, qo, qa, qc, rfl, -, -⟩ := path_at hq
  have CP := Lib.hid (fun (u : World) (hu : Below w.heap.size w u) => rpaths_is fp gp _ _ u (hp.under hu) (hq.under hu) lp lq)
  clear hp hq
  simp only at *
  go_enter Tryz.func17, Tryz.ntmps17
  go_wp2_with fail
  refine (CP.out _ HB1.out).mono ?_
  rintro e w2 ⟨rfl, hb2⟩
  replace x1 := cell_under x1 hb2
  replace y1 := cell_under y1 hb2
  have HB2 := Lib.hid (below_seq HB1.out hb2)
  clear hb2 x0 y0
  obtain ⟨c, hc⟩ : ∃ c, Mo.cmpP fp gp = c := ⟨_, rfl⟩
  rw [hc] at HC ⊢
  clear hc
  by_cases h0 : c = 0
  · subst h0
    have HV := Lib.hid (HC.out.trans (if_pos rfl))
    go_wp2_with fail
    refine (rcompare_is fi gi _).mono ?_
    rintro e w' ⟨rfl, rfl⟩
    go_wp2_with fail
    go_ret
    exact ⟨by rw [HV.out]; rfl, HB2.out⟩
  · have HV := Lib.hid (HC.out.trans (if_neg h0))
    have e0 : (c == (0 : Int)) = false := by simpa using h0
    go_wp2_with fail
    go_ret
    exact ⟨by rw [HV.out]; rfl, HB2.out⟩
theorem rcheckE_is (e : Mo.En) (w : World) (hb : EnB e) :
    Calls Tryz.prog 34 #[.agg (eCells e).toArray] w fun x w' => x = .returned (.int .i64 (e22 (Mo.okE e))) ∧ Below w.heap.size w w' := by
  obtain ⟨i, t, l, c, u⟩ := e
  obtain ⟨z1, z2, z3, z4, -⟩ := hb
  simp only at z1 z2 z3 z4
  obtain ⟨x0, x1, x2, x3, x4⟩ := cells5 (w := w) (x0 := .string i) (x1 := .string t) (x2 := .string l) (x3 := .string c) (x4 := .int .i64 u) (t := 51)
  have HB0 := Lib.hid ((Below.refl w.heap.size w).alloc (Nat.le_refl _) (.cells #[.string i, .string t, .string l, .string c, .int .i64 u] 51))
  obtain ⟨b1, h1⟩ : ∃ b, Mo.okS i = b := ⟨_, rfl⟩
  obtain ⟨b2, h2⟩ : ∃ b, Mo.okS t = b := ⟨_, rfl⟩
  obtain ⟨b3, h3⟩ : ∃ b, Mo.okS l = b := ⟨_, rfl⟩
  obtain ⟨b4, h4⟩ : ∃ b, Mo.okS c = b := ⟨_, rfl⟩
  obtain ⟨b5, h5⟩ : ∃ b, i.toList.isEmpty = b := ⟨_, rfl⟩
  obtain ⟨b6, h6⟩ : ∃ b, Mo.inT u = b := ⟨_, rfl⟩
  have he : Mo.okE ⟨i, t, l, c, u⟩ = (!b5 && b6 && b1 && b2 && b3 && b4) := by
    show (Mo.neS i && Mo.inT u && Mo.okS i && Mo.okS t && Mo.okS l && Mo.okS c) = _
    unfold Mo.neS
    rw [h1, h2, h3, h4, h5, h6]
  rw [he]
  have C1 := Lib.hid (fun u => rok_is i u z1)
  have C2 := Lib.hid (fun u => rok_is t u z2)
  have C3 := Lib.hid (fun u => rok_is l u z3)
  have C4 := Lib.hid (fun u => rok_is c u z4)
  have C6 := Lib.hid (fun w => rinTime_is u w)
  rw [h1] at C1
  rw [h2] at C2
  rw [h3] at C3
  rw [h4] at C4
  rw [h6] at C6
  clear he h1 h2 h3 h4 h6 z1 z2 z3 z4
  show Calls Tryz.prog 34 #[.agg #[.string i, .string t, .string l, .string c, .int .i64 u]] w _
  go_enter Tryz.func34, Tryz.ntmps34
  go_wp2_with fail
  refine (C1.out _).mono ?_
  rintro e w1 ⟨rfl, hb⟩
  have HB1 := Lib.hid (below_seq HB0.out hb)
  replace x0 := cell_under x0 hb
  replace x1 := cell_under x1 hb
  replace x2 := cell_under x2 hb
  replace x3 := cell_under x3 hb
  replace x4 := cell_under x4 hb
  clear hb
  cases b1 with
  | false =>
    go_wp2_with fail
    go_ret
    exact ⟨by cases b5 <;> simp [e22], HB1.out⟩
  | true =>
    go_wp2_with fail
    refine (C2.out _).mono ?_
    rintro e w2 ⟨rfl, hb⟩
    have HB2 := Lib.hid (below_seq HB1.out hb)
    replace x0 := cell_under x0 hb
    replace x1 := cell_under x1 hb
    replace x2 := cell_under x2 hb
    replace x3 := cell_under x3 hb
    replace x4 := cell_under x4 hb
    clear hb
    cases b2 with
    | false =>
      go_wp2_with fail
      go_ret
      exact ⟨by cases b5 <;> simp [e22], HB2.out⟩
    | true =>
      go_wp2_with fail
      refine (C3.out _).mono ?_
      rintro e w3 ⟨rfl, hb⟩
      have HB3 := Lib.hid (below_seq HB2.out hb)
      replace x0 := cell_under x0 hb
      replace x1 := cell_under x1 hb
      replace x2 := cell_under x2 hb
      replace x3 := cell_under x3 hb
      replace x4 := cell_under x4 hb
      clear hb
      cases b3 with
      | false =>
        go_wp2_with fail
        go_ret
        exact ⟨by cases b5 <;> simp [e22], HB3.out⟩
      | true =>
        go_wp2_with fail
        refine (C4.out _).mono ?_
        rintro e w4 ⟨rfl, hb⟩
        have HB4 := Lib.hid (below_seq HB3.out hb)
        replace x0 := cell_under x0 hb
        replace x1 := cell_under x1 hb
        replace x2 := cell_under x2 hb
        replace x3 := cell_under x3 hb
        replace x4 := cell_under x4 hb
        clear hb
        cases b4 with
        | false =>
          go_wp2_with fail
          go_ret
          exact ⟨by cases b5 <;> simp [e22], HB4.out⟩
        | true =>
          cases b5 with
          | true =>
            go_wp2_with fail
            go_ret
            exact ⟨by simp [e22], HB4.out⟩
          | false =>
            go_wp2_with fail
            refine (C6.out _).mono ?_
            rintro e w6 ⟨rfl, rfl⟩
            cases b6 with
            | false =>
              go_wp2_with fail
              go_ret
              exact ⟨by simp [e22], HB4.out⟩
            | true =>
              go_wp2_with fail
              go_ret
              exact ⟨by simp [e22], HB4.out⟩
end Go.Proofs.YtjaojenalodolaaGreatDoor.Mw
