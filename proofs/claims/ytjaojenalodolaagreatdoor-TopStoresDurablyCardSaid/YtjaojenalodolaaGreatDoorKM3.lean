/- Parts of this proof, joined: MoW9, MoW10, MoW11. -/
import Derived.Test.YtjaojenalodolaaGreatDoorKM2
import Derived.StillTailTactics
import Derived.Maps.OwnSet
/- The program's comparisons of entries and feeds, walked. Printed by genmow9.py. -/
namespace Go.Proofs.YtjaojenalodolaaGreatDoor.Mw
open Go Go.RowKit Go.Proofs.YtjaojenalodolaaGreatDoor Go.Proofs.YtjaojenalodolaaGreatDoor.Rw
set_option linter.unusedVariables false
set_option maxRecDepth 100000
set_option maxHeartbeats 16000000
def cmpI (a b : Int) : Int := if a < b then -1 else if b < a then 1 else 0
theorem nanS_is (a : ByteArray) (w : World) : Calls Tryz.prog 161 #[.string a] w fun e w' => e = .returned (.bool false) ∧ w' = w := by
  go_enter Tryz.func161, Tryz.ntmps161
  go_wp2_with fail
  go_ret
  exact ⟨rfl, rfl⟩
theorem nanI_is (a : Int) (w : World) : Calls Tryz.prog 185 #[.int .i64 a] w fun e w' => e = .returned (.bool false) ∧ w' = w := by
  go_enter Tryz.func185, Tryz.ntmps185
  go_wp2_with fail
  go_ret
  exact ⟨rfl, rfl⟩
theorem cmpStr_is (a b : ByteArray) (w : World) : Calls Tryz.prog 121 #[.string a, .string b] w fun e w' => e = .returned (.int .i64 (Mo.cmpS a b)) ∧ w' = w := by
  obtain ⟨L, hL⟩ : ∃ L, Op.bytesLess a.toList b.toList = L := ⟨_, rfl⟩
  obtain ⟨E, hE⟩ : ∃ E, (a.toList == b.toList) = E := ⟨_, rfl⟩
  have e : Mo.cmpS a b = if L = true then -1 else if E = true then 0 else 1 := by unfold Mo.cmpS; rw [hL, hE]
  rw [e]
  clear e
  have C1 := Lib.hid (nanS_is a w)
  have C2 := Lib.hid (nanS_is b w)
  cases L <;> cases E
  all_goals
    go_enter Tryz.func121, Tryz.ntmps121
    go_wp2_with fail
    refine C1.out.mono ?_
    rintro e w1 ⟨rfl, rfl⟩
    go_wp2_with fail
    refine C2.out.mono ?_
    rintro e w1 ⟨rfl, rfl⟩
    go_wp2_with fail
    go_ret
    first | exact ⟨rfl, rfl⟩ | simp
theorem cmpInt_is (a b : Int) (w : World) : Calls Tryz.prog 159 #[.int .i64 a, .int .i64 b] w fun e w' => e = .returned (.int .i64 (cmpI a b)) ∧ w' = w := by
  unfold cmpI
  have C1 := Lib.hid (nanI_is a w)
  have C2 := Lib.hid (nanI_is b w)
  by_cases h1 : a < b
  · rw [if_pos h1]
    go_enter Tryz.func159, Tryz.ntmps159
    go_wp2_with fail
    refine C1.out.mono ?_
    rintro e w1 ⟨rfl, rfl⟩
    go_wp2_with fail
    refine C2.out.mono ?_
    rintro e w1 ⟨rfl, rfl⟩
    go_wp2_with fail
    go_ret
    exact ⟨rfl, rfl⟩
  rw [if_neg h1]
  by_cases h2 : b < a
  · rw [if_pos h2]
    go_enter Tryz.func159, Tryz.ntmps159
    go_wp2_with fail
    refine C1.out.mono ?_
    rintro e w1 ⟨rfl, rfl⟩
    go_wp2_with fail
    refine C2.out.mono ?_
    rintro e w1 ⟨rfl, rfl⟩
    go_wp2_with fail
    go_ret
    exact ⟨rfl, rfl⟩
  rw [if_neg h2]
  go_enter Tryz.func159, Tryz.ntmps159
  go_wp2_with fail
  refine C1.out.mono ?_
  rintro e w1 ⟨rfl, rfl⟩
  go_wp2_with fail
  refine C2.out.mono ?_
  rintro e w1 ⟨rfl, rfl⟩
  go_wp2_with fail
  go_ret
  exact ⟨rfl, rfl⟩
theorem or_is (c d : Int) (g : Nat) (w : World) (h0 : w.cell? ⟨g, 0, none⟩ = some (.int .i64 c)) (h1 : w.cell? ⟨g, 1, none⟩ = some (.int .i64 d)) :
    Calls Tryz.prog 119 #[.slice (some ⟨g, 0, none⟩) 2 2] w fun e w' => e = .returned (.int .i64 (if c = 0 then d else c)) ∧ w' = w := by
  go_enter Tryz.func119, Tryz.ntmps119
  go_wp2_with fail
  go_loopw [8] (fun x wr => ∃ k : Nat, k ≤ 2 ∧ x = .int .i64 k ∧ Hid (0 < k → c = 0) ∧ Hid (1 < k → d = 0) ∧ wr = w) (fun x _ => 2 - (intOf x).toNat)
  case atStart => exact ⟨0, by omega, rfl, Lib.hid (fun h => absurd h (by omega)), Lib.hid (fun h => absurd h (by omega)), rfl⟩
  case round =>
    obtain ⟨k, hk, rfl, hc, hd, rfl⟩ := hrel
    obtain rfl | rfl | rfl : k = 0 ∨ k = 1 ∨ k = 2 := by omega
    · by_cases e : c = 0
      · subst e
        go_wp2_with fail
        go_roundw
        case rel => exact ⟨1, by omega, by go_num, Lib.hid (by simp), Lib.hid (by simp), trivial⟩
        case measure => simp [intOf]
      · have e0 : (c == (0 : Int)) = false := by simpa using e
        have EV : Hid ((if c = 0 then d else c) = c) := Lib.hid (if_neg e)
        go_wp2_with fail
        go_ret
        exact ⟨by first | rfl | rw [EV.out]; rfl, rfl⟩
    · have hc0 : c = 0 := hc.out (by omega)
      subst hc0
      clear hc hd
      by_cases e : d = 0
      · subst e
        go_wp2_with fail
        go_roundw
        case rel => exact ⟨2, by omega, by go_num, Lib.hid (by simp), Lib.hid (by simp), trivial⟩
        case measure => simp [intOf]
      · have e0 : (d == (0 : Int)) = false := by simpa using e
        have EV : Hid ((if (0 : Int) = 0 then d else 0) = d) := Lib.hid (if_pos rfl)
        go_wp2_with fail
        go_ret
        exact ⟨by first | rfl | rw [EV.out]; rfl, rfl⟩
    · have hc0 : c = 0 := hc.out (by omega)
      have hd0 : d = 0 := hd.out (by omega)
      subst hc0 hd0
      clear hc hd
      go_wp2_with fail
      go_ret
      exact ⟨by simp, rfl⟩
theorem slcmp_is (p q : List ByteArray) (vp vq : Value) (W : World) (hp : Rw W vp 1 (p.map sCell)) (hq : Rw W vq 1 (q.map sCell)) (lp : p.length ≤ 8796093022208) (lq : q.length ≤ 8796093022208) :
    Calls Tryz.prog 160 #[vp, vq] W fun e w' => e = .returned (.int .i64 (Mo.cmpP p q)) ∧ w' = W := by
  obtain ⟨pg, po, pa, pc, rfl, hpa, hpc⟩ := path_at hp
  obtain ⟨qg, qo, qa, qc, rfl, hqa, hqc⟩ := path_at hq
  obtain ⟨n, hn⟩ : ∃ n, p.length = n := ⟨_, rfl⟩
  obtain ⟨m, hm⟩ : ∃ m, q.length = m := ⟨_, rfl⟩
  rw [hn] at lp hpa ⊢
  rw [hm] at lq hqa ⊢
  have HP := Lib.hid (And.intro hn (And.intro hpa hpc))
  have HQ := Lib.hid (And.intro hm (And.intro hqa hqc))
  clear hp hq hn hm hpa hqa hpc hqc
  go_enter Tryz.func160, Tryz.ntmps160
  go_wp2_with fail
  go_loopw [11] (fun i wr => ∃ k : Nat, k ≤ n ∧ k ≤ m ∧ i = .int .i64 k ∧ Hid (Mo.cmpP p q = Mo.cmpP (p.drop k) (q.drop k)) ∧ wr = W) (fun i _ => n - (intOf i).toNat)
  case atStart => exact ⟨0, Nat.zero_le _, Nat.zero_le _, rfl, rfl, rfl⟩
  case round =>
    obtain ⟨k, hkn, hkm, rfl, hx, rfl⟩ := hrel
    by_cases h1 : k < n
    · obtain rfl := HP.out.2.1 (by omega)
      have hkp : k < p.length := by rw [HP.out.1]; exact h1
      have x0 := HP.out.2.2 k hkp
      have i1 : (k : Int) < (n : Int) := by omega
      have i3 : (0 : Int) ≤ (k : Int) := by omega
      by_cases h2 : k < m
      · obtain rfl := HQ.out.2.1 (by omega)
        have hkq : k < q.length := by rw [HQ.out.1]; exact h2
        have y0 := HQ.out.2.2 k hkq
        have HS := Lib.hid (cmpP_step hkp hkq)
        generalize p[k] = a at x0 HS
        generalize q[k] = b at y0 HS
        obtain ⟨E, hE⟩ : ∃ E, (a.toList == b.toList) = E := ⟨_, rfl⟩
        rw [hE] at HS
        have i2 : (k : Int) < (m : Int) := by omega
        have C := Lib.hid (cmpStr_is a b wr)
        cases E with
        | true =>
          have ec : Mo.cmpS a b = 0 := by
            unfold Mo.cmpS
            rw [hE, eq_of_beq hE, bytesLess_eq]
            simp
          rw [ec] at C
          clear ec hE
          go_wp2_with fail
          refine C.out.mono ?_
          rintro e w1 ⟨rfl, rfl⟩
          go_wp2_with fail
          go_roundw
          case rel => exact ⟨k + 1, by omega, by omega, by go_num, hx.out.trans (HS.out.trans (by simp)), trivial⟩
          case measure => simp [intOf]; omega
        | false =>
          obtain ⟨c, hc⟩ : ∃ c, Mo.cmpS a b = c := ⟨_, rfl⟩
          have hc0 : (c == (0 : Int)) = false := by
            rw [← hc]
            unfold Mo.cmpS
            rw [hE]
            cases Op.bytesLess a.toList b.toList <;> rfl
          rw [hc] at C HS
          have HE : Hid (Mo.cmpP p q = c) := hx.out.trans (HS.out.trans (by simp))
          clear hc hE
          go_wp2_with fail
          refine C.out.mono ?_
          rintro e w1 ⟨rfl, rfl⟩
          go_wp2_with fail
          go_ret
          exact ⟨by rw [HE.out]; rfl, rfl⟩
      · have gl2 : (m : Int) ≤ (k : Int) := by omega
        have HE : Hid (Mo.cmpP p q = 1) := Lib.hid (hx.out.trans ((cmpP_end HP.out.1 HQ.out.1 hkn hkm (by omega)).trans (by rw [if_neg (by omega), if_pos (by omega)])))
        clear hx
        go_wp2_with fail
        go_ret
        exact ⟨by rw [HE.out]; rfl, rfl⟩
    · have gl1 : decide ((k : Int) < (n : Int)) = false := decide_eq_false (by omega)
      have HE : Hid (Mo.cmpP p q = if n < m then -1 else if m < n then 1 else 0) := hx.out.trans (cmpP_end HP.out.1 HQ.out.1 hkn hkm (by omega))
      clear hx
      by_cases c1 : n < m
      · have HE1 : Hid (Mo.cmpP p q = -1) := HE.out.trans (if_pos c1)
        have f1 : (n : Int) < (m : Int) := by omega
        clear HE
        go_wp2_with fail
        go_ret
        exact ⟨by rw [HE1.out]; rfl, rfl⟩
      · have HE1 : Hid (Mo.cmpP p q = 0) := HE.out.trans ((if_neg c1).trans (if_neg (by omega)))
        have f1 : ¬ (n : Int) < (m : Int) := by omega
        clear HE
        go_wp2_with fail
        go_ret
        exact ⟨by rw [HE1.out]; rfl, rfl⟩
theorem paths_is (p q : List ByteArray) (vp vq : Value) (W : World) (hp : Rw W vp 1 (p.map sCell)) (hq : Rw W vq 1 (q.map sCell)) (lp : p.length ≤ 8796093022208) (lq : q.length ≤ 8796093022208) :
    Calls Tryz.prog 120 #[vp, vq] W fun e w' => e = .returned (.int .i64 (Mo.cmpP p q)) ∧ w' = W := by
  have C := Lib.hid (slcmp_is p q vp vq W hp hq lp lq)
  obtain ⟨pg, po, pa, pc, rfl, -, -⟩ := path_at hp
  obtain ⟨qg, qo, qa, qc, rfl, -, -⟩ := path_at hq
  clear hp hq
  go_enter Tryz.func120, Tryz.ntmps120
  go_wp2_with fail
  refine C.out.mono ?_
  rintro e w1 ⟨rfl, rfl⟩
  go_wp2_with fail
  go_ret
  exact ⟨rfl, rfl⟩
end Go.Proofs.YtjaojenalodolaaGreatDoor.Mw
/- The program's comparisons of entries and feeds, walked. -/
namespace Go.Proofs.YtjaojenalodolaaGreatDoor.Mw
open Go Go.RowKit Go.Proofs.YtjaojenalodolaaGreatDoor Go.Proofs.YtjaojenalodolaaGreatDoor.Rw
set_option linter.unusedVariables false
set_option maxRecDepth 100000
set_option maxHeartbeats 16000000
theorem cmpE_or (a b : Mo.En) : (if cmpI b.upd a.upd = 0 then Mo.cmpS a.id b.id else cmpI b.upd a.upd) = Mo.cmpE a b := by
  unfold cmpI Mo.cmpE
  by_cases h1 : b.upd < a.upd
  · simp [h1]
  · by_cases h2 : a.upd < b.upd
    · simp [h1, h2]
    · simp [h1, h2]
theorem two_cells (w : World) (x y : Value) (t : TypeId) : (w.alloc (.cells #[x, y] t)).cell? ⟨w.heap.size, 0, none⟩ = some x ∧ (w.alloc (.cells #[x, y] t)).cell? ⟨w.heap.size, 1, none⟩ = some y := by
  unfold World.cell?
  simp only [heap_alloc_new]
  exact ⟨rfl, rfl⟩
theorem cmpE_is (a b : Mo.En) (w : World) :
    Calls Tryz.prog 118 #[.agg (eCells a).toArray, .agg (eCells b).toArray] w fun e w' => e = .returned (.int .i64 (Mo.cmpE a b)) ∧ Below w.heap.size w w' := by
  rw [← cmpE_or]
  obtain ⟨aid, at', al, ac, au⟩ := a
  obtain ⟨bid, bt, bl, bc, bu⟩ := b
  simp only
  obtain ⟨x0, -, -, -, x4⟩ := cells5 (w := w) (x0 := .string aid) (x1 := .string at') (x2 := .string al) (x3 := .string ac) (x4 := .int .i64 au) (t := 51)
  have HB0 := Lib.hid ((Below.refl w.heap.size w).alloc (Nat.le_refl _) (.cells #[.string aid, .string at', .string al, .string ac, .int .i64 au] 51))
  show Calls Tryz.prog 118 #[.agg #[.string aid, .string at', .string al, .string ac, .int .i64 au], .agg #[.string bid, .string bt, .string bl, .string bc, .int .i64 bu]] w _
  have HX := Lib.hid (And.intro x0 x4)
  clear x0 x4
  generalize hw1 : (w.alloc (.cells #[.string aid, .string at', .string al, .string ac, .int .i64 au] 51)) = w1 at HB0 HX
  obtain ⟨y0, -, -, -, y4⟩ := cells5 (w := w1) (x0 := .string bid) (x1 := .string bt) (x2 := .string bl) (x3 := .string bc) (x4 := .int .i64 bu) (t := 51)
  have hb1 := (Below.refl w1.heap.size w1).alloc (Nat.le_refl _) (.cells #[.string bid, .string bt, .string bl, .string bc, .int .i64 bu] 51)
  have HB1 := Lib.hid (below_seq HB0.out hb1)
  have x0 := cell_under HX.out.1 hb1
  have x4 := cell_under HX.out.2 hb1
  have hsz : w1.heap.size = w.heap.size + 1 := by rw [← hw1]; show (w.heap.push _).size = _; simp
  rw [hsz] at y0 y4
  rw [← hw1] at x0 x4 y0 y4 HB1
  clear hw1 hb1 hsz HX HB0
  obtain ⟨c, hc⟩ : ∃ c, cmpI bu au = c := ⟨_, rfl⟩
  obtain ⟨d, hd⟩ : ∃ d, Mo.cmpS aid bid = d := ⟨_, rfl⟩
  have C1 := fun u => cmpInt_is bu au u
  have C2 := fun u => cmpStr_is aid bid u
  rw [hc] at C1 ⊢
  rw [hd] at C2 ⊢
  clear hc hd
  have CO := Lib.hid (fun g u h0 h1 => or_is c d g u h0 h1)
  obtain ⟨v, hv⟩ : ∃ v, (if c = 0 then d else c) = v := ⟨_, rfl⟩
  rw [hv] at CO ⊢
  clear hv
  go_enter Tryz.func118, Tryz.ntmps118
  go_wp2_with fail
  generalize (w.alloc _).alloc _ = W2 at x0 x4 y0 y4 HB1 ⊢
  refine wp_region_still_tail 10 (by kernel_rfl) (by kernel_rfl) ?_
  simp only [List.take_succ_cons, List.take_zero, List.drop_succ_cons, List.drop_zero]
  repeat (first | still_step | still_call (C1 _) | still_call (C2 _))
  refine wpStill_nil ?_
  change wpList _ _ _ _ _ (World.drew _)
  generalize hW : World.drew _ = W1
  have HBW : Hid (Below w.heap.size w W1) := Lib.hid (by rw [← hW]; exact HB1.out.drew)
  clear hW x0 x4 y0 y4 HB1 C1 C2
  have HT := Lib.hid (two_cells W1 (.int .i64 c) (.int .i64 d) 3)
  have HBA := Lib.hid (HBW.out.alloc HBW.out.size (.cells #[.int .i64 c, .int .i64 d] 3))
  go_wp2_with fail
  refine (CO.out _ _ HT.out.1 HT.out.2).mono ?_
  rintro e w2 ⟨rfl, rfl⟩
  go_wp2_with fail
  go_ret
  exact ⟨rfl, HBA.out⟩
theorem cmpF_is (f g : Mo.Fd) (vp ve vq vf : Value) (w : World) (hp : Rw w vp 1 (f.path.map sCell)) (hq : Rw w vq 1 (g.path.map sCell)) (he : ∃ a n c, ve = .slice a n c) (hf : ∃ a n c, vf = .slice a n c) (lp : f.path.length ≤ 8796093022208) (lq : g.path.length ≤ 8796093022208) :
    Calls Tryz.prog 75 #[.agg (fCells f vp ve).toArray, .agg (fCells g vq vf).toArray] w fun e w' => e = .returned (.int .i64 (Mo.cmpF f g)) ∧ Below w.heap.size w w' := by
  obtain ⟨fp, fi, ft, fl, fu, fe⟩ := f
  obtain ⟨gp, gi, gt, gl, gu, ge⟩ := g
  obtain ⟨a1, n1, c1, rfl⟩ := he
  obtain ⟨a2, n2, c2, rfl⟩ := hf
  obtain ⟨x0, x1, -⟩ := cells6 (w := w) (x0 := vp) (x1 := .string fi) (x2 := .string ft) (x3 := .string fl) (x4 := .int .i64 fu) (x5 := .slice a1 n1 c1) (t := 49)
  have HB0 := Lib.hid ((Below.refl w.heap.size w).alloc (Nat.le_refl _) (.cells #[vp, .string fi, .string ft, .string fl, .int .i64 fu, .slice a1 n1 c1] 49))
  change Calls _ _ _ _ (fun e w' => e = .returned (.int .i64 (if Mo.cmpP fp gp = 0 then Mo.cmpS fi gi else Mo.cmpP fp gp)) ∧ _)
  show Calls Tryz.prog 75 #[.agg #[vp, .string fi, .string ft, .string fl, .int .i64 fu, .slice a1 n1 c1], .agg #[vq, .string gi, .string gt, .string gl, .int .i64 gu, .slice a2 n2 c2]] w _
  have HX := Lib.hid (And.intro x0 x1)
  clear x0 x1
  generalize hw1 : (w.alloc (.cells #[vp, .string fi, .string ft, .string fl, .int .i64 fu, .slice a1 n1 c1] 49)) = w1 at HB0 HX
  obtain ⟨y0, y1, -⟩ := cells6 (w := w1) (x0 := vq) (x1 := .string gi) (x2 := .string gt) (x3 := .string gl) (x4 := .int .i64 gu) (x5 := .slice a2 n2 c2) (t := 49)
  have hb1 := (Below.refl w1.heap.size w1).alloc (Nat.le_refl _) (.cells #[vq, .string gi, .string gt, .string gl, .int .i64 gu, .slice a2 n2 c2] 49)
  have HB1 := Lib.hid (below_seq HB0.out hb1)
  have x0 := cell_under HX.out.1 hb1
  have x1 := cell_under HX.out.2 hb1
  have hsz : w1.heap.size = w.heap.size + 1 := by rw [← hw1]; show (w.heap.push _).size = _; simp
  rw [hsz] at y0 y1
  rw [← hw1] at x0 x1 y0 y1 HB1
  clear hw1 hb1 hsz HX HB0
  obtain ⟨pg, po, pa, pc, rfl, -, -⟩ := path_at hp
  obtain ⟨qg, qo, qa, qc, rfl, -, -⟩ := path_at hq
  have CP := Lib.hid (fun (u : World) (hu : Below w.heap.size w u) => paths_is fp gp _ _ u (hp.under hu) (hq.under hu) lp lq)
  have C1 := CP.out _ HB1.out.drew
  clear hp hq CP
  simp only at x0 x1 y0 y1
  obtain ⟨c, hc⟩ : ∃ c, Mo.cmpP fp gp = c := ⟨_, rfl⟩
  obtain ⟨d, hd⟩ : ∃ d, Mo.cmpS fi gi = d := ⟨_, rfl⟩
  have C2 := fun u => cmpStr_is fi gi u
  rw [hc] at C1 ⊢
  rw [hd] at C2 ⊢
  clear hc hd
  have CO := Lib.hid (fun g u h0 h1 => or_is c d g u h0 h1)
  obtain ⟨v, hv⟩ : ∃ v, (if c = 0 then d else c) = v := ⟨_, rfl⟩
  rw [hv] at CO ⊢
  clear hv
  go_enter Tryz.func75, Tryz.ntmps75
  go_wp2_with fail
  generalize (w.alloc _).alloc _ = W2 at x0 x1 y0 y1 HB1 C1 ⊢
  refine wp_region_still_tail 10 (by kernel_rfl) (by kernel_rfl) ?_
  simp only [List.take_succ_cons, List.take_zero, List.drop_succ_cons, List.drop_zero]
  repeat (first | still_step | still_call C1 | still_call (C2 _))
  refine wpStill_nil ?_
  change wpList _ _ _ _ _ (World.drew _)
  generalize hW : World.drew _ = W1
  have HBW : Hid (Below w.heap.size w W1) := Lib.hid (by rw [← hW]; exact HB1.out.drew)
  clear hW x0 x1 y0 y1 HB1 C1 C2
  have HT := Lib.hid (two_cells W1 (.int .i64 c) (.int .i64 d) 3)
  have HBA := Lib.hid (HBW.out.alloc HBW.out.size (.cells #[.int .i64 c, .int .i64 d] 3))
  go_wp2_with fail
  refine (CO.out _ _ HT.out.1 HT.out.2).mono ?_
  rintro e w2 ⟨rfl, rfl⟩
  go_wp2_with fail
  go_ret
  exact ⟨rfl, HBA.out⟩
end Go.Proofs.YtjaojenalodolaaGreatDoor.Mw
/- Maps from strings to bool, that hold which strings were seen. -/
namespace Go.Proofs.YtjaojenalodolaaGreatDoor.Mw
open Go Go.RowKit Go.Maps Go.Proofs.YtjaojenalodolaaGreatDoor Go.Proofs.YtjaojenalodolaaGreatDoor.Rw
set_option linter.unusedVariables false
set_option maxRecDepth 100000
set_option maxHeartbeats 16000000
theorem klaw : Keyed Tryz.prog 9 := string_keyed Tryz.underlying9
theorem kkey (k : ByteArray) (hk : k.size ≤ 140737488355327) : keyOf Tryz.prog 9 (.string k) = some (.string k.data.toList) :=
  Go.WideMaps.keyOf_string_mk Tryz.underlying9 (by unfold maxLen; omega)
def Seen (w : World) (b n : Nat) (f : List UInt8 → Bool) : Prop := ∃ D : DataW Unit, w.ownsMap Tryz.prog 9 (plainElem Tryz.prog 4) b n D ∧ ∀ s, D.atKey (.string s) (.lit (.bool false)) = .lit (.bool (f s))
theorem Seen.congr {w : World} {b n : Nat} {f g : List UInt8 → Bool} (h : Seen w b n f) (e : ∀ s, f s = g s) : Seen w b n g := by
  obtain ⟨D, h1, h2⟩ := h
  exact ⟨D, h1, fun s => by rw [← e s]; exact h2 s⟩
theorem Seen.lt {w : World} {b n : Nat} {f : List UInt8 → Bool} (h : Seen w b n f) : b < w.heap.size := by
  obtain ⟨D, h1, h2⟩ := h
  exact h1.lt
theorem Seen.of_block {w w' : World} {b n : Nat} {f : List UInt8 → Bool} (h : Seen w b n f) (hb : w'.heap[b]? = w.heap[b]?) : Seen w' b n f := by
  obtain ⟨D, ⟨es, clock, hh, r⟩, h2⟩ := h
  exact ⟨D, ⟨es, clock, by rw [hb]; exact hh, r⟩, h2⟩
theorem Seen.below {w w' : World} {b n : Nat} {f : List UInt8 → Bool} (h : Seen w b n f) (hb : Below w.heap.size w w') : Seen w' b n f := h.of_block (hb.block b h.lt)
theorem Seen.new (w : World) : Seen (w.alloc (.map #[] 0)) w.heap.size 0 (fun _ => false) :=
  ⟨.map [], World.ownsMap_made _ _ _ _, fun s => rfl⟩
theorem Seen.look {w : World} {b n : Nat} {f : List UInt8 → Bool} (h : Seen w b n f) (k : ByteArray) (hk : k.size ≤ 140737488355327) {v : Bool} (hv : f k.data.toList = v) : (Instr.lookup 179 (.map (some b)) (.string k) false).run Tryz.prog w = .ok (.bool v) w := by
  obtain ⟨D, h1, h2⟩ := h
  obtain ⟨x, ps, hrun, hx⟩ := h1.lookup (t := 179) klaw Tryz.underlying179 (z := .bool false) (by kernel_rfl) (plainElem_bool Tryz.underlying4 false) (kkey k hk)
  rw [h2, hv] at hx
  unfold plainElem at hx
  rw [Tryz.underlying4] at hx
  cases x <;> simp at hx
  obtain ⟨rfl, -⟩ := hx
  exact hrun
theorem Seen.put {w : World} {b n : Nat} {f : List UInt8 → Bool} (h : Seen w b n f) (k : ByteArray) (hk : k.size ≤ 140737488355327) (hn : n < maxLen) :
    ∃ w', (Instr.mapUpdate 179 (.map (some b)) (.string k) (.bool true)).run Tryz.prog w = .ok () w' ∧ Seen w' b (n + 1) (fun s => s == k.data.toList || f s) ∧ w.grownBy w' (some b) := by
  obtain ⟨D, h1, h2⟩ := h
  obtain ⟨w', h3, h4, h5⟩ := h1.update (t := 179) klaw Tryz.underlying179 hn (kkey k hk) (plainElem_bool Tryz.underlying4 true)
  refine ⟨w', h3, ⟨_, h4, fun s => ?_⟩, h5⟩
  by_cases e : s = k.data.toList
  · subst e
    rw [atKey_put_same h1.isMap (show WideAt.IsKeyLit (.string k.data.toList) from trivial)]
    simp
  · rw [atKey_put_other (by simpa using e), h2]
    simp [e]
theorem below_grown {W u v : World} {b : Nat} (h : Below W.heap.size W u) (hb : W.heap.size ≤ b) (k : u.grownBy v (some b)) : Below W.heap.size W v :=
  ⟨k.os.trans h.os, k.tape.trans h.tape, k.output.trans h.output, Nat.le_trans h.size k.size, fun i hi => (k.block i (Nat.lt_of_lt_of_le hi h.size) (fun e => by cases e; omega)).trans (h.block i hi)⟩
section
variable {α : Type} {chk : α → Bool} {cmp : α → α → Int} {id : α → ByteArray} {l : List α}
theorem ordB_at (h : Mo.ordB chk cmp id l = true) {k : Nat} (hk : k < l.length) : chk l[k] = true ∧ (∀ (h0 : 0 < k) (h1 : k - 1 < l.length), cmp l[k - 1] l[k] < 0) ∧ ((l.take k).any fun y => (id y).data.toList == (id l[k]).data.toList) = false := by
  have h1 : Mo.stepB chk cmp id l k = true := by
    cases e : Mo.stepB chk cmp id l k with
    | true => rfl
    | false => rw [Mo.ordB_false _ _ _ hk e] at h; cases h
  unfold Mo.stepB at h1
  rw [List.getElem?_eq_getElem hk] at h1
  simp only [Bool.and_eq_true, Bool.not_eq_true'] at h1
  obtain ⟨⟨h2, h3⟩, h4⟩ := h1
  refine ⟨h2, fun h0 h5 => ?_, ?_⟩
  · rw [if_neg (by omega), List.getElem?_eq_getElem h5] at h3
    exact of_decide_eq_true h3
  · simpa only [ByteArray.toList_eq] using h4
theorem any_take (p : List UInt8 → α → Bool) {k : Nat} (hk : k < l.length) (s : List UInt8) : ((l.take (k + 1)).any (p s)) = (p s l[k] || (l.take k).any (p s)) := by
  rw [List.take_add_one, List.getElem?_eq_getElem hk, List.any_append]
  simp [Bool.or_comm]
end
end Go.Proofs.YtjaojenalodolaaGreatDoor.Mw
