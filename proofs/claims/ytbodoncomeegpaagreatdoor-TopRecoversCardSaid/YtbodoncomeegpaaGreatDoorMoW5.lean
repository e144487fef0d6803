/- The reference's CheckFeed (feedvaultref13), walked. -/
import Derived.Test.YtbodoncomeegpaaGreatDoorMoW4
import Derived.Lib.QuietBelow
namespace Go.Proofs.YtbodoncomeegpaaGreatDoor.Mw
open Go Go.RowKit Go.Proofs.YtbodoncomeegpaaGreatDoor Go.Proofs.YtbodoncomeegpaaGreatDoor.Rw
set_option linter.unusedVariables false

set_option maxRecDepth 100000
set_option maxHeartbeats 16000000
def okP (p : ByteArray) : Bool := Mo.neS p && Mo.okS p
theorem all_take {l : List ByteArray} {k : Nat} (hk : k < l.length) (h : (l.take k).all okP = true) (h2 : okP l[k] = true) : (l.take (k + 1)).all okP = true := by
  rw [List.take_add_one, List.getElem?_eq_getElem hk, List.all_append, h]
  simpa using h2
theorem all_bad {l : List ByteArray} {k : Nat} (hk : k < l.length) (h2 : okP l[k] = false) : l.all okP = false := by
  rw [List.all_eq_false]
  exact ⟨_, List.getElem_mem hk, by rw [h2]; decide⟩
section
variable {l : List Mo.En} {k : Nat}
def prevOk (l : List Mo.En) (k : Nat) (e : Mo.En) : Prop := 0 < k → ∀ (h : k - 1 < l.length), Mo.cmpE l[k - 1] e < 0
theorem step_bad1 (hk : k < l.length) (h : Mo.okE l[k] = false) : Mo.ordB Mo.okE Mo.cmpE (·.id) l = false :=
  Mo.ordB_false _ _ _ hk (by unfold Mo.stepB; rw [List.getElem?_eq_getElem hk]; simp only [h, Bool.false_and])
theorem step_bad2 (hk : k < l.length) (h0 : 0 < k) (h1 : k - 1 < l.length) (h : ¬ Mo.cmpE l[k - 1] l[k] < 0) : Mo.ordB Mo.okE Mo.cmpE (·.id) l = false :=
  Mo.ordB_false _ _ _ hk (by
    unfold Mo.stepB
    rw [List.getElem?_eq_getElem hk]
    simp only [if_neg (by omega : ¬ k = 0), List.getElem?_eq_getElem h1, decide_eq_false h, Bool.and_false, Bool.false_and])
theorem step_bad3 (hk : k < l.length) {j : Nat} (hj : j < k) (h : (l[j].id.toList == l[k].id.toList) = true) : Mo.ordB Mo.okE Mo.cmpE (·.id) l = false :=
  Mo.ordB_false _ _ _ hk (by
    unfold Mo.stepB
    rw [List.getElem?_eq_getElem hk]
    have : ((l.take k).any fun y => (y.id.toList == l[k].id.toList)) = true := by
      rw [List.any_eq_true]
      exact ⟨l[j], by rw [List.mem_take_iff_getElem]; exact ⟨j, by omega, rfl⟩, h⟩
    simp only [this, Bool.not_true, Bool.and_false])
theorem step_good (hk : k < l.length) (ho : Mo.ordK Mo.okE Mo.cmpE (·.id) l k = true) (h1 : Mo.okE l[k] = true) (h2 : ∀ (h0 : 0 < k) (h : k - 1 < l.length), Mo.cmpE l[k - 1] l[k] < 0) (h3 : ∀ j (hj : j < k), (l[j].id.toList == l[k].id.toList) = false) : Mo.ordK Mo.okE Mo.cmpE (·.id) l (k + 1) = true := by
  show (Mo.ordK Mo.okE Mo.cmpE (·.id) l k && Mo.stepB Mo.okE Mo.cmpE (·.id) l k) = true
  rw [ho, Bool.true_and]
  unfold Mo.stepB
  rw [List.getElem?_eq_getElem hk]
  have ha : ((l.take k).any fun y => (y.id.toList == l[k].id.toList)) = false := by
    rw [List.any_eq_false]
    intro y hy
    rw [List.mem_take_iff_getElem] at hy
    obtain ⟨j, hj, rfl⟩ := hy
    rw [h3 j (by omega)]
    decide
  simp only [h1, ha, Bool.true_and, Bool.not_false, Bool.and_true]
  by_cases h0 : k = 0
  · simp [h0]
  · simp only [if_neg h0, List.getElem?_eq_getElem (by omega : k - 1 < l.length)]
    exact decide_eq_true (h2 (by omega) (by omega))
end
theorem below_undrew {w w' : World} (h : Below w.drew.heap.size w.drew w') : Below w.heap.size w w' := ⟨h.os, h.tape, h.output, h.size, h.block⟩
theorem below_drewN (w : World) (n : Nat) : Below w.heap.size w (w.drewN n) := ⟨rfl, rfl, rfl, Nat.le_refl _, fun _ _ => rfl⟩
theorem next_all (l : List Mo.En) (x : ByteArray) {j : Nat} (h : ∀ (i : Nat) (hi : i < j) (hl : i < l.length), (l[i].id.toList == x.toList) = false) (hj : j < l.length) (h2 : (l[j].id.toList == x.toList) = false) :
    ∀ (i : Nat) (hi : i < j + 1) (hl : i < l.length), (l[i].id.toList == x.toList) = false := by
  intro i hi hl
  by_cases e : i = j
  · subst e; exact h2
  · exact h i (by omega) hl
theorem re_call {P : Program} {f : FuncId} {args : Array Value} {v : Value} {n : Nat} {W w : World} (h : ∀ u, Calls P f args u fun e w' => e = .returned v ∧ Below u.heap.size u w') (_ : Below n W w) :
    ∀ d os, Calls P f args (Sort.grow (redrawn w d) os) fun e w'' => e = .returned v ∧ ∃ p : Regrown, w'' = Sort.grow (redrawn w p.d) p.os := fun d os => Calls.regrown_of (h _)
/-- The first checks of a feed, and what is left. -/
theorem okF_is (f : Mo.Fd) : Mo.okF f = (decide (f.path.length ≤ 64) && f.path.all okP && !f.id.toList.isEmpty && Mo.inT f.upd && Mo.okS f.id && Mo.okS f.title && Mo.okS f.link && Mo.ordB Mo.okE Mo.cmpE (·.id) f.ents) := rfl
theorem rcheckF_is (f : Mo.Fd) (vp ve : Value) (W : World) (hp : Rw W vp 1 (f.path.map sCell)) (he : Rw W ve 5 (f.ents.map eCells)) (hb : FdB f) :
    Calls Tryz.prog 15 #[.agg (fCells f vp ve).toArray] W fun x w' => x = .returned (.int .i64 (e22 (Mo.okF f))) ∧ Below W.heap.size W w' := by
  have HOK := Lib.hid (okF_is f)
  obtain ⟨path, i, t, l, u, ents⟩ := f
  obtain ⟨z1, z2, z3, z4, z5, z6, z7, -⟩ := hb
  simp only at z1 z2 z3 z4 z5 z6 z7 hp he HOK
  obtain ⟨pg, po, pa, pc, rfl, hpa, hpath⟩ := path_at hp
  obtain ⟨eg, eo, ea, ec, rfl, hea, hents⟩ := ents_at he
  obtain ⟨pl, hpl⟩ : ∃ pl, path.length = pl := ⟨_, rfl⟩
  obtain ⟨el, hel⟩ : ∃ el, ents.length = el := ⟨_, rfl⟩
  rw [hpl] at z4 hpa HOK
  rw [hel] at z6 hea
  obtain ⟨x0, x1, x2, x3, x4, x5⟩ := cells6 (w := W) (x0 := .slice pa pl pc) (x1 := .string i) (x2 := .string t) (x3 := .string l) (x4 := .int .i64 u) (x5 := .slice ea el ec) (t := 45)
  have HB0 := Lib.hid ((Below.refl W.heap.size W).alloc (Nat.le_refl _) (.cells #[.slice pa pl pc, .string i, .string t, .string l, .int .i64 u, .slice ea el ec] 45))
  obtain ⟨b1, h1⟩ : ∃ b, Mo.okS i = b := ⟨_, rfl⟩
  obtain ⟨b2, h2⟩ : ∃ b, Mo.okS t = b := ⟨_, rfl⟩
  obtain ⟨b3, h3⟩ : ∃ b, Mo.okS l = b := ⟨_, rfl⟩
  obtain ⟨b5, h5⟩ : ∃ b, i.toList.isEmpty = b := ⟨_, rfl⟩
  obtain ⟨b6, h6⟩ : ∃ b, Mo.inT u = b := ⟨_, rfl⟩
  obtain ⟨PA, hPA⟩ : ∃ b, path.all okP = b := ⟨_, rfl⟩
  obtain ⟨OB, hOB⟩ : ∃ b, Mo.ordB Mo.okE Mo.cmpE (·.id) ents = b := ⟨_, rfl⟩
  rw [h1, h2, h3, h5, h6, hPA, hOB] at HOK
  have C1 := Lib.hid (fun u => rok_is i u z1)
  have C2 := Lib.hid (fun u => rok_is t u z2)
  have C3 := Lib.hid (fun u => rok_is l u z3)
  have C6 := Lib.hid (fun w => rinTime_is u w)
  rw [h1] at C1
  rw [h2] at C2
  rw [h3] at C3
  rw [h6] at C6
  have HP := Lib.hid (And.intro hpl (And.intro hpa (And.intro hpath z5)))
  have HE := Lib.hid (And.intro hel (And.intro hea (And.intro hents z7)))
  have HPA := Lib.hid hPA
  have HOB := Lib.hid hOB
  show Calls Tryz.prog 15 #[.agg #[.slice pa path.length pc, .string i, .string t, .string l, .int .i64 u, .slice ea ents.length ec]] W _
  rw [hpl, hel]
  clear h1 h2 h3 h6 hPA hOB hpl hel hpa hpath hea hents z1 z2 z3 z5 z7 hp he
  by_cases h64 : 64 < pl
  · have g64 : (64 : Int) < (pl : Int) := by omega
    have HV : Hid (Mo.okF ⟨path, i, t, l, u, ents⟩ = false) := HOK.out.trans (by rw [decide_eq_false (by omega : ¬ pl ≤ 64)]; simp)
    go_enter Tryz.func15, Tryz.ntmps15
    go_wp2_with fail
    go_ret
    exact ⟨by rw [HV.out]; rfl, HB0.out⟩
  have g64 : ¬ (64 : Int) < (pl : Int) := by omega
  rw [decide_eq_true (by omega : pl ≤ 64)] at HOK
  go_enter Tryz.func15, Tryz.ntmps15
  go_wp2_with fail
  refine (C1.out _).mono ?_
  rintro e w1 ⟨rfl, hb⟩
  have HB1 := Lib.hid (below_seq HB0.out hb)
  replace x0 := cell_under x0 hb
  replace x1 := cell_under x1 hb
  replace x2 := cell_under x2 hb
  replace x3 := cell_under x3 hb
  replace x4 := cell_under x4 hb
  replace x5 := cell_under x5 hb
  clear hb
  cases b1 with
  | false =>
    have HV : Hid (Mo.okF ⟨path, i, t, l, u, ents⟩ = false) := HOK.out.trans (by simp)
    go_wp2_with fail
    go_ret
    exact ⟨by rw [HV.out]; rfl, HB1.out⟩
  | true =>
    go_wp2_with fail
    refine (C2.out _).mono ?_
    rintro e w2 ⟨rfl, hb⟩
    have HB2 := Lib.hid (below_seq HB1.out hb)
    replace x0 := cell_under x0 hb
    replace x1 := cell_under x1 hb
    replace x2 := cell_under x2 hb
    replace x3 := cell_under x3 hb
    replace x4 := cell_under x4 hb
    replace x5 := cell_under x5 hb
    clear hb
    cases b2 with
    | false =>
      have HV : Hid (Mo.okF ⟨path, i, t, l, u, ents⟩ = false) := HOK.out.trans (by simp)
      go_wp2_with fail
      go_ret
      exact ⟨by rw [HV.out]; rfl, HB2.out⟩
    | true =>
      go_wp2_with fail
      refine (C3.out _).mono ?_
      rintro e w3 ⟨rfl, hb⟩
      have HB3 := Lib.hid (below_seq HB2.out hb)
      replace x0 := cell_under x0 hb
      replace x1 := cell_under x1 hb
      replace x2 := cell_under x2 hb
      replace x3 := cell_under x3 hb
      replace x4 := cell_under x4 hb
      replace x5 := cell_under x5 hb
      clear hb
      cases b3 with
      | false =>
        have HV : Hid (Mo.okF ⟨path, i, t, l, u, ents⟩ = false) := HOK.out.trans (by simp)
        go_wp2_with fail
        go_ret
        exact ⟨by rw [HV.out]; rfl, HB3.out⟩
      | true =>
        cases b5 with
        | true =>
          have HV : Hid (Mo.okF ⟨path, i, t, l, u, ents⟩ = false) := HOK.out.trans (by simp)
          go_wp2_with fail
          go_ret
          exact ⟨by rw [HV.out]; rfl, HB3.out⟩
        | false =>
          go_wp2_with fail
          refine (C6.out _).mono ?_
          rintro e w6 ⟨rfl, rfl⟩
          cases b6 with
          | false =>
            have HV : Hid (Mo.okF ⟨path, i, t, l, u, ents⟩ = false) := HOK.out.trans (by simp)
            go_wp2_with fail
            go_ret
            exact ⟨by rw [HV.out]; rfl, HB3.out⟩
          | true =>
            replace HOK : Hid (Mo.okF ⟨path, i, t, l, u, ents⟩ = (PA && OB)) := HOK.out.trans (by simp)
            clear C1 C2 C3 C6 h5 x1 x2 x3 x4 HB0 HB1 HB2
            go_wp2_with fail
            go_loopw [3] (fun x wr => ∃ k : Nat, k ≤ pl ∧ x = .int .i64 k ∧ Hid ((path.take k).all okP = true) ∧ Hid (Below w6.heap.size w6 wr)) (fun x _ => pl - (intOf x).toNat)
            case atStart => exact ⟨0, Nat.zero_le _, rfl, rfl, Below.refl _ _⟩
            case round =>
              obtain ⟨k, hk, rfl, hx, hbr⟩ := hrel
              replace x0 := cell_under x0 hbr.out
              have HX5 := Lib.hid (cell_under x5 hbr.out)
              have HBR := Lib.hid (below_seq HB3.out hbr.out)
              clear x5
              by_cases hlt : k < pl
              · obtain rfl := HP.out.2.1 (by omega)
                have hkl : k < path.length := by rw [HP.out.1]; exact hlt
                have y0 := cell_under (HP.out.2.2.1 k hkl) HBR.out
                have hz := HP.out.2.2.2 _ (List.getElem_mem hkl)
                have HT := Lib.hid (all_take hkl hx.out)
                have HF := Lib.hid (all_bad hkl)
                generalize path[k] = p at y0 hz HT HF
                have i1 : (k : Int) < (pl : Int) := by omega
                obtain ⟨b7, h7⟩ : ∃ b, p.toList.isEmpty = b := ⟨_, rfl⟩
                obtain ⟨b8, h8⟩ : ∃ b, Mo.okS p = b := ⟨_, rfl⟩
                have hok : okP p = (!b7 && b8) := by unfold okP Mo.neS; rw [h7, h8]
                rw [hok] at HT HF
                have C8 := Lib.hid (fun u => rok_is p u hz)
                rw [h8] at C8
                clear hok h8 hz
                cases b7 with
                | true =>
                  have HV : Hid (Mo.okF ⟨path, i, t, l, u, ents⟩ = false) := HOK.out.trans (by rw [← HPA.out, HF.out (by simp)]; simp)
                  go_wp2_with fail
                  go_ret
                  exact ⟨by rw [HV.out]; rfl, HBR.out⟩
                | false =>
                  go_wp2_with fail
                  refine (C8.out _).mono ?_
                  rintro e w8 ⟨rfl, hb8⟩
                  replace x0 := cell_under x0 hb8
                  have HB8 := Lib.hid (below_seq hbr.out hb8)
                  have HB9 := Lib.hid (below_seq HBR.out hb8)
                  clear hb8 hbr hx
                  cases b8 with
                  | false =>
                    have HV : Hid (Mo.okF ⟨path, i, t, l, u, ents⟩ = false) := HOK.out.trans (by rw [← HPA.out, HF.out (by simp)]; simp)
                    go_wp2_with fail
                    go_ret
                    exact ⟨by rw [HV.out]; rfl, HB9.out⟩
                  | true =>
                    go_wp2_with fail
                    go_roundw
                    case rel => exact ⟨k + 1, by omega, by go_num, HT.out (by simp), HB8.out⟩
                    case measure => simp [intOf]; omega
              · have gl : decide ((k : Int) < (pl : Int)) = false := decide_eq_false (by omega)
                have hpt : PA = true := by
                  rw [← HPA.out]
                  have h1 := hx.out
                  rw [List.take_of_length_le (by rw [HP.out.1]; omega)] at h1
                  exact h1
                rw [hpt] at HOK
                replace HOK : Hid (Mo.okF ⟨path, i, t, l, u, ents⟩ = OB) := HOK.out.trans (by simp)
                clear hx hpt hbr HP HPA
                go_wp2_with fail
                clear x0
                generalize wr = wA at HX5 HBR ⊢
                go_loopw [4] (fun x wq => ∃ k2 : Nat, k2 ≤ el ∧ x = .int .i64 k2 ∧ Hid (Mo.ordK Mo.okE Mo.cmpE (·.id) ents k2 = true) ∧ Hid (Below wA.heap.size wA wq)) (fun x _ => el - (intOf x).toNat)
                case atStart => exact ⟨0, Nat.zero_le _, rfl, rfl, Below.refl _ _⟩
                case round =>
                  obtain ⟨k2, hk2, rfl, hx, hbq⟩ := hrel
                  have x5 := cell_under HX5.out hbq.out
                  have HBQ := Lib.hid (below_seq HBR.out hbq.out)
                  by_cases hlt2 : k2 < el
                  · obtain rfl := HE.out.2.1 (by omega)
                    have hkl : k2 < ents.length := by rw [HE.out.1]; exact hlt2
                    obtain ⟨y0, y1, y2, y3, y4⟩ := HE.out.2.2.1 k2 hkl
                    replace y0 := cell_under y0 HBQ.out
                    replace y1 := cell_under y1 HBQ.out
                    replace y2 := cell_under y2 HBQ.out
                    replace y3 := cell_under y3 HBQ.out
                    replace y4 := cell_under y4 HBQ.out
                    have i1 : (k2 : Int) < (el : Int) := by omega
                    have i0 : (0 : Int) ≤ (k2 : Int) := by omega
                    have S1 := Lib.hid (step_bad1 hkl)
                    have S2 := Lib.hid (step_bad2 hkl)
                    have S3 := Lib.hid (fun (j : Nat) (hj : j < k2) => step_bad3 hkl hj)
                    have S4 := Lib.hid (step_good hkl hx.out)
                    have HZE := HE.out.2.2.2 _ (List.getElem_mem hkl)
                    generalize ents[k2] = e at y0 y1 y2 y3 y4 S1 S2 S3 S4 HZE
                    obtain ⟨bE, hbE⟩ : ∃ b, Mo.okE e = b := ⟨_, rfl⟩
                    have CE := Lib.hid (fun u => rcheckE_is e u HZE)
                    rw [hbE] at CE S1 S4
                    have CM := Lib.hid (fun d u => rcmpE_is d e u)
                    obtain ⟨ei, et, el', ec', eu⟩ := e
                    simp only at y0 y1 y2 y3 y4
                    clear hbE hx HZE
                    go_wp2_with fail
                    have r5 := cell_regrown x5
                    have r0 := cell_regrown y0
                    have r1 := cell_regrown y1
                    have r2 := cell_regrown y2
                    have r3 := cell_regrown y3
                    have r4 := cell_regrown y4
                    cases bE with
                    | false =>
                      rw [show e22 false = 22 from rfl] at CE
                      have cE := re_call CE.out HBQ.out
                      refine wp_region_quiet_below (by kernel_rfl) (by kernel_rfl) ?_
                      repeat (first | go_big_quiet_step (fail) | quiet_step (exact cE _ _) | quiet_step (fail))
                      refine wpQuiet_nil ?_
                      intro _ hw'
                      obtain ⟨⟨dq, osq⟩, hw''⟩ := hw'
                      subst hw''
                      have HV : Hid (Mo.okF ⟨path, i, t, l, u, ents⟩ = false) := HOK.out.trans (by rw [← HOB.out]; exact S1.out rfl)
                      have HBF := Lib.hid (below_seq HBQ.out (below_regrown _ dq osq))
                      go_wp2_with fail
                      go_ret
                      exact ⟨by rw [HV.out]; rfl, HBF.out⟩
                    | true =>
                      rw [show e22 true = 0 from rfl] at CE
                      have cE := re_call CE.out HBQ.out
                      by_cases hk0 : k2 = 0
                      · have gk : ¬ (0 : Int) < (k2 : Int) := by omega
                        have gk1 : ¬ 0 < k2 := by omega
                        have gk3 : decide ((0 : Int) < (k2 : Int)) = false := decide_eq_false gk
                        have HK0 := Lib.hid hk0
                        clear hk0
                        refine wp_region_quiet_below (by kernel_rfl) (by kernel_rfl) ?_
                        repeat (first | go_big_quiet_step (fail) | quiet_step (exact cE _ _) | quiet_step (fail))
                        refine wpQuiet_nil ?_
                        intro _ hw'
                        obtain ⟨⟨dq, osq⟩, hw''⟩ := hw'
                        subst hw''
                        have S5 := Lib.hid (fun h3 => S4.out rfl (fun h0 => absurd HK0.out (by omega)) h3)
                        have HBF := Lib.hid (below_seq HBQ.out (below_regrown _ dq osq))
                        have HBG := Lib.hid (below_seq hbq.out (below_regrown _ dq osq))
                        have z5q := cell_under x5 (below_regrown _ dq osq)
                        have z0q := cell_under y0 (below_regrown _ dq osq)
                        clear r0 r1 r2 r3 r4 r5 cE
                        clear x5 y0 y1 y2 y3 y4 gk gk1 gk3
                        go_wp2_with fail
                        generalize Sort.grow (redrawn _ dq) osq = wE at HBF HBG z5q z0q ⊢
                        go_loopw [5] (fun x wj => ∃ j : Nat, j ≤ k2 ∧ x = .int .i64 j ∧ Hid (∀ (i : Nat) (hi : i < j) (hl : i < ents.length), (ents[i].id.toList == ei.toList) = false) ∧ Hid (Below wE.heap.size wE wj)) (fun x _ => k2 - (intOf x).toNat)
                        case atStart => exact ⟨0, Nat.zero_le _, rfl, Lib.hid (fun i hi _ => absurd hi (Nat.not_lt_zero i)), Lib.hid (Below.refl _ _)⟩
                        case round =>
                          obtain ⟨j, hj, rfl, hxj, hbj⟩ := hrel
                          have x5j := cell_under z5q hbj.out
                          have y0j := cell_under z0q hbj.out
                          have HBJ := Lib.hid (below_seq HBF.out hbj.out)
                          by_cases hjk : j < k2
                          · have hjl : j < ents.length := by omega
                            have v0 := cell_under (HE.out.2.2.1 j hjl).1 HBJ.out
                            have m0 : (0 : Int) ≤ (j : Int) := by omega
                            have m1 : (j : Int) < (k2 : Int) := by omega
                            have m2 : (j : Int) < (el : Int) := by omega
                            have S7 := Lib.hid (S3.out j hjk)
                            have S8 := Lib.hid (fun (hh : (ents[j].id.toList == ei.toList) = false) => next_all ents ei hxj.out hjl hh)
                            generalize ents[j].id = ij at v0 S7 S8
                            have HBD := Lib.hid (fun n => below_seq HBJ.out (below_drewN _ n))
                            have HBX := Lib.hid (fun n => below_seq hbj.out (below_drewN _ n))
                            obtain hq | hq : (ij.toList == ei.toList) = true ∨ (ij.toList == ei.toList) = false := by cases (ij.toList == ei.toList) <;> simp
                            · have HV : Hid (Mo.okF ⟨path, i, t, l, u, ents⟩ = false) := HOK.out.trans (by rw [← HOB.out]; exact S7.out hq)
                              go_wp2_with fail
                              go_quiet (fail)
                              have HBE := Lib.hid (HBD.out nq)
                              go_wp2_with fail
                              go_ret
                              exact ⟨by rw [HV.out]; rfl, HBE.out⟩
                            · have HN := Lib.hid (S8.out hq)
                              go_wp2_with fail
                              go_quiet (fail)
                              have HBE := Lib.hid (HBX.out nq)
                              go_wp2_with fail
                              go_roundw
                              case rel => exact ⟨j + 1, by omega, by go_num, HN, HBE⟩
                              case measure => simp [intOf]; omega
                          · have gj : decide ((j : Int) < (k2 : Int)) = false := decide_eq_false (by omega)
                            have S9 := Lib.hid (S5.out (fun i hi => hxj.out i (by omega) (by omega)))
                            have HBH := Lib.hid (below_seq HBG.out hbj.out)
                            go_wp2_with fail
                            go_roundw
                            case rel => exact ⟨k2 + 1, by omega, by go_num, S9, HBH⟩
                            case measure => simp [intOf]; omega
                      · have hk1 : k2 - 1 < ents.length := by omega
                        obtain ⟨y5, y6, y7, y8, y9⟩ := HE.out.2.2.1 (k2 - 1) hk1
                        have q0 := cell_regrown (cell_under y5 HBQ.out)
                        have q1 := cell_regrown (cell_under y6 HBQ.out)
                        have q2 := cell_regrown (cell_under y7 HBQ.out)
                        have q3 := cell_regrown (cell_under y8 HBQ.out)
                        have q4 := cell_regrown (cell_under y9 HBQ.out)
                        clear y5 y6 y7 y8 y9
                        have S5 := Lib.hid (fun (hc : Mo.cmpE ents[k2 - 1] ⟨ei, et, el', ec', eu⟩ < 0) h3 => S4.out rfl (fun _ _ => hc) h3)
                        have S6 := Lib.hid (S2.out (by omega) hk1)
                        have CM1 := Lib.hid (fun u => CM.out ents[k2 - 1] u)
                        generalize ents[k2 - 1] = d at q0 q1 q2 q3 q4 S5 S6 CM1
                        obtain ⟨di, dt, dl, dc, du⟩ := d
                        simp only at q0 q1 q2 q3 q4
                        obtain ⟨cc, hcc⟩ : ∃ c, Mo.cmpE ⟨di, dt, dl, dc, du⟩ ⟨ei, et, el', ec', eu⟩ = c := ⟨_, rfl⟩
                        rw [hcc] at S5 S6 CM1
                        clear hcc
                        have gk : (0 : Int) < (k2 : Int) := by omega
                        have gk1 : 0 < k2 := by omega
                        have gk3 : decide ((0 : Int) < (k2 : Int)) = true := decide_eq_true gk
                        have j1 : IntKind.i64.wrap ((k2 : Int) - 1) = ((k2 - 1 : Nat) : Int) := by rw [IntWalk.i64_in _ (by omega)]; omega
                        have j2 : ((k2 - 1 : Nat) : Int) < (el : Int) := by omega
                        have j3 : (0 : Int) ≤ ((k2 - 1 : Nat) : Int) := by omega
                        generalize k2 - 1 = kp at q0 q1 q2 q3 q4 j1 j2 j3
                        have cM := re_call CM1.out HBQ.out
                        clear hk0
                        by_cases hc0 : 0 ≤ cc
                        · have gc : decide (0 ≤ cc) = true := decide_eq_true hc0
                          refine wp_region_quiet_below (by kernel_rfl) (by kernel_rfl) ?_
                          repeat (first | go_big_quiet_step (fail) | quiet_step (exact cE _ _) | quiet_step (exact cM _ _) | quiet_step (fail))
                          refine wpQuiet_nil ?_
                          intro _ hw'
                          obtain ⟨⟨dq, osq⟩, hw''⟩ := hw'
                          subst hw''
                          have HV : Hid (Mo.okF ⟨path, i, t, l, u, ents⟩ = false) := HOK.out.trans (by rw [← HOB.out]; exact S6.out (by omega))
                          have HBF := Lib.hid (below_seq HBQ.out (below_regrown _ dq osq))
                          go_wp2_with fail
                          go_ret
                          exact ⟨by rw [HV.out]; rfl, HBF.out⟩
                        · have gc : decide (0 ≤ cc) = false := decide_eq_false hc0
                          replace S5 := Lib.hid (S5.out (by omega))
                          refine wp_region_quiet_below (by kernel_rfl) (by kernel_rfl) ?_
                          repeat (first | go_big_quiet_step (fail) | quiet_step (exact cE _ _) | quiet_step (exact cM _ _) | quiet_step (fail))
                          refine wpQuiet_nil ?_
                          intro _ hw'
                          obtain ⟨⟨dq, osq⟩, hw''⟩ := hw'
                          subst hw''
                          have HBF := Lib.hid (below_seq HBQ.out (below_regrown _ dq osq))
                          have HBG := Lib.hid (below_seq hbq.out (below_regrown _ dq osq))
                          have z5q := cell_under x5 (below_regrown _ dq osq)
                          have z0q := cell_under y0 (below_regrown _ dq osq)
                          clear r0 r1 r2 r3 r4 r5 cE
                          clear x5 y0 y1 y2 y3 y4 gk gk1 gk3
                          go_wp2_with fail
                          generalize Sort.grow (redrawn _ dq) osq = wE at HBF HBG z5q z0q ⊢
                          go_loopw [5] (fun x wj => ∃ j : Nat, j ≤ k2 ∧ x = .int .i64 j ∧ Hid (∀ (i : Nat) (hi : i < j) (hl : i < ents.length), (ents[i].id.toList == ei.toList) = false) ∧ Hid (Below wE.heap.size wE wj)) (fun x _ => k2 - (intOf x).toNat)
                          case atStart => exact ⟨0, Nat.zero_le _, rfl, Lib.hid (fun i hi _ => absurd hi (Nat.not_lt_zero i)), Lib.hid (Below.refl _ _)⟩
                          case round =>
                            obtain ⟨j, hj, rfl, hxj, hbj⟩ := hrel
                            have x5j := cell_under z5q hbj.out
                            have y0j := cell_under z0q hbj.out
                            have HBJ := Lib.hid (below_seq HBF.out hbj.out)
                            by_cases hjk : j < k2
                            · have hjl : j < ents.length := by omega
                              have v0 := cell_under (HE.out.2.2.1 j hjl).1 HBJ.out
                              have m0 : (0 : Int) ≤ (j : Int) := by omega
                              have m1 : (j : Int) < (k2 : Int) := by omega
                              have m2 : (j : Int) < (el : Int) := by omega
                              have S7 := Lib.hid (S3.out j hjk)
                              have S8 := Lib.hid (fun (hh : (ents[j].id.toList == ei.toList) = false) => next_all ents ei hxj.out hjl hh)
                              generalize ents[j].id = ij at v0 S7 S8
                              have HBD := Lib.hid (fun n => below_seq HBJ.out (below_drewN _ n))
                              have HBX := Lib.hid (fun n => below_seq hbj.out (below_drewN _ n))
                              obtain hq | hq : (ij.toList == ei.toList) = true ∨ (ij.toList == ei.toList) = false := by cases (ij.toList == ei.toList) <;> simp
                              · have HV : Hid (Mo.okF ⟨path, i, t, l, u, ents⟩ = false) := HOK.out.trans (by rw [← HOB.out]; exact S7.out hq)
                                go_wp2_with fail
                                go_quiet (fail)
                                have HBE := Lib.hid (HBD.out nq)
                                go_wp2_with fail
                                go_ret
                                exact ⟨by rw [HV.out]; rfl, HBE.out⟩
                              · have HN := Lib.hid (S8.out hq)
                                go_wp2_with fail
                                go_quiet (fail)
                                have HBE := Lib.hid (HBX.out nq)
                                go_wp2_with fail
                                go_roundw
                                case rel => exact ⟨j + 1, by omega, by go_num, HN, HBE⟩
                                case measure => simp [intOf]; omega
                            · have gj : decide ((j : Int) < (k2 : Int)) = false := decide_eq_false (by omega)
                              have S9 := Lib.hid (S5.out (fun i hi => hxj.out i (by omega) (by omega)))
                              have HBH := Lib.hid (below_seq HBG.out hbj.out)
                              go_wp2_with fail
                              go_roundw
                              case rel => exact ⟨k2 + 1, by omega, by go_num, S9, HBH⟩
                              case measure => simp [intOf]; omega
                  · have gl2 : decide ((k2 : Int) < (el : Int)) = false := decide_eq_false (by omega)
                    have HV : Hid (Mo.okF ⟨path, i, t, l, u, ents⟩ = true) := HOK.out.trans (by
                      rw [← HOB.out]
                      unfold Mo.ordB
                      rw [HE.out.1, show el = k2 by omega]
                      exact hx.out)
                    go_wp2_with fail
                    go_ret
                    exact ⟨by rw [HV.out]; rfl, HBQ.out⟩
end Go.Proofs.YtbodoncomeegpaaGreatDoor.Mw
