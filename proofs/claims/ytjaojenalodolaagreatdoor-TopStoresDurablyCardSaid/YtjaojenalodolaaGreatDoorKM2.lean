/- Parts of this proof, joined: MoW5, MoW6, MoW7, MoW8. -/
import Derived.Test.YtjaojenalodolaaGreatDoorKM1
import Derived.Lib.QuietBelow
import Derived.Test.YtjaojenalodolaaGreatDoorKA
/- The reference's CheckFeed (feedvaultref13), walked. -/
namespace Go.Proofs.YtjaojenalodolaaGreatDoor.Mw
open Go Go.RowKit Go.Proofs.YtjaojenalodolaaGreatDoor Go.Proofs.YtjaojenalodolaaGreatDoor.Rw
set_option linter.unusedVariables false
set_option maxRecDepth 100000
set_option maxHeartbeats 16000000
def okP (p : ByteArray) : Bool := Mo.neS p && Mo.okS p
theorem all_take {l : List ByteArray} {k : Nat} (hk : k < l.length) (h : (l.take k).all okP = true) (h2 : okP l[k] = true) : (l.take (k + 1)).all okP = true := by
  rw [List.take_add_one, List.getElem?_eq_getElem hk, List.all_append, h]
  simpa using h2
theorem all_bad {l : List ByteArray} {k : Nat} (hk : k < l.length) (h2 : okP l[k] = false) : l.all okP = false := by
  rw [List.all_eq_false]
  exact ⟨_, List.getElem_mem hk, by rw [h2]; decide⟩
section
variable {l : List Mo.En} {k : Nat}
def prevOk (l : List Mo.En) (k : Nat) (e : Mo.En) : Prop := 0 < k → ∀ (h : k - 1 < l.length), Mo.cmpE l[k - 1] e < 0
theorem step_bad1 (hk : k < l.length) (h : Mo.okE l[k] = false) : Mo.ordB Mo.okE Mo.cmpE (·.id) l = false :=
  Mo.ordB_false _ _ _ hk (by unfold Mo.stepB; rw [List.getElem?_eq_getElem hk]; simp only [h, Bool.false_and])
theorem step_bad2 (hk : k < l.length) (h0 : 0 < k) (h1 : k - 1 < l.length) (h : ¬ Mo.cmpE l[k - 1] l[k] < 0) : Mo.ordB Mo.okE Mo.cmpE (·.id) l = false :=
  Mo.ordB_false _ _ _ hk (by
    unfold Mo.stepB
    rw [List.getElem?_eq_getElem hk]
    simp only [if_neg (by omega : ¬ k = 0), List.getElem?_eq_getElem h1, decide_eq_false h, Bool.and_false, Bool.false_and])
theorem step_bad3 (hk : k < l.length) {j : Nat} (hj : j < k) (h : (l[j].id.toList == l[k].id.toList) = true) : Mo.ordB Mo.okE Mo.cmpE (·.id) l = false :=
  Mo.ordB_false _ _ _ hk (by
    unfold Mo.stepB
    rw [List.getElem?_eq_getElem hk]
    have : ((l.take k).any fun y => (y.id.toList == l[k].id.toList)) = true := by
      rw [List.any_eq_true]
      exact ⟨l[j], by rw [List.mem_take_iff_getElem]; exact ⟨j, by omega, rfl⟩, h⟩
    simp only [this, Bool.not_true, Bool.and_false])
theorem step_good (hk : k < l.length) (ho : Mo.ordK Mo.okE Mo.cmpE (·.id) l k = true) (h1 : Mo.okE l[k] = true) (h2 : ∀ (h0 : 0 < k) (h : k - 1 < l.length), Mo.cmpE l[k - 1] l[k] < 0) (h3 : ∀ j (hj : j < k), (l[j].id.toList == l[k].id.toList) = false) : Mo.ordK Mo.okE Mo.cmpE (·.id) l (k + 1) = true := by
  show (Mo.ordK Mo.okE Mo.cmpE (·.id) l k && Mo.stepB Mo.okE Mo.cmpE (·.id) l k) = true
  rw [ho, Bool.true_and]
  unfold Mo.stepB
  rw [List.getElem?_eq_getElem hk]
  have ha : ((l.take k).any fun y => (y.id.toList == l[k].id.toList)) = false := by
    rw [List.any_eq_false]
    intro y hy
    rw [List.mem_take_iff_getElem] at hy
    obtain ⟨j, hj, rfl⟩ := hy
    rw [h3 j (by omega)]
    decide
  simp only [h1, ha, Bool.true_and, Bool.not_false, Bool.and_true]
  by_cases h0 : k = 0
  · simp [h0]
  · simp only [if_neg h0, List.getElem?_eq_getElem (by omega : k - 1 < l.length)]
    exact decide_eq_true (h2 (by omega) (by omega))
end
theorem below_drewN (w : World) (n : Nat) : Below w.heap.size w (w.drewN n) := ⟨rfl, rfl, rfl, Nat.le_refl _, fun _ _ => rfl⟩
theorem next_all (l : List Mo.En) (x : ByteArray) {j : Nat} (h : ∀ (i : Nat) (hi : i < j) (hl : i < l.length), (l[i].id.toList == x.toList) = false) (hj : j < l.length) (h2 : (l[j].id.toList == x.toList) = false) :
    ∀ (i : Nat) (hi : i < j + 1) (hl : i < l.length), (l[i].id.toList == x.toList) = false := by
  intro i hi hl
  by_cases e : i = j
  · subst e; exact h2
  · exact h i (by omega) hl
theorem re_call {P : Program} {f : FuncId} {args : Array Value} {v : Value} {n : Nat} {W w : World} (h : ∀ u, Calls P f args u fun e w' => e = .returned v ∧ Below u.heap.size u w') (_ : Below n W w) :
    ∀ d os, Calls P f args (Sort.grow (redrawn w d) os) fun e w'' => e = .returned v ∧ ∃ p : Regrown, w'' = Sort.grow (redrawn w p.d) p.os := fun d os => Calls.regrown_of (h _)
theorem okF_is (f : Mo.Fd) : Mo.okF f = (decide (f.path.length ≤ 64) && f.path.all okP && !f.id.toList.isEmpty && Mo.inT f.upd && Mo.okS f.id && Mo.okS f.title && Mo.okS f.link && Mo.ordB Mo.okE Mo.cmpE (·.id) f.ents) := rfl
theorem rcheckF_is (f : Mo.Fd) (vp ve : Value) (W : World) (hp : Rw W vp 1 (f.path.map sCell)) (he : Rw W ve 5 (f.ents.map eCells)) (hb : FdB f) :
    Calls Tryz.prog 16 #[.agg (fCells f vp ve).toArray] W fun x w' => x = .returned (.int .i64 (e22 (Mo.okF f))) ∧ Below W.heap.size W w' := by
  have HOK := Lib.hid (okF_is f)
  obtain ⟨path, i, t, l, u, ents⟩ := f
  obtain ⟨z1, z2, z3, z4, z5, z6, z7, -⟩ := hb
  simp only at z1 z2 z3 z4 z5 z6 z7 hp he HOK
  obtain ⟨pg, po, pa, pc, rfl, hpa, hpath⟩ := path_at hp
  obtain ⟨eg, eo, ea, ec, rfl, hea, hents⟩ := ents_at he
  obtain ⟨pl, hpl⟩ : ∃ pl, path.length = pl := ⟨_, rfl⟩
  obtain ⟨el, hel⟩ : ∃ el, ents.length = el := ⟨_, rfl⟩
  rw [hpl] at z4 hpa HOK
  rw [hel] at z6 hea
  obtain ⟨x0, x1, x2, x3, x4, x5⟩ := cells6 (w := W) (x0 := .slice pa pl pc) (x1 := .string i) (x2 := .string t) (x3 := .string l) (x4 := .int .i64 u) (x5 := .slice ea el ec) (t := 49)
  have HB0 := Lib.hid ((Below.refl W.heap.size W).alloc (Nat.le_refl _) (.cells #[.slice pa pl pc, .string i, .string t, .string l, .int .i64 u, .slice ea el ec] 49))
  obtain ⟨b1, h1⟩ : ∃ b, Mo.okS i = b := ⟨_, rfl⟩
  obtain ⟨b2, h2⟩ : ∃ b, Mo.okS t = b := ⟨_, rfl⟩
  obtain ⟨b3, h3⟩ : ∃ b, Mo.okS l = b := ⟨_, rfl⟩
  obtain ⟨b5, h5⟩ : ∃ b, i.toList.isEmpty = b := ⟨_, rfl⟩
  obtain ⟨b6, h6⟩ : ∃ b, Mo.inT u = b := ⟨_, rfl⟩
  obtain ⟨PA, hPA⟩ : ∃ b, path.all okP = b := ⟨_, rfl⟩
  obtain ⟨OB, hOB⟩ : ∃ b, Mo.ordB Mo.okE Mo.cmpE (·.id) ents = b := ⟨_, rfl⟩
  rw [h1, h2, h3, h5, h6, hPA, hOB] at HOK
  have C1 := Lib.hid (fun u => rok_is i u z1)
  have C2 := Lib.hid (fun u => rok_is t u z2)
  have C3 := Lib.hid (fun u => rok_is l u z3)
  have C6 := Lib.hid (fun w => rinTime_is u w)
  rw [h1] at C1
  rw [h2] at C2
  rw [h3] at C3
  rw [h6] at C6
  have HP := Lib.hid (And.intro hpl (And.intro hpa (And.intro hpath z5)))
  have HE := Lib.hid (And.intro hel (And.intro hea (And.intro hents z7)))
  have HPA := Lib.hid hPA
  have HOB := Lib.hid hOB
  show Calls Tryz.prog 16 #[.agg #[.slice pa path.length pc, .string i, .string t, .string l, .int .i64 u, .slice ea ents.length ec]] W _
  rw [hpl, hel]
  clear h1 h2 h3 h6 hPA hOB hpl hel hpa hpath hea hents z1 z2 z3 z5 z7 hp he
  by_cases h64 : 64 < pl
  · have g64 : (64 : Int) < (pl : Int) := by omega
    have HV : Hid (Mo.okF ⟨path, i, t, l, u, ents⟩ = false) := HOK.out.trans (by rw [decide_eq_false (by omega : ¬ pl ≤ 64)]; simp)
    go_enter Tryz.func16, Tryz.ntmps16
    go_wp2_with fail
    go_ret
    exact ⟨by rw [HV.out]; rfl, HB0.out⟩
  have g64 : ¬ (64 : Int) < (pl : Int) := by omega
  rw [decide_eq_true (by omega : pl ≤ 64)] at HOK
  go_enter Tryz.func16, Tryz.ntmps16
  go_wp2_with fail
  refine (C1.out _).mono ?_
  rintro e w1 ⟨rfl, hb⟩
  have HB1 := Lib.hid (below_seq HB0.out hb)
  replace x0 := cell_under x0 hb
  replace x1 := cell_under x1 hb
  replace x2 := cell_under x2 hb
  replace x3 := cell_under x3 hb
  replace x4 := cell_under x4 hb
  replace x5 := cell_under x5 hb
  clear hb
  cases b1 with
  | false =>
    have HV : Hid (Mo.okF ⟨path, i, t, l, u, ents⟩ = false) := HOK.out.trans (by simp)
    go_wp2_with fail
    go_ret
    exact ⟨by rw [HV.out]; rfl, HB1.out⟩
  | true =>
    go_wp2_with fail
    refine (C2.out _).mono ?_
    rintro e w2 ⟨rfl, hb⟩
    have HB2 := Lib.hid (below_seq HB1.out hb)
    replace x0 := cell_under x0 hb
    replace x1 := cell_under x1 hb
    replace x2 := cell_under x2 hb
    replace x3 := cell_under x3 hb
    replace x4 := cell_under x4 hb
    replace x5 := cell_under x5 hb
    clear hb
    cases b2 with
    | false =>
      have HV : Hid (Mo.okF ⟨path, i, t, l, u, ents⟩ = false) := HOK.out.trans (by simp)
      go_wp2_with fail
      go_ret
      exact ⟨by rw [HV.out]; rfl, HB2.out⟩
    | true =>
      go_wp2_with fail
      refine (C3.out _).mono ?_
      rintro e w3 ⟨rfl, hb⟩
      have HB3 := Lib.hid (below_seq HB2.out hb)
      replace x0 := cell_under x0 hb
      replace x1 := cell_under x1 hb
      replace x2 := cell_under x2 hb
      replace x3 := cell_under x3 hb
      replace x4 := cell_under x4 hb
      replace x5 := cell_under x5 hb
      clear hb
      cases b3 with
      | false =>
        have HV : Hid (Mo.okF ⟨path, i, t, l, u, ents⟩ = false) := HOK.out.trans (by simp)
        go_wp2_with fail
        go_ret
        exact ⟨by rw [HV.out]; rfl, HB3.out⟩
      | true =>
        cases b5 with
        | true =>
          have HV : Hid (Mo.okF ⟨path, i, t, l, u, ents⟩ = false) := HOK.out.trans (by simp)
          go_wp2_with fail
          go_ret
          exact ⟨by rw [HV.out]; rfl, HB3.out⟩
        | false =>
          go_wp2_with fail
          refine (C6.out _).mono ?_
          rintro e w6 ⟨rfl, rfl⟩
          cases b6 with
          | false =>
            have HV : Hid (Mo.okF ⟨path, i, t, l, u, ents⟩ = false) := HOK.out.trans (by simp)
            go_wp2_with fail
            go_ret
            exact ⟨by rw [HV.out]; rfl, HB3.out⟩
          | true =>
            replace HOK : Hid (Mo.okF ⟨path, i, t, l, u, ents⟩ = (PA && OB)) := HOK.out.trans (by simp)
            clear C1 C2 C3 C6 h5 x1 x2 x3 x4 HB0 HB1 HB2
            go_wp2_with fail
            go_loopw [3] (fun x wr => ∃ k : Nat, k ≤ pl ∧ x = .int .i64 k ∧ Hid ((path.take k).all okP = true) ∧ Hid (Below w6.heap.size w6 wr)) (fun x _ => pl - (intOf x).toNat)
            case atStart => exact ⟨0, Nat.zero_le _, rfl, rfl, Below.refl _ _⟩
            case round =>
              obtain ⟨k, hk, rfl, hx, hbr⟩ := hrel
              replace x0 := cell_under x0 hbr.out
              have HX5 := Lib.hid (cell_under x5 hbr.out)
              have HBR := Lib.hid (below_seq HB3.out hbr.out)
              clear x5
              by_cases hlt : k < pl
              · obtain rfl := HP.out.2.1 (by omega)
                have hkl : k < path.length := by rw [HP.out.1]; exact hlt
                have y0 := cell_under (HP.out.2.2.1 k hkl) HBR.out
                have hz := HP.out.2.2.2 _ (List.getElem_mem hkl)
                have HT := Lib.hid (all_take hkl hx.out)
                have HF := Lib.hid (all_bad hkl)
                generalize path[k] = p at y0 hz HT HF
                have i1 : (k : Int) < (pl : Int) := by omega
                obtain ⟨b7, h7⟩ : ∃ b, p.toList.isEmpty = b := ⟨_, rfl⟩
                obtain ⟨b8, h8⟩ : ∃ b, Mo.okS p = b := ⟨_, rfl⟩
                have hok : okP p = (!b7 && b8) := by unfold okP Mo.neS; rw [h7, h8]
                rw [hok] at HT HF
                have C8 := Lib.hid (fun u => rok_is p u hz)
                rw [h8] at C8
                clear hok h8 hz
                cases b7 with
                | true =>
                  have HV : Hid (Mo.okF ⟨path, i, t, l, u, ents⟩ = false) := HOK.out.trans (by rw [← HPA.out, HF.out (by simp)]; simp)
                  go_wp2_with fail
                  go_ret
                  exact ⟨by rw [HV.out]; rfl, HBR.out⟩
                | false =>
                  go_wp2_with fail
                  refine (C8.out _).mono ?_
                  rintro e w8 ⟨rfl, hb8⟩
                  replace x0 := cell_under x0 hb8
                  have HB8 := Lib.hid (below_seq hbr.out hb8)
                  have HB9 := Lib.hid (below_seq HBR.out hb8)
                  clear hb8 hbr hx
                  cases b8 with
                  | false =>
                    have HV : Hid (Mo.okF ⟨path, i, t, l, u, ents⟩ = false) := HOK.out.trans (by rw [← HPA.out, HF.out (by simp)]; simp)
                    go_wp2_with fail
                    go_ret
                    exact ⟨by rw [HV.out]; rfl, HB9.out⟩
                  | true =>
                    go_wp2_with fail
                    go_roundw
                    case rel => exact ⟨k + 1, by omega, by go_num, HT.out (by simp), HB8.out⟩
                    case measure => simp [intOf]; omega
              · have gl : decide ((k : Int) < (pl : Int)) = false := decide_eq_false (by omega)
                have hpt : PA = true := by
                  rw [← HPA.out]
                  have h1 := hx.out
                  rw [List.take_of_length_le (by rw [HP.out.1]; omega)] at h1
                  exact h1
                rw [hpt] at HOK
                replace HOK : Hid (Mo.okF ⟨path, i, t, l, u, ents⟩ = OB) := HOK.out.trans (by simp)
                clear hx hpt hbr HP HPA
                go_wp2_with fail
                clear x0
                generalize wr = wA at HX5 HBR ⊢
                go_loopw [4] (fun x wq => ∃ k2 : Nat, k2 ≤ el ∧ x = .int .i64 k2 ∧ Hid (Mo.ordK Mo.okE Mo.cmpE (·.id) ents k2 = true) ∧ Hid (Below wA.heap.size wA wq)) (fun x _ => el - (intOf x).toNat)
                case atStart => exact ⟨0, Nat.zero_le _, rfl, rfl, Below.refl _ _⟩
                case round =>
                  obtain ⟨k2, hk2, rfl, hx, hbq⟩ := hrel
                  have x5 := cell_under HX5.out hbq.out
                  have HBQ := Lib.hid (below_seq HBR.out hbq.out)
                  by_cases hlt2 : k2 < el
                  · obtain rfl := HE.out.2.1 (by omega)
                    have hkl : k2 < ents.length := by rw [HE.out.1]; exact hlt2
                    obtain ⟨y0, y1, y2, y3, y4⟩ := HE.out.2.2.1 k2 hkl
                    replace y0 := cell_under y0 HBQ.out
                    replace y1 := cell_under y1 HBQ.out
                    replace y2 := cell_under y2 HBQ.out
                    replace y3 := cell_under y3 HBQ.out
                    replace y4 := cell_under y4 HBQ.out
                    have i1 : (k2 : Int) < (el : Int) := by omega
                    have i0 : (0 : Int) ≤ (k2 : Int) := by omega
                    have S1 := Lib.hid (step_bad1 hkl)
                    have S2 := Lib.hid (step_bad2 hkl)
                    have S3 := Lib.hid (fun (j : Nat) (hj : j < k2) => step_bad3 hkl hj)
                    have S4 := Lib.hid (step_good hkl hx.out)
                    have HZE := HE.out.2.2.2 _ (List.getElem_mem hkl)
                    generalize ents[k2] = e at y0 y1 y2 y3 y4 S1 S2 S3 S4 HZE
                    obtain ⟨bE, hbE⟩ : ∃ b, Mo.okE e = b := ⟨_, rfl⟩
                    have CE := Lib.hid (fun u => rcheckE_is e u HZE)
                    rw [hbE] at CE S1 S4
                    have CM := Lib.hid (fun d u => rcmpE_is d e u)
                    obtain ⟨ei, et, el', ec', eu⟩ := e
                    simp only at y0 y1 y2 y3 y4
                    clear hbE hx HZE
                    go_wp2_with fail
                    have r5 := cell_regrown x5
                    have r0 := cell_regrown y0
                    have r1 := cell_regrown y1
                    have r2 := cell_regrown y2
                    have r3 := cell_regrown y3
                    have r4 := cell_regrown y4
                    cases bE with
                    | false =>
                      rw [show e22 false = 22 from rfl] at CE
                      have cE := re_call CE.out HBQ.out
                      refine wp_region_quiet_below (by kernel_rfl) (by kernel_rfl) ?_
                      repeat (first | go_big_quiet_step (fail) | quiet_step (exact cE _ _) | quiet_step (fail))
                      refine wpQuiet_nil ?_
                      intro _ hw'
                      obtain ⟨⟨dq, osq⟩, hw''⟩ := hw'
                      subst hw''
                      have HV : Hid (Mo.okF ⟨path, i, t, l, u, ents⟩ = false) := HOK.out.trans (by rw [← HOB.out]; exact S1.out rfl)
                      have HBF := Lib.hid (below_seq HBQ.out (below_regrown _ dq osq))
                      go_wp2_with fail
                      go_ret
                      exact ⟨by rw [HV.out]; rfl, HBF.out⟩
                    | true =>
                      rw [show e22 true = 0 from rfl] at CE
                      have cE := re_call CE.out HBQ.out
                      by_cases hk0 : k2 = 0
                      · have gk : ¬ (0 : Int) < (k2 : Int) := by omega
                        have gk1 : ¬ 0 < k2 := by omega
                        have gk3 : decide ((0 : Int) < (k2 : Int)) = false := decide_eq_false gk
                        have HK0 := Lib.hid hk0
                        clear hk0
                        refine wp_region_quiet_below (by kernel_rfl) (by kernel_rfl) ?_
                        repeat (first | go_big_quiet_step (fail) | quiet_step (exact cE _ _) | quiet_step (fail))
                        refine wpQuiet_nil ?_
                        intro _ hw'
                        obtain ⟨⟨dq, osq⟩, hw''⟩ := hw'
                        subst hw''
                        have S5 := Lib.hid (fun h3 => S4.out rfl (fun h0 => absurd HK0.out (by omega)) h3)
                        have HBF := Lib.hid (below_seq HBQ.out (below_regrown _ dq osq))
                        have HBG := Lib.hid (below_seq hbq.out (below_regrown _ dq osq))
                        have z5q := cell_under x5 (below_regrown _ dq osq)
                        have z0q := cell_under y0 (below_regrown _ dq osq)
                        clear r0 r1 r2 r3 r4 r5 cE
                        clear x5 y0 y1 y2 y3 y4 gk gk1 gk3
                        go_wp2_with fail
                        generalize Sort.grow (redrawn _ dq) osq = wE at HBF HBG z5q z0q ⊢
                        go_loopw [5] (fun x wj => ∃ j : Nat, j ≤ k2 ∧ x = .int .i64 j ∧ Hid (∀ (i : Nat) (hi : i < j) (hl : i < ents.length), (ents[i].id.toList == ei.toList) = false) ∧ Hid (Below wE.heap.size wE wj)) (fun x _ => k2 - (intOf x).toNat)
                        case atStart => exact ⟨0, Nat.zero_le _, rfl, Lib.hid (fun i hi _ => absurd hi (Nat.not_lt_zero i)), Lib.hid (Below.refl _ _)⟩
                        case round =>
                          obtain ⟨j, hj, rfl, hxj, hbj⟩ := hrel
                          have x5j := cell_under z5q hbj.out
                          have y0j := cell_under z0q hbj.out
                          have HBJ := Lib.hid (below_seq HBF.out hbj.out)
                          by_cases hjk : j < k2
                          · have hjl : j < ents.length := by omega
                            have v0 := cell_under (HE.out.2.2.1 j hjl).1 HBJ.out
                            have m0 : (0 : Int) ≤ (j : Int) := by omega
                            have m1 : (j : Int) < (k2 : Int) := by omega
                            have m2 : (j : Int) < (el : Int) := by omega
                            have S7 := Lib.hid (S3.out j hjk)
                            have S8 := Lib.hid (fun (hh : (ents[j].id.toList == ei.toList) = false) => next_all ents ei hxj.out hjl hh)
                            generalize ents[j].id = ij at v0 S7 S8
                            have HBD := Lib.hid (fun n => below_seq HBJ.out (below_drewN _ n))
                            have HBX := Lib.hid (fun n => below_seq hbj.out (below_drewN _ n))
                            obtain hq | hq : (ij.toList == ei.toList) = true ∨ (ij.toList == ei.toList) = false := by cases (ij.toList == ei.toList) <;> simp
                            · have HV : Hid (Mo.okF ⟨path, i, t, l, u, ents⟩ = false) := HOK.out.trans (by rw [← HOB.out]; exact S7.out hq)
                              go_wp2_with fail
                              go_quiet (fail)
                              have HBE := Lib.hid (HBD.out nq)
                              go_wp2_with fail
                              go_ret
                              exact ⟨by rw [HV.out]; rfl, HBE.out⟩
                            · have HN := Lib.hid (S8.out hq)
                              go_wp2_with fail
                              go_quiet (fail)
                              have HBE := Lib.hid (HBX.out nq)
                              go_wp2_with fail
                              go_roundw
                              case rel => exact ⟨j + 1, by omega, by go_num, HN, HBE⟩
                              case measure => simp [intOf]; omega
                          · have gj : decide ((j : Int) < (k2 : Int)) = false := decide_eq_false (by omega)
                            have S9 := Lib.hid (S5.out (fun i hi => hxj.out i (by omega) (by omega)))
                            have HBH := Lib.hid (below_seq HBG.out hbj.out)
                            go_wp2_with fail
                            go_roundw
                            case rel => exact ⟨k2 + 1, by omega, by go_num, S9, HBH⟩
                            case measure => simp [intOf]; omega
                      · have hk1 : k2 - 1 < ents.length := by omega
                        obtain ⟨y5, y6, y7, y8, y9⟩ := HE.out.2.2.1 (k2 - 1) hk1
                        have q0 := cell_regrown (cell_under y5 HBQ.out)
                        have q1 := cell_regrown (cell_under y6 HBQ.out)
                        have q2 := cell_regrown (cell_under y7 HBQ.out)
                        have q3 := cell_regrown (cell_under y8 HBQ.out)
                        have q4 := cell_regrown (cell_under y9 HBQ.out)
                        clear y5 y6 y7 y8 y9
                        have S5 := Lib.hid (fun (hc : Mo.cmpE ents[k2 - 1] ⟨ei, et, el', ec', eu⟩ < 0) h3 => S4.out rfl (fun _ _ => hc) h3)
                        have S6 := Lib.hid (S2.out (by omega) hk1)
                        have CM1 := Lib.hid (fun u => CM.out ents[k2 - 1] u)
                        generalize ents[k2 - 1] = d at q0 q1 q2 q3 q4 S5 S6 CM1
                        obtain ⟨di, dt, dl, dc, du⟩ := d
                        simp only at q0 q1 q2 q3 q4
                        obtain ⟨cc, hcc⟩ : ∃ c, Mo.cmpE ⟨di, dt, dl, dc, du⟩ ⟨ei, et, el', ec', eu⟩ = c := ⟨_, rfl⟩
                        rw [hcc] at S5 S6 CM1
                        clear hcc
                        have gk : (0 : Int) < (k2 : Int) := by omega
                        have gk1 : 0 < k2 := by omega
                        have gk3 : decide ((0 : Int) < (k2 : Int)) = true := decide_eq_true gk
                        have j1 : IntKind.i64.wrap ((k2 : Int) - 1) = ((k2 - 1 : Nat) : Int) := by rw [IntWalk.i64_in _ (by omega)]; omega
                        have j2 : ((k2 - 1 : Nat) : Int) < (el : Int) := by omega
                        have j3 : (0 : Int) ≤ ((k2 - 1 : Nat) : Int) := by omega
                        generalize k2 - 1 = kp at q0 q1 q2 q3 q4 j1 j2 j3
                        have cM := re_call CM1.out HBQ.out
                        clear hk0
                        by_cases hc0 : 0 ≤ cc
                        · have gc : decide (0 ≤ cc) = true := decide_eq_true hc0
                          refine wp_region_quiet_below (by kernel_rfl) (by kernel_rfl) ?_
                          repeat (first | go_big_quiet_step (fail) | quiet_step (exact cE _ _) | quiet_step (exact cM _ _) | quiet_step (fail))
                          refine wpQuiet_nil ?_
                          intro _ hw'
                          obtain ⟨⟨dq, osq⟩, hw''⟩ := hw'
                          subst hw''
                          have HV : Hid (Mo.okF ⟨path, i, t, l, u, ents⟩ = false) := HOK.out.trans (by rw [← HOB.out]; exact S6.out (by omega))
                          have HBF := Lib.hid (below_seq HBQ.out (below_regrown _ dq osq))
                          go_wp2_with fail
                          go_ret
                          exact ⟨by rw [HV.out]; rfl, HBF.out⟩
                        · have gc : decide (0 ≤ cc) = false := decide_eq_false hc0
                          replace S5 := Lib.hid (S5.out (by omega))
                          refine wp_region_quiet_below (by kernel_rfl) (by kernel_rfl) ?_
                          repeat (first | go_big_quiet_step (fail) | quiet_step (exact cE _ _) | quiet_step (exact cM _ _) | quiet_step (fail))
                          refine wpQuiet_nil ?_
                          intro _ hw'
                          obtain ⟨⟨dq, osq⟩, hw''⟩ := hw'
                          subst hw''
                          have HBF := Lib.hid (below_seq HBQ.out (below_regrown _ dq osq))
                          have HBG := Lib.hid (below_seq hbq.out (below_regrown _ dq osq))
                          have z5q := cell_under x5 (below_regrown _ dq osq)
                          have z0q := cell_under y0 (below_regrown _ dq osq)
                          clear r0 r1 r2 r3 r4 r5 cE
                          clear x5 y0 y1 y2 y3 y4 gk gk1 gk3
                          go_wp2_with fail
                          generalize Sort.grow (redrawn _ dq) osq = wE at HBF HBG z5q z0q ⊢
                          go_loopw [5] (fun x wj => ∃ j : Nat, j ≤ k2 ∧ x = .int .i64 j ∧ Hid (∀ (i : Nat) (hi : i < j) (hl : i < ents.length), (ents[i].id.toList == ei.toList) = false) ∧ Hid (Below wE.heap.size wE wj)) (fun x _ => k2 - (intOf x).toNat)
                          case atStart => exact ⟨0, Nat.zero_le _, rfl, Lib.hid (fun i hi _ => absurd hi (Nat.not_lt_zero i)), Lib.hid (Below.refl _ _)⟩
                          case round =>
                            obtain ⟨j, hj, rfl, hxj, hbj⟩ := hrel
                            have x5j := cell_under z5q hbj.out
                            have y0j := cell_under z0q hbj.out
                            have HBJ := Lib.hid (below_seq HBF.out hbj.out)
                            by_cases hjk : j < k2
                            · have hjl : j < ents.length := by omega
                              have v0 := cell_under (HE.out.2.2.1 j hjl).1 HBJ.out
                              have m0 : (0 : Int) ≤ (j : Int) := by omega
                              have m1 : (j : Int) < (k2 : Int) := by omega
                              have m2 : (j : Int) < (el : Int) := by omega
                              have S7 := Lib.hid (S3.out j hjk)
                              have S8 := Lib.hid (fun (hh : (ents[j].id.toList == ei.toList) = false) => next_all ents ei hxj.out hjl hh)
                              generalize ents[j].id = ij at v0 S7 S8
                              have HBD := Lib.hid (fun n => below_seq HBJ.out (below_drewN _ n))
                              have HBX := Lib.hid (fun n => below_seq hbj.out (below_drewN _ n))
                              obtain hq | hq : (ij.toList == ei.toList) = true ∨ (ij.toList == ei.toList) = false := by cases (ij.toList == ei.toList) <;> simp
                              · have HV : Hid (Mo.okF ⟨path, i, t, l, u, ents⟩ = false) := HOK.out.trans (by rw [← HOB.out]; exact S7.out hq)
                                go_wp2_with fail
                                go_quiet (fail)
                                have HBE := Lib.hid (HBD.out nq)
                                go_wp2_with fail
                                go_ret
                                exact ⟨by rw [HV.out]; rfl, HBE.out⟩
                              · have HN := Lib.hid (S8.out hq)
                                go_wp2_with fail
                                go_quiet (fail)
                                have HBE := Lib.hid (HBX.out nq)
                                go_wp2_with fail
                                go_roundw
                                case rel => exact ⟨j + 1, by omega, by go_num, HN, HBE⟩
                                case measure => simp [intOf]; omega
                            · have gj : decide ((j : Int) < (k2 : Int)) = false := decide_eq_false (by omega)
                              have S9 := Lib.hid (S5.out (fun i hi => hxj.out i (by omega) (by omega)))
                              have HBH := Lib.hid (below_seq HBG.out hbj.out)
                              go_wp2_with fail
                              go_roundw
                              case rel => exact ⟨k2 + 1, by omega, by go_num, S9, HBH⟩
                              case measure => simp [intOf]; omega
                  · have gl2 : decide ((k2 : Int) < (el : Int)) = false := decide_eq_false (by omega)
                    have HV : Hid (Mo.okF ⟨path, i, t, l, u, ents⟩ = true) := HOK.out.trans (by
                      rw [← HOB.out]
                      unfold Mo.ordB
                      rw [HE.out.1, show el = k2 by omega]
                      exact hx.out)
                    go_wp2_with fail
                    go_ret
                    exact ⟨by rw [HV.out]; rfl, HBQ.out⟩
end Go.Proofs.YtjaojenalodolaaGreatDoor.Mw
/- The reference's Check (feedvaultref13), walked. Printed by genmow6.py. -/
namespace Go.Proofs.YtjaojenalodolaaGreatDoor.Mw
open Go Go.RowKit Go.Proofs.YtjaojenalodolaaGreatDoor Go.Proofs.YtjaojenalodolaaGreatDoor.Rw
set_option linter.unusedVariables false
set_option maxRecDepth 100000
set_option maxHeartbeats 16000000
section
variable {α : Type} {chk : α → Bool} {cmp : α → α → Int} {id : α → ByteArray} {l : List α} {k : Nat}
theorem gstep_bad1 (hk : k < l.length) (h : chk l[k] = false) : Mo.ordB chk cmp id l = false :=
  Mo.ordB_false _ _ _ hk (by unfold Mo.stepB; rw [List.getElem?_eq_getElem hk]; simp only [h, Bool.false_and])
theorem gstep_bad2 (hk : k < l.length) (h0 : 0 < k) (h1 : k - 1 < l.length) (h : ¬ cmp l[k - 1] l[k] < 0) : Mo.ordB chk cmp id l = false :=
  Mo.ordB_false _ _ _ hk (by
    unfold Mo.stepB
    rw [List.getElem?_eq_getElem hk]
    simp only [if_neg (by omega : ¬ k = 0), List.getElem?_eq_getElem h1, decide_eq_false h, Bool.and_false, Bool.false_and])
theorem gstep_bad3 (hk : k < l.length) {j : Nat} (hj : j < k) (h : ((id l[j]).toList == (id l[k]).toList) = true) : Mo.ordB chk cmp id l = false :=
  Mo.ordB_false _ _ _ hk (by
    unfold Mo.stepB
    rw [List.getElem?_eq_getElem hk]
    have : ((l.take k).any fun y => ((id y).toList == (id l[k]).toList)) = true := by
      rw [List.any_eq_true]
      exact ⟨l[j], by rw [List.mem_take_iff_getElem]; exact ⟨j, by omega, rfl⟩, h⟩
    simp only [this, Bool.not_true, Bool.and_false])
theorem gstep_good (hk : k < l.length) (ho : Mo.ordK chk cmp id l k = true) (h1 : chk l[k] = true) (h2 : ∀ (h0 : 0 < k) (h : k - 1 < l.length), cmp l[k - 1] l[k] < 0) (h3 : ∀ j (hj : j < k), ((id l[j]).toList == (id l[k]).toList) = false) : Mo.ordK chk cmp id l (k + 1) = true := by
  show (Mo.ordK chk cmp id l k && Mo.stepB chk cmp id l k) = true
  rw [ho, Bool.true_and]
  unfold Mo.stepB
  rw [List.getElem?_eq_getElem hk]
  have ha : ((l.take k).any fun y => ((id y).toList == (id l[k]).toList)) = false := by
    rw [List.any_eq_false]
    intro y hy
    rw [List.mem_take_iff_getElem] at hy
    obtain ⟨j, hj, rfl⟩ := hy
    rw [h3 j (by omega)]
    decide
  simp only [h1, ha, Bool.true_and, Bool.not_false, Bool.and_true]
  by_cases h0 : k = 0
  · simp [h0]
  · simp only [if_neg h0, List.getElem?_eq_getElem (by omega : k - 1 < l.length)]
    exact decide_eq_true (h2 (by omega) (by omega))
end
theorem next_allF (l : List Mo.Fd) (x : ByteArray) {j : Nat} (h : ∀ (i : Nat) (hi : i < j) (hl : i < l.length), (l[i].id.toList == x.toList) = false) (hj : j < l.length) (h2 : (l[j].id.toList == x.toList) = false) :
    ∀ (i : Nat) (hi : i < j + 1) (hl : i < l.length), (l[i].id.toList == x.toList) = false := by
  intro i hi hl
  by_cases e : i = j
  · subst e; exact h2
  · exact h i (by omega) hl
theorem feed_id {W w : World} {a : List Mo.Fd} {g off : Nat} (h : ∀ j (hj : j < a.length), ∃ vp ve, Rw W vp 1 (a[j].path.map sCell) ∧ Rw W ve 5 (a[j].ents.map eCells) ∧ W.cell? ⟨g, off + j * 6, none⟩ = some vp ∧ W.cell? ⟨g, off + j * 6 + 1, none⟩ = some (.string a[j].id) ∧ W.cell? ⟨g, off + j * 6 + 2, none⟩ = some (.string a[j].title) ∧ W.cell? ⟨g, off + j * 6 + 3, none⟩ = some (.string a[j].link) ∧ W.cell? ⟨g, off + j * 6 + 4, none⟩ = some (.int .i64 a[j].upd) ∧ W.cell? ⟨g, off + j * 6 + 5, none⟩ = some ve)
    {j : Nat} (hj : j < a.length) (hb : Below W.heap.size W w) : w.cell? ⟨g, off + j * 6 + 1, none⟩ = some (.string a[j].id) := by
  obtain ⟨_, _, _, _, _, h1, _⟩ := h j hj
  exact cell_under h1 hb
theorem re_callF {f : Mo.Fd} {vp ve : Value} {v : Bool} {w : World} (hp : Rw w vp 1 (f.path.map sCell)) (he : Rw w ve 5 (f.ents.map eCells)) (hb : FdB f) (hv : Mo.okF f = v) :
    ∀ d os, Calls Tryz.prog 16 #[.agg (fCells f vp ve).toArray] (Sort.grow (redrawn w d) os) fun e w'' => e = .returned (.int .i64 (e22 v)) ∧ ∃ p : Regrown, w'' = Sort.grow (redrawn w p.d) p.os := fun d os => by
  subst hv
  exact Calls.regrown_of (rcheckF_is f vp ve _ (hp.under (below_regrown w d os)) (he.under (below_regrown w d os)) hb)
theorem re_callC {f g : Mo.Fd} {vp ve vq vf : Value} {c : Int} {w : World} (hp : Rw w vp 1 (f.path.map sCell)) (hq : Rw w vq 1 (g.path.map sCell)) (he : ∃ a n c, ve = .slice a n c) (hf : ∃ a n c, vf = .slice a n c) (lp : f.path.length ≤ 8796093022208) (lq : g.path.length ≤ 8796093022208) (hc : Mo.cmpF f g = c) :
    ∀ d os, Calls Tryz.prog 17 #[.agg (fCells f vp ve).toArray, .agg (fCells g vq vf).toArray] (Sort.grow (redrawn w d) os) fun e w'' => e = .returned (.int .i64 c) ∧ ∃ p : Regrown, w'' = Sort.grow (redrawn w p.d) p.os := fun d os => by
  subst hc
  exact Calls.regrown_of (rcmpF_is f g vp ve vq vf _ (hp.under (below_regrown w d os)) (hq.under (below_regrown w d os)) he hf lp lq)
theorem rcheckA_is (W : World) (v : Value) (a : List Mo.Fd) (h : ArIs W v a) (hb : ArB a) :
    Calls Tryz.prog 6 #[.agg #[v]] W fun e w' => e = .returned (.int .i64 (e22 (Mo.okA a))) ∧ Below W.heap.size W w' := by
  obtain ⟨g, off, ad, cap, rfl, had, hfd⟩ := feeds_at h
  obtain ⟨m, hm⟩ : ∃ m, a.length = m := ⟨_, rfl⟩
  rw [hm] at had ⊢
  have hm2 : m ≤ 8796093022208 := by rw [← hm]; exact hb.len
  have HM := Lib.hid hm
  have HAD := Lib.hid had
  have HFD := Lib.hid hfd
  have HB := Lib.hid hb
  obtain ⟨OB, hOB⟩ : ∃ b, Mo.okA a = b := ⟨_, rfl⟩
  rw [hOB]
  have HOB := Lib.hid (show Mo.ordB Mo.okF Mo.cmpF (·.id) a = OB from hOB)
  have HB0 := Lib.hid ((Below.refl W.heap.size W).alloc (Nat.le_refl _) (.cells #[.slice ad m cap] 24))
  have x0 : (W.alloc (.cells #[.slice ad m cap] 24)).cell? ⟨W.heap.size, 0, none⟩ = some (.slice ad m cap) := by unfold World.cell?; simp only [heap_alloc_new]; rfl
  clear h had hfd hb hm hOB
  go_enter Tryz.func6, Tryz.ntmps6
  go_wp2_with fail
  generalize hwA : W.alloc (.cells #[.slice ad m cap] 24) = wA at HB0 x0 ⊢
  clear hwA
  go_loopw [3] (fun x wq => ∃ k2 : Nat, k2 ≤ m ∧ x = .int .i64 k2 ∧ Hid (Mo.ordK Mo.okF Mo.cmpF (·.id) a k2 = true) ∧ Hid (Below wA.heap.size wA wq)) (fun x _ => m - (intOf x).toNat)
  case atStart => exact ⟨0, Nat.zero_le _, rfl, rfl, Below.refl _ _⟩
  case round =>
    obtain ⟨k2, hk2, rfl, hx, hbq⟩ := hrel
    have x5 := cell_under x0 hbq.out
    have HBQ := Lib.hid (below_seq HB0.out hbq.out)
    by_cases hlt2 : k2 < m
    · obtain rfl := HAD.out (by omega)
      have hkl : k2 < a.length := by rw [HM.out]; exact hlt2
      obtain ⟨vp, ve, hp, he, y0, y1, y2, y3, y4, y5⟩ := HFD.out k2 hkl
      obtain ⟨-, -, pa, pc, rfl, -, -⟩ := path_at hp
      obtain ⟨-, -, ea, ec, rfl, -, -⟩ := ents_at he
      replace y0 := cell_under y0 HBQ.out
      replace y1 := cell_under y1 HBQ.out
      replace y2 := cell_under y2 HBQ.out
      replace y3 := cell_under y3 HBQ.out
      replace y4 := cell_under y4 HBQ.out
      replace y5 := cell_under y5 HBQ.out
      have i1 : (k2 : Int) < (m : Int) := by omega
      have i0 : (0 : Int) ≤ (k2 : Int) := by omega
      have S1 := Lib.hid (gstep_bad1 (chk := Mo.okF) (cmp := Mo.cmpF) (id := (·.id)) hkl)
      have S2 := Lib.hid (gstep_bad2 (chk := Mo.okF) (cmp := Mo.cmpF) (id := (·.id)) hkl)
      have S3 := Lib.hid (fun (j : Nat) (hj : j < k2) => gstep_bad3 (chk := Mo.okF) (cmp := Mo.cmpF) (id := (·.id)) hkl hj)
      have S4 := Lib.hid (gstep_good hkl hx.out)
      have HZE := Lib.hid (HB.out.each _ (List.getElem_mem hkl))
      have HPP := Lib.hid (hp.under HBQ.out)
      have HEE := Lib.hid (he.under HBQ.out)
      clear hp he
      generalize a[k2] = f at y0 y1 y2 y3 y4 y5 S1 S2 S3 S4 HZE HPP HEE
      obtain ⟨bE, hbE⟩ : ∃ b, Mo.okF f = b := ⟨_, rfl⟩
      have cE := re_callF HPP.out HEE.out HZE.out hbE
      rw [hbE] at S1 S4
      obtain ⟨fpath, fi, ft, fl, fu, fents⟩ := f
      simp only at y0 y1 y2 y3 y4 y5
      generalize hfn : fpath.length = fn at y0
      generalize hfe : fents.length = fe at y5
      change ∀ d os, Calls _ _ #[.agg #[.slice pa fpath.length pc, .string fi, .string ft, .string fl, .int .i64 fu, .slice ea fents.length ec]] _ _ at cE
      rw [hfn, hfe] at cE
      have HFN := Lib.hid hfn
      have HFE := Lib.hid hfe
      clear hbE hx hfn hfe
      go_wp2_with fail
      have r5 := cell_regrown x5
      have r0 := cell_regrown y0
      have r1 := cell_regrown y1
      have r2 := cell_regrown y2
      have r3 := cell_regrown y3
      have r4 := cell_regrown y4
      have r6 := cell_regrown y5
      cases bE with
      | false =>
        rw [show e22 false = 22 from rfl] at cE
        refine wp_region_quiet_below (by kernel_rfl) (by kernel_rfl) ?_
        repeat (first | go_big_quiet_step (fail) | quiet_step (exact cE _ _) | quiet_step (fail))
        refine wpQuiet_nil ?_
        intro _ hw'
        obtain ⟨⟨dq, osq⟩, hw''⟩ := hw'
        subst hw''
        have HV : Hid (OB = false) := Lib.hid (by rw [← HOB.out]; exact S1.out rfl)
        have HBF := Lib.hid (below_seq HBQ.out (below_regrown _ dq osq))
        go_wp2_with fail
        go_ret
        exact ⟨by rw [HV.out]; rfl, HBF.out⟩
      | true =>
        rw [show e22 true = 0 from rfl] at cE
        by_cases hk0 : k2 = 0
        · have gk : ¬ (0 : Int) < (k2 : Int) := by omega
          have gk1 : ¬ 0 < k2 := by omega
          have gk3 : decide ((0 : Int) < (k2 : Int)) = false := decide_eq_false gk
          have HK0 := Lib.hid hk0
          clear hk0
          refine wp_region_quiet_below (by kernel_rfl) (by kernel_rfl) ?_
          repeat (first | go_big_quiet_step (fail) | quiet_step (exact cE _ _) | quiet_step (fail))
          refine wpQuiet_nil ?_
          intro _ hw'
          obtain ⟨⟨dq, osq⟩, hw''⟩ := hw'
          subst hw''
          have S5 := Lib.hid (fun h3 => S4.out rfl (fun h0 => absurd HK0.out (by omega)) h3)
          have HBF := Lib.hid (below_seq HBQ.out (below_regrown _ dq osq))
          have HBG := Lib.hid (below_seq hbq.out (below_regrown _ dq osq))
          have z5q := cell_under x5 (below_regrown _ dq osq)
          have z0q := cell_under y1 (below_regrown _ dq osq)
          clear r0 r1 r2 r3 r4 r5 r6 cE
          clear x5 y0 y1 y2 y3 y4 y5 gk gk1 gk3
          go_wp2_with fail
          generalize Sort.grow (redrawn _ dq) osq = wE at HBF HBG z5q z0q ⊢
          go_loopw [4] (fun x wj => ∃ j : Nat, j ≤ k2 ∧ x = .int .i64 j ∧ Hid (∀ (i : Nat) (hi : i < j) (hl : i < a.length), (a[i].id.toList == fi.toList) = false) ∧ Hid (Below wE.heap.size wE wj)) (fun x _ => k2 - (intOf x).toNat)
          case atStart => exact ⟨0, Nat.zero_le _, rfl, Lib.hid (fun i hi _ => absurd hi (Nat.not_lt_zero i)), Lib.hid (Below.refl _ _)⟩
          case round =>
            obtain ⟨j, hj, rfl, hxj, hbj⟩ := hrel
            have x5j := cell_under z5q hbj.out
            have y0j := cell_under z0q hbj.out
            have HBJ := Lib.hid (below_seq HBF.out hbj.out)
            by_cases hjk : j < k2
            · have hjl : j < a.length := by omega
              have v0 := feed_id HFD.out hjl HBJ.out
              have m0 : (0 : Int) ≤ (j : Int) := by omega
              have m1 : (j : Int) < (k2 : Int) := by omega
              have m2 : (j : Int) < (m : Int) := by omega
              have S7 := Lib.hid (S3.out j hjk)
              have S8 := Lib.hid (fun (hh : (a[j].id.toList == fi.toList) = false) => next_allF a fi hxj.out hjl hh)
              generalize a[j].id = ij at v0 S7 S8
              have HBD := Lib.hid (fun n => below_seq HBJ.out (below_drewN _ n))
              have HBX := Lib.hid (fun n => below_seq hbj.out (below_drewN _ n))
              obtain hq | hq : (ij.toList == fi.toList) = true ∨ (ij.toList == fi.toList) = false := by cases (ij.toList == fi.toList) <;> simp
              · have HV : Hid (OB = false) := Lib.hid (by rw [← HOB.out]; exact S7.out hq)
                go_wp2_with fail
                go_quiet (fail)
                have HBE := Lib.hid (HBD.out nq)
                go_wp2_with fail
                go_ret
                exact ⟨by rw [HV.out]; rfl, HBE.out⟩
              · have HN := Lib.hid (S8.out hq)
                go_wp2_with fail
                go_quiet (fail)
                have HBE := Lib.hid (HBX.out nq)
                go_wp2_with fail
                go_roundw
                case rel => exact ⟨j + 1, by omega, by go_num, HN, HBE⟩
                case measure => simp [intOf]; omega
            · have gj : decide ((j : Int) < (k2 : Int)) = false := decide_eq_false (by omega)
              have S9 := Lib.hid (S5.out (fun i hi => hxj.out i (by omega) (by omega)))
              have HBH := Lib.hid (below_seq HBG.out hbj.out)
              go_wp2_with fail
              go_roundw
              case rel => exact ⟨k2 + 1, by omega, by go_num, S9, HBH⟩
              case measure => simp [intOf]; omega
        · have hk1 : k2 - 1 < a.length := by omega
          obtain ⟨vq, vf, hq, hf, c0, c1, c2, c3, c4, c5⟩ := HFD.out (k2 - 1) hk1
          obtain ⟨-, -, qa, qc, rfl, -, -⟩ := path_at hq
          obtain ⟨-, -, fa, fc, rfl, -, -⟩ := ents_at hf
          have q0 := cell_regrown (cell_under c0 HBQ.out)
          have q1 := cell_regrown (cell_under c1 HBQ.out)
          have q2 := cell_regrown (cell_under c2 HBQ.out)
          have q3 := cell_regrown (cell_under c3 HBQ.out)
          have q4 := cell_regrown (cell_under c4 HBQ.out)
          have q5 := cell_regrown (cell_under c5 HBQ.out)
          clear c0 c1 c2 c3 c4 c5
          have S5 := Lib.hid (fun (hc : Mo.cmpF a[k2 - 1] ⟨fpath, fi, ft, fl, fu, fents⟩ < 0) h3 => S4.out rfl (fun _ _ => hc) h3)
          have S6 := Lib.hid (S2.out (by omega) hk1)
          have HQQ := Lib.hid (hq.under HBQ.out)
          have HZ2 := Lib.hid (HB.out.each _ (List.getElem_mem hk1)).plen
          clear hq hf
          generalize a[k2 - 1] = d at q0 q1 q2 q3 q4 q5 S5 S6 HQQ HZ2
          obtain ⟨cc, hcc⟩ : ∃ c, Mo.cmpF d ⟨fpath, fi, ft, fl, fu, fents⟩ = c := ⟨_, rfl⟩
          have cM := re_callC HQQ.out HPP.out ⟨_, _, _, rfl⟩ ⟨ea, fents.length, ec, rfl⟩ HZ2.out HZE.out.plen hcc (ve := .slice fa d.ents.length fc)
          obtain ⟨dpath, di, dt, dl, du, dents⟩ := d
          simp only at q0 q1 q2 q3 q4 q5
          rw [hcc] at S5 S6
          generalize hdn : dpath.length = dn at q0
          generalize hde : dents.length = de at q5
          change ∀ d os, Calls _ _ #[.agg #[.slice qa dpath.length qc, .string di, .string dt, .string dl, .int .i64 du, .slice fa dents.length fc], .agg #[.slice pa fpath.length pc, .string fi, .string ft, .string fl, .int .i64 fu, .slice ea fents.length ec]] _ _ at cM
          rw [hdn, hde, HFN.out, HFE.out] at cM
          clear hcc hdn hde
          have gk : (0 : Int) < (k2 : Int) := by omega
          have gk1 : 0 < k2 := by omega
          have gk3 : decide ((0 : Int) < (k2 : Int)) = true := decide_eq_true gk
          have j1 : IntKind.i64.wrap ((k2 : Int) - 1) = ((k2 - 1 : Nat) : Int) := by rw [IntWalk.i64_in _ (by omega)]; omega
          have j2 : ((k2 - 1 : Nat) : Int) < (m : Int) := by omega
          have j3 : (0 : Int) ≤ ((k2 - 1 : Nat) : Int) := by omega
          clear hk1
          generalize k2 - 1 = kp at q0 q1 q2 q3 q4 q5 j1 j2 j3
          clear hk0
          by_cases hc0 : 0 ≤ cc
          · have gc : decide (0 ≤ cc) = true := decide_eq_true hc0
            refine wp_region_quiet_below (by kernel_rfl) (by kernel_rfl) ?_
            repeat (first | go_big_quiet_step (fail) | quiet_step (exact cE _ _) | quiet_step (exact cM _ _) | quiet_step (fail))
            refine wpQuiet_nil ?_
            intro _ hw'
            obtain ⟨⟨dq, osq⟩, hw''⟩ := hw'
            subst hw''
            have HV : Hid (OB = false) := Lib.hid (by rw [← HOB.out]; exact S6.out (by omega))
            have HBF := Lib.hid (below_seq HBQ.out (below_regrown _ dq osq))
            go_wp2_with fail
            go_ret
            exact ⟨by rw [HV.out]; rfl, HBF.out⟩
          · have gc : decide (0 ≤ cc) = false := decide_eq_false hc0
            replace S5 := Lib.hid (S5.out (by omega))
            refine wp_region_quiet_below (by kernel_rfl) (by kernel_rfl) ?_
            repeat (first | go_big_quiet_step (fail) | quiet_step (exact cE _ _) | quiet_step (exact cM _ _) | quiet_step (fail))
            refine wpQuiet_nil ?_
            intro _ hw'
            obtain ⟨⟨dq, osq⟩, hw''⟩ := hw'
            subst hw''
            have HBF := Lib.hid (below_seq HBQ.out (below_regrown _ dq osq))
            have HBG := Lib.hid (below_seq hbq.out (below_regrown _ dq osq))
            have z5q := cell_under x5 (below_regrown _ dq osq)
            have z0q := cell_under y1 (below_regrown _ dq osq)
            clear r0 r1 r2 r3 r4 r5 r6 q0 q1 q2 q3 q4 q5 cE cM
            clear x5 y0 y1 y2 y3 y4 y5 gk gk1 gk3
            go_wp2_with fail
            generalize Sort.grow (redrawn _ dq) osq = wE at HBF HBG z5q z0q ⊢
            go_loopw [4] (fun x wj => ∃ j : Nat, j ≤ k2 ∧ x = .int .i64 j ∧ Hid (∀ (i : Nat) (hi : i < j) (hl : i < a.length), (a[i].id.toList == fi.toList) = false) ∧ Hid (Below wE.heap.size wE wj)) (fun x _ => k2 - (intOf x).toNat)
            case atStart => exact ⟨0, Nat.zero_le _, rfl, Lib.hid (fun i hi _ => absurd hi (Nat.not_lt_zero i)), Lib.hid (Below.refl _ _)⟩
            case round =>
              obtain ⟨j, hj, rfl, hxj, hbj⟩ := hrel
              have x5j := cell_under z5q hbj.out
              have y0j := cell_under z0q hbj.out
              have HBJ := Lib.hid (below_seq HBF.out hbj.out)
              by_cases hjk : j < k2
              · have hjl : j < a.length := by omega
                have v0 := feed_id HFD.out hjl HBJ.out
                have m0 : (0 : Int) ≤ (j : Int) := by omega
                have m1 : (j : Int) < (k2 : Int) := by omega
                have m2 : (j : Int) < (m : Int) := by omega
                have S7 := Lib.hid (S3.out j hjk)
                have S8 := Lib.hid (fun (hh : (a[j].id.toList == fi.toList) = false) => next_allF a fi hxj.out hjl hh)
                generalize a[j].id = ij at v0 S7 S8
                have HBD := Lib.hid (fun n => below_seq HBJ.out (below_drewN _ n))
                have HBX := Lib.hid (fun n => below_seq hbj.out (below_drewN _ n))
                obtain hq | hq : (ij.toList == fi.toList) = true ∨ (ij.toList == fi.toList) = false := by cases (ij.toList == fi.toList) <;> simp
                · have HV : Hid (OB = false) := Lib.hid (by rw [← HOB.out]; exact S7.out hq)
                  go_wp2_with fail
                  go_quiet (fail)
                  have HBE := Lib.hid (HBD.out nq)
                  go_wp2_with fail
                  go_ret
                  exact ⟨by rw [HV.out]; rfl, HBE.out⟩
                · have HN := Lib.hid (S8.out hq)
                  go_wp2_with fail
                  go_quiet (fail)
                  have HBE := Lib.hid (HBX.out nq)
                  go_wp2_with fail
                  go_roundw
                  case rel => exact ⟨j + 1, by omega, by go_num, HN, HBE⟩
                  case measure => simp [intOf]; omega
              · have gj : decide ((j : Int) < (k2 : Int)) = false := decide_eq_false (by omega)
                have S9 := Lib.hid (S5.out (fun i hi => hxj.out i (by omega) (by omega)))
                have HBH := Lib.hid (below_seq HBG.out hbj.out)
                go_wp2_with fail
                go_roundw
                case rel => exact ⟨k2 + 1, by omega, by go_num, S9, HBH⟩
                case measure => simp [intOf]; omega
    · have gl2 : decide ((k2 : Int) < (m : Int)) = false := decide_eq_false (by omega)
      have HV : Hid (OB = true) := Lib.hid (by
        rw [← HOB.out]
        unfold Mo.ordB
        rw [HM.out, show m = k2 by omega]
        exact hx.out)
      go_wp2_with fail
      go_ret
      exact ⟨by rw [HV.out]; rfl, HBQ.out⟩
end Go.Proofs.YtjaojenalodolaaGreatDoor.Mw
/- The program's model, walked: all. -/
namespace Go.Proofs.YtjaojenalodolaaGreatDoor.Mw
open Go Go.RowKit Go.Proofs.YtjaojenalodolaaGreatDoor Go.Proofs.YtjaojenalodolaaGreatDoor.Rw
set_option linter.unusedVariables false
set_option maxRecDepth 100000
set_option maxHeartbeats 16000000
theorem okS_valid (s : ByteArray) : Tx.validB s.data.toList = Mo.okS s := rfl
theorem allk {P : ByteArray → Bool} {l : List ByteArray} {k : Nat} (hk : k < l.length) (h : (l.take k).all P = true) (h2 : P l[k] = true) : (l.take (k + 1)).all P = true := by
  rw [List.take_add_one, List.getElem?_eq_getElem hk, List.all_append, h]
  simpa using h2
theorem allbad {P : ByteArray → Bool} {l : List ByteArray} {k : Nat} (hk : k < l.length) (h2 : P l[k] = false) : l.all P = false := by
  rw [List.all_eq_false]
  exact ⟨_, List.getElem_mem hk, by rw [h2]; decide⟩
theorem all_is (l : List ByteArray) (v : Value) (W : World) (h : Rw W v 1 (l.map sCell)) (hT : Lib.Utf8Tabs 2 3 W) (hl : l.length ≤ 8796093022208) (hs : ∀ p ∈ l, p.size ≤ 140737488355327) :
    Calls Tryz.prog 113 #[v] W fun e w' => e = .returned (.bool (l.all Mo.okS)) ∧ Below W.heap.size W w' := by
  obtain ⟨g, off, ad, cap, rfl, had, hc⟩ := path_at h
  obtain ⟨m, hm⟩ : ∃ m, l.length = m := ⟨_, rfl⟩
  rw [hm] at had hl ⊢
  have HM := Lib.hid hm
  have HAD := Lib.hid had
  have HC := Lib.hid hc
  have HT := Lib.hid hT
  have HS := Lib.hid hs
  clear h hm had hc hT hs
  go_enter Tryz.func113, Tryz.ntmps113
  go_wp2_with fail
  go_loopw [7] (fun x wr => ∃ k : Nat, k ≤ m ∧ x = .int .i64 k ∧ Hid ((l.take k).all Mo.okS = true) ∧ Hid (Below W.heap.size W wr)) (fun x _ => m - (intOf x).toNat)
  case atStart => exact ⟨0, Nat.zero_le _, rfl, rfl, Below.refl _ _⟩
  case round =>
    obtain ⟨k, hk, rfl, hx, hbr⟩ := hrel
    by_cases hlt : k < m
    · obtain rfl := HAD.out (by omega)
      have hkl : k < l.length := by rw [HM.out]; exact hlt
      have y0 := cell_under (HC.out k hkl) hbr.out
      have hz := HS.out _ (List.getElem_mem hkl)
      have HK := Lib.hid (allk hkl hx.out)
      have HF := Lib.hid (allbad (P := Mo.okS) hkl)
      generalize l[k] = p at y0 hz HK HF
      have i1 : (k : Int) < (m : Int) := by omega
      have i0 : (0 : Int) ≤ (k : Int) := by omega
      obtain ⟨b, hb⟩ : ∃ b, Mo.okS p = b := ⟨_, rfl⟩
      have C8 := Lib.hid (fun u (hu : Lib.Utf8Tabs 2 3 u) => Tx.valid_any p u hz hu)
      rw [okS_valid, hb] at C8
      rw [hb] at HK HF
      clear hb hx hz
      go_wp2_with fail
      refine (C8.out _ (Tx.u8_below HT.out hbr.out)).mono ?_
      rintro e w8 ⟨rfl, hb8⟩
      have HB8 := Lib.hid (below_seq hbr.out hb8)
      clear hb8 hbr
      cases b with
      | false =>
        have HV := Lib.hid (HF.out rfl)
        go_wp2_with fail
        go_ret
        exact ⟨by rw [HV.out]; rfl, HB8.out⟩
      | true =>
        have HN := Lib.hid (HK.out rfl)
        go_wp2_with fail
        go_roundw
        case rel => exact ⟨k + 1, by omega, by go_num, HN, HB8⟩
        case measure => simp [intOf]; omega
    · have gl : decide ((k : Int) < (m : Int)) = false := decide_eq_false (by omega)
      have HV : Hid (l.all Mo.okS = true) := Lib.hid (by
        have h1 := hx.out
        rw [List.take_of_length_le (by rw [HM.out]; omega)] at h1
        exact h1)
      go_wp2_with fail
      go_ret
      exact ⟨by rw [HV.out]; rfl, hbr.out⟩
end Go.Proofs.YtjaojenalodolaaGreatDoor.Mw
/- The program's model, walked: inTime, checked. -/
namespace Go.Proofs.YtjaojenalodolaaGreatDoor.Mw
open Go Go.RowKit Go.Proofs.YtjaojenalodolaaGreatDoor Go.Proofs.YtjaojenalodolaaGreatDoor.Rw
set_option linter.unusedVariables false
set_option maxRecDepth 100000
set_option maxHeartbeats 16000000
theorem rw_new (w : World) (l : List ByteArray) (t : TypeId) (cap : Nat) : Rw (w.alloc (.cells (l.map Value.string).toArray t)) (.slice (some ⟨w.heap.size, 0, none⟩) l.length cap) 1 (l.map sCell) := by
  refine ⟨w.heap.size, 0, _, cap, by simp, fun _ => rfl, fun j hj k hk => ?_⟩
  obtain rfl : k = 0 := by omega
  have hjl : j < l.length := by simpa using hj
  refine ⟨.string l[j], by simp [sCell], ?_⟩
  unfold World.cell?
  simp only [heap_alloc_new]
  simp [hjl]
theorem inTime_ok (t : Int) (w : World) (h : Mo.inT t = true) :
    Calls Tryz.prog 115 #[.int .i64 t] w fun e w' => e = .returned (.bool true) ∧ w' = w := by
  unfold Mo.inT at h
  simp only [Bool.and_eq_true] at h
  obtain ⟨h1, h2⟩ := h
  go_enter Tryz.func115, Tryz.ntmps115
  go_wp2_with fail
  go_ret
  exact ⟨rfl, rfl⟩
theorem checked_ok (w : World) :
    Calls Tryz.prog 72 #[.bool true] w fun e w' => e = .returned (.int .i64 0) ∧ w' = w := by
  go_enter Tryz.func72, Tryz.ntmps72
  go_wp2_with fail
  go_ret
  exact ⟨rfl, rfl⟩
theorem checkE_ok (e : Mo.En) (W : World) (hT : Lib.Utf8Tabs 2 3 W) (hb : EnB e) (he : Mo.okE e = true) :
    Calls Tryz.prog 117 #[.agg (eCells e).toArray] W fun x w' => x = .returned (.int .i64 0) ∧ Below W.heap.size W w' := by
  obtain ⟨i, t, l, c, u⟩ := e
  have HT := Lib.hid hT
  have HE := Lib.hid he
  have HBB := Lib.hid hb
  clear hT he hb
  obtain ⟨x0, x1, x2, x3, x4⟩ := cells5 (w := W) (x0 := .string i) (x1 := .string t) (x2 := .string l) (x3 := .string c) (x4 := .int .i64 u) (t := 51)
  have hne : (i.toList.isEmpty) = false := by
    have := HE.out
    unfold Mo.okE Mo.neS at this
    revert this
    cases i.toList.isEmpty <;> simp
  show Calls Tryz.prog 117 #[.agg #[.string i, .string t, .string l, .string c, .int .i64 u]] W _
  go_enter Tryz.func117, Tryz.ntmps117
  go_wp2_with fail
  refine (inTime_ok u _ (by
    have := HE.out
    unfold Mo.okE at this
    revert this
    cases Mo.inT u <;> simp)).mono ?_
  rintro e w1 ⟨rfl, rfl⟩
  go_wp2_with fail
  have HB1 := Lib.hid ((Below.refl W.heap.size W).alloc (Nat.le_refl _) (.cells #[.string i, .string t, .string l, .string c, .int .i64 u] 51))
  have HB2 := Lib.hid (HB1.out.alloc HB1.out.size (.cells #[.string i, .string t, .string l, .string c] 9))
  have hA : [i, t, l, c].all Mo.okS = true := by
    have := HE.out
    unfold Mo.okE at this
    revert this
    simp only [List.all_cons, List.all_nil]
    cases Mo.okS i <;> cases Mo.okS t <;> cases Mo.okS l <;> cases Mo.okS c <;> simp
  have HALL := all_is [i, t, l, c] _ _ (rw_new (W.alloc (.cells #[.string i, .string t, .string l, .string c, .int .i64 u] 51)) [i, t, l, c] 9 4) (Tx.u8_below HT.out HB2.out) (by simp) (by
    intro p hp
    have := HBB.out
    rcases List.mem_cons.1 hp with rfl | hp
    · exact this.id
    rcases List.mem_cons.1 hp with rfl | hp
    · exact this.title
    rcases List.mem_cons.1 hp with rfl | hp
    · exact this.link
    rcases List.mem_cons.1 hp with rfl | hp
    · exact this.content
    · cases hp)
  rw [hA] at HALL
  rw [show (W.alloc (.cells #[.string i, .string t, .string l, .string c, .int .i64 u] 51)).heap.size = W.heap.size + 1 from Array.size_push _] at HALL
  change Calls Tryz.prog 113 #[.slice (some ⟨W.heap.size + 1, 0, none⟩) 4 4] ((W.alloc (.cells #[.string i, .string t, .string l, .string c, .int .i64 u] 51)).alloc (.cells #[.string i, .string t, .string l, .string c] 9)) _ at HALL
  refine HALL.mono ?_
  rintro e w2 ⟨rfl, hb2⟩
  have HB3 := Lib.hid (HB2.out.trans (hb2.mono HB2.out.size))
  clear hb2 HALL hA
  go_wp2_with fail
  refine (checked_ok _).mono ?_
  rintro e w3 ⟨rfl, rfl⟩
  go_wp2_with fail
  go_ret
  exact ⟨rfl, HB3.out⟩
end Go.Proofs.YtjaojenalodolaaGreatDoor.Mw
