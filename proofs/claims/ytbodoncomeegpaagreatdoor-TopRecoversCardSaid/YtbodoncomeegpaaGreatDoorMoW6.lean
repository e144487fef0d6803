/- The reference's Check (feedvaultref13), walked. Printed by genmow6.py. -/
import Derived.Test.YtbodoncomeegpaaGreatDoorMoW5
namespace Go.Proofs.YtbodoncomeegpaaGreatDoor.Mw
open Go Go.RowKit Go.Proofs.YtbodoncomeegpaaGreatDoor Go.Proofs.YtbodoncomeegpaaGreatDoor.Rw
set_option linter.unusedVariables false

set_option maxRecDepth 100000
set_option maxHeartbeats 16000000
section
variable {α : Type} {chk : α → Bool} {cmp : α → α → Int} {id : α → ByteArray} {l : List α} {k : Nat}
theorem gstep_bad1 (hk : k < l.length) (h : chk l[k] = false) : Mo.ordB chk cmp id l = false :=
  Mo.ordB_false _ _ _ hk (by unfold Mo.stepB; rw [List.getElem?_eq_getElem hk]; simp only [h, Bool.false_and])
theorem gstep_bad2 (hk : k < l.length) (h0 : 0 < k) (h1 : k - 1 < l.length) (h : ¬ cmp l[k - 1] l[k] < 0) : Mo.ordB chk cmp id l = false :=
  Mo.ordB_false _ _ _ hk (by
    unfold Mo.stepB
    rw [List.getElem?_eq_getElem hk]
    simp only [if_neg (by omega : ¬ k = 0), List.getElem?_eq_getElem h1, decide_eq_false h, Bool.and_false, Bool.false_and])
theorem gstep_bad3 (hk : k < l.length) {j : Nat} (hj : j < k) (h : ((id l[j]).toList == (id l[k]).toList) = true) : Mo.ordB chk cmp id l = false :=
  Mo.ordB_false _ _ _ hk (by
    unfold Mo.stepB
    rw [List.getElem?_eq_getElem hk]
    have : ((l.take k).any fun y => ((id y).toList == (id l[k]).toList)) = true := by
      rw [List.any_eq_true]
      exact ⟨l[j], by rw [List.mem_take_iff_getElem]; exact ⟨j, by omega, rfl⟩, h⟩
    simp only [this, Bool.not_true, Bool.and_false])
theorem gstep_good (hk : k < l.length) (ho : Mo.ordK chk cmp id l k = true) (h1 : chk l[k] = true) (h2 : ∀ (h0 : 0 < k) (h : k - 1 < l.length), cmp l[k - 1] l[k] < 0) (h3 : ∀ j (hj : j < k), ((id l[j]).toList == (id l[k]).toList) = false) : Mo.ordK chk cmp id l (k + 1) = true := by
  show (Mo.ordK chk cmp id l k && Mo.stepB chk cmp id l k) = true
  rw [ho, Bool.true_and]
  unfold Mo.stepB
  rw [List.getElem?_eq_getElem hk]
  have ha : ((l.take k).any fun y => ((id y).toList == (id l[k]).toList)) = false := by
    rw [List.any_eq_false]
    intro y hy
    rw [List.mem_take_iff_getElem] at hy
    obtain ⟨j, hj, rfl⟩ := hy
    rw [h3 j (by omega)]
    decide
  simp only [h1, ha, Bool.true_and, Bool.not_false, Bool.and_true]
  by_cases h0 : k = 0
  · simp [h0]
  · simp only [if_neg h0, List.getElem?_eq_getElem (by omega : k - 1 < l.length)]
    exact decide_eq_true (h2 (by omega) (by omega))
end
theorem next_allF (l : List Mo.Fd) (x : ByteArray) {j : Nat} (h : ∀ (i : Nat) (hi : i < j) (hl : i < l.length), (l[i].id.toList == x.toList) = false) (hj : j < l.length) (h2 : (l[j].id.toList == x.toList) = false) :
    ∀ (i : Nat) (hi : i < j + 1) (hl : i < l.length), (l[i].id.toList == x.toList) = false := by
  intro i hi hl
  by_cases e : i = j
  · subst e; exact h2
  · exact h i (by omega) hl
theorem feed_id {W w : World} {a : List Mo.Fd} {g off : Nat} (h : ∀ j (hj : j < a.length), ∃ vp ve, Rw W vp 1 (a[j].path.map sCell) ∧ Rw W ve 5 (a[j].ents.map eCells) ∧ W.cell? ⟨g, off + j * 6, none⟩ = some vp ∧ W.cell? ⟨g, off + j * 6 + 1, none⟩ = some (.string a[j].id) ∧ W.cell? ⟨g, off + j * 6 + 2, none⟩ = some (.string a[j].title) ∧ W.cell? ⟨g, off + j * 6 + 3, none⟩ = some (.string a[j].link) ∧ W.cell? ⟨g, off + j * 6 + 4, none⟩ = some (.int .i64 a[j].upd) ∧ W.cell? ⟨g, off + j * 6 + 5, none⟩ = some ve)
    {j : Nat} (hj : j < a.length) (hb : Below W.heap.size W w) : w.cell? ⟨g, off + j * 6 + 1, none⟩ = some (.string a[j].id) := by
  obtain ⟨_, _, _, _, _, h1, _⟩ := h j hj
  exact cell_under h1 hb
theorem re_callF {f : Mo.Fd} {vp ve : Value} {v : Bool} {w : World} (hp : Rw w vp 1 (f.path.map sCell)) (he : Rw w ve 5 (f.ents.map eCells)) (hb : FdB f) (hv : Mo.okF f = v) :
    ∀ d os, Calls Tryz.prog 15 #[.agg (fCells f vp ve).toArray] (Sort.grow (redrawn w d) os) fun e w'' => e = .returned (.int .i64 (e22 v)) ∧ ∃ p : Regrown, w'' = Sort.grow (redrawn w p.d) p.os := fun d os => by
  subst hv
  exact Calls.regrown_of (rcheckF_is f vp ve _ (hp.under (below_regrown w d os)) (he.under (below_regrown w d os)) hb)
theorem re_callC {f g : Mo.Fd} {vp ve vq vf : Value} {c : Int} {w : World} (hp : Rw w vp 1 (f.path.map sCell)) (hq : Rw w vq 1 (g.path.map sCell)) (he : ∃ a n c, ve = .slice a n c) (hf : ∃ a n c, vf = .slice a n c) (lp : f.path.length ≤ 8796093022208) (lq : g.path.length ≤ 8796093022208) (hc : Mo.cmpF f g = c) :
    ∀ d os, Calls Tryz.prog 16 #[.agg (fCells f vp ve).toArray, .agg (fCells g vq vf).toArray] (Sort.grow (redrawn w d) os) fun e w'' => e = .returned (.int .i64 c) ∧ ∃ p : Regrown, w'' = Sort.grow (redrawn w p.d) p.os := fun d os => by
  subst hc
  exact Calls.regrown_of (rcmpF_is f g vp ve vq vf _ (hp.under (below_regrown w d os)) (hq.under (below_regrown w d os)) he hf lp lq)
theorem rcheckA_is (W : World) (v : Value) (a : List Mo.Fd) (h : ArIs W v a) (hb : ArB a) :
    Calls Tryz.prog 6 #[.agg #[v]] W fun e w' => e = .returned (.int .i64 (e22 (Mo.okA a))) ∧ Below W.heap.size W w' := by
  obtain ⟨g, off, ad, cap, rfl, had, hfd⟩ := feeds_at h
  obtain ⟨m, hm⟩ : ∃ m, a.length = m := ⟨_, rfl⟩
  rw [hm] at had ⊢
  have hm2 : m ≤ 8796093022208 := by rw [← hm]; exact hb.len
  have HM := Lib.hid hm
  have HAD := Lib.hid had
  have HFD := Lib.hid hfd
  have HB := Lib.hid hb
  obtain ⟨OB, hOB⟩ : ∃ b, Mo.okA a = b := ⟨_, rfl⟩
  rw [hOB]
  have HOB := Lib.hid (show Mo.ordB Mo.okF Mo.cmpF (·.id) a = OB from hOB)
  have HB0 := Lib.hid ((Below.refl W.heap.size W).alloc (Nat.le_refl _) (.cells #[.slice ad m cap] 24))
  have x0 : (W.alloc (.cells #[.slice ad m cap] 24)).cell? ⟨W.heap.size, 0, none⟩ = some (.slice ad m cap) := by unfold World.cell?; simp only [heap_alloc_new]; rfl
  clear h had hfd hb hm hOB
  go_enter Tryz.func6, Tryz.ntmps6
  go_wp2_with fail
  generalize hwA : W.alloc (.cells #[.slice ad m cap] 24) = wA at HB0 x0 ⊢
  clear hwA
  go_loopw [3] (fun x wq => ∃ k2 : Nat, k2 ≤ m ∧ x = .int .i64 k2 ∧ Hid (Mo.ordK Mo.okF Mo.cmpF (·.id) a k2 = true) ∧ Hid (Below wA.heap.size wA wq)) (fun x _ => m - (intOf x).toNat)
  case atStart => exact ⟨0, Nat.zero_le _, rfl, rfl, Below.refl _ _⟩
  case round =>
    obtain ⟨k2, hk2, rfl, hx, hbq⟩ := hrel
    have x5 := cell_under x0 hbq.out
    have HBQ := Lib.hid (below_seq HB0.out hbq.out)
    by_cases hlt2 : k2 < m
    · obtain rfl := HAD.out (by omega)
      have hkl : k2 < a.length := by rw [HM.out]; exact hlt2
      obtain ⟨vp, ve, hp, he, y0, y1, y2, y3, y4, y5⟩ := HFD.out k2 hkl
      obtain ⟨-, -, pa, pc, rfl, -, -⟩ := path_at hp
      obtain ⟨-, -, ea, ec, rfl, -, -⟩ := ents_at he
      replace y0 := cell_under y0 HBQ.out
      replace y1 := cell_under y1 HBQ.out
      replace y2 := cell_under y2 HBQ.out
      replace y3 := cell_under y3 HBQ.out
      replace y4 := cell_under y4 HBQ.out
      replace y5 := cell_under y5 HBQ.out
      have i1 : (k2 : Int) < (m : Int) := by omega
      have i0 : (0 : Int) ≤ (k2 : Int) := by omega
      have S1 := Lib.hid (gstep_bad1 (chk := Mo.okF) (cmp := Mo.cmpF) (id := (·.id)) hkl)
      have S2 := Lib.hid (gstep_bad2 (chk := Mo.okF) (cmp := Mo.cmpF) (id := (·.id)) hkl)
      have S3 := Lib.hid (fun (j : Nat) (hj : j < k2) => gstep_bad3 (chk := Mo.okF) (cmp := Mo.cmpF) (id := (·.id)) hkl hj)
      have S4 := Lib.hid (gstep_good hkl hx.out)
      have HZE := Lib.hid (HB.out.each _ (List.getElem_mem hkl))
      have HPP := Lib.hid (hp.under HBQ.out)
      have HEE := Lib.hid (he.under HBQ.out)
      clear hp he
      generalize a[k2] = f at y0 y1 y2 y3 y4 y5 S1 S2 S3 S4 HZE HPP HEE
      obtain ⟨bE, hbE⟩ : ∃ b, Mo.okF f = b := ⟨_, rfl⟩
      have cE := re_callF HPP.out HEE.out HZE.out hbE
      rw [hbE] at S1 S4
      obtain ⟨fpath, fi, ft, fl, fu, fents⟩ := f
      simp only at y0 y1 y2 y3 y4 y5
      generalize hfn : fpath.length = fn at y0
      generalize hfe : fents.length = fe at y5
      change ∀ d os, Calls _ _ #[.agg #[.slice pa fpath.length pc, .string fi, .string ft, .string fl, .int .i64 fu, .slice ea fents.length ec]] _ _ at cE
      rw [hfn, hfe] at cE
      have HFN := Lib.hid hfn
      have HFE := Lib.hid hfe
      clear hbE hx hfn hfe
      go_wp2_with fail
      have r5 := cell_regrown x5
      have r0 := cell_regrown y0
      have r1 := cell_regrown y1
      have r2 := cell_regrown y2
      have r3 := cell_regrown y3
      have r4 := cell_regrown y4
      have r6 := cell_regrown y5
      cases bE with
      | false =>
        rw [show e22 false = 22 from rfl] at cE
        refine wp_region_quiet_below (by kernel_rfl) (by kernel_rfl) ?_
        repeat (first | go_big_quiet_step (fail) | quiet_step (exact cE _ _) | quiet_step (fail))
        refine wpQuiet_nil ?_
        intro _ hw'
        obtain ⟨⟨dq, osq⟩, hw''⟩ := hw'
        subst hw''
        have HV : Hid (OB = false) := Lib.hid (by rw [← HOB.out]; exact S1.out rfl)
        have HBF := Lib.hid (below_seq HBQ.out (below_regrown _ dq osq))
        go_wp2_with fail
        go_ret
        exact ⟨by rw [HV.out]; rfl, HBF.out⟩
      | true =>
        rw [show e22 true = 0 from rfl] at cE
        by_cases hk0 : k2 = 0
        · have gk : ¬ (0 : Int) < (k2 : Int) := by omega
          have gk1 : ¬ 0 < k2 := by omega
          have gk3 : decide ((0 : Int) < (k2 : Int)) = false := decide_eq_false gk
          have HK0 := Lib.hid hk0
          clear hk0
          refine wp_region_quiet_below (by kernel_rfl) (by kernel_rfl) ?_
          repeat (first | go_big_quiet_step (fail) | quiet_step (exact cE _ _) | quiet_step (fail))
          refine wpQuiet_nil ?_
          intro _ hw'
          obtain ⟨⟨dq, osq⟩, hw''⟩ := hw'
          subst hw''
          have S5 := Lib.hid (fun h3 => S4.out rfl (fun h0 => absurd HK0.out (by omega)) h3)
          have HBF := Lib.hid (below_seq HBQ.out (below_regrown _ dq osq))
          have HBG := Lib.hid (below_seq hbq.out (below_regrown _ dq osq))
          have z5q := cell_under x5 (below_regrown _ dq osq)
          have z0q := cell_under y1 (below_regrown _ dq osq)
          clear r0 r1 r2 r3 r4 r5 r6 cE
          clear x5 y0 y1 y2 y3 y4 y5 gk gk1 gk3
          go_wp2_with fail
          generalize Sort.grow (redrawn _ dq) osq = wE at HBF HBG z5q z0q ⊢
          go_loopw [4] (fun x wj => ∃ j : Nat, j ≤ k2 ∧ x = .int .i64 j ∧ Hid (∀ (i : Nat) (hi : i < j) (hl : i < a.length), (a[i].id.toList == fi.toList) = false) ∧ Hid (Below wE.heap.size wE wj)) (fun x _ => k2 - (intOf x).toNat)
          case atStart => exact ⟨0, Nat.zero_le _, rfl, Lib.hid (fun i hi _ => absurd hi (Nat.not_lt_zero i)), Lib.hid (Below.refl _ _)⟩
          case round =>
            obtain ⟨j, hj, rfl, hxj, hbj⟩ := hrel
            have x5j := cell_under z5q hbj.out
            have y0j := cell_under z0q hbj.out
            have HBJ := Lib.hid (below_seq HBF.out hbj.out)
            by_cases hjk : j < k2
            · have hjl : j < a.length := by omega
              have v0 := feed_id HFD.out hjl HBJ.out
              have m0 : (0 : Int) ≤ (j : Int) := by omega
              have m1 : (j : Int) < (k2 : Int) := by omega
              have m2 : (j : Int) < (m : Int) := by omega
              have S7 := Lib.hid (S3.out j hjk)
              have S8 := Lib.hid (fun (hh : (a[j].id.toList == fi.toList) = false) => next_allF a fi hxj.out hjl hh)
              generalize a[j].id = ij at v0 S7 S8
              have HBD := Lib.hid (fun n => below_seq HBJ.out (below_drewN _ n))
              have HBX := Lib.hid (fun n => below_seq hbj.out (below_drewN _ n))
              obtain hq | hq : (ij.toList == fi.toList) = true ∨ (ij.toList == fi.toList) = false := by cases (ij.toList == fi.toList) <;> simp
              · have HV : Hid (OB = false) := Lib.hid (by rw [← HOB.out]; exact S7.out hq)
                go_wp2_with fail
                go_quiet (fail)
                have HBE := Lib.hid (HBD.out nq)
                go_wp2_with fail
                go_ret
                exact ⟨by rw [HV.out]; rfl, HBE.out⟩
              · have HN := Lib.hid (S8.out hq)
                go_wp2_with fail
                go_quiet (fail)
                have HBE := Lib.hid (HBX.out nq)
                go_wp2_with fail
                go_roundw
                case rel => exact ⟨j + 1, by omega, by go_num, HN, HBE⟩
                case measure => simp [intOf]; omega
            · have gj : decide ((j : Int) < (k2 : Int)) = false := decide_eq_false (by omega)
              have S9 := Lib.hid (S5.out (fun i hi => hxj.out i (by omega) (by omega)))
              have HBH := Lib.hid (below_seq HBG.out hbj.out)
              go_wp2_with fail
              go_roundw
              case rel => exact ⟨k2 + 1, by omega, by go_num, S9, HBH⟩
              case measure => simp [intOf]; omega
        · have hk1 : k2 - 1 < a.length := by omega
          obtain ⟨vq, vf, hq, hf, c0, c1, c2, c3, c4, c5⟩ := HFD.out (k2 - 1) hk1
          obtain ⟨-, -, qa, qc, rfl, -, -⟩ := path_at hq
          obtain ⟨-, -, fa, fc, rfl, -, -⟩ := ents_at hf
          have q0 := cell_regrown (cell_under c0 HBQ.out)
          have q1 := cell_regrown (cell_under c1 HBQ.out)
          have q2 := cell_regrown (cell_under c2 HBQ.out)
          have q3 := cell_regrown (cell_under c3 HBQ.out)
          have q4 := cell_regrown (cell_under c4 HBQ.out)
          have q5 := cell_regrown (cell_under c5 HBQ.out)
          clear c0 c1 c2 c3 c4 c5
          have S5 := Lib.hid (fun (hc : Mo.cmpF a[k2 - 1] ⟨fpath, fi, ft, fl, fu, fents⟩ < 0) h3 => S4.out rfl (fun _ _ => hc) h3)
          have S6 := Lib.hid (S2.out (by omega) hk1)
          have HQQ := Lib.hid (hq.under HBQ.out)
          have HZ2 := Lib.hid (HB.out.each _ (List.getElem_mem hk1)).plen
          clear hq hf
          generalize a[k2 - 1] = d at q0 q1 q2 q3 q4 q5 S5 S6 HQQ HZ2
          obtain ⟨cc, hcc⟩ : ∃ c, Mo.cmpF d ⟨fpath, fi, ft, fl, fu, fents⟩ = c := ⟨_, rfl⟩
          have cM := re_callC HQQ.out HPP.out ⟨_, _, _, rfl⟩ ⟨ea, fents.length, ec, rfl⟩ HZ2.out HZE.out.plen hcc (ve := .slice fa d.ents.length fc)
          obtain ⟨dpath, di, dt, dl, du, dents⟩ := d
          simp only at q0 q1 q2 q3 q4 q5
          rw [hcc] at S5 S6
          generalize hdn : dpath.length = dn at q0
          generalize hde : dents.length = de at q5
          change ∀ d os, Calls _ _ #[.agg #[.slice qa dpath.length qc, .string di, .string dt, .string dl, .int .i64 du, .slice fa dents.length fc], .agg #[.slice pa fpath.length pc, .string fi, .string ft, .string fl, .int .i64 fu, .slice ea fents.length ec]] _ _ at cM
          rw [hdn, hde, HFN.out, HFE.out] at cM
          clear hcc hdn hde
          have gk : (0 : Int) < (k2 : Int) := by omega
          have gk1 : 0 < k2 := by omega
          have gk3 : decide ((0 : Int) < (k2 : Int)) = true := decide_eq_true gk
          have j1 : IntKind.i64.wrap ((k2 : Int) - 1) = ((k2 - 1 : Nat) : Int) := by rw [IntWalk.i64_in _ (by omega)]; omega
          have j2 : ((k2 - 1 : Nat) : Int) < (m : Int) := by omega
          have j3 : (0 : Int) ≤ ((k2 - 1 : Nat) : Int) := by omega
          clear hk1
          generalize k2 - 1 = kp at q0 q1 q2 q3 q4 q5 j1 j2 j3
          clear hk0
          by_cases hc0 : 0 ≤ cc
          · have gc : decide (0 ≤ cc) = true := decide_eq_true hc0
            refine wp_region_quiet_below (by kernel_rfl) (by kernel_rfl) ?_
            repeat (first | go_big_quiet_step (fail) | quiet_step (exact cE _ _) | quiet_step (exact cM _ _) | quiet_step (fail))
            refine wpQuiet_nil ?_
            intro _ hw'
            obtain ⟨⟨dq, osq⟩, hw''⟩ := hw'
            subst hw''
            have HV : Hid (OB = false) := Lib.hid (by rw [← HOB.out]; exact S6.out (by omega))
            have HBF := Lib.hid (below_seq HBQ.out (below_regrown _ dq osq))
            go_wp2_with fail
            go_ret
            exact ⟨by rw [HV.out]; rfl, HBF.out⟩
          · have gc : decide (0 ≤ cc) = false := decide_eq_false hc0
            replace S5 := Lib.hid (S5.out (by omega))
            refine wp_region_quiet_below (by kernel_rfl) (by kernel_rfl) ?_
            repeat (first | go_big_quiet_step (fail) | quiet_step (exact cE _ _) | quiet_step (exact cM _ _) | quiet_step (fail))
            refine wpQuiet_nil ?_
            intro _ hw'
            obtain ⟨⟨dq, osq⟩, hw''⟩ := hw'
            subst hw''
            have HBF := Lib.hid (below_seq HBQ.out (below_regrown _ dq osq))
            have HBG := Lib.hid (below_seq hbq.out (below_regrown _ dq osq))
            have z5q := cell_under x5 (below_regrown _ dq osq)
            have z0q := cell_under y1 (below_regrown _ dq osq)
            clear r0 r1 r2 r3 r4 r5 r6 q0 q1 q2 q3 q4 q5 cE cM
            clear x5 y0 y1 y2 y3 y4 y5 gk gk1 gk3
            go_wp2_with fail
            generalize Sort.grow (redrawn _ dq) osq = wE at HBF HBG z5q z0q ⊢
            go_loopw [4] (fun x wj => ∃ j : Nat, j ≤ k2 ∧ x = .int .i64 j ∧ Hid (∀ (i : Nat) (hi : i < j) (hl : i < a.length), (a[i].id.toList == fi.toList) = false) ∧ Hid (Below wE.heap.size wE wj)) (fun x _ => k2 - (intOf x).toNat)
            case atStart => exact ⟨0, Nat.zero_le _, rfl, Lib.hid (fun i hi _ => absurd hi (Nat.not_lt_zero i)), Lib.hid (Below.refl _ _)⟩
            case round =>
              obtain ⟨j, hj, rfl, hxj, hbj⟩ := hrel
              have x5j := cell_under z5q hbj.out
              have y0j := cell_under z0q hbj.out
              have HBJ := Lib.hid (below_seq HBF.out hbj.out)
              by_cases hjk : j < k2
              · have hjl : j < a.length := by omega
                have v0 := feed_id HFD.out hjl HBJ.out
                have m0 : (0 : Int) ≤ (j : Int) := by omega
                have m1 : (j : Int) < (k2 : Int) := by omega
                have m2 : (j : Int) < (m : Int) := by omega
                have S7 := Lib.hid (S3.out j hjk)
                have S8 := Lib.hid (fun (hh : (a[j].id.toList == fi.toList) = false) => next_allF a fi hxj.out hjl hh)
                generalize a[j].id = ij at v0 S7 S8
                have HBD := Lib.hid (fun n => below_seq HBJ.out (below_drewN _ n))
                have HBX := Lib.hid (fun n => below_seq hbj.out (below_drewN _ n))
                obtain hq | hq : (ij.toList == fi.toList) = true ∨ (ij.toList == fi.toList) = false := by cases (ij.toList == fi.toList) <;> simp
                · have HV : Hid (OB = false) := Lib.hid (by rw [← HOB.out]; exact S7.out hq)
                  go_wp2_with fail
                  go_quiet (fail)
                  have HBE := Lib.hid (HBD.out nq)
                  go_wp2_with fail
                  go_ret
                  exact ⟨by rw [HV.out]; rfl, HBE.out⟩
                · have HN := Lib.hid (S8.out hq)
                  go_wp2_with fail
                  go_quiet (fail)
                  have HBE := Lib.hid (HBX.out nq)
                  go_wp2_with fail
                  go_roundw
                  case rel => exact ⟨j + 1, by omega, by go_num, HN, HBE⟩
                  case measure => simp [intOf]; omega
              · have gj : decide ((j : Int) < (k2 : Int)) = false := decide_eq_false (by omega)
                have S9 := Lib.hid (S5.out (fun i hi => hxj.out i (by omega) (by omega)))
                have HBH := Lib.hid (below_seq HBG.out hbj.out)
                go_wp2_with fail
                go_roundw
                case rel => exact ⟨k2 + 1, by omega, by go_num, S9, HBH⟩
                case measure => simp [intOf]; omega
    · have gl2 : decide ((k2 : Int) < (m : Int)) = false := decide_eq_false (by omega)
      have HV : Hid (OB = true) := Lib.hid (by
        rw [← HOB.out]
        unfold Mo.ordB
        rw [HM.out, show m = k2 by omega]
        exact hx.out)
      go_wp2_with fail
      go_ret
      exact ⟨by rw [HV.out]; rfl, HBQ.out⟩
end Go.Proofs.YtbodoncomeegpaaGreatDoor.Mw
