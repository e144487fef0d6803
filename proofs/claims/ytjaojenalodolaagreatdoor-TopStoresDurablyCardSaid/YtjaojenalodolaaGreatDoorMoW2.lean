/- The reference's comparisons of feeds and entries (feedvaultref13), walked. -/
import Derived.Test.YtjaojenalodolaaGreatDoorMoW1
import Derived.RegionTactic
import Derived.Laws.Cover1
import Derived.BigQuiet
import Derived.Deep.QuietTactic
namespace Go.Proofs.YtjaojenalodolaaGreatDoor.Mw
open Go Go.RowKit Go.Proofs.YtjaojenalodolaaGreatDoor Go.Proofs.YtjaojenalodolaaGreatDoor.Rw
set_option linter.unusedVariables false
set_option maxRecDepth 100000
set_option maxHeartbeats 4000000
theorem rinTime_is (t : Int) (w : World) :
    Calls Tryz.prog 33 #[.int .i64 t] w fun e w' => e = .returned (.bool (Mo.inT t)) ∧ w' = w := by
  unfold Mo.inT
  obtain ⟨b1, h1⟩ : ∃ b, decide ((-62135596800 : Int) ≤ t) = b := ⟨_, rfl⟩
  obtain ⟨b2, h2⟩ : ∃ b, decide (t ≤ (253402300799 : Int)) = b := ⟨_, rfl⟩
  rw [h1, h2]
  cases b1 <;> cases b2
  all_goals
    go_enter Tryz.func33, Tryz.ntmps33
    go_wp2_with fail
    go_ret
    exact ⟨rfl, rfl⟩
theorem rcompare_is (a b : ByteArray) (w : World) :
    Calls Tryz.prog 37 #[.string a, .string b] w fun e w' => e = .returned (.int .i64 (Mo.cmpS a b)) ∧ w' = w := by
  obtain ⟨L, hL⟩ : ∃ L, Op.bytesLess a.toList b.toList = L := ⟨_, rfl⟩
  obtain ⟨E, hE⟩ : ∃ E, (a.toList == b.toList) = E := ⟨_, rfl⟩
  have e : Mo.cmpS a b = if L = true then -1 else if E = true then 0 else 1 := by unfold Mo.cmpS; rw [hL, hE]
  rw [e]
  clear e
  cases L <;> cases E
  all_goals
    go_enter Tryz.func37, Tryz.ntmps37
    go_wp2_with fail
    go_ret
    first | exact ⟨rfl, rfl⟩ | simp
theorem cmpP_step {p q : List ByteArray} {k : Nat} (h1 : k < p.length) (h2 : k < q.length) : Mo.cmpP (p.drop k) (q.drop k) = if (p[k].toList == q[k].toList) = true then Mo.cmpP (p.drop (k + 1)) (q.drop (k + 1)) else Mo.cmpS p[k] q[k] := by
  rw [List.drop_eq_getElem_cons h1, List.drop_eq_getElem_cons h2]
  rfl
theorem cmpP_end {p q : List ByteArray} {k n m : Nat} (hn : p.length = n) (hm : q.length = m) (h1 : k ≤ n) (h2 : k ≤ m) (h : k = n ∨ k = m) : Mo.cmpP (p.drop k) (q.drop k) = if n < m then -1 else if m < n then 1 else 0 := by
  subst hn hm
  rcases h with rfl | rfl
  · rw [List.drop_of_length_le (Nat.le_refl p.length)]
    by_cases h3 : p.length < q.length
    · rw [if_pos h3, List.drop_eq_getElem_cons h3]
      rfl
    · rw [if_neg h3, if_neg (by omega), List.drop_of_length_le (by omega)]
      rfl
  · rw [List.drop_of_length_le (Nat.le_refl q.length)]
    by_cases h3 : q.length < p.length
    · rw [if_neg (by omega), if_pos h3, List.drop_eq_getElem_cons h3]
      rfl
    · rw [if_neg (by omega), if_neg h3, List.drop_of_length_le (by omega)]
      rfl
theorem rpaths_is (p q : List ByteArray) (vp vq : Value) (W : World) (hp : Rw W vp 1 (p.map sCell)) (hq : Rw W vq 1 (q.map sCell)) (lp : p.length ≤ 8796093022208) (lq : q.length ≤ 8796093022208) :
    Calls Tryz.prog 36 #[vp, vq] W fun e w' => e = .returned (.int .i64 (Mo.cmpP p q)) ∧ Below W.heap.size W w' := by
  obtain ⟨pg, po, pa, pc, rfl, hpa, hpc⟩ := path_at hp
  obtain ⟨qg, qo, qa, qc, rfl, hqa, hqc⟩ := path_at hq
  obtain ⟨n, hn⟩ : ∃ n, p.length = n := ⟨_, rfl⟩
  obtain ⟨m, hm⟩ : ∃ m, q.length = m := ⟨_, rfl⟩
  rw [hn] at lp hpa ⊢
  rw [hm] at lq hqa ⊢
  have HP := Lib.hid (And.intro hn (And.intro hpa hpc))
  have HQ := Lib.hid (And.intro hm (And.intro hqa hqc))
  clear hp hq hn hm hpa hqa hpc hqc
  go_enter Tryz.func36, Tryz.ntmps36
  go_wp2_with fail
  go_loopw [5] (fun i wr => ∃ k : Nat, k ≤ n ∧ k ≤ m ∧ i = .int .i64 k ∧ Hid (Mo.cmpP p q = Mo.cmpP (p.drop k) (q.drop k)) ∧ Hid (Below W.heap.size W wr)) (fun i _ => n - (intOf i).toNat)
  case atStart => exact ⟨0, Nat.zero_le _, Nat.zero_le _, rfl, rfl, Below.refl _ _⟩
  case round =>
    obtain ⟨k, hkn, hkm, rfl, hx, hb⟩ := hrel
    by_cases h1 : k < n
    · by_cases h2 : k < m
      · obtain rfl := HP.out.2.1 (by omega)
        obtain rfl := HQ.out.2.1 (by omega)
        have hkp : k < p.length := by rw [HP.out.1]; exact h1
        have hkq : k < q.length := by rw [HQ.out.1]; exact h2
        have x0 := cell_under (HP.out.2.2 k hkp) hb.out
        have y0 := cell_under (HQ.out.2.2 k hkq) hb.out
        have HS := Lib.hid (cmpP_step hkp hkq)
        generalize p[k] = a at x0 HS
        generalize q[k] = b at y0 HS
        obtain ⟨E, hE⟩ : ∃ E, (a.toList == b.toList) = E := ⟨_, rfl⟩
        rw [hE] at HS
        have i1 : (k : Int) < (n : Int) := by omega
        have i2 : (k : Int) < (m : Int) := by omega
        have i3 : (0 : Int) ≤ (k : Int) := by omega
        cases E with
        | true =>
          go_wp2_with fail
          go_quiet (fail)
          have HB1 := Lib.hid (Rw.below_drewN hb.out nq)
          go_wp2_with fail
          go_roundw
          case rel => exact ⟨k + 1, by omega, by omega, by go_num, hx.out.trans (HS.out.trans (by simp)), HB1.out⟩
          case measure => simp [intOf]; omega
        | false =>
          go_wp2_with fail
          go_quiet (fail)
          have HB1 := Lib.hid (Rw.below_drewN hb.out nq)
          replace x0 : (wr.drewN nq).cell? ⟨pg, po + k, none⟩ = some (.string a) := x0
          replace y0 : (wr.drewN nq).cell? ⟨qg, qo + k, none⟩ = some (.string b) := y0
          go_wp2_with fail
          generalize wr.drewN nq = w2 at x0 y0 HB1 ⊢
          go_quiet ((go_at_call 37; exact Calls.quiet_of_same (rcompare_is a b _)))
          have HB2 := Lib.hid (Rw.below_drewN HB1.out nq)
          have HE : Hid (Mo.cmpP p q = Mo.cmpS a b) := hx.out.trans (HS.out.trans (by simp))
          go_wp2_with fail
          go_ret
          exact ⟨by rw [HE.out]; rfl, HB2.out⟩
      · have gl2 : decide ((k : Int) < (m : Int)) = false := decide_eq_false (by omega)
        have HE : Hid (Mo.cmpP p q = if n < m then -1 else if m < n then 1 else 0) := hx.out.trans (cmpP_end HP.out.1 HQ.out.1 hkn hkm (by omega))
        have HBF := Lib.hid hb.out
        clear hx hb
        by_cases c1 : n < m
        · have HE1 : Hid (Mo.cmpP p q = -1) := HE.out.trans (if_pos c1)
          have f1 : (n : Int) < (m : Int) := by omega
          clear HE
          go_wp2_with fail
          go_ret
          exact ⟨by rw [HE1.out]; rfl, HBF.out⟩
        · by_cases c2 : m < n
          · have HE1 : Hid (Mo.cmpP p q = 1) := HE.out.trans ((if_neg c1).trans (if_pos c2))
            have f1 : ¬ (n : Int) < (m : Int) := by omega
            have f2 : (m : Int) < (n : Int) := by omega
            clear HE
            go_wp2_with fail
            go_ret
            exact ⟨by rw [HE1.out]; rfl, HBF.out⟩
          · have HE1 : Hid (Mo.cmpP p q = 0) := HE.out.trans ((if_neg c1).trans (if_neg c2))
            have f1 : ¬ (n : Int) < (m : Int) := by omega
            have f2 : ¬ (m : Int) < (n : Int) := by omega
            clear HE
            go_wp2_with fail
            go_ret
            exact ⟨by rw [HE1.out]; rfl, HBF.out⟩
    · have gl1 : decide ((k : Int) < (n : Int)) = false := decide_eq_false (by omega)
      have HE : Hid (Mo.cmpP p q = if n < m then -1 else if m < n then 1 else 0) := hx.out.trans (cmpP_end HP.out.1 HQ.out.1 hkn hkm (by omega))
      have HBF := Lib.hid hb.out
      clear hx hb
      by_cases c1 : n < m
      · have HE1 : Hid (Mo.cmpP p q = -1) := HE.out.trans (if_pos c1)
        have f1 : (n : Int) < (m : Int) := by omega
        clear HE
        go_wp2_with fail
        go_ret
        exact ⟨by rw [HE1.out]; rfl, HBF.out⟩
      · by_cases c2 : m < n
        · have HE1 : Hid (Mo.cmpP p q = 1) := HE.out.trans ((if_neg c1).trans (if_pos c2))
          have f1 : ¬ (n : Int) < (m : Int) := by omega
          have f2 : (m : Int) < (n : Int) := by omega
          clear HE
          go_wp2_with fail
          go_ret
          exact ⟨by rw [HE1.out]; rfl, HBF.out⟩
        · have HE1 : Hid (Mo.cmpP p q = 0) := HE.out.trans ((if_neg c1).trans (if_neg c2))
          have f1 : ¬ (n : Int) < (m : Int) := by omega
          have f2 : ¬ (m : Int) < (n : Int) := by omega
          clear HE
          go_wp2_with fail
          go_ret
          exact ⟨by rw [HE1.out]; rfl, HBF.out⟩
end Go.Proofs.YtjaojenalodolaaGreatDoor.Mw
