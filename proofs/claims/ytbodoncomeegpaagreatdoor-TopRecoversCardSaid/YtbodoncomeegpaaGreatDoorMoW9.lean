/- The program's comparisons of entries and feeds, walked. Printed by genmow9.py. -/
import Derived.Test.YtbodoncomeegpaaGreatDoorMoW8
import Derived.StillTailTactics
namespace Go.Proofs.YtbodoncomeegpaaGreatDoor.Mw
open Go Go.RowKit Go.Proofs.YtbodoncomeegpaaGreatDoor Go.Proofs.YtbodoncomeegpaaGreatDoor.Rw
set_option linter.unusedVariables false

set_option maxRecDepth 100000
set_option maxHeartbeats 16000000
def cmpI (a b : Int) : Int := if a < b then -1 else if b < a then 1 else 0
theorem nanS_is (a : ByteArray) (w : World) : Calls Tryz.prog 128 #[.string a] w fun e w' => e = .returned (.bool false) ∧ w' = w := by
  go_enter Tryz.func128, Tryz.ntmps128
  go_wp2_with fail
  go_ret
  exact ⟨rfl, rfl⟩
theorem nanI_is (a : Int) (w : World) : Calls Tryz.prog 145 #[.int .i64 a] w fun e w' => e = .returned (.bool false) ∧ w' = w := by
  go_enter Tryz.func145, Tryz.ntmps145
  go_wp2_with fail
  go_ret
  exact ⟨rfl, rfl⟩
theorem cmpStr_is (a b : ByteArray) (w : World) : Calls Tryz.prog 104 #[.string a, .string b] w fun e w' => e = .returned (.int .i64 (Mo.cmpS a b)) ∧ w' = w := by
  obtain ⟨L, hL⟩ : ∃ L, Op.bytesLess a.toList b.toList = L := ⟨_, rfl⟩
  obtain ⟨E, hE⟩ : ∃ E, (a.toList == b.toList) = E := ⟨_, rfl⟩
  have e : Mo.cmpS a b = if L = true then -1 else if E = true then 0 else 1 := by unfold Mo.cmpS; rw [hL, hE]
  rw [e]
  clear e
  have C1 := Lib.hid (nanS_is a w)
  have C2 := Lib.hid (nanS_is b w)
  cases L <;> cases E
  all_goals
    go_enter Tryz.func104, Tryz.ntmps104
    go_wp2_with fail
    refine C1.out.mono ?_
    rintro e w1 ⟨rfl, rfl⟩
    go_wp2_with fail
    refine C2.out.mono ?_
    rintro e w1 ⟨rfl, rfl⟩
    go_wp2_with fail
    go_ret
    first | exact ⟨rfl, rfl⟩ | simp
theorem cmpInt_is (a b : Int) (w : World) : Calls Tryz.prog 126 #[.int .i64 a, .int .i64 b] w fun e w' => e = .returned (.int .i64 (cmpI a b)) ∧ w' = w := by
  unfold cmpI
  have C1 := Lib.hid (nanI_is a w)
  have C2 := Lib.hid (nanI_is b w)
  by_cases h1 : a < b
  · rw [if_pos h1]
    go_enter Tryz.func126, Tryz.ntmps126
    go_wp2_with fail
    refine C1.out.mono ?_
    rintro e w1 ⟨rfl, rfl⟩
    go_wp2_with fail
    refine C2.out.mono ?_
    rintro e w1 ⟨rfl, rfl⟩
    go_wp2_with fail
    go_ret
    exact ⟨rfl, rfl⟩
  rw [if_neg h1]
  by_cases h2 : b < a
  · rw [if_pos h2]
    go_enter Tryz.func126, Tryz.ntmps126
    go_wp2_with fail
    refine C1.out.mono ?_
    rintro e w1 ⟨rfl, rfl⟩
    go_wp2_with fail
    refine C2.out.mono ?_
    rintro e w1 ⟨rfl, rfl⟩
    go_wp2_with fail
    go_ret
    exact ⟨rfl, rfl⟩
  rw [if_neg h2]
  go_enter Tryz.func126, Tryz.ntmps126
  go_wp2_with fail
  refine C1.out.mono ?_
  rintro e w1 ⟨rfl, rfl⟩
  go_wp2_with fail
  refine C2.out.mono ?_
  rintro e w1 ⟨rfl, rfl⟩
  go_wp2_with fail
  go_ret
  exact ⟨rfl, rfl⟩
theorem or_is (c d : Int) (g : Nat) (w : World) (h0 : w.cell? ⟨g, 0, none⟩ = some (.int .i64 c)) (h1 : w.cell? ⟨g, 1, none⟩ = some (.int .i64 d)) :
    Calls Tryz.prog 102 #[.slice (some ⟨g, 0, none⟩) 2 2] w fun e w' => e = .returned (.int .i64 (if c = 0 then d else c)) ∧ w' = w := by
  go_enter Tryz.func102, Tryz.ntmps102
  go_wp2_with fail
  go_loopw [8] (fun x wr => ∃ k : Nat, k ≤ 2 ∧ x = .int .i64 k ∧ Hid (0 < k → c = 0) ∧ Hid (1 < k → d = 0) ∧ wr = w) (fun x _ => 2 - (intOf x).toNat)
  case atStart => exact ⟨0, by omega, rfl, Lib.hid (fun h => absurd h (by omega)), Lib.hid (fun h => absurd h (by omega)), rfl⟩
  case round =>
    obtain ⟨k, hk, rfl, hc, hd, rfl⟩ := hrel
    obtain rfl | rfl | rfl : k = 0 ∨ k = 1 ∨ k = 2 := by omega
    · by_cases e : c = 0
      · subst e
        go_wp2_with fail
        go_roundw
        case rel => exact ⟨1, by omega, by go_num, Lib.hid (by simp), Lib.hid (by simp), trivial⟩
        case measure => simp [intOf]
      · have e0 : (c == (0 : Int)) = false := by simpa using e
        have EV : Hid ((if c = 0 then d else c) = c) := Lib.hid (if_neg e)
        go_wp2_with fail
        go_ret
        exact ⟨by first | rfl | rw [EV.out]; rfl, rfl⟩
    · have hc0 : c = 0 := hc.out (by omega)
      subst hc0
      clear hc hd
      by_cases e : d = 0
      · subst e
        go_wp2_with fail
        go_roundw
        case rel => exact ⟨2, by omega, by go_num, Lib.hid (by simp), Lib.hid (by simp), trivial⟩
        case measure => simp [intOf]
      · have e0 : (d == (0 : Int)) = false := by simpa using e
        have EV : Hid ((if (0 : Int) = 0 then d else 0) = d) := Lib.hid (if_pos rfl)
        go_wp2_with fail
        go_ret
        exact ⟨by first | rfl | rw [EV.out]; rfl, rfl⟩
    · have hc0 : c = 0 := hc.out (by omega)
      have hd0 : d = 0 := hd.out (by omega)
      subst hc0 hd0
      clear hc hd
      go_wp2_with fail
      go_ret
      exact ⟨by simp, rfl⟩
theorem slcmp_is (p q : List ByteArray) (vp vq : Value) (W : World) (hp : Rw W vp 1 (p.map sCell)) (hq : Rw W vq 1 (q.map sCell)) (lp : p.length ≤ 8796093022208) (lq : q.length ≤ 8796093022208) :
    Calls Tryz.prog 127 #[vp, vq] W fun e w' => e = .returned (.int .i64 (Mo.cmpP p q)) ∧ w' = W := by
  obtain ⟨pg, po, pa, pc, rfl, hpa, hpc⟩ := path_at hp
  obtain ⟨qg, qo, qa, qc, rfl, hqa, hqc⟩ := path_at hq
  obtain ⟨n, hn⟩ : ∃ n, p.length = n := ⟨_, rfl⟩
  obtain ⟨m, hm⟩ : ∃ m, q.length = m := ⟨_, rfl⟩
  rw [hn] at lp hpa ⊢
  rw [hm] at lq hqa ⊢
  have HP := Lib.hid (And.intro hn (And.intro hpa hpc))
  have HQ := Lib.hid (And.intro hm (And.intro hqa hqc))
  clear hp hq hn hm hpa hqa hpc hqc
  go_enter Tryz.func127, Tryz.ntmps127
  go_wp2_with fail
  go_loopw [11] (fun i wr => ∃ k : Nat, k ≤ n ∧ k ≤ m ∧ i = .int .i64 k ∧ Hid (Mo.cmpP p q = Mo.cmpP (p.drop k) (q.drop k)) ∧ wr = W) (fun i _ => n - (intOf i).toNat)
  case atStart => exact ⟨0, Nat.zero_le _, Nat.zero_le _, rfl, rfl, rfl⟩
  case round =>
    obtain ⟨k, hkn, hkm, rfl, hx, rfl⟩ := hrel
    by_cases h1 : k < n
    · obtain rfl := HP.out.2.1 (by omega)
      have hkp : k < p.length := by rw [HP.out.1]; exact h1
      have x0 := HP.out.2.2 k hkp
      have i1 : (k : Int) < (n : Int) := by omega
      have i3 : (0 : Int) ≤ (k : Int) := by omega
      by_cases h2 : k < m
      · obtain rfl := HQ.out.2.1 (by omega)
        have hkq : k < q.length := by rw [HQ.out.1]; exact h2
        have y0 := HQ.out.2.2 k hkq
        have HS := Lib.hid (cmpP_step hkp hkq)
        generalize p[k] = a at x0 HS
        generalize q[k] = b at y0 HS
        obtain ⟨E, hE⟩ : ∃ E, (a.toList == b.toList) = E := ⟨_, rfl⟩
        rw [hE] at HS
        have i2 : (k : Int) < (m : Int) := by omega
        have C := Lib.hid (cmpStr_is a b wr)
        cases E with
        | true =>
          have ec : Mo.cmpS a b = 0 := by
            unfold Mo.cmpS
            rw [hE, eq_of_beq hE, bytesLess_eq]
            simp
          rw [ec] at C
          clear ec hE
          go_wp2_with fail
          refine C.out.mono ?_
          rintro e w1 ⟨rfl, rfl⟩
          go_wp2_with fail
          go_roundw
          case rel => exact ⟨k + 1, by omega, by omega, by go_num, hx.out.trans (HS.out.trans (by simp)), trivial⟩
          case measure => simp [intOf]; omega
        | false =>
          obtain ⟨c, hc⟩ : ∃ c, Mo.cmpS a b = c := ⟨_, rfl⟩
          have hc0 : (c == (0 : Int)) = false := by
            rw [← hc]
            unfold Mo.cmpS
            rw [hE]
            cases Op.bytesLess a.toList b.toList <;> rfl
          rw [hc] at C HS
          have HE : Hid (Mo.cmpP p q = c) := hx.out.trans (HS.out.trans (by simp))
          clear hc hE
          go_wp2_with fail
          refine C.out.mono ?_
          rintro e w1 ⟨rfl, rfl⟩
          go_wp2_with fail
          go_ret
          exact ⟨by rw [HE.out]; rfl, rfl⟩
      · have gl2 : (m : Int) ≤ (k : Int) := by omega
        have HE : Hid (Mo.cmpP p q = 1) := Lib.hid (hx.out.trans ((cmpP_end HP.out.1 HQ.out.1 hkn hkm (by omega)).trans (by rw [if_neg (by omega), if_pos (by omega)])))
        clear hx
        go_wp2_with fail
        go_ret
        exact ⟨by rw [HE.out]; rfl, rfl⟩
    · have gl1 : decide ((k : Int) < (n : Int)) = false := decide_eq_false (by omega)
      have HE : Hid (Mo.cmpP p q = if n < m then -1 else if m < n then 1 else 0) := hx.out.trans (cmpP_end HP.out.1 HQ.out.1 hkn hkm (by omega))
      clear hx
      by_cases c1 : n < m
      · have HE1 : Hid (Mo.cmpP p q = -1) := HE.out.trans (if_pos c1)
        have f1 : (n : Int) < (m : Int) := by omega
        clear HE
        go_wp2_with fail
        go_ret
        exact ⟨by rw [HE1.out]; rfl, rfl⟩
      · have HE1 : Hid (Mo.cmpP p q = 0) := HE.out.trans ((if_neg c1).trans (if_neg (by omega)))
        have f1 : ¬ (n : Int) < (m : Int) := by omega
        clear HE
        go_wp2_with fail
        go_ret
        exact ⟨by rw [HE1.out]; rfl, rfl⟩
theorem paths_is (p q : List ByteArray) (vp vq : Value) (W : World) (hp : Rw W vp 1 (p.map sCell)) (hq : Rw W vq 1 (q.map sCell)) (lp : p.length ≤ 8796093022208) (lq : q.length ≤ 8796093022208) :
    Calls Tryz.prog 103 #[vp, vq] W fun e w' => e = .returned (.int .i64 (Mo.cmpP p q)) ∧ w' = W := by
  have C := Lib.hid (slcmp_is p q vp vq W hp hq lp lq)
  obtain ⟨pg, po, pa, pc, rfl, -, -⟩ := path_at hp
  obtain ⟨qg, qo, qa, qc, rfl, -, -⟩ := path_at hq
  clear hp hq
  go_enter Tryz.func103, Tryz.ntmps103
  go_wp2_with fail
  refine C.out.mono ?_
  rintro e w1 ⟨rfl, rfl⟩
  go_wp2_with fail
  go_ret
  exact ⟨rfl, rfl⟩
end Go.Proofs.YtbodoncomeegpaaGreatDoor.Mw
