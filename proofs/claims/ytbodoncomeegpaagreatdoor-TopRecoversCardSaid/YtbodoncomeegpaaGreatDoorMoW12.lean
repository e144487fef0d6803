/- The program's ordered, at entries, walked: the valid case. Printed by genmow12.py. -/
import Derived.Test.YtbodoncomeegpaaGreatDoorMoW11
namespace Go.Proofs.YtbodoncomeegpaaGreatDoor.Mw
open Go Go.RowKit Go.Proofs.YtbodoncomeegpaaGreatDoor Go.Proofs.YtbodoncomeegpaaGreatDoor.Rw
set_option linter.unusedVariables false

set_option maxRecDepth 100000
set_option maxHeartbeats 16000000
theorem ideE_is (e : Mo.En) (w : World) : Calls Tryz.prog 97 #[.agg (eCells e).toArray] w fun x w' => x = .returned (.string e.id) ∧ Below w.heap.size w w' := by
  obtain ⟨i, t, l, c, u⟩ := e
  obtain ⟨x0, -⟩ := cells5 (w := w) (x0 := .string i) (x1 := .string t) (x2 := .string l) (x3 := .string c) (x4 := .int .i64 u) (t := 47)
  have HB := Lib.hid ((Below.refl w.heap.size w).alloc (Nat.le_refl _) (.cells #[.string i, .string t, .string l, .string c, .int .i64 u] 47))
  show Calls Tryz.prog 97 #[.agg #[.string i, .string t, .string l, .string c, .int .i64 u]] w _
  go_enter Tryz.func97, Tryz.ntmps97
  go_wp2_with fail
  go_ret
  exact ⟨rfl, HB.out⟩
theorem re_cE {e : Mo.En} {w : World} (hT : Lib.Utf8Tabs 2 3 w) (hb : EnB e) (he : Mo.okE e = true) :
    ∀ d os, Calls Tryz.prog 100 #[.agg (eCells e).toArray] (Sort.grow (redrawn w d) os) fun e w'' => e = .returned (.int .i64 0) ∧ ∃ p : Regrown, w'' = Sort.grow (redrawn w p.d) p.os := fun d os =>
  Calls.regrown_of (checkE_ok e _ (Tx.u8_below hT (below_regrown w d os)) hb he)
theorem re_mE {a b : Mo.En} {c : Int} {w : World} (hc : Mo.cmpE a b = c) :
    ∀ d os, Calls Tryz.prog 101 #[.agg (eCells a).toArray, .agg (eCells b).toArray] (Sort.grow (redrawn w d) os) fun e w'' => e = .returned (.int .i64 c) ∧ ∃ p : Regrown, w'' = Sort.grow (redrawn w p.d) p.os := fun d os => by
  subst hc
  exact Calls.regrown_of (cmpE_is a b _)
theorem re_iE {e : Mo.En} {w : World} :
    ∀ d os, Calls Tryz.prog 97 #[.agg (eCells e).toArray] (Sort.grow (redrawn w d) os) fun x w'' => x = .returned (.string e.id) ∧ ∃ p : Regrown, w'' = Sort.grow (redrawn w p.d) p.os := fun d os =>
  Calls.regrown_of (ideE_is e _)
theorem ordE_ok (l : List Mo.En) (v : Value) (W : World) (h : Rw W v 5 (l.map eCells)) (hT : Lib.Utf8Tabs 2 3 W) (hl : l.length ≤ 8796093022208) (hb : ∀ e ∈ l, EnB e) (ho : Mo.ordB Mo.okE Mo.cmpE (·.id) l = true) :
    Calls Tryz.prog 99 #[v, .func (.func 100) #[] #[], .func (.func 101) #[] #[], .func (.func 97) #[] #[]] W fun e w' => e = .returned (.bool true) ∧ Below W.heap.size W w' := by
  obtain ⟨g, off, ad, cap, rfl, had, hfd⟩ := ents_at h
  obtain ⟨m, hm⟩ : ∃ m, l.length = m := ⟨_, rfl⟩
  rw [hm] at had hl ⊢
  have HM := Lib.hid hm
  have HAD := Lib.hid had
  have HFD := Lib.hid hfd
  have HB := Lib.hid hb
  have HO := Lib.hid ho
  have HB0 := Lib.hid ((Below.refl W.heap.size W).alloc (Nat.le_refl _) (.map #[] 0))
  have HS0 := Lib.hid (Seen.new W)
  have HT := Lib.hid hT
  clear h had hfd hb hm ho hT
  have hmm := @run_makeMap Tryz.prog
  go_enter Tryz.func99, Tryz.ntmps99
  go_wp2_with fail
  generalize hwA : W.alloc (.map #[] 0) = wA at HB0 HS0 ⊢
  clear hwA
  obtain ⟨B, hB⟩ : ∃ B, W.heap.size = B := ⟨_, rfl⟩
  have HBB := Lib.hid hB
  rw [hB] at HS0 HB0 ⊢
  clear hB
  go_loopw [15] (fun x wq => ∃ k : Nat, k ≤ m ∧ x = .int .i64 k ∧ Hid (Seen wq B k (fun s => (l.take k).any fun y => y.id.data.toList == s)) ∧ Hid (Below B W wq)) (fun x _ => m - (intOf x).toNat)
  case atStart => exact ⟨0, Nat.zero_le _, rfl, Lib.hid (HS0.out.congr (fun s => by simp)), HB0⟩
  case round =>
    obtain ⟨k, hk, rfl, hse, hbq⟩ := hrel
    by_cases hlt : k < m
    · obtain rfl := HAD.out (by omega)
      have hkl : k < l.length := by rw [HM.out]; exact hlt
      obtain ⟨y0, y1, y2, y3, y4⟩ := HFD.out k hkl
      replace y0 := cell_under y0 (HBB.out.symm ▸ hbq.out)
      replace y1 := cell_under y1 (HBB.out.symm ▸ hbq.out)
      replace y2 := cell_under y2 (HBB.out.symm ▸ hbq.out)
      replace y3 := cell_under y3 (HBB.out.symm ▸ hbq.out)
      replace y4 := cell_under y4 (HBB.out.symm ▸ hbq.out)
      have i1 : (k : Int) < (m : Int) := by omega
      have i0 : (0 : Int) ≤ (k : Int) := by omega
      obtain ⟨o1, o2, o3⟩ := ordB_at HO.out hkl
      have HZE := Lib.hid (HB.out _ (List.getElem_mem hkl))
      have HNX := Lib.hid (fun s => any_take (l := l) (fun s (y : Mo.En) => y.id.data.toList == s) hkl s)
      have O1 := Lib.hid o1
      have O2 := Lib.hid o2
      have O3 := Lib.hid o3
      clear o1 o2 o3
      generalize l[k] = f at y0 y1 y2 y3 y4 HZE HNX O1 O2 O3
      obtain ⟨fi, ft, fl, fc, fu⟩ := f
      simp only at y0 y1 y2 y3 y4
      go_wp2_with fail
      have HX := cells5 (w := wr) (x0 := .string fi) (x1 := .string ft) (x2 := .string fl) (x3 := .string fc) (x4 := .int .i64 fu) (t := 47)
      have hba := (Below.refl wr.heap.size wr).alloc (Nat.le_refl _) (.cells #[.string fi, .string ft, .string fl, .string fc, .int .i64 fu] 47)
      have HBQ := Lib.hid (HBB.out ▸ below_seq (HBB.out.symm ▸ hbq.out) hba : Below B W _)
      have HSE := Lib.hid (hse.out.below hba)
      replace y0 := cell_under y0 hba
      replace y1 := cell_under y1 hba
      replace y2 := cell_under y2 hba
      replace y3 := cell_under y3 hba
      replace y4 := cell_under y4 hba
      generalize hS : wr.heap.size = Sx at HX ⊢
      generalize wr.alloc (.cells #[.string fi, .string ft, .string fl, .string fc, .int .i64 fu] 47) = w1 at HX HBQ HSE y0 y1 y2 y3 y4 ⊢
      clear hba hS
      obtain ⟨x0, x1, x2, x3, x4⟩ := HX
      have HT1 := Lib.hid (Tx.u8_below HT.out (HBB.out ▸ HBQ.out : Below W.heap.size W w1))
      have cE := re_cE HT1.out HZE.out O1.out
      have cI := re_iE (e := ⟨fi, ft, fl, fc, fu⟩) (w := w1)
      change ∀ d os, Calls _ _ #[.agg #[.string fi, .string ft, .string fl, .string fc, .int .i64 fu]] _ _ at cE cI
      have lk := fun d os => (HSE.out.below (below_regrown w1 d os)).look fi HZE.out.id O3.out
      have r0 := cell_regrown x0
      have r1 := cell_regrown x1
      have r2 := cell_regrown x2
      have r3 := cell_regrown x3
      have r4 := cell_regrown x4
      by_cases hk0 : k = 0
      · have gk : ¬ (0 : Int) < (k : Int) := by omega
        have gk1 : ¬ 0 < k := by omega
        have gk3 : decide ((0 : Int) < (k : Int)) = false := decide_eq_false gk
        clear hk0 y0 y1 y2 y3 y4
        refine wp_region_quiet_below (by kernel_rfl) (by kernel_rfl) ?_
        repeat (first | go_big_quiet_step (fail) | quiet_step (exact cE _ _) | quiet_step (exact cI _ _) | quiet_step (fail))
        refine wpQuiet_nil ?_
        intro _ hw'
        obtain ⟨⟨dq, osq⟩, hw''⟩ := hw'
        subst hw''
        have hbr := below_regrown w1 dq osq
        have HBR := Lib.hid (HBB.out ▸ below_seq (HBB.out.symm ▸ HBQ.out) hbr : Below B W _)
        have HSR := Lib.hid (HSE.out.below hbr)
        replace x0 := cell_under x0 hbr
        replace x1 := cell_under x1 hbr
        replace x2 := cell_under x2 hbr
        replace x3 := cell_under x3 hbr
        replace x4 := cell_under x4 hbr
        clear r0 r1 r2 r3 r4 cE cI lk hbr gk gk1 gk3
        generalize Sort.grow (redrawn w1 dq) osq = w2 at HBR HSR x0 x1 x2 x3 x4 ⊢
        go_wp2_with fail
        have CI := ideE_is ⟨fi, ft, fl, fc, fu⟩ w2
        change Calls _ _ #[.agg #[.string fi, .string ft, .string fl, .string fc, .int .i64 fu]] _ _ at CI
        refine CI.mono ?_
        rintro e w3 ⟨rfl, hb3⟩
        have HB3 := Lib.hid (HBB.out ▸ below_seq (HBB.out.symm ▸ HBR.out) hb3 : Below B W _)
        obtain ⟨w4, hput, hs4, hg4⟩ := (HSR.out.below hb3).put fi HZE.out.id (by unfold maxLen; omega)
        have HS4 := Lib.hid (hs4.congr (g := fun s => (l.take (k + 1)).any fun y => y.id.data.toList == s) (fun s => by rw [HNX.out s]; simp only [Bool.beq_comm]))
        have HB4 := Lib.hid (HBB.out ▸ below_grown (HBB.out.symm ▸ HB3.out) (Nat.le_of_eq HBB.out) hg4 : Below B W _)
        clear hs4 hg4 hb3 CI x0 x1 x2 x3 x4
        go_wp2_with fail
        go_roundw
        case rel => exact ⟨k + 1, by omega, by go_num, HS4, HB4⟩
        case measure => simp [intOf]; omega
      · have hk1 : k - 1 < l.length := by omega
        obtain ⟨z0, z1, z2, z3, z4⟩ := HFD.out (k - 1) hk1
        have hbW : Below W.heap.size W w1 := HBB.out ▸ HBQ.out
        have q0 := cell_regrown (cell_under z0 hbW)
        have q1 := cell_regrown (cell_under z1 hbW)
        have q2 := cell_regrown (cell_under z2 hbW)
        have q3 := cell_regrown (cell_under z3 hbW)
        have q4 := cell_regrown (cell_under z4 hbW)
        have hlt0 := O2.out (by omega) hk1
        clear z0 z1 z2 z3 z4 hbW y0 y1 y2 y3 y4
        generalize l[k - 1] = dd at q0 q1 q2 q3 q4 hlt0
        obtain ⟨cc, hcc⟩ : ∃ c, Mo.cmpE dd ⟨fi, ft, fl, fc, fu⟩ = c := ⟨_, rfl⟩
        have cM := re_mE (w := w1) hcc
        rw [hcc] at hlt0
        obtain ⟨di, dt, dl, dc, du⟩ := dd
        simp only at q0 q1 q2 q3 q4
        change ∀ d os, Calls _ _ #[.agg #[.string di, .string dt, .string dl, .string dc, .int .i64 du], .agg #[.string fi, .string ft, .string fl, .string fc, .int .i64 fu]] _ _ at cM
        have gc : decide (0 ≤ cc) = false := decide_eq_false (by omega)
        have gk : (0 : Int) < (k : Int) := by omega
        have gk1 : 0 < k := by omega
        have gk3 : decide ((0 : Int) < (k : Int)) = true := decide_eq_true gk
        have j1 : IntKind.i64.wrap ((k : Int) - 1) = ((k - 1 : Nat) : Int) := by rw [IntWalk.i64_in _ (by omega)]; omega
        have j2 : ((k - 1 : Nat) : Int) < (m : Int) := by omega
        have j3 : (0 : Int) ≤ ((k - 1 : Nat) : Int) := by omega
        clear hk1 hcc
        generalize k - 1 = kp at q0 q1 q2 q3 q4 j1 j2 j3
        clear hk0
        refine wp_region_quiet_below (by kernel_rfl) (by kernel_rfl) ?_
        repeat (first | go_big_quiet_step (fail) | quiet_step (exact cE _ _) | quiet_step (exact cM _ _) | quiet_step (exact cI _ _) | quiet_step (fail))
        refine wpQuiet_nil ?_
        intro _ hw'
        obtain ⟨⟨dq, osq⟩, hw''⟩ := hw'
        subst hw''
        clear q0 q1 q2 q3 q4 cM j1 j2 j3 gc
        have hbr := below_regrown w1 dq osq
        have HBR := Lib.hid (HBB.out ▸ below_seq (HBB.out.symm ▸ HBQ.out) hbr : Below B W _)
        have HSR := Lib.hid (HSE.out.below hbr)
        replace x0 := cell_under x0 hbr
        replace x1 := cell_under x1 hbr
        replace x2 := cell_under x2 hbr
        replace x3 := cell_under x3 hbr
        replace x4 := cell_under x4 hbr
        clear r0 r1 r2 r3 r4 cE cI lk hbr gk gk1 gk3
        generalize Sort.grow (redrawn w1 dq) osq = w2 at HBR HSR x0 x1 x2 x3 x4 ⊢
        go_wp2_with fail
        have CI := ideE_is ⟨fi, ft, fl, fc, fu⟩ w2
        change Calls _ _ #[.agg #[.string fi, .string ft, .string fl, .string fc, .int .i64 fu]] _ _ at CI
        refine CI.mono ?_
        rintro e w3 ⟨rfl, hb3⟩
        have HB3 := Lib.hid (HBB.out ▸ below_seq (HBB.out.symm ▸ HBR.out) hb3 : Below B W _)
        obtain ⟨w4, hput, hs4, hg4⟩ := (HSR.out.below hb3).put fi HZE.out.id (by unfold maxLen; omega)
        have HS4 := Lib.hid (hs4.congr (g := fun s => (l.take (k + 1)).any fun y => y.id.data.toList == s) (fun s => by rw [HNX.out s]; simp only [Bool.beq_comm]))
        have HB4 := Lib.hid (HBB.out ▸ below_grown (HBB.out.symm ▸ HB3.out) (Nat.le_of_eq HBB.out) hg4 : Below B W _)
        clear hs4 hg4 hb3 CI x0 x1 x2 x3 x4
        go_wp2_with fail
        go_roundw
        case rel => exact ⟨k + 1, by omega, by go_num, HS4, HB4⟩
        case measure => simp [intOf]; omega
    · have gl : decide ((k : Int) < (m : Int)) = false := decide_eq_false (by omega)
      go_wp2_with fail
      go_ret
      exact ⟨rfl, HBB.out.symm ▸ hbq.out⟩
end Go.Proofs.YtbodoncomeegpaaGreatDoor.Mw
