/- Parts of this proof, joined: MoW12, MoW13, MoW14. -/
import Derived.Test.YtjaojenalodolaaGreatDoorKM3
/- The program's ordered, at entries, walked: the valid case. Printed by genmow12.py. -/
namespace Go.Proofs.YtjaojenalodolaaGreatDoor.Mw
open Go Go.RowKit Go.Proofs.YtjaojenalodolaaGreatDoor Go.Proofs.YtjaojenalodolaaGreatDoor.Rw
set_option linter.unusedVariables false
set_option maxRecDepth 100000
set_option maxHeartbeats 16000000
theorem ideE_is (e : Mo.En) (w : World) : Calls Tryz.prog 114 #[.agg (eCells e).toArray] w fun x w' => x = .returned (.string e.id) ∧ Below w.heap.size w w' := by
  obtain ⟨i, t, l, c, u⟩ := e
  obtain ⟨x0, -⟩ := cells5 (w := w) (x0 := .string i) (x1 := .string t) (x2 := .string l) (x3 := .string c) (x4 := .int .i64 u) (t := 51)
  have HB := Lib.hid ((Below.refl w.heap.size w).alloc (Nat.le_refl _) (.cells #[.string i, .string t, .string l, .string c, .int .i64 u] 51))
  show Calls Tryz.prog 114 #[.agg #[.string i, .string t, .string l, .string c, .int .i64 u]] w _
  go_enter Tryz.func114, Tryz.ntmps114
  go_wp2_with fail
  go_ret
  exact ⟨rfl, HB.out⟩
theorem re_cE {e : Mo.En} {w : World} (hT : Lib.Utf8Tabs 2 3 w) (hb : EnB e) (he : Mo.okE e = true) :
    ∀ d os, Calls Tryz.prog 117 #[.agg (eCells e).toArray] (Sort.grow (redrawn w d) os) fun e w'' => e = .returned (.int .i64 0) ∧ ∃ p : Regrown, w'' = Sort.grow (redrawn w p.d) p.os := fun d os =>
  Calls.regrown_of (checkE_ok e _ (Tx.u8_below hT (below_regrown w d os)) hb he)
theorem re_mE {a b : Mo.En} {c : Int} {w : World} (hc : Mo.cmpE a b = c) :
    ∀ d os, Calls Tryz.prog 118 #[.agg (eCells a).toArray, .agg (eCells b).toArray] (Sort.grow (redrawn w d) os) fun e w'' => e = .returned (.int .i64 c) ∧ ∃ p : Regrown, w'' = Sort.grow (redrawn w p.d) p.os := fun d os => by
  subst hc
  exact Calls.regrown_of (cmpE_is a b _)
theorem re_iE {e : Mo.En} {w : World} :
    ∀ d os, Calls Tryz.prog 114 #[.agg (eCells e).toArray] (Sort.grow (redrawn w d) os) fun x w'' => x = .returned (.string e.id) ∧ ∃ p : Regrown, w'' = Sort.grow (redrawn w p.d) p.os := fun d os =>
  Calls.regrown_of (ideE_is e _)
theorem ordE_ok (l : List Mo.En) (v : Value) (W : World) (h : Rw W v 5 (l.map eCells)) (hT : Lib.Utf8Tabs 2 3 W) (hl : l.length ≤ 8796093022208) (hb : ∀ e ∈ l, EnB e) (ho : Mo.ordB Mo.okE Mo.cmpE (·.id) l = true) :
    Calls Tryz.prog 116 #[v, .func (.func 117) #[] #[], .func (.func 118) #[] #[], .func (.func 114) #[] #[]] W fun e w' => e = .returned (.bool true) ∧ Below W.heap.size W w' := by
  obtain ⟨g, off, ad, cap, rfl, had, hfd⟩ := ents_at h
  obtain ⟨m, hm⟩ : ∃ m, l.length = m := ⟨_, rfl⟩
  rw [hm] at had hl ⊢
  have HM := Lib.hid hm
  have HAD := Lib.hid had
  have HFD := Lib.hid hfd
  have HB := Lib.hid hb
  have HO := Lib.hid ho
  have HB0 := Lib.hid ((Below.refl W.heap.size W).alloc (Nat.le_refl _) (.map #[] 0))
  have HS0 := Lib.hid (Seen.new W)
  have HT := Lib.hid hT
  clear h had hfd hb hm ho hT
  have hmm := @run_makeMap Tryz.prog
  go_enter Tryz.func116, Tryz.ntmps116
  go_wp2_with fail
  generalize hwA : W.alloc (.map #[] 0) = wA at HB0 HS0 ⊢
  clear hwA
  obtain ⟨B, hB⟩ : ∃ B, W.heap.size = B := ⟨_, rfl⟩
  have HBB := Lib.hid hB
  rw [hB] at HS0 HB0 ⊢
  clear hB
  go_loopw [15] (fun x wq => ∃ k : Nat, k ≤ m ∧ x = .int .i64 k ∧ Hid (Seen wq B k (fun s => (l.take k).any fun y => y.id.data.toList == s)) ∧ Hid (Below B W wq)) (fun x _ => m - (intOf x).toNat)
  case atStart => exact ⟨0, Nat.zero_le _, rfl, Lib.hid (HS0.out.congr (fun s => by simp)), HB0⟩
  case round =>
    obtain ⟨k, hk, rfl, hse, hbq⟩ := hrel
    by_cases hlt : k < m
    · obtain rfl := HAD.out (by omega)
      have hkl : k < l.length := by rw [HM.out]; exact hlt
      obtain ⟨y0, y1, y2, y3, y4⟩ := HFD.out k hkl
      replace y0 := cell_under y0 (HBB.out.symm ▸ hbq.out)
      replace y1 := cell_under y1 (HBB.out.symm ▸ hbq.out)
      replace y2 := cell_under y2 (HBB.out.symm ▸ hbq.out)
      replace y3 := cell_under y3 (HBB.out.symm ▸ hbq.out)
      replace y4 := cell_under y4 (HBB.out.symm ▸ hbq.out)
      have i1 : (k : Int) < (m : Int) := by omega
      have i0 : (0 : Int) ≤ (k : Int) := by omega
      obtain ⟨o1, o2, o3⟩ := ordB_at HO.out hkl
      have HZE := Lib.hid (HB.out _ (List.getElem_mem hkl))
      have HNX := Lib.hid (fun s => any_take (l := l) (fun s (y : Mo.En) => y.id.data.toList == s) hkl s)
      have O1 := Lib.hid o1
      have O2 := Lib.hid o2
      have O3 := Lib.hid o3
      clear o1 o2 o3
      generalize l[k] = f at y0 y1 y2 y3 y4 HZE HNX O1 O2 O3
      obtain ⟨fi, ft, fl, fc, fu⟩ := f
      simp only at y0 y1 y2 y3 y4
      go_wp2_with fail
      have HX := cells5 (w := wr) (x0 := .string fi) (x1 := .string ft) (x2 := .string fl) (x3 := .string fc) (x4 := .int .i64 fu) (t := 51)
      have hba := (Below.refl wr.heap.size wr).alloc (Nat.le_refl _) (.cells #[.string fi, .string ft, .string fl, .string fc, .int .i64 fu] 51)
      have HBQ := Lib.hid (HBB.out ▸ below_seq (HBB.out.symm ▸ hbq.out) hba : Below B W _)
      have HSE := Lib.hid (hse.out.below hba)
      replace y0 := cell_under y0 hba
      replace y1 := cell_under y1 hba
      replace y2 := cell_under y2 hba
      replace y3 := cell_under y3 hba
      replace y4 := cell_under y4 hba
      generalize hS : wr.heap.size = Sx at HX ⊢
      generalize wr.alloc (.cells #[.string fi, .string ft, .string fl, .string fc, .int .i64 fu] 51) = w1 at HX HBQ HSE y0 y1 y2 y3 y4 ⊢
      clear hba hS
      obtain ⟨x0, x1, x2, x3, x4⟩ := HX
      have HT1 := Lib.hid (Tx.u8_below HT.out (HBB.out ▸ HBQ.out : Below W.heap.size W w1))
      have cE := re_cE HT1.out HZE.out O1.out
      have cI := re_iE (e := ⟨fi, ft, fl, fc, fu⟩) (w := w1)
      change ∀ d os, Calls _ _ #[.agg #[.string fi, .string ft, .string fl, .string fc, .int .i64 fu]] _ _ at cE cI
      have lk := fun d os => (HSE.out.below (below_regrown w1 d os)).look fi HZE.out.id O3.out
      have r0 := cell_regrown x0
      have r1 := cell_regrown x1
      have r2 := cell_regrown x2
      have r3 := cell_regrown x3
      have r4 := cell_regrown x4
      by_cases hk0 : k = 0
      · have gk : ¬ (0 : Int) < (k : Int) := by omega
        have gk1 : ¬ 0 < k := by omega
        have gk3 : decide ((0 : Int) < (k : Int)) = false := decide_eq_false gk
        clear hk0 y0 y1 y2 y3 y4
        refine wp_region_quiet_below (by kernel_rfl) (by kernel_rfl) ?_
        repeat (first | go_big_quiet_step (fail) | quiet_step (exact cE _ _) | quiet_step (exact cI _ _) | quiet_step (fail))
        refine wpQuiet_nil ?_
        intro _ hw'
        obtain ⟨⟨dq, osq⟩, hw''⟩ := hw'
        subst hw''
        have hbr := below_regrown w1 dq osq
        have HBR := Lib.hid (HBB.out ▸ below_seq (HBB.out.symm ▸ HBQ.out) hbr : Below B W _)
        have HSR := Lib.hid (HSE.out.below hbr)
        replace x0 := cell_under x0 hbr
        replace x1 := cell_under x1 hbr
        replace x2 := cell_under x2 hbr
        replace x3 := cell_under x3 hbr
        replace x4 := cell_under x4 hbr
        clear r0 r1 r2 r3 r4 cE cI lk hbr gk gk1 gk3
        generalize Sort.grow (redrawn w1 dq) osq = w2 at HBR HSR x0 x1 x2 x3 x4 ⊢
        go_wp2_with fail
        have CI := ideE_is ⟨fi, ft, fl, fc, fu⟩ w2
        change Calls _ _ #[.agg #[.string fi, .string ft, .string fl, .string fc, .int .i64 fu]] _ _ at CI
        refine CI.mono ?_
        rintro e w3 ⟨rfl, hb3⟩
        have HB3 := Lib.hid (HBB.out ▸ below_seq (HBB.out.symm ▸ HBR.out) hb3 : Below B W _)
        obtain ⟨w4, hput, hs4, hg4⟩ := (HSR.out.below hb3).put fi HZE.out.id (by unfold maxLen; omega)
        have HS4 := Lib.hid (hs4.congr (g := fun s => (l.take (k + 1)).any fun y => y.id.data.toList == s) (fun s => by rw [HNX.out s]; simp only [Bool.beq_comm]))
        have HB4 := Lib.hid (HBB.out ▸ below_grown (HBB.out.symm ▸ HB3.out) (Nat.le_of_eq HBB.out) hg4 : Below B W _)
        clear hs4 hg4 hb3 CI x0 x1 x2 x3 x4
        go_wp2_with fail
        go_roundw
        case rel => exact ⟨k + 1, by omega, by go_num, HS4, HB4⟩
        case measure => simp [intOf]; omega
      · have hk1 : k - 1 < l.length := by omega
        obtain ⟨z0, z1, z2, z3, z4⟩ := HFD.out (k - 1) hk1
        have hbW : Below W.heap.size W w1 := HBB.out ▸ HBQ.out
        have q0 := cell_regrown (cell_under z0 hbW)
        have q1 := cell_regrown (cell_under z1 hbW)
        have q2 := cell_regrown (cell_under z2 hbW)
        have q3 := cell_regrown (cell_under z3 hbW)
        have q4 := cell_regrown (cell_under z4 hbW)
        have hlt0 := O2.out (by omega) hk1
        clear z0 z1 z2 z3 z4 hbW y0 y1 y2 y3 y4
        generalize l[k - 1] = dd at q0 q1 q2 q3 q4 hlt0
        obtain ⟨cc, hcc⟩ : ∃ c, Mo.cmpE dd ⟨fi, ft, fl, fc, fu⟩ = c := ⟨_, rfl⟩
        have cM := re_mE (w := w1) hcc
        rw [hcc] at hlt0
        obtain ⟨di, dt, dl, dc, du⟩ := dd
        simp only at q0 q1 q2 q3 q4
        change ∀ d os, Calls _ _ #[.agg #[.string di, .string dt, .string dl, .string dc, .int .i64 du], .agg #[.string fi, .string ft, .string fl, .string fc, .int .i64 fu]] _ _ at cM
        have gc : decide (0 ≤ cc) = false := decide_eq_false (by omega)
        have gk : (0 : Int) < (k : Int) := by omega
        have gk1 : 0 < k := by omega
        have gk3 : decide ((0 : Int) < (k : Int)) = true := decide_eq_true gk
        have j1 : IntKind.i64.wrap ((k : Int) - 1) = ((k - 1 : Nat) : Int) := by rw [IntWalk.i64_in _ (by omega)]; omega
        have j2 : ((k - 1 : Nat) : Int) < (m : Int) := by omega
        have j3 : (0 : Int) ≤ ((k - 1 : Nat) : Int) := by omega
        clear hk1 hcc
        generalize k - 1 = kp at q0 q1 q2 q3 q4 j1 j2 j3
        clear hk0
        refine wp_region_quiet_below (by kernel_rfl) (by kernel_rfl) ?_
        repeat (first | go_big_quiet_step (fail) | quiet_step (exact cE _ _) | quiet_step (exact cM _ _) | quiet_step (exact cI _ _) | quiet_step (fail))
        refine wpQuiet_nil ?_
        intro _ hw'
        obtain ⟨⟨dq, osq⟩, hw''⟩ := hw'
        subst hw''
        clear q0 q1 q2 q3 q4 cM j1 j2 j3 gc
        have hbr := below_regrown w1 dq osq
        have HBR := Lib.hid (HBB.out ▸ below_seq (HBB.out.symm ▸ HBQ.out) hbr : Below B W _)
        have HSR := Lib.hid (HSE.out.below hbr)
        replace x0 := cell_under x0 hbr
        replace x1 := cell_under x1 hbr
        replace x2 := cell_under x2 hbr
        replace x3 := cell_under x3 hbr
        replace x4 := cell_under x4 hbr
        clear r0 r1 r2 r3 r4 cE cI lk hbr gk gk1 gk3
        generalize Sort.grow (redrawn w1 dq) osq = w2 at HBR HSR x0 x1 x2 x3 x4 ⊢
        go_wp2_with fail
        have CI := ideE_is ⟨fi, ft, fl, fc, fu⟩ w2
        change Calls _ _ #[.agg #[.string fi, .string ft, .string fl, .string fc, .int .i64 fu]] _ _ at CI
        refine CI.mono ?_
        rintro e w3 ⟨rfl, hb3⟩
        have HB3 := Lib.hid (HBB.out ▸ below_seq (HBB.out.symm ▸ HBR.out) hb3 : Below B W _)
        obtain ⟨w4, hput, hs4, hg4⟩ := (HSR.out.below hb3).put fi HZE.out.id (by unfold maxLen; omega)
        have HS4 := Lib.hid (hs4.congr (g := fun s => (l.take (k + 1)).any fun y => y.id.data.toList == s) (fun s => by rw [HNX.out s]; simp only [Bool.beq_comm]))
        have HB4 := Lib.hid (HBB.out ▸ below_grown (HBB.out.symm ▸ HB3.out) (Nat.le_of_eq HBB.out) hg4 : Below B W _)
        clear hs4 hg4 hb3 CI x0 x1 x2 x3 x4
        go_wp2_with fail
        go_roundw
        case rel => exact ⟨k + 1, by omega, by go_num, HS4, HB4⟩
        case measure => simp [intOf]; omega
    · have gl : decide ((k : Int) < (m : Int)) = false := decide_eq_false (by omega)
      go_wp2_with fail
      go_ret
      exact ⟨rfl, HBB.out.symm ▸ hbq.out⟩
end Go.Proofs.YtjaojenalodolaaGreatDoor.Mw
/- The program's CheckFeed, walked: the valid case. -/
namespace Go.Proofs.YtjaojenalodolaaGreatDoor.Mw
open Go Go.RowKit Go.Proofs.YtjaojenalodolaaGreatDoor Go.Proofs.YtjaojenalodolaaGreatDoor.Rw
set_option linter.unusedVariables false
set_option maxRecDepth 100000
set_option maxHeartbeats 16000000
theorem contains_no (p : List ByteArray) (v : Value) (W : World) (hp : Rw W v 1 (p.map sCell)) (lp : p.length ≤ 8796093022208) (h : p.all (fun p => Mo.neS p && Mo.okS p) = true) :
    Calls Tryz.prog 112 #[v, .string ⟨#[]⟩] W fun e w' => e = .returned (.bool false) ∧ w' = W := by
  obtain ⟨g, off, ad, cap, rfl, had, hc⟩ := path_at hp
  by_cases h0 : p.length = 0
  · rw [h0]
    exact Tryz.slices_Contains_string_empty ad cap _ W
  · obtain rfl := had (by omega)
    have c := Tryz.slices_Contains_string g off p.length cap p ⟨#[]⟩ W (Nat.le_refl _) (by omega) (fun j hj => by
      rw [hc j hj, List.getD_eq_getElem?_getD, List.getElem?_eq_getElem hj]
      rfl)
    have e : Lib.containsS (p.take p.length) ⟨#[]⟩ = false := by
      rw [Bool.eq_false_iff]
      intro e
      rw [Lib.containsS_iff, List.take_of_length_le (Nat.le_refl _)] at e
      have := List.all_eq_true.1 h _ e
      rw [Bool.and_eq_true] at this
      exact absurd this.1 (by unfold Mo.neS; rw [ByteArray.toList_eq]; simp)
    rw [e] at c
    exact c
theorem all_imp {p : List ByteArray} (h : p.all (fun p => Mo.neS p && Mo.okS p) = true) : p.all Mo.okS = true := by
  rw [List.all_eq_true] at h ⊢
  intro x hx
  have := h x hx
  rw [Bool.and_eq_true] at this
  exact this.2
theorem checkF_ok (f : Mo.Fd) (vp ve : Value) (W : World) (hp : Rw W vp 1 (f.path.map sCell)) (he : Rw W ve 5 (f.ents.map eCells)) (hT : Lib.Utf8Tabs 2 3 W) (hb : FdB f) (hk : Mo.okF f = true) :
    Calls Tryz.prog 74 #[.agg (fCells f vp ve).toArray] W fun x w' => x = .returned (.int .i64 0) ∧ Below W.heap.size W w' := by
  obtain ⟨p, i, t, l, u, es⟩ := f
  unfold Mo.okF at hk
  simp only [Bool.and_eq_true] at hk
  obtain ⟨⟨⟨⟨⟨⟨⟨k1, k2⟩, k3⟩, k4⟩, k5⟩, k6⟩, k7⟩, k8⟩ := hk
  have hne : (i.toList.isEmpty) = false := by
    unfold Mo.neS at k3
    revert k3
    cases i.toList.isEmpty <;> simp
  have hln : p.length ≤ 64 := of_decide_eq_true k1
  obtain ⟨x0, x1, x2, x3, x4, x5⟩ := cells6 (w := W) (x0 := vp) (x1 := .string i) (x2 := .string t) (x3 := .string l) (x4 := .int .i64 u) (x5 := ve) (t := 49)
  have HB0 := Lib.hid ((Below.refl W.heap.size W).alloc (Nat.le_refl _) (.cells #[vp, .string i, .string t, .string l, .int .i64 u, ve] 49))
  have CC := Lib.hid (fun w (hw : Below W.heap.size W w) => contains_no p vp w (hp.under hw) hb.plen k2)
  have CA := Lib.hid (fun w (hw : Below W.heap.size W w) => all_is p vp w (hp.under hw) (Tx.u8_below hT hw) hb.plen hb.path)
  rw [all_imp k2] at CA
  have CT := Lib.hid (fun w => inTime_ok u w k4)
  have CO := Lib.hid (fun w (hw : Below W.heap.size W w) => ordE_ok es ve w (he.under hw) (Tx.u8_below hT hw) hb.elen hb.ents k8)
  have CB := Lib.hid (fun w cap (hw : Below W.heap.size W w) => all_is [i, t, l] (.slice (some ⟨w.heap.size, 0, none⟩) 3 cap) (w.alloc (.cells #[.string i, .string t, .string l] 9)) (rw_new w [i, t, l] 9 cap) (Tx.u8_below hT (hw.alloc hw.size _)) (by simp) (by
    intro q hq
    rcases List.mem_cons.1 hq with rfl | hq
    · exact hb.id
    rcases List.mem_cons.1 hq with rfl | hq
    · exact hb.title
    rcases List.mem_cons.1 hq with rfl | hq
    · exact hb.link
    · cases hq))
  rw [show [i, t, l].all Mo.okS = true by simp only [List.all_cons, List.all_nil, k5, k6, k7]; rfl] at CB
  obtain ⟨-, -, pa, pc, rfl, -, -⟩ := path_at hp
  obtain ⟨-, -, ea, ec, rfl, -, -⟩ := ents_at he
  obtain ⟨pn, hpn⟩ : ∃ n, p.length = n := ⟨_, rfl⟩
  obtain ⟨en, hen⟩ : ∃ n, es.length = n := ⟨_, rfl⟩
  simp only at x0 x5 CC CA CO HB0
  show Calls Tryz.prog 74 #[.agg #[.slice pa p.length pc, .string i, .string t, .string l, .int .i64 u, .slice ea es.length ec]] W _
  rw [hpn] at x0 CC CA hln HB0 ⊢
  rw [hen] at x0 x1 x2 x3 x4 x5 CO HB0 ⊢
  rw [hpn] at x1 x2 x3 x4 x5
  have i1 : (pn : Int) ≤ 64 := by omega
  clear hp he hT hb k1 k2 k3 k4 k5 k6 k7 k8 hln hpn hen
  go_enter Tryz.func74, Tryz.ntmps74
  go_wp2_with fail
  generalize W.alloc (.cells #[.slice pa pn pc, .string i, .string t, .string l, .int .i64 u, .slice ea en ec] 49) = w1 at x0 x1 x2 x3 x4 x5 HB0 ⊢
  refine (CC.out _ HB0.out).mono ?_
  rintro e w2 ⟨rfl, rfl⟩
  go_wp2_with fail
  refine (CA.out _ HB0.out).mono ?_
  rintro e w3 ⟨rfl, hb3⟩
  have HB3 := Lib.hid (below_seq HB0.out hb3)
  replace x1 := cell_under x1 hb3
  replace x2 := cell_under x2 hb3
  replace x3 := cell_under x3 hb3
  replace x4 := cell_under x4 hb3
  replace x5 := cell_under x5 hb3
  clear x0 hb3 HB0 CC CA
  go_wp2_with fail
  refine (CT.out _).mono ?_
  rintro e w4 ⟨rfl, rfl⟩
  go_wp2_with fail
  refine (CB.out _ _ HB3.out).mono ?_
  rintro e w5 ⟨rfl, hb5⟩
  have hba := (Below.refl w4.heap.size w4).alloc (Nat.le_refl _) (.cells #[.string i, .string t, .string l] 9)
  have HB5 := Lib.hid (below_seq (HB3.out.alloc HB3.out.size (.cells #[.string i, .string t, .string l] 9)) hb5)
  replace x5 := cell_under (cell_under x5 hba) hb5
  clear x1 x2 x3 x4 hb5 hba HB3 CT CB
  go_wp2_with fail
  refine (CO.out _ HB5.out).mono ?_
  rintro e w6 ⟨rfl, hb6⟩
  have HB6 := Lib.hid (below_seq HB5.out hb6)
  clear x5 hb6 HB5 CO
  go_wp2_with fail
  refine (checked_ok _).mono ?_
  rintro e w7 ⟨rfl, rfl⟩
  go_wp2_with fail
  go_ret
  exact ⟨rfl, HB6.out⟩
end Go.Proofs.YtjaojenalodolaaGreatDoor.Mw
/- The program's ordered, at feeds, and Check, walked: the valid case. Printed by genmow14.py. -/
namespace Go.Proofs.YtjaojenalodolaaGreatDoor.Mw
open Go Go.RowKit Go.Proofs.YtjaojenalodolaaGreatDoor Go.Proofs.YtjaojenalodolaaGreatDoor.Rw
set_option linter.unusedVariables false
set_option maxRecDepth 100000
set_option maxHeartbeats 16000000
theorem ideF_is (f : Mo.Fd) (vp ve : Value) (w : World) (hvp : ∃ a n c, vp = .slice a n c) (hve : ∃ a n c, ve = .slice a n c) : Calls Tryz.prog 76 #[.agg (fCells f vp ve).toArray] w fun x w' => x = .returned (.string f.id) ∧ Below w.heap.size w w' := by
  obtain ⟨p, i, t, l, u, es⟩ := f
  obtain ⟨a1, n1, c1, rfl⟩ := hvp
  obtain ⟨a2, n2, c2, rfl⟩ := hve
  obtain ⟨-, x1, -⟩ := cells6 (w := w) (x0 := .slice a1 n1 c1) (x1 := .string i) (x2 := .string t) (x3 := .string l) (x4 := .int .i64 u) (x5 := .slice a2 n2 c2) (t := 49)
  have HB := Lib.hid ((Below.refl w.heap.size w).alloc (Nat.le_refl _) (.cells #[.slice a1 n1 c1, .string i, .string t, .string l, .int .i64 u, .slice a2 n2 c2] 49))
  show Calls Tryz.prog 76 #[.agg #[.slice a1 n1 c1, .string i, .string t, .string l, .int .i64 u, .slice a2 n2 c2]] w _
  go_enter Tryz.func76, Tryz.ntmps76
  go_wp2_with fail
  go_ret
  exact ⟨rfl, HB.out⟩
theorem re_cF {f : Mo.Fd} {vp ve : Value} {w : World} (hp : Rw w vp 1 (f.path.map sCell)) (he : Rw w ve 5 (f.ents.map eCells)) (hT : Lib.Utf8Tabs 2 3 w) (hb : FdB f) (hk : Mo.okF f = true) :
    ∀ d os, Calls Tryz.prog 74 #[.agg (fCells f vp ve).toArray] (Sort.grow (redrawn w d) os) fun e w'' => e = .returned (.int .i64 0) ∧ ∃ p : Regrown, w'' = Sort.grow (redrawn w p.d) p.os := fun d os =>
  Calls.regrown_of (checkF_ok f vp ve _ (hp.under (below_regrown w d os)) (he.under (below_regrown w d os)) (Tx.u8_below hT (below_regrown w d os)) hb hk)
theorem re_mF {f g : Mo.Fd} {vp ve vq vf : Value} {c : Int} {w : World} (hp : Rw w vp 1 (f.path.map sCell)) (hq : Rw w vq 1 (g.path.map sCell)) (he : ∃ a n c, ve = .slice a n c) (hf : ∃ a n c, vf = .slice a n c) (lp : f.path.length ≤ 8796093022208) (lq : g.path.length ≤ 8796093022208) (hc : Mo.cmpF f g = c) :
    ∀ d os, Calls Tryz.prog 75 #[.agg (fCells f vp ve).toArray, .agg (fCells g vq vf).toArray] (Sort.grow (redrawn w d) os) fun e w'' => e = .returned (.int .i64 c) ∧ ∃ p : Regrown, w'' = Sort.grow (redrawn w p.d) p.os := fun d os => by
  subst hc
  exact Calls.regrown_of (cmpF_is f g vp ve vq vf _ (hp.under (below_regrown w d os)) (hq.under (below_regrown w d os)) he hf lp lq)
theorem re_iF {f : Mo.Fd} {vp ve : Value} {w : World} (hvp : ∃ a n c, vp = .slice a n c) (hve : ∃ a n c, ve = .slice a n c) :
    ∀ d os, Calls Tryz.prog 76 #[.agg (fCells f vp ve).toArray] (Sort.grow (redrawn w d) os) fun x w'' => x = .returned (.string f.id) ∧ ∃ p : Regrown, w'' = Sort.grow (redrawn w p.d) p.os := fun d os =>
  Calls.regrown_of (ideF_is f vp ve _ hvp hve)
theorem ordF_ok (l : List Mo.Fd) (v : Value) (W : World) (h : ArIs W v l) (hT : Lib.Utf8Tabs 2 3 W) (hl : l.length ≤ 8796093022208) (hb : ∀ e ∈ l, FdB e) (ho : Mo.ordB Mo.okF Mo.cmpF (·.id) l = true) :
    Calls Tryz.prog 73 #[v, .func (.func 74) #[] #[], .func (.func 75) #[] #[], .func (.func 76) #[] #[]] W fun e w' => e = .returned (.bool true) ∧ Below W.heap.size W w' := by
  obtain ⟨g, off, ad, cap, rfl, had, hfd⟩ := feeds_at h
  obtain ⟨m, hm⟩ : ∃ m, l.length = m := ⟨_, rfl⟩
  rw [hm] at had hl ⊢
  have HM := Lib.hid hm
  have HAD := Lib.hid had
  have HFD := Lib.hid hfd
  have HB := Lib.hid hb
  have HO := Lib.hid ho
  have HB0 := Lib.hid ((Below.refl W.heap.size W).alloc (Nat.le_refl _) (.map #[] 0))
  have HS0 := Lib.hid (Seen.new W)
  have HT := Lib.hid hT
  clear h had hfd hb hm ho hT
  have hmm := @run_makeMap Tryz.prog
  go_enter Tryz.func73, Tryz.ntmps73
  go_wp2_with fail
  generalize hwA : W.alloc (.map #[] 0) = wA at HB0 HS0 ⊢
  clear hwA
  obtain ⟨B, hB⟩ : ∃ B, W.heap.size = B := ⟨_, rfl⟩
  have HBB := Lib.hid hB
  rw [hB] at HS0 HB0 ⊢
  clear hB
  go_loopw [15] (fun x wq => ∃ k : Nat, k ≤ m ∧ x = .int .i64 k ∧ Hid (Seen wq B k (fun s => (l.take k).any fun y => y.id.data.toList == s)) ∧ Hid (Below B W wq)) (fun x _ => m - (intOf x).toNat)
  case atStart => exact ⟨0, Nat.zero_le _, rfl, Lib.hid (HS0.out.congr (fun s => by simp)), HB0⟩
  case round =>
    obtain ⟨k, hk, rfl, hse, hbq⟩ := hrel
    by_cases hlt : k < m
    · obtain rfl := HAD.out (by omega)
      have hkl : k < l.length := by rw [HM.out]; exact hlt
      obtain ⟨vp, ve, hp, he, y0, y1, y2, y3, y4, y5⟩ := HFD.out k hkl
      obtain ⟨-, -, pa, pc, rfl, -, -⟩ := path_at hp
      obtain ⟨-, -, ea, ec, rfl, -, -⟩ := ents_at he
      have HPP := Lib.hid (fun u (hu : Below W.heap.size W u) => hp.under hu)
      have HEE := Lib.hid (fun u (hu : Below W.heap.size W u) => he.under hu)
      clear hp he
      replace y0 := cell_under y0 (HBB.out.symm ▸ hbq.out)
      replace y1 := cell_under y1 (HBB.out.symm ▸ hbq.out)
      replace y2 := cell_under y2 (HBB.out.symm ▸ hbq.out)
      replace y3 := cell_under y3 (HBB.out.symm ▸ hbq.out)
      replace y4 := cell_under y4 (HBB.out.symm ▸ hbq.out)
      replace y5 := cell_under y5 (HBB.out.symm ▸ hbq.out)
      have i1 : (k : Int) < (m : Int) := by omega
      have i0 : (0 : Int) ≤ (k : Int) := by omega
      obtain ⟨o1, o2, o3⟩ := ordB_at HO.out hkl
      have HZE := Lib.hid (HB.out _ (List.getElem_mem hkl))
      have HNX := Lib.hid (fun s => any_take (l := l) (fun s (y : Mo.Fd) => y.id.data.toList == s) hkl s)
      have O1 := Lib.hid o1
      have O2 := Lib.hid o2
      have O3 := Lib.hid o3
      clear o1 o2 o3
      generalize l[k] = f at y0 y1 y2 y3 y4 y5 HZE HNX O1 O2 O3 HPP HEE
      obtain ⟨fp, fi, ft, fl, fu, fe⟩ := f
      simp only at y0 y1 y2 y3 y4 y5
      generalize hfn : fp.length = fn at y0
      generalize hfe : fe.length = fne at y5
      have HFN := Lib.hid hfn
      have HFE := Lib.hid hfe
      clear hfn hfe
      go_wp2_with fail
      have HX := cells6 (w := wr) (x0 := .slice pa fn pc) (x1 := .string fi) (x2 := .string ft) (x3 := .string fl) (x4 := .int .i64 fu) (x5 := .slice ea fne ec) (t := 49)
      have hba := (Below.refl wr.heap.size wr).alloc (Nat.le_refl _) (.cells #[.slice pa fn pc, .string fi, .string ft, .string fl, .int .i64 fu, .slice ea fne ec] 49)
      have HBQ := Lib.hid (HBB.out ▸ below_seq (HBB.out.symm ▸ hbq.out) hba : Below B W _)
      have HSE := Lib.hid (hse.out.below hba)
      replace y0 := cell_under y0 hba
      replace y1 := cell_under y1 hba
      replace y2 := cell_under y2 hba
      replace y3 := cell_under y3 hba
      replace y4 := cell_under y4 hba
      replace y5 := cell_under y5 hba
      generalize hS : wr.heap.size = Sx at HX ⊢
      generalize wr.alloc (.cells #[.slice pa fn pc, .string fi, .string ft, .string fl, .int .i64 fu, .slice ea fne ec] 49) = w1 at HX HBQ HSE y0 y1 y2 y3 y4 y5 ⊢
      clear hba hS
      obtain ⟨x0, x1, x2, x3, x4, x5⟩ := HX
      have HT1 := Lib.hid (Tx.u8_below HT.out (HBB.out ▸ HBQ.out : Below W.heap.size W w1))
      have cE := re_cF (HPP.out w1 (HBB.out ▸ HBQ.out)) (HEE.out w1 (HBB.out ▸ HBQ.out)) HT1.out HZE.out O1.out
      have cI := re_iF (f := ⟨fp, fi, ft, fl, fu, fe⟩) (vp := .slice pa fn pc) (ve := .slice ea fne ec) (w := w1) ⟨_, _, _, rfl⟩ ⟨_, _, _, rfl⟩
      change ∀ d os, Calls _ _ #[.agg #[.slice pa fp.length pc, .string fi, .string ft, .string fl, .int .i64 fu, .slice ea fe.length ec]] _ _ at cE
      rw [HFN.out, HFE.out] at cE
      change ∀ d os, Calls _ _ #[.agg #[.slice pa fn pc, .string fi, .string ft, .string fl, .int .i64 fu, .slice ea fne ec]] _ _ at cI
      have lk := fun d os => (HSE.out.below (below_regrown w1 d os)).look fi HZE.out.id O3.out
      have r0 := cell_regrown x0
      have r1 := cell_regrown x1
      have r2 := cell_regrown x2
      have r3 := cell_regrown x3
      have r4 := cell_regrown x4
      have r5 := cell_regrown x5
      by_cases hk0 : k = 0
      · have gk : ¬ (0 : Int) < (k : Int) := by omega
        have gk1 : ¬ 0 < k := by omega
        have gk3 : decide ((0 : Int) < (k : Int)) = false := decide_eq_false gk
        clear hk0 y0 y1 y2 y3 y4 y5
        refine wp_region_quiet_below (by kernel_rfl) (by kernel_rfl) ?_
        repeat (first | go_big_quiet_step (fail) | quiet_step (exact cE _ _) | quiet_step (exact cI _ _) | quiet_step (fail))
        refine wpQuiet_nil ?_
        intro _ hw'
        obtain ⟨⟨dq, osq⟩, hw''⟩ := hw'
        subst hw''
        have hbr := below_regrown w1 dq osq
        have HBR := Lib.hid (HBB.out ▸ below_seq (HBB.out.symm ▸ HBQ.out) hbr : Below B W _)
        have HSR := Lib.hid (HSE.out.below hbr)
        replace x0 := cell_under x0 hbr
        replace x1 := cell_under x1 hbr
        replace x2 := cell_under x2 hbr
        replace x3 := cell_under x3 hbr
        replace x4 := cell_under x4 hbr
        replace x5 := cell_under x5 hbr
        clear r0 r1 r2 r3 r4 r5 cE cI lk hbr gk gk1 gk3
        generalize Sort.grow (redrawn w1 dq) osq = w2 at HBR HSR x0 x1 x2 x3 x4 x5 ⊢
        go_wp2_with fail
        have CI := ideF_is ⟨fp, fi, ft, fl, fu, fe⟩ (.slice pa fn pc) (.slice ea fne ec) w2 ⟨_, _, _, rfl⟩ ⟨_, _, _, rfl⟩
        change Calls _ _ #[.agg #[.slice pa fn pc, .string fi, .string ft, .string fl, .int .i64 fu, .slice ea fne ec]] _ _ at CI
        refine CI.mono ?_
        rintro e w3 ⟨rfl, hb3⟩
        have HB3 := Lib.hid (HBB.out ▸ below_seq (HBB.out.symm ▸ HBR.out) hb3 : Below B W _)
        obtain ⟨w4, hput, hs4, hg4⟩ := (HSR.out.below hb3).put fi HZE.out.id (by unfold maxLen; omega)
        have HS4 := Lib.hid (hs4.congr (g := fun s => (l.take (k + 1)).any fun y => y.id.data.toList == s) (fun s => by rw [HNX.out s]; simp only [Bool.beq_comm]))
        have HB4 := Lib.hid (HBB.out ▸ below_grown (HBB.out.symm ▸ HB3.out) (Nat.le_of_eq HBB.out) hg4 : Below B W _)
        clear hs4 hg4 hb3 CI x0 x1 x2 x3 x4 x5
        go_wp2_with fail
        go_roundw
        case rel => exact ⟨k + 1, by omega, by go_num, HS4, HB4⟩
        case measure => simp [intOf]; omega
      · have hk1 : k - 1 < l.length := by omega
        obtain ⟨vq, vf, hq, hf, z0, z1, z2, z3, z4, z5⟩ := HFD.out (k - 1) hk1
        obtain ⟨-, -, qa, qc, rfl, -, -⟩ := path_at hq
        obtain ⟨-, -, fa, fc, rfl, -, -⟩ := ents_at hf
        have HZ2 := Lib.hid (HB.out _ (List.getElem_mem hk1)).plen
        have hbW : Below W.heap.size W w1 := HBB.out ▸ HBQ.out
        have q0 := cell_regrown (cell_under z0 hbW)
        have q1 := cell_regrown (cell_under z1 hbW)
        have q2 := cell_regrown (cell_under z2 hbW)
        have q3 := cell_regrown (cell_under z3 hbW)
        have q4 := cell_regrown (cell_under z4 hbW)
        have q5 := cell_regrown (cell_under z5 hbW)
        have HQQ := Lib.hid (hq.under hbW)
        have HPW := Lib.hid (HPP.out w1 hbW)
        have hlt0 := O2.out (by omega) hk1
        clear z0 z1 z2 z3 z4 z5 hbW y0 y1 y2 y3 y4 y5 hq hf
        generalize l[k - 1] = dd at q0 q1 q2 q3 q4 q5 hlt0 HQQ HZ2
        obtain ⟨cc, hcc⟩ : ∃ c, Mo.cmpF dd ⟨fp, fi, ft, fl, fu, fe⟩ = c := ⟨_, rfl⟩
        have cM := re_mF HQQ.out HPW.out ⟨_, _, _, rfl⟩ ⟨ea, fe.length, ec, rfl⟩ HZ2.out HZE.out.plen hcc (ve := .slice fa dd.ents.length fc)
        rw [hcc] at hlt0
        obtain ⟨dp, di, dt, dl, du, de⟩ := dd
        simp only at q0 q1 q2 q3 q4 q5
        generalize hdn : dp.length = dn at q0
        generalize hde : de.length = dne at q5
        change ∀ d os, Calls _ _ #[.agg #[.slice qa dp.length qc, .string di, .string dt, .string dl, .int .i64 du, .slice fa de.length fc], .agg #[.slice pa fp.length pc, .string fi, .string ft, .string fl, .int .i64 fu, .slice ea fe.length ec]] _ _ at cM
        rw [hdn, hde, HFN.out, HFE.out] at cM
        clear hdn hde
        have gc : decide (0 ≤ cc) = false := decide_eq_false (by omega)
        have gk : (0 : Int) < (k : Int) := by omega
        have gk1 : 0 < k := by omega
        have gk3 : decide ((0 : Int) < (k : Int)) = true := decide_eq_true gk
        have j1 : IntKind.i64.wrap ((k : Int) - 1) = ((k - 1 : Nat) : Int) := by rw [IntWalk.i64_in _ (by omega)]; omega
        have j2 : ((k - 1 : Nat) : Int) < (m : Int) := by omega
        have j3 : (0 : Int) ≤ ((k - 1 : Nat) : Int) := by omega
        clear hk1 hcc
        generalize k - 1 = kp at q0 q1 q2 q3 q4 q5 j1 j2 j3
        clear hk0
        refine wp_region_quiet_below (by kernel_rfl) (by kernel_rfl) ?_
        repeat (first | go_big_quiet_step (fail) | quiet_step (exact cE _ _) | quiet_step (exact cM _ _) | quiet_step (exact cI _ _) | quiet_step (fail))
        refine wpQuiet_nil ?_
        intro _ hw'
        obtain ⟨⟨dq, osq⟩, hw''⟩ := hw'
        subst hw''
        clear q0 q1 q2 q3 q4 q5 cM j1 j2 j3 gc
        have hbr := below_regrown w1 dq osq
        have HBR := Lib.hid (HBB.out ▸ below_seq (HBB.out.symm ▸ HBQ.out) hbr : Below B W _)
        have HSR := Lib.hid (HSE.out.below hbr)
        replace x0 := cell_under x0 hbr
        replace x1 := cell_under x1 hbr
        replace x2 := cell_under x2 hbr
        replace x3 := cell_under x3 hbr
        replace x4 := cell_under x4 hbr
        replace x5 := cell_under x5 hbr
        clear r0 r1 r2 r3 r4 r5 cE cI lk hbr gk gk1 gk3
        generalize Sort.grow (redrawn w1 dq) osq = w2 at HBR HSR x0 x1 x2 x3 x4 x5 ⊢
        go_wp2_with fail
        have CI := ideF_is ⟨fp, fi, ft, fl, fu, fe⟩ (.slice pa fn pc) (.slice ea fne ec) w2 ⟨_, _, _, rfl⟩ ⟨_, _, _, rfl⟩
        change Calls _ _ #[.agg #[.slice pa fn pc, .string fi, .string ft, .string fl, .int .i64 fu, .slice ea fne ec]] _ _ at CI
        refine CI.mono ?_
        rintro e w3 ⟨rfl, hb3⟩
        have HB3 := Lib.hid (HBB.out ▸ below_seq (HBB.out.symm ▸ HBR.out) hb3 : Below B W _)
        obtain ⟨w4, hput, hs4, hg4⟩ := (HSR.out.below hb3).put fi HZE.out.id (by unfold maxLen; omega)
        have HS4 := Lib.hid (hs4.congr (g := fun s => (l.take (k + 1)).any fun y => y.id.data.toList == s) (fun s => by rw [HNX.out s]; simp only [Bool.beq_comm]))
        have HB4 := Lib.hid (HBB.out ▸ below_grown (HBB.out.symm ▸ HB3.out) (Nat.le_of_eq HBB.out) hg4 : Below B W _)
        clear hs4 hg4 hb3 CI x0 x1 x2 x3 x4 x5
        go_wp2_with fail
        go_roundw
        case rel => exact ⟨k + 1, by omega, by go_num, HS4, HB4⟩
        case measure => simp [intOf]; omega
    · have gl : decide ((k : Int) < (m : Int)) = false := decide_eq_false (by omega)
      go_wp2_with fail
      go_ret
      exact ⟨rfl, HBB.out.symm ▸ hbq.out⟩
theorem checkA_ok (W : World) (v : Value) (a : List Mo.Fd) (h : ArIs W v a) (hT : Lib.Utf8Tabs 2 3 W) (hb : ArB a) (hk : Mo.okA a = true) :
    Calls Tryz.prog 39 #[.agg #[v]] W fun e w' => e = .returned (.int .i64 0) ∧ Below W.heap.size W w' := by
  have C := Lib.hid (fun w (hw : Below W.heap.size W w) => ordF_ok a v w (h.under hw) (Tx.u8_below hT hw) hb.len hb.each hk)
  obtain ⟨-, -, ad, cap, rfl, -, -⟩ := feeds_at h
  obtain ⟨m, hm⟩ : ∃ m, a.length = m := ⟨_, rfl⟩
  rw [hm] at C ⊢
  have HB0 := Lib.hid ((Below.refl W.heap.size W).alloc (Nat.le_refl _) (.cells #[.slice ad m cap] 24))
  have x0 : (W.alloc (.cells #[.slice ad m cap] 24)).cell? ⟨W.heap.size, 0, none⟩ = some (.slice ad m cap) := by unfold World.cell?; simp only [heap_alloc_new]; rfl
  clear h hb hk hT hm
  go_enter Tryz.func39, Tryz.ntmps39
  go_wp2_with fail
  refine (C.out _ HB0.out).mono ?_
  rintro e w1 ⟨rfl, hb1⟩
  have HB1 := Lib.hid (below_seq HB0.out hb1)
  clear hb1 HB0 x0 C
  go_wp2_with fail
  refine (checked_ok _).mono ?_
  rintro e w2 ⟨rfl, rfl⟩
  go_wp2_with fail
  go_ret
  exact ⟨rfl, HB1.out⟩
end Go.Proofs.YtjaojenalodolaaGreatDoor.Mw
