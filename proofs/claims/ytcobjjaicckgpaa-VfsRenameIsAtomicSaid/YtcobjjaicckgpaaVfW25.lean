/- Crash: its walk. -/
import Derived.Test.YtcobjjaicckgpaaVfW24
namespace Go.Proofs.Ytcobjjaicckgpaa.Vf
open Go Go.RowKit Go.Maps Go.Proofs.Ytcobjjaicckgpaa Go.Proofs.Ytcobjjaicckgpaa.Bs
set_option linter.unusedVariables false

set_option maxRecDepth 100000 in
set_option maxHeartbeats 4000000 in
theorem crash_is (B F : Nat) (bl : Nat → Nat) (o : Loc) (a : AS) (v2 : Value) (ch : List Bool) (ls : List Int) (W : World) (bg off n c : Nat) (bad : Option Addr) (h : Is W B o (conc bl a)) (hw : a.Wf) (hs : a.Cr) (hF : o.F = F)
    (hv1 : n = ch.length) (hbn : n ≤ 1000000000) (hb1 : 0 < n → bad = some ⟨bg, off, none⟩) (hbc : ∀ j (hj : j < ch.length), W.cell? ⟨bg, off + j, none⟩ = some (.bool ch[j])) (hbf : 0 < n → ¬ foot o (conc bl a) bg) (hil : Il W v2 ls) (hln : ls.length ≤ 1000000000) (hif : ∀ g, v2.ownBlock = some g → ¬ foot o (conc bl a) g) :
    Calls Try.prog 13 #[.pointer (some ⟨F, 0, none⟩), .slice bad n c, v2] W (DidU B o (conc bl a) W (a.crash ch ls)) := by
  obtain ⟨pg, pad, pcap, e1, hpad, hpc⟩ := h.pendAt
  obtain ⟨c3, -⟩ := fs_at3 h.fs
  rw [hF, e1] at c3
  have hpl : (conc bl a).pend.length = a.pend.length := by simp [conc]
  rw [hpl] at e1 hpad hpc c3
  obtain ⟨fg, fad, fcap, ef, hfad, -⟩ := h.filesAt
  have hfl : (conc bl a).files.length = a.files.length := by simp [conc]
  rw [hfl] at ef hfad
  obtain ⟨nf, hnf⟩ : ∃ nf, a.files.length = nf := ⟨_, rfl⟩
  rw [hnf] at ef hfad
  have hnf2 : nf ≤ 1000000 := by rw [← hnf]; exact hs.files
  have HNF := Lib.hid hnf
  have HFA := Lib.hid (And.intro ef hfad)
  have HIL := Lib.hid (And.intro hil hif)
  clear ef hfad hnf hfl hil hif
  obtain ⟨m, hm⟩ : ∃ m, a.pend.length = m := ⟨_, rfl⟩
  rw [hm] at e1 hpad hpc c3
  have hm2 : m ≤ 1000000 := by have := hs.dur; omega
  have HI := Lib.hid h
  have HF := Lib.hid hF
  have HM := Lib.hid hm
  have HPA := Lib.hid hpad
  have HE := Lib.hid e1
  have HV := Lib.hid hv1
  have HB1 := Lib.hid hb1
  have HBC := Lib.hid hbc
  have HBF := Lib.hid hbf
  have HS := Lib.hid hs
  have HFR := Lib.hid (Fr.drewN W 0 (foot o (conc bl a)))
  clear h hF hm hpad e1 hv1 hb1 hbc hbf hs hpl
  go_enter Try.func13, Try.ntmps13
  go_wp2_with fail
  go_loopw [18] (fun i wr => ∃ k : Nat, k ≤ m ∧ i = .int .i64 k ∧ Hid (Is wr B o (conc bl { a with dur := a.durK ch k })) ∧ Hid (Fr W wr (foot o (conc bl a)))) (fun i _ => m - (intOf i).toNat)
  case atStart => exact ⟨0, Nat.zero_le _, rfl, HI.out, HFR.out⟩
  case round =>
    obtain ⟨k, hk, rfl, hI, hFr⟩ := hrel
    by_cases hlt : k < m
    · obtain ⟨rfl, -⟩ := HPA.out (by omega)
      have hk3 : k < (conc bl { a with dur := a.durK ch k }).pend.length := by simp [conc, HM.out]; exact hlt
      obtain ⟨q0, q1, q2⟩ := hI.out.pendCells HE.out k hk3
      obtain ⟨cx, hcx⟩ : ∃ cx, a.pend[k]'(by rw [HM.out]; exact hlt) = cx := ⟨_, rfl⟩
      have hpk : (conc bl { a with dur := a.durK ch k }).pend[k] = cc bl cx := by rw [← hcx]; simp [conc]
      have hmem : cx ∈ a.pend := by rw [← hcx]; exact List.getElem_mem _
      have hget : a.pend[k]? = some cx := by rw [List.getElem?_eq_getElem (by rw [HM.out]; exact hlt), hcx]
      rw [hpk] at q0 q1 q2
      obtain ⟨hs1, hs2⟩ := HS.out.pend cx hmem
      obtain ⟨f, hf⟩ : ∃ f, cx.src = f := ⟨_, rfl⟩
      obtain ⟨t, ht⟩ : ∃ t, cx.dst = t := ⟨_, rfl⟩
      obtain ⟨pa, hpa⟩ : ∃ pa, fptrO (cc bl cx).file = .pointer pa := by
        cases (cc bl cx).file with
        | none => exact ⟨_, rfl⟩
        | some x => exact ⟨_, rfl⟩
      have hxv : t.toList.isEmpty = false → (.pointer pa : Value) = fptr (bl cx.file) := fun e => by
        rw [← hpa]
        unfold cc
        simp only [ht, e, Bool.false_eq_true, if_false]
        rfl
      replace q0 : wr.cell? ⟨pg, k * 3, none⟩ = some (.string f) := by rw [q0, ← hf]; rfl
      replace q1 : wr.cell? ⟨pg, k * 3 + 1, none⟩ = some (.string t) := by rw [q1, ← ht]; rfl
      rw [hpa] at q2
      rw [hf] at hs1
      rw [ht] at hs2
      have HX := Lib.hid (And.intro hxv (And.intro hf (And.intro ht hget)))
      clear hpk hmem hget hf ht hpa hxv hcx hk3
      have hdl : (a.durK ch k).length ≤ 1000000 := by have := a.durK_len ch k; have := HS.out.dur; have := HM.out; omega
      have HB0 := Lib.hid ((Below.refl wr.heap.size wr).alloc (Nat.le_refl _) (.cells #[.string f, .string t, .pointer pa] 74))
      have HI0 := Lib.hid (hI.out.below HB0.out)
      have HS0 := Lib.hid (heap_alloc_new wr (.cells #[.string f, .string t, .pointer pa] 74))
      have HFr := Lib.hid hFr.out
      have HIr := Lib.hid hI.out
      have HDL := Lib.hid hdl
      clear hI hFr hdl
      by_cases hkn : k < n
      · obtain rfl := HB1.out (by omega)
        have hkc : k < ch.length := by rw [← HV.out]; exact hkn
        have hcb := HBC.out k hkc
        have hcb2 : wr.cell? ⟨bg, off + k, none⟩ = some (.bool ch[k]) := by
          have hl := lt_of_cell hcb
          unfold World.cell? at hcb ⊢
          rw [HFr.out.block bg hl (HBF.out (by omega))]
          exact hcb
        have hgd : ch.getD k false = ch[k] := by rw [List.getD_eq_getElem?_getD, List.getElem?_eq_getElem hkc]; rfl
        have hcb3 := cell_allocA hcb2 (.cells #[.string f, .string t, .pointer pa] 74)
        clear hcb
        cases hb : ch[k] with
        | true =>
          rw [hb] at hcb2 hcb3 hgd
          have HK1 : Hid (a.durK ch (k + 1) = applyS (a.durK ch k) f t cx.file) := by
            show AS.durK a ch (k + 1) = _
            simp only [AS.durK]
            rw [HX.out.2.2.2]
            simp only [hgd, if_true]
            rw [HX.out.2.1, HX.out.2.2.1]
          clear hb hgd hkc
          have cP := fun (w : World) (hc : w.cell? ⟨F, 1, none⟩ = some (.map (some o.db))) (hD : Dir w o.db (cn bl (a.durK ch k))) => apply_is F 1 o.db (bl cx.file) f t (.pointer pa) (cn bl (a.durK ch k)) w hs1 hs2 (by rw [cn_len]; exact HDL.out) HX.out.1 hc hD
          have CP := Lib.hid cP
          have z0 : (wr.alloc (.cells #[.string f, .string t, .pointer pa] 74)).cell? ⟨wr.heap.size, 0, none⟩ = some (.string f) := by unfold World.cell?; simp only [HS0.out]; rfl
          have z1 : (wr.alloc (.cells #[.string f, .string t, .pointer pa] 74)).cell? ⟨wr.heap.size, 1, none⟩ = some (.string t) := by unfold World.cell?; simp only [HS0.out]; rfl
          have z2 : (wr.alloc (.cells #[.string f, .string t, .pointer pa] 74)).cell? ⟨wr.heap.size, 2, none⟩ = some (.pointer pa) := by unfold World.cell?; simp only [HS0.out]; rfl
          clear cP
          go_wp2_with fail
          clear q0 q1 q2 hcb2 hcb3
          generalize (wr.alloc (.cells #[.string f, .string t, .pointer pa] 74)) = w0 at z0 z1 z2 HB0 HI0 HS0 ⊢
          go_still_tail 4, (by kernel_rfl)
          change wpList _ _ _ _ _ w0.drew
          go_wp2_with fail
          have hcF : w0.drew.cell? ⟨F, 1, none⟩ = some (.map (some o.db)) := by
            have := (fs_flags HI0.out.fs).1
            rw [HF.out] at this
            exact this
          refine (CP.out w0.drew hcF (HI0.out.dur.of_block rfl)).mono ?_
          rintro e w1 ⟨rfl, hD1, hB1'⟩
          have hB1 : But o.db w0 w1 := ⟨hB1'.os, hB1'.tape, hB1'.output, hB1'.size, hB1'.block⟩
          rw [cn_apply, ← HK1.out] at hD1
          have HI1 := Lib.hid (Is.dured (w := w0) HI0.out hB1 hD1)
          have HF1 := Lib.hid ((HFr.out.trans (Fr.of_below HB0.out (foot o (conc bl a))) (fun _ _ e => e)).trans (Fr.of_but hB1 (foot o (conc bl a)) (.inr (.inr (.inl rfl)))) (fun _ _ e => e))
          clear hD1 hB1 hB1' hcF
          go_wp2_with fail
          go_roundw
          case rel => exact ⟨k + 1, by omega, by go_num, HI1.out, HF1.out⟩
          case measure => simp [intOf]; omega
        | false =>
          rw [hb] at hcb2 hcb3 hgd
          have HK1 : Hid (a.durK ch (k + 1) = a.durK ch k) := by
            show AS.durK a ch (k + 1) = _
            simp only [AS.durK]
            rw [HX.out.2.2.2]
            simp only [hgd, Bool.false_eq_true, if_false]
          clear hb hgd hkc
          go_wp2_with fail
          go_roundw
          case rel => exact ⟨k + 1, by omega, by go_num, by rw [HK1.out]; exact HI0.out, HFr.out.trans (Fr.of_below HB0.out (foot o (conc bl a))) (fun _ _ e => e)⟩
          case measure => simp [intOf]; omega
      · have hgd : ch.getD k false = false := by
          have : ch.length ≤ k := by rw [← HV.out]; omega
          rw [List.getD_eq_getElem?_getD, List.getElem?_eq_none this]; rfl
        have HK1 : Hid (a.durK ch (k + 1) = a.durK ch k) := by
          show AS.durK a ch (k + 1) = _
          simp only [AS.durK]
          rw [HX.out.2.2.2]
          simp only [hgd, Bool.false_eq_true, if_false]
        clear hgd
        have hdk : decide ((k : Int) < (n : Int)) = false := decide_eq_false (by omega)
        go_wp2_with fail
        go_roundw
        case rel => exact ⟨k + 1, by omega, by go_num, by rw [HK1.out]; exact HI0.out, HFr.out.trans (Fr.of_below HB0.out (foot o (conc bl a))) (fun _ _ e => e)⟩
        case measure => simp [intOf]; omega
    · have hkm : k = m := by omega
      subst hkm
      have hdur : a.durK ch k = a.durK ch a.pend.length := by rw [HM.out]
      have hI2 := hI.out
      rw [hdur] at hI2
      obtain ⟨es, ck, hmap⟩ := hI2.dur.block
      have hBs : B ≤ wr.heap.size := Nat.le_trans hI2.bF (Nat.le_of_lt (lt_of_heap hI2.fs))
      have hI3 := hI2.restored es ck hmap hBs
      have hI3' : Is (((wr.alloc (.map es ck)).setCell ⟨o.F, 0, none⟩ (.map (some wr.heap.size))).setCell ⟨o.F, 3, none⟩ (.slice none 0 0)) B { o with nb := wr.heap.size, ps := .slice none 0 0 } (conc bl { a with dur := a.durK ch a.pend.length, names := a.durK ch a.pend.length, pend := [] }) := hI3
      have hF3 : Fr wr (((wr.alloc (.map es ck)).setCell ⟨o.F, 0, none⟩ (.map (some wr.heap.size))).setCell ⟨o.F, 3, none⟩ (.slice none 0 0)) (foot o (conc bl a)) := ((Fr.of_below ((Below.refl wr.heap.size wr).alloc (Nat.le_refl _) (.map es ck)) (foot o (conc bl a))).trans (Fr.set _ ⟨o.F, 0, none⟩ (.map (some wr.heap.size)) (foot o (conc bl a)) (.inl rfl)) (fun _ _ e => e)).trans (Fr.set _ ⟨o.F, 3, none⟩ (.slice none 0 0) (foot o (conc bl a)) (.inl rfl)) (fun _ _ e => e)
      rw [HF.out] at hI3' hF3
      obtain ⟨d1, d2, -, -, -, -, dz⟩ := fs_flags hI2.fs
      rw [HFA.out.1] at d2
      have d0 := fs_at0 hI2.fs
      obtain ⟨d3, -⟩ := fs_at3 hI2.fs
      rw [HF.out] at d0 d1 d2 d3 dz
      have cC := Lib.hid (mclone_is o.db es ck wr hmap)
      have e0 := cell_allocA d0 (.map es ck)
      have e2 := cell_allocA d2 (.map es ck)
      have e3 := cell_allocA d3 (.map es ck)
      have z0 : (wr.alloc (.map es ck)).frozen? ⟨F, 0, none⟩ = false := by
        have := dz 0
        unfold World.frozen? at this ⊢
        rw [old_block _ _ _ (lt_of_cell d0)]; exact this
      have z3 : (wr.alloc (.map es ck)).frozen? ⟨F, 3, none⟩ = false := by
        have := dz 3
        unfold World.frozen? at this ⊢
        rw [old_block _ _ _ (lt_of_cell d0)]; exact this
      have HWS := Lib.hid hFr.out.size
      have H3 := Lib.hid (And.intro hI3' (hFr.out.trans hF3 (fun _ _ e => e)))
      clear hI hFr hI2 hI3 hI3' hF3 hmap dz hdur
      go_wp2_with fail
      refine cC.out.mono ?_
      rintro e w1 ⟨rfl, rfl⟩
      clear d0 d1 d2 d3
      go_wp2_with fail
      go_loopw [2, 57] (fun v i wr => ∃ k : Nat, k ≤ nf ∧ i = .int .i64 k ∧ Hid (Il W v (ls.drop (dirtyA (a.files.take k)))) ∧ Hid (∀ g, v.ownBlock = some g → ¬ foot o (conc bl a) g) ∧ Hid (∃ nb', Is wr B { o with F := F, nb := nb', ps := .slice none 0 0 } (conc bl { a with files := a.filesK ls k, dur := a.durK ch a.pend.length, names := a.durK ch a.pend.length, pend := [] }) ∧ W.heap.size ≤ nb') ∧ Hid (Fr W wr (foot o (conc bl a)))) (fun _ i _ => nf - (intOf i).toNat)
      case atStart => exact ⟨0, Nat.zero_le _, rfl, HIL.out.1, HIL.out.2, ⟨_, H3.out.1, HWS.out⟩, H3.out.2⟩
      case round =>
        clear e0 e2 e3 z0 z3 c3
        obtain ⟨k2, hk2, rfl, hil, hif, hI, hFr⟩ := hrel
        by_cases hlt2 : k2 < nf
        · obtain rfl := HFA.out.2 (by omega)
          obtain ⟨nb', hIs, hnb⟩ := hI.out
          have hk3 : k2 < a.files.length := by rw [HNF.out]; exact hlt2
          obtain ⟨f, hf⟩ : ∃ f, a.files[k2] = f := ⟨_, rfl⟩
          have hat : (a.filesK ls k2)[k2]? = some f := by rw [a.filesK_at ls k2 k2 (Nat.le_refl _), List.getElem?_eq_getElem hk3, hf]
          have hds := dirtyA_step a.files k2 hk3
          rw [hf] at hds
          have q0 := hIs.fileCell HFA.out.1 (k := k2) (by rw [a.filesK_len]; exact hk3)
          obtain ⟨dv, rv, hcb, hrd, hrr⟩ := hIs.fileAt hat
          have hbfoot : foot o (conc bl a) (bl k2) := .inr (.inr (.inr (.inr (.inr (Ab.file (bl := bl) hk3)))))
          generalize hbl : bl k2 = b at q0 hcb hbfoot
          obtain ⟨c0, c1, c2, cz⟩ := file_cells hcb
          obtain ⟨da, dn, dc, hdv⟩ := hrd.1.slice
          obtain ⟨ra, rn, rc, hrv⟩ := hrr.1.slice
          subst hdv
          subst hrv
          obtain ⟨hdn, hdc⟩ := hrd.1.len
          have z0 := cz 0
          have z1 := cz 1
          have z2 := cz 2
          have HX := Lib.hid (And.intro hIs (And.intro hnb (And.intro hat (And.intro hcb (And.intro hrd (And.intro hrr (And.intro hbfoot (And.intro hbl (And.intro hds hdn)))))))))
          have HFr := Lib.hid hFr.out
          clear hIs hnb hat hcb hrd hrr hbfoot hbl hds cz hI hFr hf hk3
          cases hsy : f.synced with
          | true =>
            rw [hsy] at c2
            have HK : Hid (a.filesK ls (k2 + 1) = a.filesK ls k2) := modify_same HX.out.2.2.1 (by unfold crashF; rw [if_pos hsy])
            have HD : Hid (dirtyA (a.files.take (k2 + 1)) = dirtyA (a.files.take k2)) := by have := HX.out.2.2.2.2.2.2.2.2.1; rw [hsy] at this; exact this
            clear hsy hdn
            go_wp2_with fail
            go_roundw
            case rel => exact ⟨k2 + 1, by omega, by go_num, by rw [HD.out]; exact hil.out, hif.out, ⟨nb', by rw [HK.out]; exact HX.out.1, HX.out.2.1⟩, HFr.out⟩
            case measure => simp [intOf]; omega
          | false =>
            rw [hsy] at c2
            have HD : Hid (dirtyA (a.files.take (k2 + 1)) = dirtyA (a.files.take k2) + 1) := by have := HX.out.2.2.2.2.2.2.2.2.1; rw [hsy] at this; exact this
            have HSY := Lib.hid hsy
            clear hsy
            obtain ⟨d, hd⟩ : ∃ d, dirtyA (a.files.take k2) = d := ⟨_, rfl⟩
            have HIL2 := Lib.hid hil.out
            have HIF2 := Lib.hid hif.out
            have HDD := Lib.hid hd
            rw [hd] at HIL2 HD
            clear hil hif hd
            cases hls : ls.drop d with
            | nil =>
              rw [hls] at HIL2
              obtain ⟨ad, c', rfl⟩ := HIL2.out.nil
              have HN : Hid (ls.getD d (-1) = -1) := drop_none hls
              have HL1 : Hid (ls.drop (d + 1) = []) := List.drop_eq_nil_iff.2 (by have := List.drop_eq_nil_iff.1 hls; omega)
              clear hls hdn
              go_wp2_with fail
              go_roundw
              case rel =>
                obtain ⟨hb1, hK⟩ := three_set (.slice ra rn rc) (.slice ra rn rc) (.bool true) HX.out.2.2.2.1
                have hcr : (crashF (-1) f).data = f.dur := by unfold crashF; rw [if_neg (by rw [HSY.out]; decide)]; rfl
                have hi' := HX.out.1.crashed (n := ls.getD (dirtyA (a.files.take k2)) (-1)) HX.out.2.2.1 HSY.out (by rw [HX.out.2.2.2.2.2.2.2.1]; exact hK) (by rw [HX.out.2.2.2.2.2.2.2.1]; exact hb1) (by rw [HDD.out, HN.out, hcr]; exact HX.out.2.2.2.2.2.1)
                exact ⟨k2 + 1, by omega, by go_num, by rw [HD.out, HL1.out]; exact HIL2.out, HIF2.out, ⟨nb', hi', HX.out.2.1⟩, ((HFr.out.trans (Fr.set _ _ _ _ HX.out.2.2.2.2.2.2.1) (fun _ _ e => e)).trans (Fr.set _ _ _ _ HX.out.2.2.2.2.2.2.1) (fun _ _ e => e)).trans (Fr.set _ _ _ _ HX.out.2.2.2.2.2.2.1) (fun _ _ e => e)⟩
              case measure => simp [intOf]; omega
            | cons N r =>
              rw [hls] at HIL2
              obtain ⟨lg, loff, c', nn, ad, rfl, hnn, hnc, hcN, hsl, hsl2, hil', hown⟩ := HIL2.out.cons
              obtain ⟨hN, hL1⟩ := drop_some hls
              have hcN2 : wr.cell? ⟨lg, loff, none⟩ = some (.int .i64 N) := by
                have hl := lt_of_cell hcN
                unfold World.cell? at hcN ⊢
                rw [HFr.out.block lg hl (HIF2.out lg rfl)]
                exact hcN
              have hnl : nn ≤ 1000000000 := by
                have : (ls.drop d).length ≤ ls.length := by rw [List.length_drop]; omega
                rw [hls] at this
                simp at this
                omega
              have hn1 : (0 : Int) < (nn : Int) := by omega
              have HT := Lib.hid (And.intro hil' (And.intro hown (And.intro hN hL1)))
              have HIF3 : Hid (∀ g, (Value.slice ad (nn - 1) (c' - 1)).ownBlock = some g → ¬ foot o (conc bl a) g) := fun g hg => HIF2.out g (hown g hg)
              clear hil' hown hN hL1 hls hcN hnn HIL2 HIF2
              have hSY : ¬ f.synced = true := by rw [HSY.out]; decide
              have HNS := Lib.hid hSY
              clear hSY
              by_cases hneg : N < 0
              · have g1 : decide (N < (0 : Int)) = true := decide_eq_true hneg
                have g2 : decide ((0 : Int) ≤ N) = false := decide_eq_false (by omega)
                have HNEG := Lib.hid hneg
                clear hneg hdn
                go_wp2_with fail
                go_quiet (fail)
                go_wp2_with fail
                go_roundw
                case rel =>
                  obtain ⟨hb1, hK⟩ := three_set (w := wr.drewN nq) (.slice ra rn rc) (.slice ra rn rc) (.bool true) HX.out.2.2.2.1
                  have hcr : (crashF N f).data = f.dur := by unfold crashF; rw [if_neg HNS.out]; simp only [HNEG.out, if_true]
                  have hi' := (HX.out.1.drewN nq).crashed (n := ls.getD (dirtyA (a.files.take k2)) (-1)) HX.out.2.2.1 HSY.out (by rw [HX.out.2.2.2.2.2.2.2.1]; exact hK) (by rw [HX.out.2.2.2.2.2.2.2.1]; exact hb1) (by rw [HDD.out, HT.out.2.2.1, hcr]; exact HX.out.2.2.2.2.2.1)
                  exact ⟨k2 + 1, by omega, by go_num, by rw [HD.out, HT.out.2.2.2]; exact HT.out.1, HIF3.out, ⟨nb', hi', HX.out.2.1⟩, ((((HFr.out.trans (Fr.drewN wr nq _) (fun _ _ e => e)).trans (Fr.set _ _ _ _ HX.out.2.2.2.2.2.2.1) (fun _ _ e => e)).trans (Fr.set _ _ _ _ HX.out.2.2.2.2.2.2.1) (fun _ _ e => e)).trans (Fr.set _ _ _ _ HX.out.2.2.2.2.2.2.1) (fun _ _ e => e))⟩
                case measure => simp [intOf]; omega
              · obtain ⟨q, rfl⟩ := Int.eq_ofNat_of_zero_le (by omega : 0 ≤ N)
                by_cases hq : q < dn
                · have g1 : decide ((q : Int) < (0 : Int)) = false := decide_eq_false (by omega)
                  have g2 : decide ((0 : Int) ≤ (q : Int)) = true := decide_eq_true (by omega)
                  have g3 : (q : Int) < (dn : Int) := by omega
                  have g4 : (0 : Int) ≤ (q : Int) := by omega
                  have g5 : (q : Int) ≤ (dc : Int) := by omega
                  have HQ := Lib.hid (show q < f.data.length by rw [← hdn]; exact hq)
                  clear hneg hdn hq
                  go_wp2_with fail
                  go_quiet (fail)
                  go_wp2_with fail
                  go_roundw
                  case rel =>
                    obtain ⟨hb1, hK⟩ := three_set (w := wr.drewN nq) (.slice da q dc) (.slice da q dc) (.bool true) HX.out.2.2.2.1
                    have hcr : (crashF (q : Int) f).data = f.data.take q := by
                        unfold crashF
                        rw [if_neg HNS.out]
                        have h1 : ¬ ((q : Int) < 0) := by omega
                        have h2 : (q : Int) < (f.data.length : Int) := by have := HQ.out; omega
                        simp only [h1, h2, if_true, if_false, Int.toNat_natCast]
                    have hi' := (HX.out.1.drewN nq).crashed (n := ls.getD (dirtyA (a.files.take k2)) (-1)) HX.out.2.2.1 HSY.out (by rw [HX.out.2.2.2.2.2.2.2.1]; exact hK) (by rw [HX.out.2.2.2.2.2.2.2.1]; exact hb1) (by rw [HDD.out, HT.out.2.2.1, hcr]; exact ⟨HX.out.2.2.2.2.1.1.cut q (Nat.le_of_lt HQ.out), fun g hg => HX.out.2.2.2.2.1.2 g (by cases da <;> exact hg)⟩)
                    exact ⟨k2 + 1, by omega, by go_num, by rw [HD.out, HT.out.2.2.2]; exact HT.out.1, HIF3.out, ⟨nb', hi', HX.out.2.1⟩, ((((HFr.out.trans (Fr.drewN wr nq _) (fun _ _ e => e)).trans (Fr.set _ _ _ _ HX.out.2.2.2.2.2.2.1) (fun _ _ e => e)).trans (Fr.set _ _ _ _ HX.out.2.2.2.2.2.2.1) (fun _ _ e => e)).trans (Fr.set _ _ _ _ HX.out.2.2.2.2.2.2.1) (fun _ _ e => e))⟩
                  case measure => simp [intOf]; omega
                · have g1 : decide ((q : Int) < (0 : Int)) = false := decide_eq_false (by omega)
                  have g2 : decide ((0 : Int) ≤ (q : Int)) = true := decide_eq_true (by omega)
                  have g3 : ¬ ((q : Int) < (dn : Int)) := by omega
                  have HQ := Lib.hid (show ¬ q < f.data.length by rw [← hdn]; exact hq)
                  clear hneg hdn
                  go_wp2_with fail
                  go_quiet (fail)
                  go_wp2_with fail
                  go_roundw
                  case rel =>
                    obtain ⟨hb1, hK⟩ := two_set (w := wr.drewN nq) (.slice da dn dc) (.bool true) HX.out.2.2.2.1
                    have hcr : (crashF (q : Int) f).data = f.data := by
                        unfold crashF
                        rw [if_neg HNS.out]
                        have h1 : ¬ ((q : Int) < 0) := by omega
                        have h2 : ¬ ((q : Int) < (f.data.length : Int)) := by have := HQ.out; omega
                        simp only [h1, h2, if_false]
                    have hi' := (HX.out.1.drewN nq).crashed (n := ls.getD (dirtyA (a.files.take k2)) (-1)) HX.out.2.2.1 HSY.out (by rw [HX.out.2.2.2.2.2.2.2.1]; exact hK) (by rw [HX.out.2.2.2.2.2.2.2.1]; exact hb1) (by rw [HDD.out, HT.out.2.2.1, hcr]; exact HX.out.2.2.2.2.1)
                    exact ⟨k2 + 1, by omega, by go_num, by rw [HD.out, HT.out.2.2.2]; exact HT.out.1, HIF3.out, ⟨nb', hi', HX.out.2.1⟩, (((HFr.out.trans (Fr.drewN wr nq _) (fun _ _ e => e)).trans (Fr.set _ _ _ _ HX.out.2.2.2.2.2.2.1) (fun _ _ e => e)).trans (Fr.set _ _ _ _ HX.out.2.2.2.2.2.2.1) (fun _ _ e => e))⟩
                  case measure => simp [intOf]; omega
        · obtain ⟨nb', hIs, hnb⟩ := hI.out
          obtain ⟨-, -, d4, d5, -, -, dz⟩ := fs_flags hIs.fs
          have z4 := dz 4
          have z5 := dz 5
          have hk3 : k2 = nf := by omega
          subst hk3
          have HX := Lib.hid (And.intro hIs (And.intro hnb hFr.out))
          clear hIs hnb hFr dz hI
          go_wp2_with fail
          go_end0
          obtain ⟨hIs, hnb, hFr⟩ := HX.out
          have h1 := hIs.flag (j := 4) (v := .bool false) (s' := { conc bl { a with files := a.filesK ls k2, dur := a.durK ch a.pend.length, names := a.durK ch a.pend.length, pend := [] } with down := false }) rfl rfl rfl rfl rfl
          have h2 := h1.flag (j := 5) (v := .bool false) (s' := { conc bl { a with files := a.filesK ls k2, dur := a.durK ch a.pend.length, names := a.durK ch a.pend.length, pend := [] } with down := false, armed := false }) rfl rfl rfl rfl rfl
          refine ⟨_, { o with F := F, nb := nb', ps := .slice none 0 0 }, rfl, ⟨bl, ?_⟩, HF.out.symm, rfl, h2, (hFr.trans (Fr.set _ _ _ _ (.inl HF.out.symm)) (fun _ _ e => e)).trans (Fr.set _ _ _ _ (.inl HF.out.symm)) (fun _ _ e => e), ?_⟩
          · unfold AS.crash
            rw [HNF.out]
            rfl
          · rintro k' (rfl | rfl | rfl | hk' | hk' | ⟨f, hf, rfl⟩)
            · exact .inl (.inl HF.out.symm)
            · exact .inr hnb
            · exact .inl (.inr (.inr (.inl rfl)))
            · exact .inl (.inr (.inr (.inr (.inl hk'))))
            · simp [Value.ownBlock] at hk'
            · obtain ⟨j, hj, e⟩ := List.getElem_of_mem hf
              have hj2 : j < a.files.length := by
                have : j < ((a.filesK ls k2).mapIdx (cf bl)).length := hj
                rw [List.length_mapIdx, a.filesK_len] at this
                exact this
              have e2 : f.blk = bl j := by rw [← e]; simp [conc, cf]
              rw [e2]
              exact .inl (.inr (.inr (.inr (.inr (.inr (Ab.file hj2))))))
end Go.Proofs.Ytcobjjaicckgpaa.Vf
