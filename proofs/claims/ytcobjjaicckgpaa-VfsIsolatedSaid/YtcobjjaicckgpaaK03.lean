/- Parts of this proof, joined: VfW25, VfW26, Vf3, VfW27, VfW28, VfW29, VfW30, VfN. -/
import Derived.Maps.RangeWalk
import Derived.Maps.Ext
import Derived.LaidEql
import Derived.Deep.RegionWith
import Derived.Deep.RegionHeld3
import Derived.Deep.DrawnRows
import Derived.Lib.ConvBytes
import Derived.Test.YtcobjjaicckgpaaK02
/- Crash: its walk. -/
namespace Go.Proofs.Ytcobjjaicckgpaa.Vf
open Go Go.RowKit Go.Maps Go.Proofs.Ytcobjjaicckgpaa Go.Proofs.Ytcobjjaicckgpaa.Bs
set_option linter.unusedVariables false

set_option maxRecDepth 100000 in
set_option maxHeartbeats 4000000 in
theorem crash_is (B F : Nat) (bl : Nat → Nat) (o : Loc) (a : AS) (v2 : Value) (ch : List Bool) (ls : List Int) (W : World) (bg off n c : Nat) (bad : Option Addr) (h : Is W B o (conc bl a)) (hw : a.Wf) (hs : a.Cr) (hF : o.F = F)
    (hv1 : n = ch.length) (hbn : n ≤ 1000000000) (hb1 : 0 < n → bad = some ⟨bg, off, none⟩) (hbc : ∀ j (hj : j < ch.length), W.cell? ⟨bg, off + j, none⟩ = some (.bool ch[j])) (hbf : 0 < n → ¬ foot o (conc bl a) bg) (hil : Il W v2 ls) (hln : ls.length ≤ 1000000000) (hif : 0 < ls.length → ∀ g, v2.ownBlock = some g → ¬ foot o (conc bl a) g) :
    Calls Try.prog 13 #[.pointer (some ⟨F, 0, none⟩), .slice bad n c, v2] W (DidU B o (conc bl a) W (a.crash ch ls)) := by
  obtain ⟨pg, pad, pcap, e1, hpad, hpc⟩ := h.pendAt
  obtain ⟨c3, -⟩ := fs_at3 h.fs
  rw [hF, e1] at c3
  have hpl : (conc bl a).pend.length = a.pend.length := by simp [conc]
  rw [hpl] at e1 hpad hpc c3
  obtain ⟨fg, fad, fcap, ef, hfad, -⟩ := h.filesAt
  have hfl : (conc bl a).files.length = a.files.length := by simp [conc]
  rw [hfl] at ef hfad
  obtain ⟨nf, hnf⟩ : ∃ nf, a.files.length = nf := ⟨_, rfl⟩
  rw [hnf] at ef hfad
  have hnf2 : nf ≤ 1000000 := by rw [← hnf]; exact hs.files
  have HNF := Lib.hid hnf
  have HFA := Lib.hid (And.intro ef hfad)
  have HIL := Lib.hid (And.intro hil hif)
  clear ef hfad hnf hfl hil hif
  obtain ⟨m, hm⟩ : ∃ m, a.pend.length = m := ⟨_, rfl⟩
  rw [hm] at e1 hpad hpc c3
  have hm2 : m ≤ 1000000 := by have := hs.dur; omega
  have HI := Lib.hid h
  have HF := Lib.hid hF
  have HM := Lib.hid hm
  have HPA := Lib.hid hpad
  have HE := Lib.hid e1
  have HV := Lib.hid hv1
  have HB1 := Lib.hid hb1
  have HBC := Lib.hid hbc
  have HBF := Lib.hid hbf
  have HS := Lib.hid hs
  have HFR := Lib.hid (Fr.drewN W 0 (foot o (conc bl a)))
  clear h hF hm hpad e1 hv1 hb1 hbc hbf hs hpl
  go_enter Try.func13, Try.ntmps13
  go_wp2_with fail
  go_loopw [18] (fun i wr => ∃ k : Nat, k ≤ m ∧ i = .int .i64 k ∧ Hid (Is wr B o (conc bl { a with dur := a.durK ch k })) ∧ Hid (Fr W wr (foot o (conc bl a)))) (fun i _ => m - (intOf i).toNat)
  case atStart => exact ⟨0, Nat.zero_le _, rfl, HI.out, HFR.out⟩
  case round =>
    obtain ⟨k, hk, rfl, hI, hFr⟩ := hrel
    by_cases hlt : k < m
    · obtain ⟨rfl, -⟩ := HPA.out (by omega)
      have hk3 : k < (conc bl { a with dur := a.durK ch k }).pend.length := by simp [conc, HM.out]; exact hlt
      obtain ⟨q0, q1, q2⟩ := hI.out.pendCells HE.out k hk3
      obtain ⟨cx, hcx⟩ : ∃ cx, a.pend[k]'(by rw [HM.out]; exact hlt) = cx := ⟨_, rfl⟩
      have hpk : (conc bl { a with dur := a.durK ch k }).pend[k] = cc bl cx := by rw [← hcx]; simp [conc]
      have hmem : cx ∈ a.pend := by rw [← hcx]; exact List.getElem_mem _
      have hget : a.pend[k]? = some cx := by rw [List.getElem?_eq_getElem (by rw [HM.out]; exact hlt), hcx]
      rw [hpk] at q0 q1 q2
      obtain ⟨hs1, hs2⟩ := HS.out.pend cx hmem
      obtain ⟨f, hf⟩ : ∃ f, cx.src = f := ⟨_, rfl⟩
      obtain ⟨t, ht⟩ : ∃ t, cx.dst = t := ⟨_, rfl⟩
      obtain ⟨pa, hpa⟩ : ∃ pa, fptrO (cc bl cx).file = .pointer pa := by
        cases (cc bl cx).file with
        | none => exact ⟨_, rfl⟩
        | some x => exact ⟨_, rfl⟩
      have hxv : t.toList.isEmpty = false → (.pointer pa : Value) = fptr (bl cx.file) := fun e => by
        rw [← hpa]
        unfold cc
        simp only [ht, e, Bool.false_eq_true, if_false]
        rfl
      replace q0 : wr.cell? ⟨pg, k * 3, none⟩ = some (.string f) := by rw [q0, ← hf]; rfl
      replace q1 : wr.cell? ⟨pg, k * 3 + 1, none⟩ = some (.string t) := by rw [q1, ← ht]; rfl
      rw [hpa] at q2
      rw [hf] at hs1
      rw [ht] at hs2
      have HX := Lib.hid (And.intro hxv (And.intro hf (And.intro ht hget)))
      clear hpk hmem hget hf ht hpa hxv hcx hk3
      have hdl : (a.durK ch k).length ≤ 1000000 := by have := a.durK_len ch k; have := HS.out.dur; have := HM.out; omega
      have HB0 := Lib.hid ((Below.refl wr.heap.size wr).alloc (Nat.le_refl _) (.cells #[.string f, .string t, .pointer pa] 74))
      have HI0 := Lib.hid (hI.out.below HB0.out)
      have HS0 := Lib.hid (heap_alloc_new wr (.cells #[.string f, .string t, .pointer pa] 74))
      have HFr := Lib.hid hFr.out
      have HIr := Lib.hid hI.out
      have HDL := Lib.hid hdl
      clear hI hFr hdl
      by_cases hkn : k < n
      · obtain rfl := HB1.out (by omega)
        have hkc : k < ch.length := by rw [← HV.out]; exact hkn
        have hcb := HBC.out k hkc
        have hcb2 : wr.cell? ⟨bg, off + k, none⟩ = some (.bool ch[k]) := by
          have hl := lt_of_cell hcb
          unfold World.cell? at hcb ⊢
          rw [HFr.out.block bg hl (HBF.out (by omega))]
          exact hcb
        have hgd : ch.getD k false = ch[k] := by rw [List.getD_eq_getElem?_getD, List.getElem?_eq_getElem hkc]; rfl
        have hcb3 := cell_allocA hcb2 (.cells #[.string f, .string t, .pointer pa] 74)
        clear hcb
        cases hb : ch[k] with
        | true =>
          rw [hb] at hcb2 hcb3 hgd
          have HK1 : Hid (a.durK ch (k + 1) = applyS (a.durK ch k) f t cx.file) := by
            show AS.durK a ch (k + 1) = _
            simp only [AS.durK]
            rw [HX.out.2.2.2]
            simp only [hgd, if_true]
            rw [HX.out.2.1, HX.out.2.2.1]
          clear hb hgd hkc
          have cP := fun (w : World) (hc : w.cell? ⟨F, 1, none⟩ = some (.map (some o.db))) (hD : Dir w o.db (cn bl (a.durK ch k))) => apply_is F 1 o.db (bl cx.file) f t (.pointer pa) (cn bl (a.durK ch k)) w hs1 hs2 (by rw [cn_len]; exact HDL.out) HX.out.1 hc hD
          have CP := Lib.hid cP
          have z0 : (wr.alloc (.cells #[.string f, .string t, .pointer pa] 74)).cell? ⟨wr.heap.size, 0, none⟩ = some (.string f) := by unfold World.cell?; simp only [HS0.out]; rfl
          have z1 : (wr.alloc (.cells #[.string f, .string t, .pointer pa] 74)).cell? ⟨wr.heap.size, 1, none⟩ = some (.string t) := by unfold World.cell?; simp only [HS0.out]; rfl
          have z2 : (wr.alloc (.cells #[.string f, .string t, .pointer pa] 74)).cell? ⟨wr.heap.size, 2, none⟩ = some (.pointer pa) := by unfold World.cell?; simp only [HS0.out]; rfl
          clear cP
          go_wp2_with fail
          clear q0 q1 q2 hcb2 hcb3
          generalize (wr.alloc (.cells #[.string f, .string t, .pointer pa] 74)) = w0 at z0 z1 z2 HB0 HI0 HS0 ⊢
          go_still_tail 4, (by kernel_rfl)
          change wpList _ _ _ _ _ w0.drew
          go_wp2_with fail
          have hcF : w0.drew.cell? ⟨F, 1, none⟩ = some (.map (some o.db)) := by
            have := (fs_flags HI0.out.fs).1
            rw [HF.out] at this
            exact this
          refine (CP.out w0.drew hcF (HI0.out.dur.of_block rfl)).mono ?_
          rintro e w1 ⟨rfl, hD1, hB1'⟩
          have hB1 : But o.db w0 w1 := ⟨hB1'.os, hB1'.tape, hB1'.output, hB1'.size, hB1'.block⟩
          rw [cn_apply, ← HK1.out] at hD1
          have HI1 := Lib.hid (Is.dured (w := w0) HI0.out hB1 hD1)
          have HF1 := Lib.hid ((HFr.out.trans (Fr.of_below HB0.out (foot o (conc bl a))) (fun _ _ e => e)).trans (Fr.of_but hB1 (foot o (conc bl a)) (.inr (.inr (.inl rfl)))) (fun _ _ e => e))
          clear hD1 hB1 hB1' hcF
          go_wp2_with fail
          go_roundw
          case rel => exact ⟨k + 1, by omega, by go_num, HI1.out, HF1.out⟩
          case measure => simp [intOf]; omega
        | false =>
          rw [hb] at hcb2 hcb3 hgd
          have HK1 : Hid (a.durK ch (k + 1) = a.durK ch k) := by
            show AS.durK a ch (k + 1) = _
            simp only [AS.durK]
            rw [HX.out.2.2.2]
            simp only [hgd, Bool.false_eq_true, if_false]
          clear hb hgd hkc
          go_wp2_with fail
          go_roundw
          case rel => exact ⟨k + 1, by omega, by go_num, by rw [HK1.out]; exact HI0.out, HFr.out.trans (Fr.of_below HB0.out (foot o (conc bl a))) (fun _ _ e => e)⟩
          case measure => simp [intOf]; omega
      · have hgd : ch.getD k false = false := by
          have : ch.length ≤ k := by rw [← HV.out]; omega
          rw [List.getD_eq_getElem?_getD, List.getElem?_eq_none this]; rfl
        have HK1 : Hid (a.durK ch (k + 1) = a.durK ch k) := by
          show AS.durK a ch (k + 1) = _
          simp only [AS.durK]
          rw [HX.out.2.2.2]
          simp only [hgd, Bool.false_eq_true, if_false]
        clear hgd
        have hdk : decide ((k : Int) < (n : Int)) = false := decide_eq_false (by omega)
        go_wp2_with fail
        go_roundw
        case rel => exact ⟨k + 1, by omega, by go_num, by rw [HK1.out]; exact HI0.out, HFr.out.trans (Fr.of_below HB0.out (foot o (conc bl a))) (fun _ _ e => e)⟩
        case measure => simp [intOf]; omega
    · have hkm : k = m := by omega
      subst hkm
      have hdur : a.durK ch k = a.durK ch a.pend.length := by rw [HM.out]
      have hI2 := hI.out
      rw [hdur] at hI2
      obtain ⟨es, ck, hmap⟩ := hI2.dur.block
      have hBs : B ≤ wr.heap.size := Nat.le_trans hI2.bF (Nat.le_of_lt (lt_of_heap hI2.fs))
      have hI3 := hI2.restored es ck hmap hBs
      have hI3' : Is (((wr.alloc (.map es ck)).setCell ⟨o.F, 0, none⟩ (.map (some wr.heap.size))).setCell ⟨o.F, 3, none⟩ (.slice none 0 0)) B { o with nb := wr.heap.size, ps := .slice none 0 0 } (conc bl { a with dur := a.durK ch a.pend.length, names := a.durK ch a.pend.length, pend := [] }) := hI3
      have hF3 : Fr wr (((wr.alloc (.map es ck)).setCell ⟨o.F, 0, none⟩ (.map (some wr.heap.size))).setCell ⟨o.F, 3, none⟩ (.slice none 0 0)) (foot o (conc bl a)) := ((Fr.of_below ((Below.refl wr.heap.size wr).alloc (Nat.le_refl _) (.map es ck)) (foot o (conc bl a))).trans (Fr.set _ ⟨o.F, 0, none⟩ (.map (some wr.heap.size)) (foot o (conc bl a)) (.inl rfl)) (fun _ _ e => e)).trans (Fr.set _ ⟨o.F, 3, none⟩ (.slice none 0 0) (foot o (conc bl a)) (.inl rfl)) (fun _ _ e => e)
      rw [HF.out] at hI3' hF3
      obtain ⟨d1, d2, -, -, -, -, dz⟩ := fs_flags hI2.fs
      rw [HFA.out.1] at d2
      have d0 := fs_at0 hI2.fs
      obtain ⟨d3, -⟩ := fs_at3 hI2.fs
      rw [HF.out] at d0 d1 d2 d3 dz
      have cC := Lib.hid (mclone_is o.db es ck wr hmap)
      have e0 := cell_allocA d0 (.map es ck)
      have e2 := cell_allocA d2 (.map es ck)
      have e3 := cell_allocA d3 (.map es ck)
      have z0 : (wr.alloc (.map es ck)).frozen? ⟨F, 0, none⟩ = false := by
        have := dz 0
        unfold World.frozen? at this ⊢
        rw [old_block _ _ _ (lt_of_cell d0)]; exact this
      have z3 : (wr.alloc (.map es ck)).frozen? ⟨F, 3, none⟩ = false := by
        have := dz 3
        unfold World.frozen? at this ⊢
        rw [old_block _ _ _ (lt_of_cell d0)]; exact this
      have HWS := Lib.hid hFr.out.size
      have H3 := Lib.hid (And.intro hI3' (hFr.out.trans hF3 (fun _ _ e => e)))
      clear hI hFr hI2 hI3 hI3' hF3 hmap dz hdur
      go_wp2_with fail
      refine cC.out.mono ?_
      rintro e w1 ⟨rfl, rfl⟩
      clear d0 d1 d2 d3
      go_wp2_with fail
      go_loopw [2, 57] (fun v i wr => ∃ k : Nat, k ≤ nf ∧ i = .int .i64 k ∧ Hid (Il W v (ls.drop (dirtyA (a.files.take k)))) ∧ Hid (0 < ls.length → ∀ g, v.ownBlock = some g → ¬ foot o (conc bl a) g) ∧ Hid (∃ nb', Is wr B { o with F := F, nb := nb', ps := .slice none 0 0 } (conc bl { a with files := a.filesK ls k, dur := a.durK ch a.pend.length, names := a.durK ch a.pend.length, pend := [] }) ∧ W.heap.size ≤ nb') ∧ Hid (Fr W wr (foot o (conc bl a)))) (fun _ i _ => nf - (intOf i).toNat)
      case atStart => exact ⟨0, Nat.zero_le _, rfl, HIL.out.1, HIL.out.2, ⟨_, H3.out.1, HWS.out⟩, H3.out.2⟩
      case round =>
        clear e0 e2 e3 z0 z3 c3
        obtain ⟨k2, hk2, rfl, hil, hif, hI, hFr⟩ := hrel
        by_cases hlt2 : k2 < nf
        · obtain rfl := HFA.out.2 (by omega)
          obtain ⟨nb', hIs, hnb⟩ := hI.out
          have hk3 : k2 < a.files.length := by rw [HNF.out]; exact hlt2
          obtain ⟨f, hf⟩ : ∃ f, a.files[k2] = f := ⟨_, rfl⟩
          have hat : (a.filesK ls k2)[k2]? = some f := by rw [a.filesK_at ls k2 k2 (Nat.le_refl _), List.getElem?_eq_getElem hk3, hf]
          have hds := dirtyA_step a.files k2 hk3
          rw [hf] at hds
          have q0 := hIs.fileCell HFA.out.1 (k := k2) (by rw [a.filesK_len]; exact hk3)
          obtain ⟨dv, rv, hcb, hrd, hrr⟩ := hIs.fileAt hat
          have hbfoot : foot o (conc bl a) (bl k2) := .inr (.inr (.inr (.inr (.inr (Ab.file (bl := bl) hk3)))))
          generalize hbl : bl k2 = b at q0 hcb hbfoot
          obtain ⟨c0, c1, c2, cz⟩ := file_cells hcb
          obtain ⟨da, dn, dc, hdv⟩ := hrd.1.slice
          obtain ⟨ra, rn, rc, hrv⟩ := hrr.1.slice
          subst hdv
          subst hrv
          obtain ⟨hdn, hdc⟩ := hrd.1.len
          have z0 := cz 0
          have z1 := cz 1
          have z2 := cz 2
          have HX := Lib.hid (And.intro hIs (And.intro hnb (And.intro hat (And.intro hcb (And.intro hrd (And.intro hrr (And.intro hbfoot (And.intro hbl (And.intro hds hdn)))))))))
          have HFr := Lib.hid hFr.out
          clear hIs hnb hat hcb hrd hrr hbfoot hbl hds cz hI hFr hf hk3
          cases hsy : f.synced with
          | true =>
            rw [hsy] at c2
            have HK : Hid (a.filesK ls (k2 + 1) = a.filesK ls k2) := modify_same HX.out.2.2.1 (by unfold crashF; rw [if_pos hsy])
            have HD : Hid (dirtyA (a.files.take (k2 + 1)) = dirtyA (a.files.take k2)) := by have := HX.out.2.2.2.2.2.2.2.2.1; rw [hsy] at this; exact this
            clear hsy hdn
            go_wp2_with fail
            go_roundw
            case rel => exact ⟨k2 + 1, by omega, by go_num, by rw [HD.out]; exact hil.out, hif.out, ⟨nb', by rw [HK.out]; exact HX.out.1, HX.out.2.1⟩, HFr.out⟩
            case measure => simp [intOf]; omega
          | false =>
            rw [hsy] at c2
            have HD : Hid (dirtyA (a.files.take (k2 + 1)) = dirtyA (a.files.take k2) + 1) := by have := HX.out.2.2.2.2.2.2.2.2.1; rw [hsy] at this; exact this
            have HSY := Lib.hid hsy
            clear hsy
            obtain ⟨d, hd⟩ : ∃ d, dirtyA (a.files.take k2) = d := ⟨_, rfl⟩
            have HIL2 := Lib.hid hil.out
            have HIF2 := Lib.hid hif.out
            have HDD := Lib.hid hd
            rw [hd] at HIL2 HD
            clear hil hif hd
            cases hls : ls.drop d with
            | nil =>
              rw [hls] at HIL2
              obtain ⟨ad, c', rfl⟩ := HIL2.out.nil
              have HN : Hid (ls.getD d (-1) = -1) := drop_none hls
              have HL1 : Hid (ls.drop (d + 1) = []) := List.drop_eq_nil_iff.2 (by have := List.drop_eq_nil_iff.1 hls; omega)
              clear hls hdn
              go_wp2_with fail
              go_roundw
              case rel =>
                obtain ⟨hb1, hK⟩ := three_set (.slice ra rn rc) (.slice ra rn rc) (.bool true) HX.out.2.2.2.1
                have hcr : (crashF (-1) f).data = f.dur := by unfold crashF; rw [if_neg (by rw [HSY.out]; decide)]; rfl
                have hi' := HX.out.1.crashed (n := ls.getD (dirtyA (a.files.take k2)) (-1)) HX.out.2.2.1 HSY.out (by rw [HX.out.2.2.2.2.2.2.2.1]; exact hK) (by rw [HX.out.2.2.2.2.2.2.2.1]; exact hb1) (by rw [HDD.out, HN.out, hcr]; exact HX.out.2.2.2.2.2.1)
                exact ⟨k2 + 1, by omega, by go_num, by rw [HD.out, HL1.out]; exact HIL2.out, HIF2.out, ⟨nb', hi', HX.out.2.1⟩, ((HFr.out.trans (Fr.set _ _ _ _ HX.out.2.2.2.2.2.2.1) (fun _ _ e => e)).trans (Fr.set _ _ _ _ HX.out.2.2.2.2.2.2.1) (fun _ _ e => e)).trans (Fr.set _ _ _ _ HX.out.2.2.2.2.2.2.1) (fun _ _ e => e)⟩
              case measure => simp [intOf]; omega
            | cons N r =>
              rw [hls] at HIL2
              obtain ⟨lg, loff, c', nn, ad, rfl, hnn, hnc, hcN, hsl, hsl2, hil', hown⟩ := HIL2.out.cons
              obtain ⟨hN, hL1⟩ := drop_some hls
              have hcN2 : wr.cell? ⟨lg, loff, none⟩ = some (.int .i64 N) := by
                have hl := lt_of_cell hcN
                unfold World.cell? at hcN ⊢
                rw [HFr.out.block lg hl (HIF2.out (by have h1 := congrArg List.length hls; rw [List.length_drop] at h1; simp at h1; omega) lg rfl)]
                exact hcN
              have hnl : nn ≤ 1000000000 := by
                have : (ls.drop d).length ≤ ls.length := by rw [List.length_drop]; omega
                rw [hls] at this
                simp at this
                omega
              have hn1 : (0 : Int) < (nn : Int) := by omega
              have HT := Lib.hid (And.intro hil' (And.intro hown (And.intro hN hL1)))
              have HIF3 : Hid (0 < ls.length → ∀ g, (Value.slice ad (nn - 1) (c' - 1)).ownBlock = some g → ¬ foot o (conc bl a) g) := fun h0 g hg => HIF2.out h0 g (hown g hg)
              clear hil' hown hN hL1 hls hcN hnn HIL2 HIF2
              have hSY : ¬ f.synced = true := by rw [HSY.out]; decide
              have HNS := Lib.hid hSY
              clear hSY
              by_cases hneg : N < 0
              · have g1 : decide (N < (0 : Int)) = true := decide_eq_true hneg
                have g2 : decide ((0 : Int) ≤ N) = false := decide_eq_false (by omega)
                have HNEG := Lib.hid hneg
                clear hneg hdn
                go_wp2_with fail
                go_quiet (fail)
                go_wp2_with fail
                go_roundw
                case rel =>
                  obtain ⟨hb1, hK⟩ := three_set (w := wr.drewN nq) (.slice ra rn rc) (.slice ra rn rc) (.bool true) HX.out.2.2.2.1
                  have hcr : (crashF N f).data = f.dur := by unfold crashF; rw [if_neg HNS.out]; simp only [HNEG.out, if_true]
                  have hi' := (HX.out.1.drewN nq).crashed (n := ls.getD (dirtyA (a.files.take k2)) (-1)) HX.out.2.2.1 HSY.out (by rw [HX.out.2.2.2.2.2.2.2.1]; exact hK) (by rw [HX.out.2.2.2.2.2.2.2.1]; exact hb1) (by rw [HDD.out, HT.out.2.2.1, hcr]; exact HX.out.2.2.2.2.2.1)
                  exact ⟨k2 + 1, by omega, by go_num, by rw [HD.out, HT.out.2.2.2]; exact HT.out.1, HIF3.out, ⟨nb', hi', HX.out.2.1⟩, ((((HFr.out.trans (Fr.drewN wr nq _) (fun _ _ e => e)).trans (Fr.set _ _ _ _ HX.out.2.2.2.2.2.2.1) (fun _ _ e => e)).trans (Fr.set _ _ _ _ HX.out.2.2.2.2.2.2.1) (fun _ _ e => e)).trans (Fr.set _ _ _ _ HX.out.2.2.2.2.2.2.1) (fun _ _ e => e))⟩
                case measure => simp [intOf]; omega
              · obtain ⟨q, rfl⟩ := Int.eq_ofNat_of_zero_le (by omega : 0 ≤ N)
                by_cases hq : q < dn
                · have g1 : decide ((q : Int) < (0 : Int)) = false := decide_eq_false (by omega)
                  have g2 : decide ((0 : Int) ≤ (q : Int)) = true := decide_eq_true (by omega)
                  have g3 : (q : Int) < (dn : Int) := by omega
                  have g4 : (0 : Int) ≤ (q : Int) := by omega
                  have g5 : (q : Int) ≤ (dc : Int) := by omega
                  have HQ := Lib.hid (show q < f.data.length by rw [← hdn]; exact hq)
                  clear hneg hdn hq
                  go_wp2_with fail
                  go_quiet (fail)
                  go_wp2_with fail
                  go_roundw
                  case rel =>
                    obtain ⟨hb1, hK⟩ := three_set (w := wr.drewN nq) (.slice da q dc) (.slice da q dc) (.bool true) HX.out.2.2.2.1
                    have hcr : (crashF (q : Int) f).data = f.data.take q := by
                        unfold crashF
                        rw [if_neg HNS.out]
                        have h1 : ¬ ((q : Int) < 0) := by omega
                        have h2 : (q : Int) < (f.data.length : Int) := by have := HQ.out; omega
                        simp only [h1, h2, if_true, if_false, Int.toNat_natCast]
                    have hi' := (HX.out.1.drewN nq).crashed (n := ls.getD (dirtyA (a.files.take k2)) (-1)) HX.out.2.2.1 HSY.out (by rw [HX.out.2.2.2.2.2.2.2.1]; exact hK) (by rw [HX.out.2.2.2.2.2.2.2.1]; exact hb1) (by rw [HDD.out, HT.out.2.2.1, hcr]; exact ⟨HX.out.2.2.2.2.1.1.cut q (Nat.le_of_lt HQ.out), fun g hg => HX.out.2.2.2.2.1.2 g (by cases da <;> exact hg)⟩)
                    exact ⟨k2 + 1, by omega, by go_num, by rw [HD.out, HT.out.2.2.2]; exact HT.out.1, HIF3.out, ⟨nb', hi', HX.out.2.1⟩, ((((HFr.out.trans (Fr.drewN wr nq _) (fun _ _ e => e)).trans (Fr.set _ _ _ _ HX.out.2.2.2.2.2.2.1) (fun _ _ e => e)).trans (Fr.set _ _ _ _ HX.out.2.2.2.2.2.2.1) (fun _ _ e => e)).trans (Fr.set _ _ _ _ HX.out.2.2.2.2.2.2.1) (fun _ _ e => e))⟩
                  case measure => simp [intOf]; omega
                · have g1 : decide ((q : Int) < (0 : Int)) = false := decide_eq_false (by omega)
                  have g2 : decide ((0 : Int) ≤ (q : Int)) = true := decide_eq_true (by omega)
                  have g3 : ¬ ((q : Int) < (dn : Int)) := by omega
                  have HQ := Lib.hid (show ¬ q < f.data.length by rw [← hdn]; exact hq)
                  clear hneg hdn
                  go_wp2_with fail
                  go_quiet (fail)
                  go_wp2_with fail
                  go_roundw
                  case rel =>
                    obtain ⟨hb1, hK⟩ := two_set (w := wr.drewN nq) (.slice da dn dc) (.bool true) HX.out.2.2.2.1
                    have hcr : (crashF (q : Int) f).data = f.data := by
                        unfold crashF
                        rw [if_neg HNS.out]
                        have h1 : ¬ ((q : Int) < 0) := by omega
                        have h2 : ¬ ((q : Int) < (f.data.length : Int)) := by have := HQ.out; omega
                        simp only [h1, h2, if_false]
                    have hi' := (HX.out.1.drewN nq).crashed (n := ls.getD (dirtyA (a.files.take k2)) (-1)) HX.out.2.2.1 HSY.out (by rw [HX.out.2.2.2.2.2.2.2.1]; exact hK) (by rw [HX.out.2.2.2.2.2.2.2.1]; exact hb1) (by rw [HDD.out, HT.out.2.2.1, hcr]; exact HX.out.2.2.2.2.1)
                    exact ⟨k2 + 1, by omega, by go_num, by rw [HD.out, HT.out.2.2.2]; exact HT.out.1, HIF3.out, ⟨nb', hi', HX.out.2.1⟩, (((HFr.out.trans (Fr.drewN wr nq _) (fun _ _ e => e)).trans (Fr.set _ _ _ _ HX.out.2.2.2.2.2.2.1) (fun _ _ e => e)).trans (Fr.set _ _ _ _ HX.out.2.2.2.2.2.2.1) (fun _ _ e => e))⟩
                  case measure => simp [intOf]; omega
        · obtain ⟨nb', hIs, hnb⟩ := hI.out
          obtain ⟨-, -, d4, d5, -, -, dz⟩ := fs_flags hIs.fs
          have z4 := dz 4
          have z5 := dz 5
          have hk3 : k2 = nf := by omega
          subst hk3
          have HX := Lib.hid (And.intro hIs (And.intro hnb hFr.out))
          clear hIs hnb hFr dz hI
          go_wp2_with fail
          go_end0
          obtain ⟨hIs, hnb, hFr⟩ := HX.out
          have h1 := hIs.flag (j := 4) (v := .bool false) (s' := { conc bl { a with files := a.filesK ls k2, dur := a.durK ch a.pend.length, names := a.durK ch a.pend.length, pend := [] } with down := false }) rfl rfl rfl rfl rfl
          have h2 := h1.flag (j := 5) (v := .bool false) (s' := { conc bl { a with files := a.filesK ls k2, dur := a.durK ch a.pend.length, names := a.durK ch a.pend.length, pend := [] } with down := false, armed := false }) rfl rfl rfl rfl rfl
          refine ⟨_, { o with F := F, nb := nb', ps := .slice none 0 0 }, rfl, ⟨bl, ?_⟩, HF.out.symm, rfl, h2, (hFr.trans (Fr.set _ _ _ _ (.inl HF.out.symm)) (fun _ _ e => e)).trans (Fr.set _ _ _ _ (.inl HF.out.symm)) (fun _ _ e => e), ?_⟩
          · unfold AS.crash
            rw [HNF.out]
            rfl
          · rintro k' (rfl | rfl | rfl | hk' | hk' | ⟨f, hf, rfl⟩)
            · exact .inl (.inl HF.out.symm)
            · exact .inr hnb
            · exact .inl (.inr (.inr (.inl rfl)))
            · exact .inl (.inr (.inr (.inr (.inl hk'))))
            · simp [Value.ownBlock] at hk'
            · obtain ⟨j, hj, e⟩ := List.getElem_of_mem hf
              have hj2 : j < a.files.length := by
                have : j < ((a.filesK ls k2).mapIdx (cf bl)).length := hj
                rw [List.length_mapIdx, a.filesK_len] at this
                exact this
              have e2 : f.blk = bl j := by rw [← e]; simp [conc, cf]
              rw [e2]
              exact .inl (.inr (.inr (.inr (.inr (.inr (Ab.file hj2))))))
end Go.Proofs.Ytcobjjaicckgpaa.Vf
/- A map from pointers to pointers (Clone's 'copies'), told by its entries. -/
namespace Go.Proofs.Ytcobjjaicckgpaa.Vf
open Go Go.RowKit Go.Maps Go.Proofs.Ytcobjjaicckgpaa Go.Proofs.Ytcobjjaicckgpaa.Bs
set_option linter.unusedVariables false

/-- Block b is a file's. -/
def IsF (w : World) (b : Nat) : Prop := ∃ cs, w.heap[b]? = some (Obj.cells cs 70 (0, 0))
theorem infoF : (Try.prog.info? 70).map (fun i => (i.zero, i.size, i.bytes)) = some (some (.agg #[.slice none 0 0, .slice none 0 0, .bool false]), 3, 56) := by kernel_rfl
theorem run_ptr_eq (w : World) (a b : Nat) (ha : IsF w a) (hb : IsF w b) : (Op.equal 66 (fptr a) (fptr b)).run Try.prog w = .ok (decide (a = b)) w := by
  obtain ⟨i, hi, -, hsz, -⟩ := info_parts infoF
  obtain ⟨ca, ha⟩ := ha
  obtain ⟨cb, hb⟩ := hb
  have hne : i.size ≠ 0 := by omega
  have h : ∀ d : Nat, (Op.equalIn (d + 1) 66 (fptr a) (fptr b)).run Try.prog w = .ok (decide (a = b)) w := fun d => by
    by_cases e : a = b
    · subst e
      simp [Op.equalIn, fptr, run_underlying Try.underlying66, sizeOf, typeInfo, hi, run_sameAddr_same]
    · have := run_sameAddr_other (P := Try.prog) w (a := ⟨a, 0, none⟩) (b := ⟨b, 0, none⟩) (by intro h; injection h with h; exact e h) ha hb
      simp [Op.equalIn, fptr, run_underlying Try.underlying66, sizeOf, typeInfo, hi, hne, this, e]
  exact h 9999
def cent (bl bl' : Nat → Nat) (i : Nat) : MapEntry := ⟨fptr (bl i), fptr (bl' i), i⟩
def cmap (bl bl' : Nat → Nat) (k : Nat) : Array MapEntry := ((List.range k).map (cent bl bl')).toArray
theorem ask_none (w : World) (bl bl' : Nat → Nat) (b : Nat) (hb : IsF w b) (l : List Nat) (hl : ∀ i ∈ l, IsF w (bl i) ∧ b ≠ bl i) : ∀ j, (Instr.findAsking 66 (fptr b) (l.map (cent bl bl')) j).run Try.prog w = .ok none w := by
  induction l with
  | nil => intro j; rfl
  | cons i r ih =>
    intro j
    have h1 := hl i (List.mem_cons_self)
    have h2 := run_ptr_eq w b (bl i) hb h1.1
    have h3 : decide (b = bl i) = false := decide_eq_false h1.2
    rw [h3] at h2
    have h4 := ih (fun x hx => hl x (List.mem_cons_of_mem _ hx)) (j + 1)
    unfold Instr.findAsking
    simp [cent, h2]
    exact h4
theorem ask_some (w : World) (bl bl' : Nat → Nat) (k : Nat) (l : List Nat) (hk : k ∈ l) (hl : ∀ i ∈ l, IsF w (bl i)) (hinj : ∀ i ∈ l, bl k = bl i → i = k) : ∀ j, ∃ q, (Instr.findAsking 66 (fptr (bl k)) (l.map (cent bl bl')) j).run Try.prog w = .ok (some (q, fptr (bl' k))) w := by
  induction l with
  | nil => cases hk
  | cons i r ih =>
    intro j
    have hb := hl k hk
    have h2 := run_ptr_eq w (bl k) (bl i) hb (hl i (List.mem_cons_self))
    by_cases e : bl k = bl i
    · have := hinj i (List.mem_cons_self) e
      subst this
      have h3 : decide (bl i = bl i) = true := decide_eq_true rfl
      rw [h3] at h2
      refine ⟨j, ?_⟩
      unfold Instr.findAsking
      simp [cent, h2]
    · have h3 : decide (bl k = bl i) = false := decide_eq_false e
      rw [h3] at h2
      have hk2 : k ∈ r := by
        rcases List.mem_cons.1 hk with rfl | h
        · exact absurd rfl e
        · exact h
      obtain ⟨q, hq⟩ := ih hk2 (fun x hx => hl x (List.mem_cons_of_mem _ hx)) (fun x hx => hinj x (List.mem_cons_of_mem _ hx)) (j + 1)
      refine ⟨q, ?_⟩
      unfold Instr.findAsking
      simp [cent, h2]
      exact hq
theorem key_none (w : World) (bl bl' : Nat → Nat) (b k : Nat) (hb : IsF w b) (hl : ∀ i, i < k → IsF w (bl i) ∧ b ≠ bl i) : (Instr.findKey 66 (fptr b) (cmap bl bl' k).toList).run Try.prog w = .ok none w := by
  unfold Instr.findKey cmap
  have h := ask_none w bl bl' b hb (List.range k) (fun i hi => hl i (List.mem_range.1 hi)) 0
  cases hk : (List.range k).map (cent bl bl') with
  | nil =>
    simp [run_underlying Try.underlying66, Instr.findNow]
  | cons x r =>
    rw [hk] at h
    have hx : ∃ c, x = cent bl bl' c := by
      have : x ∈ (List.range k).map (cent bl bl') := by rw [hk]; exact List.mem_cons_self
      obtain ⟨c, _, hc⟩ := List.mem_map.1 this
      exact ⟨c, hc.symm⟩
    obtain ⟨c, rfl⟩ := hx
    simp [run_underlying Try.underlying66, Instr.findNow, Instr.sameNow, cent, fptr]
    simpa [cent, fptr] using h
theorem key_some (w : World) (bl bl' : Nat → Nat) (j k : Nat) (hj : j < k) (hl : ∀ i, i < k → IsF w (bl i)) (hinj : ∀ i, i < k → bl j = bl i → i = j) : ∃ q, (Instr.findKey 66 (fptr (bl j)) (cmap bl bl' k).toList).run Try.prog w = .ok (some (q, fptr (bl' j))) w := by
  obtain ⟨q, h⟩ := ask_some w bl bl' j (List.range k) (List.mem_range.2 hj) (fun i hi => hl i (List.mem_range.1 hi)) (fun i hi => hinj i (List.mem_range.1 hi)) 0
  refine ⟨q, ?_⟩
  unfold Instr.findKey cmap
  cases hk : (List.range k).map (cent bl bl') with
  | nil => simp at hk; omega
  | cons x r =>
    rw [hk] at h
    have hx : ∃ c, x = cent bl bl' c := by
      have : x ∈ (List.range k).map (cent bl bl') := by rw [hk]; exact List.mem_cons_self
      obtain ⟨c, _, hc⟩ := List.mem_map.1 this
      exact ⟨c, hc.symm⟩
    obtain ⟨c, rfl⟩ := hx
    simp [run_underlying Try.underlying66, Instr.findNow, Instr.sameNow, cent, fptr]
    simpa [cent, fptr] using h
theorem check_ptr (e : Bool) (n : Nat) (b : Option Addr) (w : World) : (Instr.checkKey e (n + 1) 66 (.pointer b)).run Try.prog w = .ok () w := by
  unfold Instr.checkKey
  simp [run_underlying Try.underlying66]
/-- What a lookup of a file's copy finds. -/
theorem copies_look (w : World) (bl bl' : Nat → Nat) (cb j k ck : Nat) (hc : w.heap[cb]? = some (.map (cmap bl bl' k) ck)) (hj : j < k) (hl : ∀ i, i < k → IsF w (bl i)) (hinj : ∀ i, i < k → bl j = bl i → i = j) :
    (Instr.lookup 93 (.map (some cb)) (fptr (bl j)) false).run Try.prog w = .ok (fptr (bl' j)) w := by
  obtain ⟨q, h⟩ := key_some w bl bl' j k hj hl hinj
  have h2 := check_ptr (cmap bl bl' k).isEmpty 9999 (some ⟨bl j, 0, none⟩) w
  simp only [fptr] at h ⊢
  simp [Instr.lookup, run_underlying Try.underlying93, MapKept.run_getObj_map hc, h2, h, Result.andThen]
/-- A nil pointer's copy is nil. -/
theorem run_ptr_eq_nil (w : World) (b : Nat) : (Op.equal 66 (.pointer none) (fptr b)).run Try.prog w = .ok false w := by
  have h : ∀ d : Nat, (Op.equalIn (d + 1) 66 (.pointer none) (fptr b)).run Try.prog w = .ok false w := fun d => by
    simp [Op.equalIn, fptr, run_underlying Try.underlying66]
  exact h 9999
theorem ask_nil (w : World) (bl bl' : Nat → Nat) (l : List Nat) : ∀ j, (Instr.findAsking 66 (.pointer none) (l.map (cent bl bl')) j).run Try.prog w = .ok none w := by
  induction l with
  | nil => intro j; rfl
  | cons i r ih =>
    intro j
    have h2 := run_ptr_eq_nil w (bl i)
    have h4 := ih (j + 1)
    unfold Instr.findAsking
    simp [cent, h2]
    exact h4
theorem copies_nil (w : World) (bl bl' : Nat → Nat) (cb k ck : Nat) (hc : w.heap[cb]? = some (.map (cmap bl bl' k) ck)) :
    (Instr.lookup 93 (.map (some cb)) (.pointer none) false).run Try.prog w = .ok (.pointer none) w := by
  have h := ask_nil w bl bl' (List.range k) 0
  have h2 := check_ptr (cmap bl bl' k).isEmpty 9999 none w
  have hz : (zeroValue 66).run Try.prog w = .ok (.pointer none) w := Try.zeroValue66 w
  have hk : (Instr.findKey 66 (.pointer none) (cmap bl bl' k).toList).run Try.prog w = .ok none w := by
    unfold Instr.findKey cmap
    cases hk : (List.range k).map (cent bl bl') with
    | nil => simp [run_underlying Try.underlying66, Instr.findNow]
    | cons x r =>
      rw [hk] at h
      have hx : ∃ c, x = cent bl bl' c := by
        have : x ∈ (List.range k).map (cent bl bl') := by rw [hk]; exact List.mem_cons_self
        obtain ⟨c, _, hc⟩ := List.mem_map.1 this
        exact ⟨c, hc.symm⟩
      obtain ⟨c, rfl⟩ := hx
      simp [run_underlying Try.underlying66, Instr.findNow, Instr.sameNow, cent, fptr]
      simpa [cent, fptr] using h
  simp [Instr.lookup, run_underlying Try.underlying93, MapKept.run_getObj_map hc, h2, hk, hz, Result.andThen]
/-- A new file's copy is laid in. -/
theorem copies_put (w : World) (bl bl' : Nat → Nat) (cb k : Nat) (hc : w.heap[cb]? = some (.map (cmap bl bl' k) k)) (hb : IsF w (bl k)) (hl : ∀ i, i < k → IsF w (bl i) ∧ bl k ≠ bl i) :
    ∃ w', (Instr.mapUpdate 93 (.map (some cb)) (fptr (bl k)) (fptr (bl' k))).run Try.prog w = .ok () w' ∧ w'.heap[cb]? = some (.map (cmap bl bl' (k + 1)) (k + 1)) ∧ But cb w w' := by
  have h := key_none w bl bl' (bl k) k hb hl
  have h2 := check_ptr false 9999 (some ⟨bl k, 0, none⟩) w
  have hlt := lt_of_heap hc
  refine ⟨Go.ChangeMaps.setBlock w cb (.map ((cmap bl bl' k).push (cent bl bl' k)) (k + 1)), ?_, ?_, ?_⟩
  · simp only [fptr] at h
    simp [Instr.mapUpdate, fptr, run_underlying Try.underlying93, MapKept.run_getObj_map hc, h2, h, MapKept.run_setObj_map _ hc, Result.andThen, Go.ChangeMaps.setBlock, cent]
  · rw [Go.ChangeMaps.heap_setBlock_same hc]
    unfold cmap
    rw [List.range_succ, List.map_append]
    simp
  · exact ⟨rfl, rfl, rfl, by simp [Go.ChangeMaps.setBlock], fun i hi hn => Go.ChangeMaps.heap_setBlock_other hc _ (by intro e; exact hn (by rw [e]))⟩
end Go.Proofs.Ytcobjjaicckgpaa.Vf
/- Directories as sorted lists. -/
namespace Go.Proofs.Ytcobjjaicckgpaa.Vf
open Go Go.RowKit Go.Maps Go.Proofs.Ytcobjjaicckgpaa Go.Proofs.Ytcobjjaicckgpaa.Bs
set_option linter.unusedVariables false

theorem So.del {m : Nm} (h : So m) (k : List UInt8) : So (delS m k) := List.Pairwise.filter _ h
theorem mem_ins (x : List UInt8 × Nat) : ∀ (m : Nm) (p : List UInt8 × Nat), p ∈ insS x m ↔ p = x ∨ p ∈ m
  | [], p => by simp [insS]
  | y :: r, p => by
    unfold insS
    split
    · simp
    · simp only [List.mem_cons, mem_ins x r p]
      constructor
      · rintro (h | h | h)
        · exact .inr (.inl h)
        · exact .inl h
        · exact .inr (.inr h)
      · rintro (h | h | h)
        · exact .inr (.inl h)
        · exact .inl h
        · exact .inr (.inr h)
theorem before_or (a b : List UInt8) (h : a ≠ b) (hn : bytesBefore a b = false) : bytesBefore b a = true := by
  rcases WideAt.bytes_total a b h with h1 | h1
  · rw [hn] at h1; cases h1
  · exact h1
theorem So.ins {x : List UInt8 × Nat} : ∀ {m : Nm}, So m → (∀ p ∈ m, p.1 ≠ x.1) → So (insS x m)
  | [], _, _ => by simp [insS, So]
  | y :: r, h, hn => by
    unfold So at h
    rw [List.pairwise_cons] at h
    obtain ⟨h1, h2⟩ := h
    unfold insS
    cases e : bytesBefore x.1 y.1 with
    | true =>
      simp only [if_true]
      unfold So
      rw [List.pairwise_cons]
      refine ⟨fun p hp => ?_, by rw [List.pairwise_cons]; exact ⟨h1, h2⟩⟩
      rcases List.mem_cons.1 hp with rfl | hp
      · exact e
      · exact WideShapes.bytes_trans _ _ _ e (h1 p hp)
    | false =>
      simp only [Bool.false_eq_true, if_false]
      unfold So
      rw [List.pairwise_cons]
      refine ⟨fun p hp => ?_, So.ins h2 (fun p hp => hn p (List.mem_cons_of_mem _ hp))⟩
      rcases (mem_ins x r p).1 hp with rfl | hp
      · exact before_or _ _ (fun e2 => hn y (List.mem_cons_self) e2.symm) e
      · exact h1 p hp
theorem del_ne {m : Nm} {k : List UInt8} : ∀ p ∈ delS m k, p.1 ≠ k := fun p hp e => by
  have := (List.mem_filter.1 hp).2
  simp [e] at this
theorem So.put {m : Nm} (h : So m) (k : List UInt8) (i : Nat) : So (putS m k i) := (h.del k).ins del_ne
theorem So.nil : So [] := List.Pairwise.nil
theorem find_ins (x : List UInt8 × Nat) (k : List UInt8) : ∀ m : Nm, (∀ p ∈ m, p.1 ≠ x.1) → findS (insS x m) k = if x.1 = k then some x.2 else findS m k
  | [], _ => by
    unfold insS findS
    simp only [List.find?_cons]
    by_cases e : x.1 = k
    · simp [e]
    · have e2 : (x.1 == k) = false := by simpa using e
      simp [e, e2]
  | y :: r, hn => by
    have ih := find_ins x k r (fun p hp => hn p (List.mem_cons_of_mem _ hp))
    unfold insS
    split
    · unfold findS
      simp only [List.find?_cons]
      by_cases e : x.1 = k
      · simp [e]
      · have e2 : (x.1 == k) = false := by simpa using e
        simp [e, e2]
    · unfold findS at ih ⊢
      simp only [List.find?_cons]
      by_cases e : y.1 = k
      · have e3 : x.1 ≠ k := fun e4 => hn y (List.mem_cons_self) (e.trans e4.symm)
        simp [e, e3]
      · have e2 : (y.1 == k) = false := by simpa using e
        simp only [e2]
        exact ih
theorem find_del (m : Nm) (k k' : List UInt8) : findS (delS m k) k' = if k = k' then none else findS m k' := by
  unfold findS delS
  induction m with
  | nil => simp
  | cons y r ih =>
    simp only [List.filter_cons, List.find?_cons]
    by_cases e : y.1 = k
    · have e2 : (y.1 == k) = true := by simpa using e
      simp only [e2, Bool.not_true, Bool.false_eq_true, if_false]
      rw [ih]
      by_cases e3 : k = k'
      · simp [e3]
      · have e4 : (y.1 == k') = false := by rw [e]; simpa using e3
        simp [e3, e4]
    · have e2 : (y.1 == k) = false := by simpa using e
      simp only [e2, Bool.not_false, if_true, List.find?_cons]
      by_cases e3 : y.1 = k'
      · have e4 : (y.1 == k') = true := by simpa using e3
        have e5 : k ≠ k' := fun e6 => e (e3.trans e6.symm)
        simp [e4, e5]
      · have e4 : (y.1 == k') = false := by simpa using e3
        simp only [e4]
        exact ih
theorem find_put (m : Nm) (k : List UInt8) (i : Nat) (k' : List UInt8) : findS (putS m k i) k' = if k = k' then some i else findS m k' := by
  unfold putS
  rw [find_ins _ _ _ del_ne, find_del]
  simp only
  split <;> rfl
theorem find_none_iff (m : Nm) (k : List UInt8) : findS m k = none ↔ ∀ p ∈ m, p.1 ≠ k := by
  unfold findS
  rw [Option.map_eq_none_iff, List.find?_eq_none]
  constructor
  · intro h p hp e
    exact h p hp (by simpa using e)
  · intro h p hp
    simpa using h p hp
theorem So.find {m : Nm} (h : So m) {p : List UInt8 × Nat} (hp : p ∈ m) : findS m p.1 = some p.2 := by
  induction m with
  | nil => cases hp
  | cons y r ih =>
    unfold So at h
    rw [List.pairwise_cons] at h
    unfold findS
    simp only [List.find?_cons]
    rcases List.mem_cons.1 hp with rfl | hp
    · simp
    · have e : y.1 ≠ p.1 := fun e => by
        have := h.1 p hp
        rw [e, WideAt.bytes_irrefl] at this
        cases this
      have e2 : (y.1 == p.1) = false := by simpa using e
      simp only [e2]
      exact ih h.2 hp
theorem So.ext {m m' : Nm} (h : So m) (h' : So m') (he : ∀ k, findS m k = findS m' k) : m = m' := by
  refine List.Perm.eq_of_pairwise (le := fun (p q : List UInt8 × Nat) => bytesBefore p.1 q.1 = true) (fun a b ha hb h1 h2 => ?_) h h' ?_
  · have := WideShapes.bytes_trans _ _ _ h1 h2
    rw [WideAt.bytes_irrefl] at this
    cases this
  · have nd : ∀ {l : Nm}, So l → l.Nodup := fun {l} hl => hl.imp fun {p q} hpq e => by
      subst e
      rw [WideAt.bytes_irrefl] at hpq
      cases hpq
    refine (List.perm_ext_iff_of_nodup (nd h) (nd h')).2 fun p => ?_
    constructor
    · intro hp
      have := h.find hp
      rw [he] at this
      exact find_mem this
    · intro hp
      have := h'.find hp
      rw [← he] at this
      exact find_mem this
end Go.Proofs.Ytcobjjaicckgpaa.Vf
/- Clone's closure: a directory of copies. -/
namespace Go.Proofs.Ytcobjjaicckgpaa.Vf
open Go Go.RowKit Go.Maps Go.Proofs.Ytcobjjaicckgpaa Go.Proofs.Ytcobjjaicckgpaa.Bs
set_option linter.unusedVariables false

/-- What the map of copies tells. -/
structure Cps (w : World) (bl bl' : Nat → Nat) (cb n ck : Nat) : Prop where
  map : w.heap[cb]? = some (.map (cmap bl bl' n) ck)
  isF : ∀ i, i < n → IsF w (bl i)
  inj : ∀ i j, i < n → j < n → bl i = bl j → i = j
theorem Cps.look {w : World} {bl bl' : Nat → Nat} {cb n ck j : Nat} (h : Cps w bl bl' cb n ck) (hj : j < n) : (Instr.lookup 93 (.map (some cb)) (fptr (bl j)) false).run Try.prog w = .ok (fptr (bl' j)) w :=
  copies_look w bl bl' cb j n ck h.map hj h.isF (fun i hi e => h.inj i j hi hj e.symm)
theorem Cps.kept {w w' : World} {bl bl' : Nat → Nat} {cb n ck : Nat} (h : Cps w bl bl' cb n ck) (hb : Below w.heap.size w w') : Cps w' bl bl' cb n ck where
  map := by rw [hb.block cb (lt_of_heap h.map)]; exact h.map
  isF := fun i hi => by
    obtain ⟨cs, hc⟩ := h.isF i hi
    exact ⟨cs, by rw [hb.block _ (lt_of_heap hc)]; exact hc⟩
  inj := h.inj
theorem Cps.at {w w' : World} {bl bl' : Nat → Nat} {cb n ck : Nat} {B : Nat} (h : Cps w bl bl' cb n ck) (hb : Below B w w') (hB : w.heap.size ≤ B) : Cps w' bl bl' cb n ck := h.kept (hb.mono hB)
/-- The copies that have been laid so far: those whose names are no longer to come. -/
def Part (m M : Nm) (left : Lit → Bool) : Prop := ∀ k, findS M k = if left (.string k) = true then none else findS m k
theorem invK : ∀ (key : Value) (kl : Lit), keyOf Try.prog 9 key = some kl → ∃ x : ByteArray, key = .string x := fun key kl h => by
  obtain ⟨x, e, _⟩ := Go.Maps.keyOf_str Try.underlying9 h
  exact ⟨⟨x.toArray⟩, e⟩
theorem invV : ∀ (v : Value) (y : DataW Nat × List MemPlace), Rp v = some y → ∃ c : Option Nat, v = fptrO c := fun v y h => by
  obtain ⟨d, ps⟩ := y
  rcases Rp_inv h with ⟨e, _⟩ | ⟨b, e, _⟩
  · exact ⟨none, e⟩
  · exact ⟨some b, e⟩
theorem keyLit {x : ByteArray} {kl : Lit} (h : keyOf Try.prog 9 (.string x) = some kl) : kl = .string x.data.toList := by
  obtain ⟨y, e, hk, _⟩ := Go.Maps.keyOf_str Try.underlying9 h
  have : x = ⟨y.toArray⟩ := by
    injection e
  subst this
  rw [hk]
theorem step_file {bl : Nat → Nat} {m : Nm} {k : List UInt8} {c : Option Nat} {y : DataW Nat × List MemPlace} (hv : Rp (fptrO c) = some y) (hat : ∀ zd, (Dm (cn bl m)).atKey (.string k) zd = y.1) : ∃ i, findS m k = some i ∧ c = some (bl i) := by
  have h1 := hat (dt 0)
  have h2 := hat dnil
  rw [Dm_at, cn_find] at h1 h2
  cases e : findS m k with
  | none =>
    rw [e] at h1 h2
    have h1 : dt 0 = y.1 := h1
    have h2 : dnil = y.1 := h2
    exact absurd (h1.trans h2.symm) (dt_ne 0)
  | some i =>
    rw [e] at h1
    have h1 : dt (bl i) = y.1 := h1
    refine ⟨i, rfl, ?_⟩
    cases c with
    | none =>
      have : y = (dnil, []) := (Option.some.inj (Rp_nil.symm.trans hv)).symm
      rw [this] at h1
      exact absurd h1 (dt_ne _)
    | some b =>
      have : y = (dt b, []) := (Option.some.inj ((Rp_ptr b).symm.trans hv)).symm
      rw [this] at h1
      have e3 : (dt (bl i) : DataW Nat) = dt b := h1
      unfold dt at e3
      injection e3 with e3
      injection e3 with _ e3
      congr 1
      omega
set_option maxRecDepth 100000 in
set_option maxHeartbeats 4000000 in
theorem move_is (W : World) (bl bl' : Nat → Nat) (mb cbox cb n ck : Nat) (m : Nm) (hD : Dir W mb (cn bl m)) (hS : So m) (hm : ∀ p ∈ m, p.2 < n) (hl : m.length ≤ 1000000) (hbox : W.cell? ⟨cbox, 0, none⟩ = some (.map (some cb))) (hC : Cps W bl bl' cb n ck) :
    Calls Try.prog 52 #[.map (some mb), .pointer (some ⟨cbox, 0, none⟩)] W fun e w' => e = .returned (.map (some W.heap.size)) ∧ Dir w' W.heap.size (cn bl' m) ∧ Below W.heap.size W w' := by
  have hmm := @run_makeMap Try.prog
  have hown := hD.tight
  have hbl := hD.lt
  have hcl := lt_of_cell hbox
  have e1 : (W.alloc (.map #[] 0)).heap.size = W.heap.size + 1 := alloc_sz _ _
  have hsz : Maps.size (Dm (cn bl m)) = m.length := by simp [Dm, Maps.size, cn_len]
  have HC := Lib.hid hC
  have HB := Lib.hid hbox
  have HS := Lib.hid hS
  have HM := Lib.hid hm
  clear hbox hC hS hm
  go_enter Try.func52, Try.ntmps52
  go_wp2_with (first
    | (at_range; refine wpList_range_own _ rfl _ 58 rfl 9 66 law Try.underlying58 _ mb _ _ rfl (hown.alloc _) ?_; intro w0 hrg0 hg0 hs0)
    | go_in)
  try go_frame
  rw [e1] at hrg0 hs0
  go_loopw [5] (fun _ wr => ∃ (left : Lit → Bool) (cnt : Nat) (M : Nm), wr.ranges Try.prog 9 Rp mb (W.heap.size + 1) (cn bl m).length (Dm (cn bl m)) left cnt ∧ cnt ≤ m.length ∧
      wr.ownsMap Try.prog 9 Rp W.heap.size (m.length - cnt) (Dm (cn bl' M)) ∧ Hid (Part m M left) ∧ Hid (So M) ∧ Hid (Below W.heap.size W wr))
    (fun _ wr => wr.rangeLeft mb (W.heap.size + 1))
  case atStart =>
    refine ⟨_, _, [], hrg0, by rw [hsz]; exact Nat.le_refl _, ((World.ownsMap_made _ _ _ _).kept hg0 (by simp)).mono (Nat.zero_le _), ?_, So.nil, ((Below.refl _ _).alloc (Nat.le_refl _) _).grown hg0 (by simp) (fun j hj => by cases hj)⟩
    intro k
    show none = _
    rw [Dm_has, cn_find]
    cases findS m k <;> rfl
  case round =>
    obtain ⟨left, cnt, M, hrg, hcs, hout, hA, hSM, hnx⟩ := hrel
    go_wp2_with (first
      | (at_next; refine wpList_next_ranges _ rfl _ rfl 9 law Rp Value.string fptrO invK invV mb (W.heap.size + 1) _ _ _ _ rfl hrg ?_ ?_)
      | go_in)
    · intro hc0 hl0
      have HR := Lib.hid (show M = m from hSM.out.ext HS.out (fun k => by have := hA.out k; rw [hl0] at this; simpa using this))
      have HO := Lib.hid (And.intro hout hnx.out)
      clear hout hnx hA hSM hrg hrg0 hg0
      go_wp2_with fail
      go_ret
      have hfin := HO.out.1
      rw [HR.out] at hfin
      exact ⟨rfl, ⟨_, hfin⟩, HO.out.2⟩
    · intro x c kl d ps w1 cnt1 hkey hlx hv hat hrg1 hlt hg1 hs1 hen
      have hkl := keyLit hkey
      subst hkl
      obtain ⟨i, hfi, rfl⟩ := step_file (y := (d, ps)) hv hat
      have hin : i < n := HM.out _ (find_mem hfi)
      have hout1 := hout.kept hg1 (by simp)
      have hb1 : Below W.heap.size W w1 := hnx.out.grown hg1 hnx.out.size (fun j hj => by cases hj; exact Nat.le_succ _)
      have hlook := (HC.out.kept hb1).look hin
      have hbox1 : w1.cell? ⟨cbox, 0, none⟩ = some (.map (some cb)) := by
        have := HB.out
        unfold World.cell? at this ⊢
        rw [hb1.block cbox hcl]
        exact this
      obtain ⟨w2, hupd, hout2, hg2⟩ := hout1.update (t := 58) law Try.underlying58 (by unfold maxLen; omega) hkey (Rp_ptr (bl' i))
      rw [Dm_put, cn_put] at hout2
      have hb2 := hb1.grown hg2 (by have := hb1.size; omega) (fun j hj => by cases hj; exact Nat.le_refl _)
      have hrg2 := hrg1.kept hg2 (fun e => by have := Option.some.inj e; omega) (fun e => by have := Option.some.inj e; omega)
      have HP : Hid (Part m (putS M x.data.toList i) (fun z => left z && !z.sameKey (.string x.data.toList))) := by
        intro k
        rw [find_put]
        by_cases e : x.data.toList = k
        · subst e
          have e3 : Lit.sameKey (.string x.data.toList) (.string x.data.toList) = true := by simp [Lit.sameKey]
          simp [e3, hfi]
        · have e3 : Lit.sameKey (.string k) (.string x.data.toList) = false := by
            show (k == x.data.toList) = false
            simpa using fun e4 => e e4.symm
          rw [if_neg e, hA.out k]
          simp [e3]
      have HO := Lib.hid (And.intro hrg2 (And.intro hout2 (And.intro (hSM.out.put x.data.toList i) hb2)))
      have HL := Lib.hid hrg.left_eq
      have HL2 := Lib.hid hrg2.left_eq
      clear hrg hout hA hSM hnx hrg1 hout1 hb1 hrg2 hout2 hb2 hv hat hg1 hg2 hrg0 hg0 hown hkey hfi
      simp only [fptrO] at hen ⊢
      go_wp2_with fail
      go_roundw
      case rel => exact ⟨_, cnt1, _, HO.out.1, by omega, HO.out.2.1.mono (by omega), HP.out, HO.out.2.2.1, HO.out.2.2.2⟩
      case measure => rw [HL2.out, HL.out]; exact hlt
end Go.Proofs.Ytcobjjaicckgpaa.Vf
/- Clone: what its loops keep. -/
namespace Go.Proofs.Ytcobjjaicckgpaa.Vf
open Go Go.RowKit Go.Maps Go.Proofs.Ytcobjjaicckgpaa Go.Proofs.Ytcobjjaicckgpaa.Bs
set_option linter.unusedVariables false

/-- The copy under way: its block is S + 2, the map of copies lies in S, its box in S + 1. -/
structure Cl (W wr : World) (S : Nat) (Z : Nat → Prop) (bl bl' : Nat → Nat) (a : AS) (nbv dbv fsv psv : Value) (k j : Nat) : Prop where
  below : Below S W wr
  g : wr.heap[S + 2]? = some (Obj.cells #[nbv, dbv, fsv, psv, .bool a.down, .bool a.armed, .int .i64 a.after, .int .i64 a.err] 64 (0, 0))
  box : wr.heap[S + 1]? = some (Obj.cells #[.map (some S)] 93 (0, 0))
  map : wr.heap[S]? = some (.map (cmap bl bl' k) k)
  files : wr.ownsRow S 66 1 fsv k ((List.range k).map fun i => fptr (bl' i))
  pend : wr.ownsRow S 74 3 psv j (((a.pend.take j).map (cc bl')).flatMap chCells)
  each : ∀ i f, i < k → a.files[i]? = some f → FileIs Z wr (cf bl' i f)
  ge : ∀ i, i < k → S ≤ bl' i
  inj : ∀ i j, i < k → j < k → bl' i = bl' j → i = j
theorem cmap_upd (bl bl' : Nat → Nat) (k b : Nat) : cmap bl (upd bl' k b) k = cmap bl bl' k := by
  unfold cmap
  congr 1
  apply List.map_congr_left
  intro i hi
  have := List.mem_range.1 hi
  unfold cent upd
  rw [if_neg (by omega)]
theorem Below.setA {B : Nat} {u w : World} (h : Below B u w) (a : Addr) (v : Value) (ha : B ≤ a.block) : Below B u (w.setCell a v) :=
  ⟨h.os, h.tape, h.output, by simpa using h.size, fun k hk => by rw [heap_setCell_other w a k v (by omega)]; exact h.block k hk⟩
theorem Below.but {B b : Nat} {u w w' : World} (h : Below B u w) (hb : But b w w') (hB : B ≤ b) (hs : B ≤ w.heap.size) : Below B u w' :=
  ⟨hb.os.trans h.os, hb.tape.trans h.tape, hb.output.trans h.output, Nat.le_trans h.size hb.size, fun k hk => (hb.block k (by omega) (by intro e; injection e with e; omega)).trans (h.block k hk)⟩
theorem Cl.file {W wr w2 w3 : World} {S : Nat} {Z : Nat → Prop} {bl bl' : Nat → Nat} {a : AS} {nbv dbv fsv psv dv rv : Value} {k g cap : Nat} {f : AF} (h : Cl W wr S Z bl bl' a nbv dbv fsv psv k 0) (hps : psv = .slice none 0 0) (hk : a.files[k]? = some f)
    (hd : Rz Z wr dv f.data) (hr : Rz Z wr rv f.dur) (hS : W.heap.size = S)
    (hput : w2.heap[S]? = some (.map (cmap bl (upd bl' k wr.heap.size) (k + 1)) (k + 1))) (hB2 : But S (wr.alloc (.cells #[dv, rv, .bool f.synced] 70)) w2)
    (hg : (w2.alloc (.cells #[fptr wr.heap.size] 66)).grownBy w3 fsv.ownBlock)
    (ho : w3.ownsRow S 66 1 (.slice (some ⟨g, 0, none⟩) (k + 1) cap) (k + 1) (((List.range k).map fun i => fptr (bl' i)) ++ [fptr wr.heap.size])) :
    Cl W (w3.setCell ⟨S + 2, 2, none⟩ (.slice (some ⟨g, 0, none⟩) (k + 1) cap)) S Z bl (upd bl' k wr.heap.size) a nbv dbv (.slice (some ⟨g, 0, none⟩) (k + 1) cap) psv (k + 1) 0 := by
  have hSw : S ≤ wr.heap.size := by have := lt_of_heap h.map; omega
  have hM1 : (wr.alloc (.cells #[dv, rv, .bool f.synced] 70)).heap[S]? = some (.map (cmap bl bl' k) k) := by rw [old_block _ _ _ (lt_of_heap h.map)]; exact h.map
  -- cells of the elder world, of any type but the row's and the file system's, stay
  have K1 : ∀ (q : Nat) (cur : Array Value) (t : TypeId) (fr : Nat × Nat), wr.heap[q]? = some (Obj.cells cur t fr) → w2.heap[q]? = some (Obj.cells cur t fr) := fun q cur t fr hq => by
    have h1 : (wr.alloc (.cells #[dv, rv, .bool f.synced] 70)).heap[q]? = some (Obj.cells cur t fr) := by rw [old_block _ _ _ (lt_of_heap hq)]; exact hq
    rw [hB2.block q (lt_of_heap h1) (by intro e; injection e with e; subst e; rw [h.map] at hq; simp at hq)]
    exact h1
  have own2 : w2.ownsRow S 66 1 fsv k ((List.range k).map fun i => fptr (bl' i)) := own_kept h.files fun q hq => by
    obtain ⟨cur, hc⟩ := own_block h.files hq
    rw [K1 _ _ _ _ hc, hc]
  have K2 : ∀ (q : Nat) (cur : Array Value) (t : TypeId) (fr : Nat × Nat), w2.heap[q]? = some (Obj.cells cur t fr) → t ≠ 66 → w3.heap[q]? = some (Obj.cells cur t fr) := fun q cur t fr hq ht => grow_atP hg hq (own_ne own2 hq ht)
  have hG2 := K1 _ _ _ _ h.g
  have hG3 := K2 _ _ _ _ hG2 (by decide)
  have K3 : ∀ (q : Nat) (cur : Array Value) (t : TypeId) (fr : Nat × Nat), w3.heap[q]? = some (Obj.cells cur t fr) → t ≠ 64 → (w3.setCell ⟨S + 2, 2, none⟩ (.slice (some ⟨g, 0, none⟩) (k + 1) cap)).heap[q]? = some (Obj.cells cur t fr) := fun q cur t fr hq ht => by
    rw [heap_setCell_other _ _ _ _ (ne_of hq hG3 ht)]; exact hq
  have KC : ∀ (q : Nat) (cur : Array Value) (t : TypeId) (fr : Nat × Nat), wr.heap[q]? = some (Obj.cells cur t fr) → t ≠ 66 → t ≠ 64 → (w3.setCell ⟨S + 2, 2, none⟩ (.slice (some ⟨g, 0, none⟩) (k + 1) cap)).heap[q]? = wr.heap[q]? := fun q cur t fr hq h1 h2 => by
    rw [K3 _ _ _ _ (K2 _ _ _ _ (K1 _ _ _ _ hq) h1) h2, hq]
  have hnewb : w2.heap[wr.heap.size]? = some (Obj.cells #[dv, rv, .bool f.synced] 70 (0, 0)) := by
    rw [hB2.block _ (by rw [alloc_sz]; omega) (by intro e; injection e with e; have := lt_of_heap h.map; omega)]
    exact heap_alloc_new _ _
  have hnewf := K3 _ _ _ _ (K2 _ _ _ _ hnewb (by decide)) (by decide)
  have e1 : ((List.range (k + 1)).map fun i => fptr (upd bl' k wr.heap.size i)) = ((List.range k).map fun i => fptr (bl' i)) ++ [fptr wr.heap.size] := by
    rw [List.range_succ, List.map_append]
    congr 1
    · apply List.map_congr_left
      intro i hi
      have := List.mem_range.1 hi
      unfold upd
      rw [if_neg (by omega)]
    · simp [upd]
  have bsz : S ≤ (w2.alloc (.cells #[fptr wr.heap.size] 66)).heap.size := by
    have := hB2.size
    rw [alloc_sz] at this ⊢
    omega
  have hbel : Below S W w3 := by
    have b1 : Below S W (wr.alloc (.cells #[dv, rv, .bool f.synced] 70)) := h.below.alloc hSw _
    have b2 := Below.but b1 hB2 (Nat.le_refl _) (by rw [alloc_sz]; omega)
    have b3 : Below S W (w2.alloc (.cells #[fptr wr.heap.size] 66)) := b2.alloc (by have := lt_of_heap hput; omega) _
    exact b3.grown hg bsz (fun q hq => (own2.lt q hq).1)
  have mapF : (w3.setCell ⟨S + 2, 2, none⟩ (.slice (some ⟨g, 0, none⟩) (k + 1) cap)).heap[S]? = some (.map (cmap bl (upd bl' k wr.heap.size) (k + 1)) (k + 1)) := by
    rw [heap_setCell_other _ _ _ _ (by show S ≠ S + 2; omega)]
    exact grow_atP hg hput (fun e => by obtain ⟨cur, hc⟩ := own_block own2 e; rw [hput] at hc; simp at hc)
  exact
    { below := Below.setA hbel _ _ (by show S ≤ S + 2; omega)
      g := by rw [heap_setCell_same _ _ _ _ _ _ hG3]; rfl
      box := by rw [KC _ _ _ _ h.box (by decide) (by decide)]; exact h.box
      map := mapF
      files := by
        rw [e1]
        refine own_kept ho fun q hq => ?_
        obtain ⟨cur, hc⟩ := own_block ho hq
        exact heap_setCell_other _ _ _ _ (ne_of hc hG3 (by decide))
      pend := by subst hps; exact ⟨rfl, .inl ⟨rfl, rfl⟩⟩
      each := fun i f' hi hf' => by
        by_cases e : i = k
        · subst e
          rw [hk] at hf'
          obtain rfl := Option.some.inj hf'
          have e2 : upd bl' i wr.heap.size i = wr.heap.size := by simp [upd]
          refine ⟨dv, rv, ?_, hd.kept (fun q cur fr hc => KC _ _ _ _ hc (by decide) (by decide)), hr.kept (fun q cur fr hc => KC _ _ _ _ hc (by decide) (by decide))⟩
          have e3 : (cf (upd bl' i wr.heap.size) i f).blk = wr.heap.size := e2
          rw [e3]
          exact hnewf
        · have e2 : upd bl' k wr.heap.size i = bl' i := by unfold upd; rw [if_neg e]
          have hF := h.each i f' (by omega) hf'
          have hF2 : FileIs Z (w3.setCell ⟨S + 2, 2, none⟩ (.slice (some ⟨g, 0, none⟩) (k + 1) cap)) (cf bl' i f') := hF.kept (by obtain ⟨dv, rv, h1, _⟩ := hF; exact KC _ _ _ _ h1 (by decide) (by decide)) (fun q cur fr hc => KC _ _ _ _ hc (by decide) (by decide))
          have e3 : cf (upd bl' k wr.heap.size) i f' = cf bl' i f' := by unfold cf; rw [e2]
          rw [e3]
          exact hF2
      ge := fun i hi => by
        by_cases e : i = k
        · subst e
          have : upd bl' i wr.heap.size i = wr.heap.size := by simp [upd]
          rw [this]; exact hSw
        · unfold upd
          rw [if_neg e]
          exact h.ge i (by omega)
      inj := fun i j hi hj e => by
        have hlt : ∀ i, i < k → bl' i ≠ wr.heap.size := fun i hi e => by
          have hkl : k < a.files.length := by
            rcases Nat.lt_or_ge k a.files.length with h1 | h1
            · exact h1
            · rw [List.getElem?_eq_none h1] at hk; cases hk
          obtain ⟨d0, r0, h0, _⟩ := h.each i a.files[i] hi (List.getElem?_eq_getElem (by omega))
          have := lt_of_heap h0
          simp only [cf] at this
          omega
        unfold upd at e
        by_cases e1 : i = k <;> by_cases e2 : j = k
        · omega
        · rw [if_pos e1, if_neg e2] at e
          exact absurd e.symm (hlt j (by omega))
        · rw [if_neg e1, if_pos e2] at e
          exact absurd e (hlt i (by omega))
        · rw [if_neg e1, if_neg e2] at e
          exact h.inj i j (by omega) (by omega) e }
theorem Cl.change {W wr w4 : World} {S : Nat} {Z : Nat → Prop} {bl bl' : Nat → Nat} {a : AS} {nbv dbv fsv psv : Value} {n j g cap : Nat} {c : AC} (h : Cl W wr S Z bl bl' a nbv dbv fsv psv n j) (hj : a.pend[j]? = some c) (hS : W.heap.size = S)
    (hg : ((wr.alloc (.cells #[.string c.src, .string c.dst, fptrO (cc bl' c).file] 74)).alloc (.cells #[.string c.src, .string c.dst, fptrO (cc bl' c).file] 74)).grownBy w4 psv.ownBlock)
    (ho : w4.ownsRow S 74 3 (.slice (some ⟨g, 0, none⟩) (j + 1) cap) (j + 1) ((((a.pend.take j).map (cc bl')).flatMap chCells) ++ [.string c.src, .string c.dst, fptrO (cc bl' c).file])) :
    Cl W (w4.setCell ⟨S + 2, 3, none⟩ (.slice (some ⟨g, 0, none⟩) (j + 1) cap)) S Z bl bl' a nbv dbv fsv (.slice (some ⟨g, 0, none⟩) (j + 1) cap) n (j + 1) ∧ ∀ (b : Nat) (es : Array MapEntry) (ck : Nat), wr.heap[b]? = some (.map es ck) → (w4.setCell ⟨S + 2, 3, none⟩ (.slice (some ⟨g, 0, none⟩) (j + 1) cap)).heap[b]? = some (.map es ck) := by
  have hSw : S ≤ wr.heap.size := by have := lt_of_heap h.map; omega
  have K1 : ∀ (q : Nat) (x : Obj), wr.heap[q]? = some x → (wr.alloc (.cells #[.string c.src, .string c.dst, fptrO (cc bl' c).file] 74)).heap[q]? = some x := fun q x hq => by
    rw [old_block _ _ _ (lt_of_heap hq)]
    exact hq
  have own2 : (wr.alloc (.cells #[.string c.src, .string c.dst, fptrO (cc bl' c).file] 74)).ownsRow S 74 3 psv j (((a.pend.take j).map (cc bl')).flatMap chCells) := own_kept h.pend fun q hq => by
    obtain ⟨cur, hc⟩ := own_block h.pend hq
    rw [K1 _ _ hc, hc]
  have K2 : ∀ (q : Nat) (cur : Array Value) (t : TypeId) (fr : Nat × Nat), wr.heap[q]? = some (Obj.cells cur t fr) → t ≠ 74 → w4.heap[q]? = some (Obj.cells cur t fr) := fun q cur t fr hq ht => grow_atP hg (K1 _ _ hq) (own_ne own2 (K1 _ _ hq) ht)
  have hG3 := K2 _ _ _ _ h.g (by decide)
  have KC : ∀ (q : Nat) (cur : Array Value) (t : TypeId) (fr : Nat × Nat), wr.heap[q]? = some (Obj.cells cur t fr) → t ≠ 74 → t ≠ 64 → (w4.setCell ⟨S + 2, 3, none⟩ (.slice (some ⟨g, 0, none⟩) (j + 1) cap)).heap[q]? = wr.heap[q]? := fun q cur t fr hq h1 h2 => by
    rw [heap_setCell_other _ _ _ _ (ne_of (K2 _ _ _ _ hq h1) hG3 h2), K2 _ _ _ _ hq h1, hq]
  have KM : ∀ (b : Nat) (es : Array MapEntry) (ck : Nat), wr.heap[b]? = some (.map es ck) → (w4.setCell ⟨S + 2, 3, none⟩ (.slice (some ⟨g, 0, none⟩) (j + 1) cap)).heap[b]? = some (.map es ck) := fun b es ck hb => by
    have h4 := grow_atP hg (K1 _ _ hb) (fun e => by obtain ⟨cur, hc⟩ := own_block own2 e; rw [K1 _ _ hb] at hc; simp at hc)
    rw [heap_setCell_other _ _ _ _ (by intro e; have e : b = S + 2 := e; subst e; rw [hG3] at h4; simp at h4)]
    exact h4
  have s1 : (wr.alloc (.cells #[.string c.src, .string c.dst, fptrO (cc bl' c).file] 74)).heap.size = wr.heap.size + 1 := alloc_sz _ _
  have hbel : Below S W w4 := by
    have b1 : Below S W (wr.alloc (.cells #[.string c.src, .string c.dst, fptrO (cc bl' c).file] 74)) := h.below.alloc hSw _
    have b3 := b1.alloc (by rw [s1]; omega) (.cells #[.string c.src, .string c.dst, fptrO (cc bl' c).file] 74)
    exact b3.grown hg (by rw [alloc_sz, s1]; omega) (fun q hq => (own2.lt q hq).1)
  have e1 : ((a.pend.take (j + 1)).map (cc bl')).flatMap chCells = (((a.pend.take j).map (cc bl')).flatMap chCells) ++ [.string c.src, .string c.dst, fptrO (cc bl' c).file] := by
    rw [List.take_add_one, hj]
    simp [chCells, cc]
  exact ⟨
    { below := Below.setA hbel _ _ (by show S ≤ S + 2; omega)
      g := by rw [heap_setCell_same _ _ _ _ _ _ hG3]; rfl
      box := by rw [KC _ _ _ _ h.box (by decide) (by decide)]; exact h.box
      map := KM _ _ _ h.map
      files := own_kept h.files fun q hq => by
        obtain ⟨cur, hc⟩ := own_block h.files hq
        exact KC _ _ _ _ hc (by decide) (by decide)
      pend := by
        rw [e1]
        refine own_kept ho fun q hq => ?_
        obtain ⟨cur, hc⟩ := own_block ho hq
        exact heap_setCell_other _ _ _ _ (ne_of hc hG3 (by decide))
      each := fun i f hi hf => (h.each i f hi hf).kept (by obtain ⟨dv, rv, h1, _⟩ := h.each i f hi hf; exact KC _ _ _ _ h1 (by decide) (by decide)) (fun q cur fr hc => KC _ _ _ _ hc (by decide) (by decide))
      ge := h.ge
      inj := h.inj }, KM⟩
/-- The two directories of the copy are set. -/
theorem Cl.dirs {W wr wB : World} {S : Nat} {Z : Nat → Prop} {bl bl' : Nat → Nat} {a : AS} {nbv dbv fsv psv x y : Value} {n j : Nat} (h : Cl W wr S Z bl bl' a nbv dbv fsv psv n j) (hS : W.heap.size = S) (hb : Below wr.heap.size wr wB) :
    Cl W ((wB.setCell ⟨S + 2, 0, none⟩ x).setCell ⟨S + 2, 1, none⟩ y) S Z bl bl' a x y fsv psv n j := by
  have hSw : S ≤ wr.heap.size := by have := lt_of_heap h.map; omega
  have K1 : ∀ (q : Nat) (z : Obj), wr.heap[q]? = some z → wB.heap[q]? = some z := fun q z hq => by rw [hb.block q (lt_of_heap hq)]; exact hq
  have hG := K1 _ _ h.g
  have g1 := heap_setCell_same _ _ 0 _ _ x hG
  have K : ∀ (q : Nat) (z : Obj), wr.heap[q]? = some z → q ≠ S + 2 → ((wB.setCell ⟨S + 2, 0, none⟩ x).setCell ⟨S + 2, 1, none⟩ y).heap[q]? = some z := fun q z hq hn => by
    rw [heap_setCell_other _ _ _ _ hn, heap_setCell_other _ _ _ _ hn]; exact K1 _ _ hq
  have KC : ∀ (q : Nat) (cur : Array Value) (t : TypeId) (fr : Nat × Nat), wr.heap[q]? = some (Obj.cells cur t fr) → t ≠ 64 → ((wB.setCell ⟨S + 2, 0, none⟩ x).setCell ⟨S + 2, 1, none⟩ y).heap[q]? = wr.heap[q]? := fun q cur t fr hq ht => by
    rw [K q _ hq (ne_of hq h.g ht), hq]
  exact
    { below := Below.setA (Below.setA (h.below.trans (hb.mono hSw)) ⟨S + 2, 0, none⟩ x (by show S ≤ S + 2; omega)) ⟨S + 2, 1, none⟩ y (by show S ≤ S + 2; omega)
      g := by rw [heap_setCell_same _ _ _ _ _ _ g1]; rfl
      box := by rw [KC _ _ _ _ h.box (by decide)]; exact h.box
      map := K _ _ h.map (by omega)
      files := own_kept h.files fun q hq => by obtain ⟨cur, hc⟩ := own_block h.files hq; exact KC _ _ _ _ hc (by decide)
      pend := own_kept h.pend fun q hq => by obtain ⟨cur, hc⟩ := own_block h.pend hq; exact KC _ _ _ _ hc (by decide)
      each := fun i f hi hf => (h.each i f hi hf).kept (by obtain ⟨dv, rv, h1, _⟩ := h.each i f hi hf; exact KC _ _ _ _ h1 (by decide)) (fun q cur fr hc => KC _ _ _ _ hc (by decide))
      ge := h.ge
      inj := h.inj }
/-- The copy is done. -/
theorem Cl.done {W wr : World} {B S nb db : Nat} {o : Loc} {bl bl' : Nat → Nat} {a : AS} {fsv psv : Value} (h : Cl W wr S o.Z bl bl' a (.map (some nb)) (.map (some db)) fsv psv a.files.length a.pend.length) (hI : Is W B o (conc bl a)) (hS : W.heap.size = S) (hn : Dir wr nb (cn bl' a.names)) (hd : Dir wr db (cn bl' a.dur)) (hne : nb ≠ db) (gn : S ≤ nb) (gd : S ≤ db) :
    Is wr S ⟨S + 2, nb, db, fsv, psv, o.Z⟩ (conc bl' a) where
  fs := h.g
  names := hn
  dur := hd
  nd := hne
  files := by
    have e1 : (conc bl' a).files.length = a.files.length := by simp [conc]
    have e2 : ((conc bl' a).files.map fun f => fptr f.blk) = (List.range a.files.length).map fun i => fptr (bl' i) := by
      apply List.ext_getElem
      · simp [conc]
      · intro i h1 h2
        simp [conc, cf]
    show World.ownsRow _ _ _ _ _ (conc bl' a).files.length ((conc bl' a).files.map fun f => fptr f.blk)
    rw [e1, e2]
    exact h.files
  pend := by
    have := h.pend
    rw [List.take_length] at this
    show World.ownsRow _ _ _ _ _ (a.pend.map (cc bl')).length ((a.pend.map (cc bl')).flatMap chCells)
    rw [List.length_map]
    exact this
  each := fun f hf => by
    obtain ⟨i, hi, e⟩ := List.getElem_of_mem hf
    have hi2 : i < a.files.length := by simpa [conc] using hi
    have e2 : f = cf bl' i a.files[i] := by rw [← e]; simp [conc]
    rw [e2]
    exact h.each i _ hi2 (List.getElem?_eq_getElem hi2)
  zl := fun k hk => by
    obtain ⟨cur, fr, hc⟩ := hI.zl k hk
    exact ⟨cur, fr, by rw [h.below.block k (by have := lt_of_heap hc; omega)]; exact hc⟩
  dist := by
    show ((conc bl' a).files.map (·.blk)).Nodup
    rw [List.nodup_iff_pairwise_ne, List.pairwise_iff_getElem]
    intro i j hi hj hij e
    have hi2 : i < a.files.length := by simpa [conc] using hi
    have hj2 : j < a.files.length := by simpa [conc] using hj
    have h1 : ((conc bl' a).files.map (·.blk))[i] = bl' i := by simp [conc, cf]
    have h2 : ((conc bl' a).files.map (·.blk))[j] = bl' j := by simp [conc, cf]
    have := h.inj i j hi2 hj2 (by rw [← h1, ← h2, e])
    omega
  bF := by show S ≤ S + 2; omega
  bn := gn
  bd := gd
  bf := fun f hf => by
    obtain ⟨i, hi, e⟩ := List.getElem_of_mem hf
    have hi2 : i < a.files.length := by simpa [conc] using hi
    have e2 : f.blk = bl' i := by rw [← e]; simp [conc, cf]
    rw [e2]
    exact h.ge i hi2
end Go.Proofs.Ytcobjjaicckgpaa.Vf
/- Clone: its walk. -/
namespace Go.Proofs.Ytcobjjaicckgpaa.Vf
open Go Go.RowKit Go.Maps Go.Proofs.Ytcobjjaicckgpaa Go.Proofs.Ytcobjjaicckgpaa.Bs
set_option linter.unusedVariables false
attribute [local go_sem ↓] Go.wp_at_zero Go.wp_at_succ

set_option maxRecDepth 100000 in
set_option maxHeartbeats 4000000 in
theorem clone_nil (W : World) :
    Calls Try.prog 29 #[.pointer none] W fun e w' => e = .returned (.pointer none) ∧ w' = W := by
  go_enter Try.func29, Try.ntmps29
  go_wp2_with fail
  go_ret
  exact ⟨rfl, rfl⟩
theorem Cl.start {W : World} {B S : Nat} {o : Loc} {bl : Nat → Nat} {a : AS} (h : Is W B o (conc bl a)) (hS : W.heap.size = S) :
    Cl W (((W.alloc (.map #[] 0)).alloc (.cells #[.map (some S)] 93)).alloc (.cells #[.map (some o.nb), .map (some o.db), .slice none 0 0, .slice none 0 0, .bool a.down, .bool a.armed, .int .i64 a.after, .int .i64 a.err] 64)) S o.Z bl bl a (.map (some o.nb)) (.map (some o.db)) (.slice none 0 0) (.slice none 0 0) 0 0 := by
  have s1 : (W.alloc (.map #[] 0)).heap.size = S + 1 := by rw [alloc_sz, hS]
  have s2 : ((W.alloc (.map #[] 0)).alloc (.cells #[.map (some S)] 93)).heap.size = S + 2 := by rw [alloc_sz, s1]
  have b0 : Below S W (W.alloc (.map #[] 0)) := (Below.refl S W).alloc (by omega) _
  have b1 := b0.alloc (by omega) (.cells #[.map (some S)] 93)
  exact
    { below := b1.alloc (by omega) _
      g := by rw [← s2]; exact heap_alloc_new _ _
      box := by rw [old_block _ _ _ (by omega), ← s1]; exact heap_alloc_new _ _
      map := by rw [old_block _ _ _ (by omega), old_block _ _ _ (by omega), ← hS]; exact new_block _ _
      files := ⟨rfl, .inl ⟨rfl, rfl⟩⟩
      pend := ⟨rfl, .inl ⟨rfl, rfl⟩⟩
      each := fun i f hi => by omega
      ge := fun i hi => by omega
      inj := fun i j hi => by omega }
theorem own_slice {w : World} {base n size : Nat} {e : TypeId} {v : Value} {xs : List Value} (h : w.ownsRow base e size v n xs) : ∃ ad c, v = .slice ad n c := by
  rcases h.2 with ⟨rfl, rfl⟩ | ⟨g, cap, cur, rfl, _⟩
  · exact ⟨none, 0, rfl⟩
  · exact ⟨_, _, rfl⟩
theorem cell_below {S : Nat} {W w : World} {ad : Addr} {v : Value} (h : W.cell? ad = some v) (hb : Below S W w) (hS : W.heap.size = S) : w.cell? ad = some v := by
  have hl := lt_of_cell h
  unfold World.cell? at h ⊢
  rw [hb.block _ (by omega)]
  exact h
theorem cell_but {b : Nat} {w w' : World} {ad : Addr} {v : Value} (h : w.cell? ad = some v) (hb : But b w w') (hn : ad.block ≠ b) : w'.cell? ad = some v := hb.cell h hn
theorem g_cells {w : World} {G : Nat} {x0 x1 x2 x3 x4 x5 x6 x7 : Value} (h : w.heap[G]? = some (Obj.cells #[x0, x1, x2, x3, x4, x5, x6, x7] 64 (0, 0))) : w.cell? ⟨G, 0, none⟩ = some x0 ∧ w.cell? ⟨G, 1, none⟩ = some x1 ∧ w.cell? ⟨G, 2, none⟩ = some x2 ∧ w.cell? ⟨G, 3, none⟩ = some x3 ∧ ∀ j, w.frozen? ⟨G, j, none⟩ = false := by
  unfold World.cell? World.frozen?
  simp only [h]
  exact ⟨rfl, rfl, rfl, rfl, fun j => by simp⟩
theorem box_cell {w : World} {b : Nat} {x : Value} {t : TypeId} (h : w.heap[b]? = some (Obj.cells #[x] t (0, 0))) : w.cell? ⟨b, 0, none⟩ = some x := by
  unfold World.cell?
  simp only [h]
  rfl
theorem Cl.cps {W wr : World} {B S n j : Nat} {o : Loc} {Z : Nat → Prop} {bl bl' : Nat → Nat} {a : AS} {nbv dbv fsv psv : Value} (h : Cl W wr S Z bl bl' a nbv dbv fsv psv n j) (hI : Is W B o (conc bl a)) (hn : a.files.length = n) (hS : W.heap.size = S) : Cps wr bl bl' S n n where
  map := h.map
  isF := fun i hi => by
    have hi2 : i < a.files.length := by omega
    obtain ⟨d0, r0, h0, -⟩ := hI.fileAt (List.getElem?_eq_getElem hi2)
    exact ⟨_, (h.below.block _ (by have := lt_of_heap h0; omega)).trans h0⟩
  inj := fun i j hi hj e => by
    have h1 : ∀ i (hi : i < a.files.length), ((a.files.mapIdx (cf bl)).map (·.blk))[i]'(by simpa using hi) = bl i := fun i hi => by simp [cf]
    have hi2 : i < a.files.length := by omega
    have hj2 : j < a.files.length := by omega
    rcases Nat.lt_trichotomy i j with hlt | heq | hlt
    · exact absurd ((h1 i hi2).trans (e.trans (h1 j hj2).symm)) (List.pairwise_iff_getElem.1 hI.dist i j (by simpa [conc] using hi2) (by simpa [conc] using hj2) hlt)
    · exact heq
    · exact absurd ((h1 j hj2).trans (e.symm.trans (h1 i hi2).symm)) (List.pairwise_iff_getElem.1 hI.dist j i (by simpa [conc] using hj2) (by simpa [conc] using hi2) hlt)
theorem Dir.of_map {w w' : World} {b : Nat} {m : Nm} (h : Dir w b m) (hk : ∀ (b : Nat) (es : Array MapEntry) (ck : Nat), w.heap[b]? = some (.map es ck) → w'.heap[b]? = some (.map es ck)) : Dir w' b m := by
  obtain ⟨es, ck, hb⟩ := h.block
  exact h.of_block (by rw [hk b es ck hb, hb])
set_option maxRecDepth 100000 in
set_option maxHeartbeats 4000000 in
theorem clone_walk (B F S : Nat) (bl : Nat → Nat) (o : Loc) (a : AS) (W : World) (h : Is W B o (conc bl a)) (hw : a.Wf) (hF : o.F = F) (hS : W.heap.size = S) (hfn : a.files.length ≤ 1000000) (hpn : a.pend.length ≤ 1000000) (hnn : a.names.length ≤ 1000000) (hdn : a.dur.length ≤ 1000000) (hso : So a.names) (hsd : So a.dur) :
    Calls Try.prog 29 #[.pointer (some ⟨F, 0, none⟩)] W fun e w' => ∃ (o' : Loc) (bl' : Nat → Nat), e = .returned (.pointer (some ⟨S + 2, 0, none⟩)) ∧ o'.F = S + 2 ∧ o'.Z = o.Z ∧ Is w' S o' (conc bl' a) ∧ Below S W w' := by
  have hmm := @run_makeMap Try.prog
  obtain ⟨i0, hi, hz0, hz1, hz2⟩ := info_parts infoP
  have II := Lib.hid (And.intro hi (And.intro hz0 (And.intro hz1 hz2)))
  clear hi hz0 hz1 hz2
  obtain ⟨c1, c2, c4, c5, c6, c7, fz⟩ := fs_flags h.fs
  have c0 := fs_at0 h.fs
  obtain ⟨c3, -⟩ := fs_at3 h.fs
  obtain ⟨fg, fad, fcap, ef, hfad, -⟩ := h.filesAt
  obtain ⟨pg, pad, pcap, ep, hpad, hpc⟩ := h.pendAt
  have hfl : (conc bl a).files.length = a.files.length := by simp [conc]
  have hpl : (conc bl a).pend.length = a.pend.length := by simp [conc]
  rw [hfl] at ef hfad
  rw [hpl] at ep hpad hpc
  rw [hF] at c0 c1 c2 c3 c4 c5 c6 c7
  rw [ef] at c2
  rw [ep] at c3
  obtain ⟨nf, hnf⟩ : ∃ nf, a.files.length = nf := ⟨_, rfl⟩
  obtain ⟨np, hnp⟩ : ∃ np, a.pend.length = np := ⟨_, rfl⟩
  rw [hnf] at ef hfad hfn c2
  rw [hnp] at ep hpad hpc hpn c3
  have HI := Lib.hid h
  have HF := Lib.hid hF
  have HNF := Lib.hid hnf
  have HNP := Lib.hid hnp
  have HFA := Lib.hid (And.intro ef hfad)
  have HPA := Lib.hid (And.intro ep hpad)
  have HW := Lib.hid hw
  have HSZ := Lib.hid hS
  have HSO := Lib.hid (And.intro hso (And.intro hsd (And.intro hnn hdn)))
  have HST := Lib.hid (Cl.start h hS)
  replace c4 : W.cell? ⟨F, 4, none⟩ = some (.bool a.down) := c4
  replace c5 : W.cell? ⟨F, 5, none⟩ = some (.bool a.armed) := c5
  replace c6 : W.cell? ⟨F, 6, none⟩ = some (.int .i64 a.after) := c6
  replace c7 : W.cell? ⟨F, 7, none⟩ = some (.int .i64 a.err) := c7
  have hFlt := lt_of_cell c0
  clear h hF hnf hnp ef hfad ep hpad hw hso hsd hnn hdn fz hfl hpl
  subst hS
  go_enter Try.func29, Try.ntmps29
  have d2 := cell_below c2 HST.out.below rfl
  go_wp2_with fail
  go_loopw [24] (fun i wr => ∃ k : Nat, k ≤ nf ∧ i = .int .i64 k ∧ Hid (∃ bl' fsv, Cl W wr W.heap.size o.Z bl bl' a (.map (some o.nb)) (.map (some o.db)) fsv (.slice none 0 0) k 0)) (fun i _ => nf - (intOf i).toNat)
  case atStart => exact ⟨0, Nat.zero_le _, rfl, bl, _, HST.out⟩
  case round =>
    clear d2 c2
    obtain ⟨k, hk, rfl, hC⟩ := hrel
    obtain ⟨bl', fsv, hC⟩ := hC.out
    by_cases hlt : k < nf
    · obtain rfl := HFA.out.2 (by omega)
      have hk3 : k < a.files.length := by rw [HNF.out]; exact hlt
      obtain ⟨f, hf⟩ : ∃ f, a.files[k]? = some f := ⟨_, List.getElem?_eq_getElem hk3⟩
      have q0 := cell_below (HI.out.fileCell HFA.out.1 (k := k) hk3) hC.below rfl
      obtain ⟨dv, rv, hcb0, hrd0, hrr0⟩ := HI.out.fileAt hf
      have hcb : wr.heap[bl k]? = some (Obj.cells #[dv, rv, .bool f.synced] 70 (0, 0)) := by rw [hC.below.block _ (lt_of_heap hcb0)]; exact hcb0
      have hbytes : ∀ (g : Nat) (cur : Array Value) (fr : Nat × Nat), W.heap[g]? = some (Obj.cells cur 5 fr) → wr.heap[g]? = W.heap[g]? := fun g cur fr hg => hC.below.block g (lt_of_heap hg)
      have hrd := hrd0.kept hbytes
      have hrr := hrr0.kept hbytes
      obtain ⟨da, dn, dc, hdv⟩ := hrd.1.slice
      obtain ⟨ra, rn, rc, hrv⟩ := hrr.1.slice
      subst hdv
      subst hrv
      obtain ⟨q1, q2, q3, -⟩ := file_cells hcb
      have isF : ∀ i, i < nf → IsF (wr.alloc (.cells #[.slice da dn dc, .slice ra rn rc, .bool f.synced] 70)) (bl i) := fun i hi => by
        have hi2 : i < a.files.length := by rw [HNF.out]; exact hi
        obtain ⟨d0, r0, h0, -⟩ := HI.out.fileAt (List.getElem?_eq_getElem hi2)
        have h1 : wr.heap[bl i]? = some (Obj.cells #[d0, r0, .bool a.files[i].synced] 70 (0, 0)) := by rw [hC.below.block _ (lt_of_heap h0)]; exact h0
        exact ⟨_, (old_block _ _ _ (lt_of_heap h1)).trans h1⟩
      have hinj : ∀ i, i < k → bl k ≠ bl i := fun i hi e => by
        have h1 : ((a.files.mapIdx (cf bl)).map (·.blk))[i]'(by simp; omega) = bl i := by simp [cf]
        have h2 : ((a.files.mapIdx (cf bl)).map (·.blk))[k]'(by simpa using hk3) = bl k := by simp [cf]
        exact List.pairwise_iff_getElem.1 HI.out.dist i k (by simp [conc]; omega) (by simp [conc]; omega) hi (h1.trans (e.symm.trans h2.symm))
      have hm1 : (wr.alloc (.cells #[.slice da dn dc, .slice ra rn rc, .bool f.synced] 70)).heap[W.heap.size]? = some (.map (cmap bl (upd bl' k wr.heap.size) k) k) := by
        rw [cmap_upd, old_block _ _ _ (lt_of_heap hC.map)]; exact hC.map
      obtain ⟨w2, hupd, hput, hB2⟩ := copies_put _ bl (upd bl' k wr.heap.size) W.heap.size k hm1 (isF k hlt) (fun i hi => ⟨isF i (by omega), hinj i hi⟩)
      have eU : upd bl' k wr.heap.size k = wr.heap.size := by simp [upd]
      rw [eU] at hupd
      have z1 := cell_allocA (box_cell hC.box) (.cells #[.slice da dn dc, .slice ra rn rc, .bool f.synced] 70)
      obtain ⟨fad', fcap', rfl⟩ := own_slice hC.files
      have hGold : (wr.alloc (.cells #[.slice da dn dc, .slice ra rn rc, .bool f.synced] 70)).heap[W.heap.size + 1 + 1]? = some _ := (old_block _ _ _ (lt_of_heap hC.g)).trans hC.g
      have hG2 : w2.heap[W.heap.size + 1 + 1]? = some _ := (hB2.block _ (lt_of_heap hGold) (by intro e; injection e with e; omega)).trans hGold
      obtain ⟨-, -, z2, -, z3⟩ := g_cells hG2
      have own2 : w2.ownsRow W.heap.size 66 1 (.slice fad' k fcap') k ((List.range k).map fun i => fptr (bl' i)) := own_kept hC.files fun q hq => by
        obtain ⟨cur, hc⟩ := own_block hC.files hq
        have h1 : (wr.alloc (.cells #[.slice da dn dc, .slice ra rn rc, .bool f.synced] 70)).heap[q]? = some _ := (old_block _ _ _ (lt_of_heap hc)).trans hc
        rw [hB2.block q (lt_of_heap h1) (by intro e; injection e with e; subst e; rw [hC.map] at hc; simp at hc), h1, hc]
      have hsz2 : (wr.alloc (.cells #[.slice da dn dc, .slice ra rn rc, .bool f.synced] 70)).heap.size ≤ w2.heap.size := hB2.size
      have hwr : W.heap.size ≤ wr.heap.size := hC.below.size
      rw [alloc_sz] at hsz2
      have HCl := Lib.hid hC
      have HX := Lib.hid (And.intro hf (And.intro hrd (And.intro hrr (And.intro hput (And.intro hB2 (And.intro own2 hG2))))))
      clear hC hcb0 hrd0 hrr0 hcb hbytes hrd hrr isF hinj hm1 hput hB2 hGold hG2 own2 hf hk3 eU
      simp only [fptr] at hupd
      go_wp2_with (at_builtin; refine wpList_append_lies _ rfl _ _ 61 rfl W.heap.size 66 i0 (.pointer none) 1 8 Try.underlying61 II.out.1 II.out.2.1 II.out.2.2.1 II.out.2.2.2 rfl (by decide) _ _ _ rfl (HX.out.2.2.2.2.2.1.alloc _) ⟨w2.heap.size, 0, none⟩ 1 1 [fptr wr.heap.size] rfl rfl (new_cellP w2 [fptr wr.heap.size]) ?a1 (by decide) ?a2 ?a3 ?a4 (w2.heap.size + 1) ?a5 ?_)
      case a1 => rfl
      case a2 => unfold maxLen; omega
      case a3 => omega
      case a4 => omega
      intro g1 cap1 w3 hown3 hgrow3 hg1 hg2
      have hG3 := grow_atP hgrow3 HX.out.2.2.2.2.2.2 (own_ne HX.out.2.2.2.2.2.1 HX.out.2.2.2.2.2.2 (by decide))
      obtain ⟨-, -, y2, -, y3⟩ := g_cells hG3
      have y3 := y3 2
      have HR := Lib.hid (HCl.out.file rfl HX.out.1 HX.out.2.1 HX.out.2.2.1 rfl HX.out.2.2.2.1 HX.out.2.2.2.2.1 hgrow3 hown3)
      clear hown3 hgrow3 hg1 hg2 hG3
      go_wp2_with fail
      go_roundw
      case rel => exact ⟨k + 1, by omega, by go_num, _, _, HR.out⟩
      case measure => simp [intOf]; omega
    · have hkn : k = nf := by omega
      subst hkn
      have hCl2 : Cl W wr W.heap.size o.Z bl bl' a (.map (some o.nb)) (.map (some o.db)) fsv (.slice none 0 0) k 0 := hC
      have hwr : W.heap.size ≤ wr.heap.size := hC.below.size
      have hcps := hC.cps HI.out HNF.out rfl
      have hDn : Dir wr o.nb (cn bl a.names) := HI.out.names.of_block (hC.below.block _ HI.out.names.lt)
      have hDd : Dir wr o.db (cn bl a.dur) := HI.out.dur.of_block (hC.below.block _ HI.out.dur.lt)
      have p0 := cell_below c0 hC.below rfl
      have p1 := cell_below c1 hC.below rfl
      have hboxc := box_cell hC.box
      obtain ⟨g0, g1, -, -, gz⟩ := g_cells hC.g
      have hGlt := lt_of_heap hC.g
      have KK : ∀ (w : World), Below wr.heap.size wr w → w.cell? ⟨F, 0, none⟩ = some (.map (some o.nb)) ∧ w.cell? ⟨F, 1, none⟩ = some (.map (some o.db)) ∧ w.cell? ⟨W.heap.size + 1 + 1, 0, none⟩ = some (.map (some o.nb)) ∧ w.cell? ⟨W.heap.size + 1 + 1, 1, none⟩ = some (.map (some o.db)) ∧ w.frozen? ⟨W.heap.size + 1 + 1, 0, none⟩ = false ∧ w.frozen? ⟨W.heap.size + 1 + 1, 1, none⟩ = false := fun w hb => by
        refine ⟨cell_below p0 hb rfl, cell_below p1 hb rfl, cell_below g0 hb rfl, cell_below g1 hb rfl, ?_, ?_⟩
        · have := gz 0; unfold World.frozen? at this ⊢; rw [hb.block _ hGlt]; exact this
        · have := gz 1; unfold World.frozen? at this ⊢; rw [hb.block _ hGlt]; exact this
      have cM : ∀ (w : World) (mb : Nat) (m : Nm), Below wr.heap.size wr w → Dir wr mb (cn bl m) → So m → (∀ p ∈ m, p.2 < k) → m.length ≤ 1000000 → Calls Try.prog 52 #[.map (some mb), .pointer (some ⟨W.heap.size + 1, 0, none⟩)] w fun e w' => ∃ r, e = .returned (.map (some r)) ∧ w'.cell? ⟨F, 0, none⟩ = some (.map (some o.nb)) ∧ w'.cell? ⟨F, 1, none⟩ = some (.map (some o.db)) ∧ w'.cell? ⟨W.heap.size + 1 + 1, 0, none⟩ = some (.map (some o.nb)) ∧ w'.cell? ⟨W.heap.size + 1 + 1, 1, none⟩ = some (.map (some o.db)) ∧ w'.frozen? ⟨W.heap.size + 1 + 1, 0, none⟩ = false ∧ w'.frozen? ⟨W.heap.size + 1 + 1, 1, none⟩ = false ∧ Hid (w.heap.size = r ∧ Dir w' r (cn bl' m) ∧ Below w.heap.size w w' ∧ Below wr.heap.size wr w') := fun w mb m hb hD hS hm hl => by
        refine (move_is w bl bl' mb (W.heap.size + 1) W.heap.size k k m (hD.of_block (hb.block _ hD.lt)) hS hm hl (cell_below hboxc hb rfl) (hcps.kept hb)).mono ?_
        rintro e w' ⟨rfl, h1, h2⟩
        have h3 := below_at hb hb.size h2
        obtain ⟨k1, k2, k3, k4, k5, k6⟩ := KK w' h3
        exact ⟨_, rfl, k1, k2, k3, k4, k5, k6, rfl, h1, h2, h3⟩
      have CA := Lib.hid (fun w hb => cM w o.nb a.names hb hDn HSO.out.1 (fun p hp => by have := HW.out.names p hp; rw [HNF.out] at this; exact this) HSO.out.2.2.1)
      have CB := Lib.hid (fun w hb => cM w o.db a.dur hb hDd HSO.out.2.1 (fun p hp => by have := HW.out.dur p hp; rw [HNF.out] at this; exact this) HSO.out.2.2.2)
      have hGF : W.heap.size + 1 + 1 ≠ F := by omega
      have HC2 := Lib.hid (And.intro hCl2 (And.intro hcps hDn))
      have HNE := Lib.hid HI.out.nd
      clear hC hCl2 hcps hDn hDd cM KK gz hboxc hGlt c0 c1 c4 c5 c6 c7 g0 g1
      go_wp2_with fail
      go_region_held3 (fun w' => w'.cell? ⟨F, 0, none⟩ = some (.map (some o.nb)) ∧ w'.cell? ⟨F, 1, none⟩ = some (.map (some o.db))) (first | go_keep | ((try dsimp only); refine ⟨?_, ?_⟩ <;> (first | exact (World.cell?_setCell_other _ _ _ _ (by simp [hGF])).trans (by assumption) | exact (World.cell?_setCell_other _ _ _ _ (by simp [hGF])).trans ((World.cell?_setCell_other _ _ _ _ (by simp [hGF])).trans (by assumption)))))
        (first
          | (go_at_call_of 52 (Value.map (some o.nb)); refine (CA.out _ (by exact ⟨rfl, rfl, rfl, Nat.le_refl _, fun _ _ => rfl⟩)).mono ?_; clear p0 p1; rintro e wA ⟨r1, rfl, a0, a1, a2, a3, a4, a5, HA⟩)
          | (go_at_call_of 52 (Value.map (some o.db)); refine (CB.out _ (by exact HA.out.2.2.2)).mono ?_; clear a0 a1 a2 a3 a4 a5; rintro e wB ⟨r2, rfl, b0, b1, b2, b3, b4, b5, HBB⟩))
      all_goals
        have hC3 := HC2.out.1.dirs rfl HBB.out.2.2.2 (x := .map (some r1)) (y := .map (some r2))
        have hwA : wr.heap.size ≤ r1 := by have := HA.out.1; rw [← this]; exact Nat.le_refl _
        have hwA2 : r1 < wA.heap.size := HA.out.2.1.lt
        have hwB : wA.heap.size = r2 := HBB.out.1
        have hD1 : Dir ((wB.setCell ⟨W.heap.size + 1 + 1, 0, none⟩ (.map (some r1))).setCell ⟨W.heap.size + 1 + 1, 1, none⟩ (.map (some r2))) r1 (cn bl' a.names) := HA.out.2.1.of_block (by
          have hG := lt_of_heap HC2.out.1.g
          rw [heap_setCell_other _ _ _ _ (by show r1 ≠ W.heap.size + 1 + 1; omega), heap_setCell_other _ _ _ _ (by show r1 ≠ W.heap.size + 1 + 1; omega), HBB.out.2.2.1.block _ hwA2])
        have hD2 : Dir ((wB.setCell ⟨W.heap.size + 1 + 1, 0, none⟩ (.map (some r1))).setCell ⟨W.heap.size + 1 + 1, 1, none⟩ (.map (some r2))) r2 (cn bl' a.dur) := HBB.out.2.1.of_block (by
          have hG := lt_of_heap HC2.out.1.g
          rw [heap_setCell_other _ _ _ _ (by show r2 ≠ W.heap.size + 1 + 1; omega), heap_setCell_other _ _ _ _ (by show r2 ≠ W.heap.size + 1 + 1; omega)])
        have HRR := Lib.hid (show r1 ≠ r2 ∧ W.heap.size ≤ r1 ∧ W.heap.size ≤ r2 from ⟨by omega, by omega, by omega⟩)
        have d3 := cell_below c3 hC3.below rfl
        have HC3 := Lib.hid (And.intro hC3 (And.intro hD1 hD2))
        obtain ⟨i1, ji, jz0, jz1, jz2⟩ := info_parts infoC
        have JJ := Lib.hid (And.intro ji (And.intro jz0 (And.intro jz1 jz2)))
        clear hC3 hD1 hD2 hwA hwA2 hwB c3 b0 b1 b2 b3 b4 b5 ji jz0 jz1 jz2
        try go_wp2_with fail
        go_loopw [63] (fun i wr => ∃ j : Nat, j ≤ np ∧ i = .int .i64 j ∧ Hid (∃ psv, Cl W wr W.heap.size o.Z bl bl' a (.map (some r1)) (.map (some r2)) fsv psv k j ∧ Dir wr r1 (cn bl' a.names) ∧ Dir wr r2 (cn bl' a.dur))) (fun i _ => np - (intOf i).toNat)
        case atStart => exact ⟨0, Nat.zero_le _, rfl, _, HC3.out⟩
        case round =>
          clear d3
          obtain ⟨j, hj, rfl, hC⟩ := hrel
          obtain ⟨psv, hC, hD1, hD2⟩ := hC.out
          by_cases hlt : j < np
          · obtain ⟨rfl, -⟩ := HPA.out.2 (by omega)
            have hj3 : j < a.pend.length := by rw [HNP.out]; exact hlt
            obtain ⟨c, hc⟩ : ∃ c, a.pend[j]? = some c := ⟨_, List.getElem?_eq_getElem hj3⟩
            have hce : a.pend[j] = c := by rw [List.getElem?_eq_getElem hj3] at hc; exact Option.some.inj hc
            have hmem : c ∈ a.pend := by rw [← hce]; exact List.getElem_mem _
            obtain ⟨q0, q1, q2⟩ := HI.out.pendCells HPA.out.1 j (by simpa [conc] using hj3)
            have hpk : (conc bl a).pend[j]'(by simpa [conc] using hj3) = cc bl c := by rw [← hce]; simp [conc]
            rw [hpk] at q0 q1 q2
            replace q0 := cell_below q0 hC.below rfl
            replace q1 := cell_below q1 hC.below rfl
            replace q2 := cell_below q2 hC.below rfl
            replace q0 : wr.cell? ⟨pg, j * 3, none⟩ = some (.string c.src) := q0
            replace q1 : wr.cell? ⟨pg, j * 3 + 1, none⟩ = some (.string c.dst) := q1
            have hcps := hC.cps HI.out HNF.out rfl
            obtain ⟨pa, pa', hpa, hpa', hlk⟩ : ∃ pa pa', fptrO (cc bl c).file = .pointer pa ∧ fptrO (cc bl' c).file = .pointer pa' ∧ ∀ (w : World), Below wr.heap.size wr w → (Instr.lookup 93 (.map (some W.heap.size)) (.pointer pa) false).run Try.prog w = .ok (.pointer pa') w := by
              cases hd : c.dst.toList.isEmpty with
              | true =>
                refine ⟨none, none, by unfold cc; rw [if_pos hd]; rfl, by unfold cc; rw [if_pos hd]; rfl, fun w hb => ?_⟩
                exact copies_nil w bl bl' W.heap.size k k ((hcps.kept hb).map)
              | false =>
                have hin : c.file < k := by have := HW.out.pend c hmem hd; rw [HNF.out] at this; exact this
                have hne : ¬ (c.dst.toList.isEmpty = true) := by rw [hd]; decide
                refine ⟨some ⟨bl c.file, 0, none⟩, some ⟨bl' c.file, 0, none⟩, by unfold cc; rw [if_neg hne]; rfl, by unfold cc; rw [if_neg hne]; rfl, fun w hb => ?_⟩
                exact (hcps.kept hb).look hin
            rw [hpa] at q2
            have b1 : Below wr.heap.size wr (wr.alloc (.cells #[.string c.src, .string c.dst, .pointer pa] 74)) := (Below.refl _ _).alloc (Nat.le_refl _) _
            have hlook := hlk _ b1
            have z1 := cell_allocA (box_cell hC.box) (.cells #[.string c.src, .string c.dst, .pointer pa] 74)
            obtain ⟨psa, psc, rfl⟩ := own_slice hC.pend
            have hG2 : (wr.alloc (.cells #[.string c.src, .string c.dst, .pointer pa'] 74)).heap[W.heap.size + 1 + 1]? = some _ := (old_block _ _ _ (lt_of_heap hC.g)).trans hC.g
            obtain ⟨-, -, -, z2, z3⟩ := g_cells hG2
            have own2 := hC.pend.alloc (.cells #[.string c.src, .string c.dst, .pointer pa'] 74)
            have hnc : ∀ (q : Nat) (u : Value), [Value.string c.src, .string c.dst, .pointer pa'][q]? = some u → ((wr.alloc (.cells #[.string c.src, .string c.dst, .pointer pa'] 74)).alloc (.cells #[.string c.src, .string c.dst, .pointer pa'] 74)).cell? ((⟨wr.heap.size + 1, 0, none⟩ : Addr).add q) = some u := by
              have := new_cellC (wr.alloc (.cells #[.string c.src, .string c.dst, .pointer pa'] 74)) [.string c.src, .string c.dst, .pointer pa']
              rw [alloc_sz] at this
              exact this
            have hwr : W.heap.size ≤ wr.heap.size := hC.below.size
            have HCl := Lib.hid hC
            have HX := Lib.hid (And.intro hc (And.intro hpa' (And.intro own2 (And.intro hG2 (And.intro hD1 (And.intro hD2 hnc))))))
            clear hC hc hce hmem hpk hcps hpa hpa' hlk b1 hG2 own2 hD1 hD2 hj3 hnc
            go_wp2_with (at_builtin; refine wpList_append_lies _ rfl _ _ 62 rfl W.heap.size 74 i1 (.agg #[.string ByteArray.empty, .string ByteArray.empty, .pointer none]) 3 40 Try.underlying62 JJ.out.1 JJ.out.2.1 JJ.out.2.2.1 JJ.out.2.2.2 rfl (by decide) _ _ _ rfl (HX.out.2.2.1.alloc _) ⟨wr.heap.size + 1, 0, none⟩ 1 1 [.string c.src, .string c.dst, .pointer pa'] rfl rfl HX.out.2.2.2.2.2.2 ?e1 (by decide) ?e2 ?e3 ?e4 (wr.heap.size + 2) ?e5 ?_)
            case e1 => first | rfl | (intro u hu; simp only [List.mem_cons, List.not_mem_nil, or_false] at hu; rcases hu with rfl | rfl | rfl <;> rfl) | exact ⟨rfl, rfl, rfl⟩
            case e2 => unfold maxLen; omega
            case e3 => omega
            case e4 => omega
            intro g1 cap1 w4 hown4 hgrow4 hg1 hg2
            have hG4 := grow_atP hgrow4 HX.out.2.2.2.1 (own_ne HX.out.2.2.1 HX.out.2.2.2.1 (by decide))
            obtain ⟨-, -, -, y2, y3⟩ := g_cells hG4
            have y3 := y3 3
            rw [← HX.out.2.1] at hgrow4 hown4
            rw [← List.map_take] at hown4
            have HR := Lib.hid (HCl.out.change HX.out.1 rfl hgrow4 hown4)
            clear hown4 hgrow4 hg1 hg2 hG4
            go_wp2_with fail
            go_roundw
            case rel => exact ⟨j + 1, by omega, by go_num, _, HR.out.1, HX.out.2.2.2.2.1.of_map HR.out.2, HX.out.2.2.2.2.2.1.of_map HR.out.2⟩
            case measure => simp [intOf]; omega
          · have hjn : j = np := by omega
            subst hjn
            have HX := Lib.hid (And.intro hC (And.intro hD1 hD2))
            clear hC hD1 hD2
            go_wp2_with fail
            go_ret
            obtain ⟨hC, hD1, hD2⟩ := HX.out
            have hC' : Cl W wr W.heap.size o.Z bl bl' a (.map (some r1)) (.map (some r2)) fsv psv a.files.length a.pend.length := by rw [HNF.out, HNP.out]; exact hC
            exact ⟨⟨W.heap.size + 2, r1, r2, fsv, psv, o.Z⟩, bl', rfl, rfl, rfl, hC'.done HI.out rfl hD1 hD2 HRR.out.1 HRR.out.2.1 HRR.out.2.2, hC.below⟩
end Go.Proofs.Ytcobjjaicckgpaa.Vf
/- The file system as its callers see it. -/
namespace Go.Proofs.Ytcobjjaicckgpaa.Vf
open Go Go.RowKit Go.Maps Go.Proofs.Ytcobjjaicckgpaa Go.Proofs.Ytcobjjaicckgpaa.Bs
set_option linter.unusedVariables false

/-- At block F lies a file system with contents a, whose blocks are those of p. -/
def Fs (w : World) (B F : Nat) (Z : Nat → Prop) (a : AS) (p : Nat → Prop) : Prop := ∃ o s, o.F = F ∧ o.Z = Z ∧ Is w B o s ∧ Ab a s ∧ foot o s = p
structure AS.Ok (a : AS) (n : Nat) : Prop where
  wf : a.Wf
  sn : So a.names
  sd : So a.dur
  af : a.Af
  files : a.files.length ≤ n
  names : a.names.length ≤ n
  dp : a.dur.length + a.pend.length ≤ n
  strs : ∀ c ∈ a.pend, c.src.size ≤ 1000000 ∧ c.dst.size ≤ 1000000
  data : ∀ f ∈ a.files, f.data.length ≤ 1000000 ∧ f.dur.length ≤ 1000000
theorem AS.Ok.dur {a : AS} {n : Nat} (h : a.Ok n) : a.dur.length ≤ n := by have := h.dp; omega
theorem AS.Ok.pend {a : AS} {n : Nat} (h : a.Ok n) : a.pend.length ≤ n := by have := h.dp; omega
theorem AS.Ok.sm {a : AS} {n : Nat} (h : a.Ok n) (hn : n ≤ 400000) : a.Sm := ⟨Nat.le_trans h.files (by omega), Nat.le_trans h.names (by omega), Nat.le_trans h.pend (by omega)⟩
theorem AS.Ok.cr {a : AS} {n : Nat} (h : a.Ok n) (hn : n ≤ 400000) : a.Cr := ⟨Nat.le_trans h.files (by omega), by have := h.dp; omega, h.strs, h.data⟩
theorem AS.Ok.mono {a : AS} {n m : Nat} (h : a.Ok n) (hm : n ≤ m) : a.Ok m := ⟨h.wf, h.sn, h.sd, h.af, Nat.le_trans h.files hm, Nat.le_trans h.names hm, Nat.le_trans h.dp hm, h.strs, h.data⟩
theorem AS.Ok.new : AS.new.Ok 0 := ⟨⟨(by intro p hp; cases hp), (by intro p hp; cases hp), (by intro c hc; cases hc)⟩, So.nil, So.nil, ⟨by decide, by decide⟩, Nat.le_refl _, Nat.le_refl _, Nat.le_refl _, (by intro c hc; cases hc), (by intro c hc; cases hc)⟩
/-- After a call: the result, the contents behind it, and what it has left alone. -/
def Aft (W : World) (B F : Nat) (Z p : Nat → Prop) (r : Value) (a' : AS) (e : Ending) (w' : World) : Prop := e = .returned r ∧ ∃ p', Fs w' B F Z a' p' ∧ Fr W w' p ∧ ∀ k, p' k → p k ∨ W.heap.size ≤ k
theorem Did.aft {B F : Nat} {Z p : Nat → Prop} {o : Loc} {s : St} {W w' : World} {P : AS → Int × AS} {a : AS} {e : Ending} (h : Did B o s W P a e w') (hF : o.F = F) (hZ : o.Z = Z) (hp : foot o s = p) : Aft W B F Z p (.int .i64 (P a).1) (P a).2 e w' := by
  obtain ⟨r, s', o', rfl, ⟨h1, h2⟩, h3, h4, h5, h6, h7⟩ := h
  rw [hp] at h6 h7
  exact ⟨by rw [h1], _, ⟨o', s', h3.trans hF, h4.trans hZ, h5, h2, rfl⟩, h6, h7⟩
theorem DidU.aft {B F : Nat} {Z p : Nat → Prop} {o : Loc} {s : St} {W w' : World} {a' : AS} {e : Ending} (h : DidU B o s W a' e w') (hF : o.F = F) (hZ : o.Z = Z) (hp : foot o s = p) : Aft W B F Z p (.tuple #[]) a' e w' := by
  obtain ⟨s', o', rfl, h2, h3, h4, h5, h6, h7⟩ := h
  rw [hp] at h6 h7
  exact ⟨rfl, _, ⟨o', s', h3.trans hF, h4.trans hZ, h5, h2, rfl⟩, h6, h7⟩
section
variable {W : World} {B F n : Nat} {Z p : Nat → Prop} {a : AS}
theorem write_fs (h : Fs W B F Z a p) (ok : a.Ok n) (hn : n ≤ 400000) (k : ByteArray) (v : Value) (l : List UInt8) (hk : k.size ≤ 1000000) (hl : l.length ≤ 1000000) (hv : Rd W v l) :
    Calls Try.prog 9 #[.pointer (some ⟨F, 0, none⟩), .string k, v] W (Aft W B F Z p (.int .i64 (AS.op (AS.put k l) (AS.tear k l) a).1) (AS.op (AS.put k l) (AS.tear k l) a).2) := by
  obtain ⟨o, s, hF, hZ, hI, hA, hp⟩ := h
  subst hF
  exact (write_is B o s a k v l W hI hA ok.wf (ok.sm hn) ok.af hk hl hv).mono fun e w' hD => hD.aft rfl hZ hp
theorem sync_fs (h : Fs W B F Z a p) (ok : a.Ok n) (hn : n ≤ 400000) (k : ByteArray) (hk : k.size ≤ 1000000) :
    Calls Try.prog 10 #[.pointer (some ⟨F, 0, none⟩), .string k] W (Aft W B F Z p (.int .i64 (AS.op (AS.sync k) id a).1) (AS.op (AS.sync k) id a).2) := by
  obtain ⟨o, s, hF, hZ, hI, hA, hp⟩ := h
  subst hF
  exact (sync_is B o s a k W hI hA ok.wf (ok.sm hn) ok.af hk).mono fun e w' hD => hD.aft rfl hZ hp
theorem remove_fs (h : Fs W B F Z a p) (ok : a.Ok n) (hn : n ≤ 400000) (k : ByteArray) (hk : k.size ≤ 1000000) :
    Calls Try.prog 28 #[.pointer (some ⟨F, 0, none⟩), .string k] W (Aft W B F Z p (.int .i64 (AS.op (AS.remove k) id a).1) (AS.op (AS.remove k) id a).2) := by
  obtain ⟨o, s, hF, hZ, hI, hA, hp⟩ := h
  subst hF
  exact (remove_is B o s a k W hI hA ok.wf (ok.sm hn) ok.af hk).mono fun e w' hD => hD.aft rfl hZ hp
theorem rename_fs (h : Fs W B F Z a p) (ok : a.Ok n) (hn : n ≤ 400000) (k t : ByteArray) (hk : k.size ≤ 1000000) (ht : t.size ≤ 1000000) :
    Calls Try.prog 12 #[.pointer (some ⟨F, 0, none⟩), .string k, .string t] W (Aft W B F Z p (.int .i64 (AS.op (AS.rename k t) id a).1) (AS.op (AS.rename k t) id a).2) := by
  obtain ⟨o, s, hF, hZ, hI, hA, hp⟩ := h
  subst hF
  exact (rename_is B o s a k t W hI hA ok.wf (ok.sm hn) ok.af hk ht).mono fun e w' hD => hD.aft rfl hZ hp
theorem syncdir_fs (h : Fs W B F Z a p) (ok : a.Ok n) (hn : n ≤ 400000) :
    Calls Try.prog 11 #[.pointer (some ⟨F, 0, none⟩)] W (Aft W B F Z p (.int .i64 (AS.op AS.syncdir id a).1) (AS.op AS.syncdir id a).2) := by
  obtain ⟨o, s, hF, hZ, hI, hA, hp⟩ := h
  subst hF
  exact (syncdir_is B o s a W hI hA ok.wf (ok.sm hn) ok.af).mono fun e w' hD => hD.aft rfl hZ hp
theorem arm_fs (h : Fs W B F Z a p) (m e : Int) :
    Calls Try.prog 21 #[.pointer (some ⟨F, 0, none⟩), .int .i64 m, .int .i64 e] W (Aft W B F Z p (.int .i64 (AS.arm m e a).1) (AS.arm m e a).2) := by
  obtain ⟨o, s, hF, hZ, hI, hA, hp⟩ := h
  subst hF
  exact (arm_is B o s a m e W hI hA).mono fun e w' hD => hD.aft rfl hZ hp
theorem down_fs (h : Fs W B F Z a p) :
    Calls Try.prog 24 #[.pointer (some ⟨F, 0, none⟩)] W fun e w' => e = .returned (.bool a.down) ∧ w' = W := by
  obtain ⟨o, s, hF, hZ, hI, ⟨bl, rfl⟩, hp⟩ := h
  subst hF
  exact down_is B o _ W hI
theorem read_fs (h : Fs W B F Z a p) (ok : a.Ok n) (k : ByteArray) (hk : k.size ≤ 1000000) :
    Calls Try.prog 14 #[.pointer (some ⟨F, 0, none⟩), .string k] W fun e w' => ∃ v, e = .returned (.tuple #[v, .int .i64 (a.read k).2]) ∧ Rd w' v (a.read k).1 ∧ (∀ g, v.ownBlock = some g → W.heap.size ≤ g) ∧ Below W.heap.size W w' := by
  obtain ⟨o, s, hF, hZ, hI, hA, hp⟩ := h
  subst hF
  exact read_is B o s a k W hI hA ok.wf (fun f hf => (ok.data f hf).1) hk
theorem list_fs (h : Fs W B F Z a p) (ok : a.Ok n) (hn : n ≤ 400000) :
    Calls Try.prog 25 #[.pointer (some ⟨F, 0, none⟩)] W fun e w' => ∃ v, e = .returned v ∧ w'.ownsRow W.heap.size 9 1 v a.list.length (a.list.map encStr) ∧ Below W.heap.size W w' := by
  obtain ⟨o, s, hF, hZ, hI, hA, hp⟩ := h
  subst hF
  exact list_is B o s a W hI hA ok.sn (by have := ok.names; omega)
theorem dirty_conc (bl : Nat → Nat) (a : AS) : dirty (conc bl a).files = dirtyA a.files := by
  have h : ∀ (l : List AF) (bl : Nat → Nat), dirty (l.mapIdx (cf bl)) = dirtyA l := by
    intro l
    induction l with
    | nil => intro bl; rfl
    | cons f r ih =>
      intro bl
      have h2 := ih (fun i => bl (i + 1))
      unfold dirty dirtyA at h2 ⊢
      rw [List.mapIdx_cons]
      have h3 : (r.mapIdx fun i => cf bl (i + 1)) = r.mapIdx (cf fun i => bl (i + 1)) := rfl
      rw [h3]
      simp only [List.filter_cons]
      show (if !f.synced then _ else _ : List Fl).length = _
      cases f.synced
      · simp only [Bool.not_false, if_true, List.length_cons, h2]
      · simp only [Bool.not_true, Bool.false_eq_true, if_false, h2]
  exact h a.files bl
theorem pending_fs (h : Fs W B F Z a p) (ok : a.Ok n) (hn : n ≤ 400000) :
    Calls Try.prog 27 #[.pointer (some ⟨F, 0, none⟩)] W fun e w' => e = .returned (.tuple #[.int .i64 a.pend.length, .int .i64 (dirtyA a.files)]) ∧ w' = W := by
  obtain ⟨o, s, hF, hZ, hI, ⟨bl, rfl⟩, hp⟩ := h
  subst hF
  have h1 : (conc bl a).files.length = a.files.length := by simp [conc]
  have h2 : (conc bl a).pend.length = a.pend.length := by simp [conc]
  have h3 := dirty_conc bl a
  have := pending_walk B o (conc bl a) W hI (by rw [h1]; have := ok.files; omega) (by rw [h2]; have := ok.pend; omega)
  rw [h2, h3] at this
  exact this
theorem crash_fs0 (h : Fs W B F Z a p) (ok : a.Ok n) (hn : n ≤ 400000) (v1 v2 : Value) (ch : List Bool) (ls : List Int) (h1 : Bl W v1 ch) (h2 : Il W v2 ls) (g1 : 0 < ch.length → ∀ g, v1.ownBlock = some g → ¬ p g) (g2 : 0 < ls.length → ∀ g, v2.ownBlock = some g → ¬ p g) (hc : ch.length ≤ 1000000000) (hl : ls.length ≤ 1000000000) :
    Calls Try.prog 13 #[.pointer (some ⟨F, 0, none⟩), v1, v2] W (Aft W B F Z p (.tuple #[]) (a.crash ch ls)) := by
  obtain ⟨o, s, hF, hZ, hI, ⟨bl, rfl⟩, hp⟩ := h
  subst hF
  obtain ⟨g, off, ad, c, rfl, hb1, hb2⟩ := h1
  rw [← hp] at g1 g2
  refine (crash_is B o.F bl o a v2 ch ls W g off ch.length c ad hI ok.wf (ok.cr hn) rfl rfl hc hb1 hb2 (fun h0 => ?_) h2 hl g2).mono fun e w' hD => hD.aft rfl hZ hp
  have := hb1 h0
  subst this
  exact g1 h0 g rfl
theorem crash_fs (h : Fs W B F Z a p) (ok : a.Ok n) (hn : n ≤ 400000) (v1 v2 : Value) (ch : List Bool) (ls : List Int) (h1 : Bl W v1 ch) (h2 : Il W v2 ls) (g1 : ∀ g, v1.ownBlock = some g → ¬ p g) (g2 : ∀ g, v2.ownBlock = some g → ¬ p g) (hc : ch.length ≤ 1000000000) (hl : ls.length ≤ 1000000000) :
    Calls Try.prog 13 #[.pointer (some ⟨F, 0, none⟩), v1, v2] W (Aft W B F Z p (.tuple #[]) (a.crash ch ls)) :=
  crash_fs0 h ok hn v1 v2 ch ls h1 h2 (fun _ => g1) (fun _ => g2) hc hl
theorem clone_fs (h : Fs W B F Z a p) (ok : a.Ok n) (hn : n ≤ 400000) :
    Calls Try.prog 29 #[.pointer (some ⟨F, 0, none⟩)] W fun e w' => ∃ p', e = .returned (.pointer (some ⟨W.heap.size + 2, 0, none⟩)) ∧ Fs w' W.heap.size (W.heap.size + 2) Z a p' ∧ Below W.heap.size W w' ∧ ∀ k, p' k → W.heap.size ≤ k := by
  obtain ⟨o, s, hF, hZ, hI, ⟨bl, rfl⟩, hp⟩ := h
  subst hF
  refine (clone_walk B o.F W.heap.size bl o a W hI ok.wf rfl rfl (by have := ok.files; omega) (by have := ok.pend; omega) (by have := ok.names; omega) (by have := ok.dur; omega) ok.sn ok.sd).mono ?_
  rintro e w' ⟨o', bl', rfl, h1, h2, h3, h4⟩
  refine ⟨_, rfl, ⟨o', conc bl' a, h1, h2.trans hZ, h3, ⟨bl', rfl⟩, rfl⟩, h4, ?_⟩
  rintro k (rfl | rfl | rfl | hk | hk | ⟨f, hf, rfl⟩)
  · exact h3.bF
  · exact h3.bn
  · exact h3.bd
  · exact (h3.files.lt k hk).1
  · exact (h3.pend.lt k hk).1
  · exact h3.bf f hf
end
theorem new_fs (W : World) :
    Calls Try.prog 8 #[] W fun e w' => ∃ F p, e = .returned (.pointer (some ⟨F, 0, none⟩)) ∧ Fs w' W.heap.size F (fun _ => False) AS.new p ∧ Below W.heap.size W w' ∧ ∀ k, p k → W.heap.size ≤ k := by
  refine (new_is W).mono ?_
  rintro e w' ⟨o, s, rfl, h1, h2, h3, h4, h5⟩
  exact ⟨o.F, _, rfl, ⟨o, s, rfl, h3, h1, h2, rfl⟩, h4, h5⟩

/-! ### what other calls leave alone -/
theorem Fs.lt {w : World} {B F : Nat} {Z p : Nat → Prop} {a : AS} (h : Fs w B F Z a p) : ∀ k, p k → k < w.heap.size ∧ B ≤ k := by
  obtain ⟨o, s, rfl, rfl, hI, hA, rfl⟩ := h
  rintro k (rfl | rfl | rfl | hk | hk | ⟨f, hf, rfl⟩)
  · exact ⟨lt_of_heap hI.fs, hI.bF⟩
  · exact ⟨hI.names.lt, hI.bn⟩
  · exact ⟨hI.dur.lt, hI.bd⟩
  · exact ⟨(hI.files.lt k hk).2, (hI.files.lt k hk).1⟩
  · exact ⟨(hI.pend.lt k hk).2, (hI.pend.lt k hk).1⟩
  · obtain ⟨dv, rv, h1, _⟩ := hI.each f hf
    exact ⟨lt_of_heap h1, hI.bf f hf⟩
theorem Fs.kept {w w' : World} {B F : Nat} {Z p : Nat → Prop} {a : AS} (h : Fs w B F Z a p) (hk : ∀ k, p k → w'.heap[k]? = w.heap[k]?) (hb : ∀ (g : Nat) (cur : Array Value) (fr : Nat × Nat), w.heap[g]? = some (Obj.cells cur 5 fr) → w'.heap[g]? = w.heap[g]?) : Fs w' B F Z a p := by
  obtain ⟨o, s, h1, h2, hI, hA, hp⟩ := h
  exact ⟨o, s, h1, h2, hI.kept (fun k h => hk k (by rw [← hp]; exact h)) hb, hA, hp⟩
theorem Fs.below {w w' : World} {B F : Nat} {Z p : Nat → Prop} {a : AS} (h : Fs w B F Z a p) (hb : Below w.heap.size w w') : Fs w' B F Z a p :=
  h.kept (fun k hk => hb.block k (h.lt k hk).1) (fun g cur fr hg => hb.block g (lt_of_heap hg))
/-- No block of a file system holds bytes. -/
theorem Fs.ne_bytes {w : World} {B F : Nat} {Z p : Nat → Prop} {a : AS} (h : Fs w B F Z a p) {k : Nat} (hk : p k) (cur : Array Value) (fr : Nat × Nat) : w.heap[k]? ≠ some (Obj.cells cur 5 fr) := by
  obtain ⟨o, s, h1, h2, hI, hA, rfl⟩ := h
  exact hI.foot_ne hk cur fr
/-- Another file system's call leaves this one alone. -/
theorem Fs.apart {w w' : World} {B F B' F' : Nat} {Z p Z' q : Nat → Prop} {a a' : AS} (h : Fs w B F Z a p) (h' : Fs w B' F' Z' a' q) (hd : ∀ k, p k → ¬ q k) (hf : Fr w w' q) : Fs w' B F Z a p :=
  h.kept (fun k hk => hf.block k (h.lt k hk).1 (hd k hk)) (fun g cur fr hg => hf.block g (lt_of_heap hg) fun e => h'.ne_bytes e cur fr hg)

/-! ### bytes and strings -/
theorem Rd.conv {w : World} {v : Value} {l : List UInt8} (h : Rd w v l) : (convert 30 9 v).run Try.prog w = .ok (.string ⟨l.toArray⟩) w := by
  rcases h with ⟨rfl, rfl⟩ | ⟨g, cap, cur, fr, rfl, hg, hc, ht⟩
  · exact Lib.run_convert_nil_bytes w 30 9 5 0 Try.underlying30 Try.underlying5 Try.underlying9
  · refine run_convert_bytes_back w 30 9 5 ⟨g, 0, none⟩ cap l Try.underlying30 Try.underlying5 Try.underlying9 (fun j hj => ?_)
    exact Rd.cells hg ht j _ (by simp [Lib.byteCells, List.getElem?_eq_getElem hj])
theorem world_belowV (w : World) (e : TypeId) (s : ByteArray) : Below w.heap.size w (Lib.bytesWorld w e s) :=
  ⟨rfl, rfl, rfl, by rw [Lib.bytesWorld_size]; omega, fun k hk => Lib.bytesWorld_at_old w e s k hk⟩
theorem conv_str (w : World) (s : ByteArray) : ∃ cap w', (convert 9 30 (.string s)).run Try.prog w = .ok (.slice (some ⟨w.heap.size, 0, none⟩) s.size cap) w' ∧ Rd w' (.slice (some ⟨w.heap.size, 0, none⟩) s.size cap) s.data.toList ∧ Below w.heap.size w w' := by
  have hcv := Lib.run_convert_string_bytes (P := Try.prog) w 9 30 5 s (u := .string) Try.underlying9 Try.underlying30 Try.underlying5
  have hne := Lib.bytesWorld_at_new w 5 s
  have hsz : s.data.toList.length = s.size := by simp
  refine ⟨grownCap w s.size 0 5, _, hcv, .inr ⟨w.heap.size, grownCap w s.size 0 5, Lib.bytesCells w 5 s, _, by rw [hsz], hne, ?_, ?_⟩, world_belowV w _ s⟩
  · rw [hsz]; exact grownCap_ge _ _ _ _
  · rw [hsz]
    unfold Lib.bytesCells Lib.byteCells
    have hl : (s.data.map fun b => Value.int .u8 b.toNat).toList.length = s.size := by simp
    rw [Array.toList_append, List.take_append_of_le_length (by rw [hl]; exact Nat.le_refl _), List.take_of_length_le (by rw [hl]; exact Nat.le_refl _), Array.toList_map]
end Go.Proofs.Ytcobjjaicckgpaa.Vf
/- Calls on no file system. -/
namespace Go.Proofs.Ytcobjjaicckgpaa.Vf
open Go Go.RowKit Go.Maps Go.Proofs.Ytcobjjaicckgpaa Go.Proofs.Ytcobjjaicckgpaa.Bs
set_option linter.unusedVariables false

theorem below_more {u w : World} (x : Obj) (h : Below u.heap.size u w) : Below u.heap.size u (w.alloc x) := h.alloc h.size x
set_option maxRecDepth 100000
set_option maxHeartbeats 4000000
theorem read_nils (k : ByteArray) (W : World) :
    Calls Try.prog 14 #[.pointer none, .string k] W fun e w' => e = .returned (.tuple #[.slice none 0 0, .int .i64 1]) ∧ w' = W := by
  go_enter Try.func14, Try.ntmps14
  go_wp2_with fail
  go_ret2
  exact ⟨rfl, rfl⟩
theorem pending_none (W : World) :
    Calls Try.prog 27 #[.pointer none] W fun e w' => e = .returned (.tuple #[.int .i64 0, .int .i64 0]) ∧ w' = W := by
  go_enter Try.func27, Try.ntmps27
  go_wp2_with fail
  go_ret2
  exact ⟨rfl, rfl⟩
theorem crash_none (x y : Value) (W : World) :
    Calls Try.prog 13 #[.pointer none, x, y] W fun e w' => e = .returned (.tuple #[]) ∧ w' = W := by
  go_enter Try.func13, Try.ntmps13
  go_wp2_with fail
  refine bodyPost_ret (results_none rfl _ _ _) rfl ?_
  exact ⟨rfl, rfl⟩
theorem arm_none (m e : Int) (W : World) :
    Calls Try.prog 21 #[.pointer none, .int .i64 m, .int .i64 e] W fun e w' => e = .returned (.int .i64 1) ∧ w' = W := by
  go_enter Try.func21, Try.ntmps21
  go_wp2_with fail
  go_ret
  exact ⟨rfl, rfl⟩
theorem down_none (W : World) :
    Calls Try.prog 24 #[.pointer none] W fun e w' => e = .returned (.bool false) ∧ w' = W := by
  go_enter Try.func24, Try.ntmps24
  go_wp2_with fail
  go_ret
  exact ⟨rfl, rfl⟩
theorem list_none (W : World) :
    Calls Try.prog 25 #[.pointer none] W fun e w' => e = .returned (.slice none 0 0) ∧ w' = W := by
  go_enter Try.func25, Try.ntmps25
  go_wp2_with fail
  go_ret
  exact ⟨rfl, rfl⟩
theorem clone_none (W : World) :
    Calls Try.prog 29 #[.pointer none] W fun e w' => e = .returned (.pointer none) ∧ Below W.heap.size W w' := by
  go_enter Try.func29, Try.ntmps29
  go_wp2_with fail
  go_ret
  exact ⟨rfl, by first | exact Below.refl _ _ | exact below_more _ (Below.refl _ _) | exact below_more _ (below_more _ (Below.refl _ _))⟩
theorem write_none (k : ByteArray) (W : World) :
    Calls Try.prog 9 #[.pointer none, .string k, .slice none 0 0] W fun e w' => e = .returned (.int .i64 1) ∧ Below W.heap.size W w' := by
  go_enter Try.func9, Try.ntmps9
  go_wp2_with fail
  refine (operate_nil _ _ _).mono ?_
  rintro e w1 ⟨rfl, rfl⟩
  go_wp2_with fail
  go_ret
  exact ⟨rfl, below_more _ (below_more _ (below_more _ (Below.refl _ _)))⟩
theorem sync_none (k : ByteArray) (W : World) :
    Calls Try.prog 10 #[.pointer none, .string k] W fun e w' => e = .returned (.int .i64 1) ∧ Below W.heap.size W w' := by
  go_enter Try.func10, Try.ntmps10
  go_wp2_with fail
  refine (operate_nil _ _ _).mono ?_
  rintro e w1 ⟨rfl, rfl⟩
  go_wp2_with fail
  go_ret
  exact ⟨rfl, below_more _ (below_more _ (Below.refl _ _))⟩
theorem remove_none (k : ByteArray) (W : World) :
    Calls Try.prog 28 #[.pointer none, .string k] W fun e w' => e = .returned (.int .i64 1) ∧ Below W.heap.size W w' := by
  go_enter Try.func28, Try.ntmps28
  go_wp2_with fail
  refine (operate_nil _ _ _).mono ?_
  rintro e w1 ⟨rfl, rfl⟩
  go_wp2_with fail
  go_ret
  exact ⟨rfl, below_more _ (below_more _ (Below.refl _ _))⟩
theorem rename_none (k t : ByteArray) (W : World) :
    Calls Try.prog 12 #[.pointer none, .string k, .string t] W fun e w' => e = .returned (.int .i64 1) ∧ Below W.heap.size W w' := by
  go_enter Try.func12, Try.ntmps12
  go_wp2_with fail
  refine (operate_nil _ _ _).mono ?_
  rintro e w1 ⟨rfl, rfl⟩
  go_wp2_with fail
  go_ret
  exact ⟨rfl, below_more _ (below_more _ (below_more _ (Below.refl _ _)))⟩
theorem syncdir_none (W : World) :
    Calls Try.prog 11 #[.pointer none] W fun e w' => e = .returned (.int .i64 1) ∧ Below W.heap.size W w' := by
  go_enter Try.func11, Try.ntmps11
  go_wp2_with fail
  refine (operate_nil _ _ _).mono ?_
  rintro e w1 ⟨rfl, rfl⟩
  go_wp2_with fail
  go_ret
  exact ⟨rfl, below_more _ (Below.refl _ _)⟩
end Go.Proofs.Ytcobjjaicckgpaa.Vf
