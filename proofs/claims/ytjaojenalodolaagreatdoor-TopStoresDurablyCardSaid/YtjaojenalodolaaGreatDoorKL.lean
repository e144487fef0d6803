/- Parts of this proof, joined: R2W8, SdW1, SdL1. -/
import Derived.Test.YtjaojenalodolaaGreatDoorR2W7
import Derived.Test.YtjaojenalodolaaGreatDoorKM2
import Derived.Test.YtjaojenalodolaaGreatDoorDeW3
import Derived.Test.YtjaojenalodolaaGreatDoorKT
import Derived.Test.YtjaojenalodolaaGreatDoorKD
/- The reference's Encode, walked. Printed by genr28.py. -/
namespace Go.Proofs.YtjaojenalodolaaGreatDoor.R2
open Go Go.RowKit Go.Proofs.YtjaojenalodolaaGreatDoor Go.Proofs.YtjaojenalodolaaGreatDoor.Rw Go.Proofs.YtjaojenalodolaaGreatDoor.Vf Go.Proofs.YtjaojenalodolaaGreatDoor.Mw Go.Proofs.YtjaojenalodolaaGreatDoor.Me Go.Proofs.YtjaojenalodolaaGreatDoor.Pj Go.Proofs.YtjaojenalodolaaGreatDoor.De
set_option linter.unusedVariables false
set_option maxRecDepth 100000
set_option maxHeartbeats 16000000
def ld_e1 : Op := .load 79 (.tmp 17)
theorem rencode_ok (v : Value) (a : List Mo.Fd) (W : World) (h : ArIs W v a) (bd : Mw.ArB a) (hk : Mo.okA a = true) (hal : a.length ≤ 100000) (hpl : ∀ f ∈ a, f.path.length ≤ 100000) (hel : ∀ f ∈ a, f.ents.length ≤ 100000) (ho : Jv.Ok 1 (Jv.jA a)) (hjb : JB (Jv.jA a)) (hjs : JS (Jv.jA a)) (hlen : (Jv.enc (Jv.jA a)).length ≤ 1000000000) :
    Calls Tryz.prog 11 #[.agg #[v]] W fun e w' => e = .returned (.tuple #[.string ⟨(Jv.enc (Jv.jA a)).toArray⟩, .int .i64 0]) ∧ Below W.heap.size W w' := by
  have CK := Lib.hid (fun u (hu : Below W.heap.size W u) => Mw.rcheckA_is u v a (h.under hu) bd)
  rw [hk] at CK
  change Hid (∀ u (hu : Below W.heap.size W u), Calls _ _ _ _ (fun e w' => e = .returned (.int .i64 0) ∧ _)) at CK
  obtain ⟨fg, fo, aa, ac, rfl, haa, hac⟩ := feeds_at h
  obtain ⟨an, han⟩ : ∃ n, a.length = n := ⟨_, rfl⟩
  rw [han] at haa hal CK ⊢
  have HAN := Lib.hid han
  have HAA := Lib.hid haa
  have HAC := Lib.hid hac
  have HLS := Lib.hid (And.intro hpl hel)
  have CW := Lib.hid (fun k n b s a1 n1 c1 a2 n2 c2 p w (hj : Jv w (Jv.jA a) (vCells k b n s (.slice a1 n1 c1) (.slice a2 n2 c2) p)) => rwrite_ok k n b s a1 n1 c1 a2 n2 c2 p (Jv.jA a) w ho hjb hjs hlen hj)
  generalize (⟨(Jv.enc (Jv.jA a)).toArray⟩ : ByteArray) = Q at CW ⊢
  have HX0 := Lib.hid (heap_alloc_new W (.cells #[.slice aa an ac] 24))
  have HB0 := Lib.hid ((Below.refl W.heap.size W).alloc (Nat.le_refl _) (.cells #[.slice aa an ac] 24))
  obtain ⟨ti, tz, hi', hz0, hz1, hz2, hz3⟩ := info_sz infoV
  have HI := Lib.hid (And.intro hi' (And.intro hz0 (And.intro hz1 (And.intro hz2 hz3))))
  clear hi' hz0 hz1 hz2 hz3 h bd hk han haa hac hpl hel ho hjb hjs hlen
  have e0 := Me.box_at (j := 0) HX0.out rfl
  go_enter Tryz.func11, Tryz.ntmps11
  go_wp2_with fail
  refine (CK.out _ HB0.out).mono ?_
  rintro e w1 ⟨rfl, hb1⟩
  have HB1 := Lib.hid (below_seq HB0.out hb1)
  have HX1 := Lib.hid ((hb1.block _ (Rw.lt_of_heap HX0.out)).trans HX0.out)
  have hb2 := (Below.refl w1.heap.size w1).alloc (Nat.le_refl _) (.cells #[.int .i64 4, .bool false, .int .i64 0, .string ⟨#[]⟩, .slice none 0 0, .slice none 0 0, .int .i64 0] 82)
  have HY := Lib.hid (heap_alloc_new w1 (.cells #[.int .i64 4, .bool false, .int .i64 0, .string ⟨#[]⟩, .slice none 0 0, .slice none 0 0, .int .i64 0] 82))
  have HX := Lib.hid ((hb2.block _ (Rw.lt_of_heap HX1.out)).trans HX1.out)
  have HBW1 := Lib.hid (below_seq HB1.out hb2)
  have hzl := Rw.lt_of_heap HX1.out
  have hz1 := HB1.out.size
  clear hb1 CK HB0 HX0 e0
  go_wp2_with fail
  obtain ⟨B4, hB4⟩ : ∃ n, w1.heap.size = n := ⟨_, rfl⟩
  obtain ⟨E, hE⟩ : ∃ n, W.heap.size = n := ⟨_, rfl⟩
  rw [hB4] at HY hzl hz1 ⊢
  generalize w1.alloc (.cells #[.int .i64 4, .bool false, .int .i64 0, .string ⟨#[]⟩, .slice none 0 0, .slice none 0 0, .int .i64 0] 82) = W1 at HY HX HBW1 ⊢
  have HB4L := Lib.hid (Rw.lt_of_heap HY.out)
  have HNE := Lib.hid (show E ≠ B4 ∧ W.heap.size ≤ B4 by omega)
  have HEW := Lib.hid hE
  have HE0 := Lib.hid (show W1.cell? ⟨E, 0, none⟩ = some (.slice aa an ac) by rw [← hE]; exact Me.box_at (j := 0) HX.out rfl)
  rw [hE] at ⊢
  clear hB4 hE hb2 hzl hz1
  go_loopw [5] (fun x wr => ∃ i : Nat, i ≤ an ∧ x = .int .i64 i ∧ Hid (∃ iv, Row Jv 7 82 W1.heap.size wr iv ((a.take i).map Jv.jF) ∧ wr.heap[B4]? = some (Obj.cells #[.int .i64 4, .bool false, .int .i64 0, .string ⟨#[]⟩, iv, .slice none 0 0, .int .i64 0] 82 (0, 0)) ∧ Sd B4 W1 wr)) (fun x _ => an - (intOf x).toNat)
  case atStart => exact ⟨0, Nat.zero_le _, rfl, Lib.hid ⟨_, Row.nil, HY.out, Sd.refl _ _⟩⟩
  case round =>
    obtain ⟨i, hi, rfl, hst⟩ := hrel
    obtain ⟨iv, hrow, hbox, hsd⟩ := hst.out
    have HROW := Lib.hid hrow
    have HBOX := Lib.hid hbox
    have HSD := Lib.hid hsd
    have HBW := Lib.hid (show Below W.heap.size W _ from HBW1.out.trans (hsd.under HNE.out.2 HBW1.out.size))
    have z0 := hsd.cell HE0.out HNE.out.1
    clear hst hrow hbox hsd
    by_cases hlt : i < an
    · obtain rfl := HAA.out (by omega)
      have hil : i < a.length := by rw [HAN.out]; exact hlt
      obtain ⟨vp, ve, hvp, hve, y0, y1, y2, y3, y4, y5⟩ := HAC.out i hil
      have hpg : fg < W.heap.size := Rw.lt_of_cell y0
      obtain ⟨-, -, p1, c1, hp1, -, -⟩ := path_at hvp
      obtain ⟨-, -, p2, c2, hp2, -, -⟩ := ents_at hve
      subst hp1
      subst hp2
      obtain ⟨n1, hn1⟩ : ∃ n, a[i].path.length = n := ⟨_, rfl⟩
      obtain ⟨n2, hn2⟩ : ∃ n, a[i].ents.length = n := ⟨_, rfl⟩
      rw [hn1] at hvp y0
      rw [hn2] at hve y5
      replace y0 := cell_under y0 HBW1.out
      replace y1 := cell_under y1 HBW1.out
      replace y2 := cell_under y2 HBW1.out
      replace y3 := cell_under y3 HBW1.out
      replace y4 := cell_under y4 HBW1.out
      replace y5 := cell_under y5 HBW1.out
      have i1 : (i : Int) < (an : Int) := by omega
      have i0 : (0 : Int) ≤ (i : Int) := by omega
      have HTK := Lib.hid (show (a.take (i + 1)).map Jv.jF = (a.take i).map Jv.jF ++ [Jv.jF a[i]] by rw [List.take_add_one, List.getElem?_eq_getElem hil, List.map_append]; rfl)
      have HTL := Lib.hid (show ((a.take i).map Jv.jF).length = i by rw [List.length_map, List.length_take, HAN.out]; omega)
      have hl1 := HLS.out.1 _ (List.getElem_mem hil)
      have hl2 := HLS.out.2 _ (List.getElem_mem hil)
      generalize a[i] = fe at hvp hve y0 y1 y2 y3 y4 y5 HTK hl1 hl2 hn1 hn2
      have hpB : fg ≠ B4 := by have := HNE.out; omega
      have HC1 := Lib.hid (fun u (hu : Sd B4 W1 u) => (show u.cell? ⟨E, 0, none⟩ = some (.slice (some ⟨fg, fo, none⟩) an ac) ∧ u.cell? ⟨fg, fo + i * 6, none⟩ = some (.slice p1 n1 c1) ∧ u.cell? ⟨fg, fo + i * 6 + 1, none⟩ = some (.string fe.id) ∧ u.cell? ⟨fg, fo + i * 6 + 2, none⟩ = some (.string fe.title) ∧ u.cell? ⟨fg, fo + i * 6 + 3, none⟩ = some (.string fe.link) ∧ u.cell? ⟨fg, fo + i * 6 + 4, none⟩ = some (.int .i64 fe.upd) ∧ u.cell? ⟨fg, fo + i * 6 + 5, none⟩ = some (.slice p2 n2 c2) from ⟨hu.cell HE0.out HNE.out.1, hu.cell y0 hpB, hu.cell y1 hpB, hu.cell y2 hpB, hu.cell y3 hpB, hu.cell y4 hpB, hu.cell y5 hpB⟩))
      have CC := Lib.hid (fun (u : World) (hu : Below wr.heap.size wr u) => rfeed_is fe (.slice p1 n1 c1) (.slice p2 n2 c2) u (hvp.under (below_seq HBW.out hu)) (hve.under (below_seq HBW.out hu)) hl1 hl2)
      obtain ⟨ad, cp9, hiv⟩ := Row.slice HROW.out
      subst hiv
      rw [HTL.out] at HROW HBOX
      have b4 := Me.box_at (j := 4) HBOX.out rfl
      clear y0 y1 y2 y3 y4 y5 z0 hpg hvp hve hl1 hl2 hn1 hn2
      have hld : ld_e1 = .load 79 (.tmp 17) := rfl
      have b4d := cell_under b4 (Below.refl wr.heap.size wr).drew
      have sW := HC1.out wr HSD.out
      have sD := HC1.out wr.drew (HSD.out.below (Below.refl wr.heap.size wr).drew)
      go_wp2_with fail
      rw [← hld]
      go_region_held3 (fun u => u.cell? ⟨E, 0, none⟩ = some (.slice (some ⟨fg, fo, none⟩) an ac) ∧ u.cell? ⟨fg, fo + i * 6, none⟩ = some (.slice p1 n1 c1) ∧ u.cell? ⟨fg, fo + i * 6 + 1, none⟩ = some (.string fe.id) ∧ u.cell? ⟨fg, fo + i * 6 + 2, none⟩ = some (.string fe.title) ∧ u.cell? ⟨fg, fo + i * 6 + 3, none⟩ = some (.string fe.link) ∧ u.cell? ⟨fg, fo + i * 6 + 4, none⟩ = some (.int .i64 fe.upd) ∧ u.cell? ⟨fg, fo + i * 6 + 5, none⟩ = some (.slice p2 n2 c2)) (first | (with_reducible assumption) | (with_reducible exact HC1.out _ (HSA.out.below ((Below.refl uA.heap.size uA).alloc (Nat.le_refl _) _))) | (with_reducible exact HC1.out _ (HSA.out.below ((Below.refl uA.heap.size uA).alloc (Nat.le_refl _) _).drew)))
        (first
          | (go_at_call 26; first | (have C5 := CC.out wr (Below.refl _ _); (with_reducible refine C5.mono ?_); rintro e uA ⟨⟨mo, mn, mc, rfl, hval⟩, hb⟩; have HA := Lib.hid hb; have HVA := Lib.hid hval; have HSA := Lib.hid (HSD.out.below HA.out); have sA := HC1.out uA HSA.out; have HBXA := Lib.hid ((HA.out.block _ (Rw.lt_of_heap HBOX.out)).trans HBOX.out); have b4A := Me.box_at (j := 4) HBXA.out rfl; have b4B := cell_under b4A ((Below.refl uA.heap.size uA).alloc (Nat.le_refl _) (.cells #[.int .i64 5, .bool false, .int .i64 0, .string ⟨#[]⟩, .slice none 0 0, .slice mo mn mc, .int .i64 0] 82)); clear hb hval) | (have C5 := CC.out wr.drew (Below.refl _ _).drew; (with_reducible refine C5.mono ?_); rintro e uA ⟨⟨mo, mn, mc, rfl, hval⟩, hb⟩; have HA := Lib.hid (below_seq (Below.refl wr.heap.size wr).drew hb); have HVA := Lib.hid hval; have HSA := Lib.hid (HSD.out.below HA.out); have sA := HC1.out uA HSA.out; have HBXA := Lib.hid ((HA.out.block _ (Rw.lt_of_heap HBOX.out)).trans HBOX.out); have b4A := Me.box_at (j := 4) HBXA.out rfl; have b4B := cell_under b4A ((Below.refl uA.heap.size uA).alloc (Nat.le_refl _) (.cells #[.int .i64 5, .bool false, .int .i64 0, .string ⟨#[]⟩, .slice none 0 0, .slice mo mn mc, .int .i64 0] 82)); clear hb hval))
          | (refine step_push (El := Jv) _ rfl (.tmp 18) (.tmp 25) 79 rfl W1.heap.size uA.heap.size 82 ti tz 7 96 Tryz.underlying79 HI.out.1 HI.out.2.1 HI.out.2.2.1 HI.out.2.2.2.1 HI.out.2.2.2.2 (by decide) (.slice ad i cp9) ((a.take i).map Jv.jF) i HTL.out rfl ?b1 _ (Jv.jF fe) [.int .i64 5, .bool false, .int .i64 0, .string ⟨#[]⟩, .slice none 0 0, .slice mo mn mc, .int .i64 0] rfl ?b2 ?b3 ?b4 ?b5 ?b6 ?b7 rfl ?_; (case b1 => exact HROW.out.below (below_seq HA.out ((Below.refl uA.heap.size uA).alloc (Nat.le_refl _) (.cells #[.int .i64 5, .bool false, .int .i64 0, .string ⟨#[]⟩, .slice none 0 0, .slice mo mn mc, .int .i64 0] 82)))); (case b2 => exact one_row (w := uA) (c := [.int .i64 5, .bool false, .int .i64 0, .string ⟨#[]⟩, .slice none 0 0, .slice mo mn mc, .int .i64 0]) (sz := 7) rfl); (case b3 => exact vone _ _ _ _ _ _ _ _ _ _ _); (case b4 => exact fun u hu => val_app HVA.out ((Below.refl uA.heap.size uA).alloc (Nat.le_refl _) (.cells #[.int .i64 5, .bool false, .int .i64 0, .string ⟨#[]⟩, .slice none 0 0, .slice mo mn mc, .int .i64 0] 82)) HSD.out.size (fun q hq => row_lt9 HROW.out hq) hu); (case b5 => (unfold maxLen; omega)); (case b6 => omega); (case b7 => exact Nat.le_trans HSD.out.size (Nat.le_trans HA.out.size ((Below.refl uA.heap.size uA).alloc (Nat.le_refl _) (.cells #[.int .i64 5, .bool false, .int .i64 0, .string ⟨#[]⟩, .slice none 0 0, .slice mo mn mc, .int .i64 0] 82)).size)); intro v1 w2 hrow2 hgrow hv1; obtain ⟨a8, c8, hv8⟩ := Row.slice hrow2; rw [List.length_append, HTL.out] at hv8; change v1 = .slice a8 (i + 1) c8 at hv8; subst hv8; have HROW6 := Lib.hid hrow2; have HBOX6 := Lib.hid (grown_heap hgrow hv1 HB4L.out ((((Below.refl uA.heap.size uA).alloc (Nat.le_refl _) (.cells #[.int .i64 5, .bool false, .int .i64 0, .string ⟨#[]⟩, .slice none 0 0, .slice mo mn mc, .int .i64 0] 82)).block _ (Rw.lt_of_heap HBXA.out)).trans HBXA.out)); have HSD6 := Lib.hid (grown_sd (HSA.out.below ((Below.refl uA.heap.size uA).alloc (Nat.le_refl _) (.cells #[.int .i64 5, .bool false, .int .i64 0, .string ⟨#[]⟩, .slice none 0 0, .slice mo mn mc, .int .i64 0] 82))) hgrow hv1 (Nat.le_refl _)); have sF := HC1.out _ HSD6.out; have sG := HC1.out _ (HSD6.out.set 4 (.slice a8 (i + 1) c8)); have b6 := Me.box_at (j := 4) HBOX6.out rfl; have fr := frozen_of_row w2 _ 4 _ _ HBOX6.out; clear hrow2 hgrow hv1)
          | (refine step_push (El := Jv) _ rfl (.tmp 18) (.tmp 25) 79 rfl W1.heap.size uA.heap.size 82 ti tz 7 96 Tryz.underlying79 HI.out.1 HI.out.2.1 HI.out.2.2.1 HI.out.2.2.2.1 HI.out.2.2.2.2 (by decide) (.slice ad i cp9) ((a.take i).map Jv.jF) i HTL.out rfl ?b1 _ (Jv.jF fe) [.int .i64 5, .bool false, .int .i64 0, .string ⟨#[]⟩, .slice none 0 0, .slice mo mn mc, .int .i64 0] rfl ?b2 ?b3 ?b4 ?b5 ?b6 ?b7 rfl ?_; (case b1 => exact HROW.out.below (below_seq HA.out ((Below.refl uA.heap.size uA).alloc (Nat.le_refl _) (.cells #[.int .i64 5, .bool false, .int .i64 0, .string ⟨#[]⟩, .slice none 0 0, .slice mo mn mc, .int .i64 0] 82)).drew)); (case b2 => exact one_row (w := uA) (c := [.int .i64 5, .bool false, .int .i64 0, .string ⟨#[]⟩, .slice none 0 0, .slice mo mn mc, .int .i64 0]) (sz := 7) rfl); (case b3 => exact vone _ _ _ _ _ _ _ _ _ _ _); (case b4 => exact fun u hu => val_app HVA.out ((Below.refl uA.heap.size uA).alloc (Nat.le_refl _) (.cells #[.int .i64 5, .bool false, .int .i64 0, .string ⟨#[]⟩, .slice none 0 0, .slice mo mn mc, .int .i64 0] 82)).drew HSD.out.size (fun q hq => row_lt9 HROW.out hq) hu); (case b5 => (unfold maxLen; omega)); (case b6 => omega); (case b7 => exact Nat.le_trans HSD.out.size (Nat.le_trans HA.out.size ((Below.refl uA.heap.size uA).alloc (Nat.le_refl _) (.cells #[.int .i64 5, .bool false, .int .i64 0, .string ⟨#[]⟩, .slice none 0 0, .slice mo mn mc, .int .i64 0] 82)).drew.size)); intro v1 w2 hrow2 hgrow hv1; obtain ⟨a8, c8, hv8⟩ := Row.slice hrow2; rw [List.length_append, HTL.out] at hv8; change v1 = .slice a8 (i + 1) c8 at hv8; subst hv8; have HROW6 := Lib.hid hrow2; have HBOX6 := Lib.hid (grown_heap hgrow hv1 HB4L.out ((((Below.refl uA.heap.size uA).alloc (Nat.le_refl _) (.cells #[.int .i64 5, .bool false, .int .i64 0, .string ⟨#[]⟩, .slice none 0 0, .slice mo mn mc, .int .i64 0] 82)).drew.block _ (Rw.lt_of_heap HBXA.out)).trans HBXA.out)); have HSD6 := Lib.hid (grown_sd (HSA.out.below ((Below.refl uA.heap.size uA).alloc (Nat.le_refl _) (.cells #[.int .i64 5, .bool false, .int .i64 0, .string ⟨#[]⟩, .slice none 0 0, .slice mo mn mc, .int .i64 0] 82)).drew) hgrow hv1 (Nat.le_refl _)); have sF := HC1.out _ HSD6.out; have sG := HC1.out _ (HSD6.out.set 4 (.slice a8 (i + 1) c8)); have b6 := Me.box_at (j := 4) HBOX6.out rfl; have fr := frozen_of_row w2 _ 4 _ _ HBOX6.out; clear hrow2 hgrow hv1))
      all_goals
        go_wp2_with fail
        go_roundw
        case rel =>
          refine ⟨i + 1, by omega, by go_num, Lib.hid ⟨.slice a8 (i + 1) c8, ?_, heap_setCell_same _ B4 4 _ _ _ HBOX6.out, HSD6.out.set 4 _⟩⟩
          have h3 := row_set (B := B4) (j := 4) (x := .slice a8 (i + 1) c8) HROW6.out HB4L.out
          rw [← HTK.out] at h3
          exact h3
        case measure => simp [intOf]; omega
    · have gl : decide ((i : Int) < (an : Int)) = false := decide_eq_false (by omega)
      have HTA : Hid (a.take i = a) := Lib.hid (List.take_of_length_le (by rw [HAN.out]; omega))
      rw [HTA.out] at HROW
      have hval := row_val HROW.out wr (fun _ _ _ _ => rfl)
      obtain ⟨p1, c1, hiv⟩ := Row.slice HROW.out
      subst hiv
      rw [List.length_map, HAN.out] at HROW HBOX hval
      have CF := Lib.hid (CW.out _ _ _ _ _ _ _ _ _ _ _ wr hval)
      have b0 := Me.box_at (j := 0) HBOX.out rfl
      have b1 := Me.box_at (j := 1) HBOX.out rfl
      have b2 := Me.box_at (j := 2) HBOX.out rfl
      have b3 := Me.box_at (j := 3) HBOX.out rfl
      have b4 := Me.box_at (j := 4) HBOX.out rfl
      have b5 := Me.box_at (j := 5) HBOX.out rfl
      have b6 := Me.box_at (j := 6) HBOX.out rfl
      clear hval
      go_wp2_with fail
      refine CF.out.mono ?_
      rintro e w2 ⟨rfl, hb2⟩
      have HB2 := Lib.hid (below_seq HBW.out hb2)
      clear hb2 CF
      go_wp2_with fail
      go_ret2
      exact ⟨rfl, HB2.out⟩
end Go.Proofs.YtjaojenalodolaaGreatDoor.R2
/- The store's Get of an archive that was put, walked. -/
namespace Go.Proofs.YtjaojenalodolaaGreatDoor.Ms
open Go Go.RowKit Go.Proofs.YtjaojenalodolaaGreatDoor Go.Proofs.YtjaojenalodolaaGreatDoor.Rw Go.Proofs.YtjaojenalodolaaGreatDoor.Vf
set_option linter.unusedVariables false
set_option maxRecDepth 100000
set_option maxHeartbeats 16000000
theorem rw_set {w : World} {R sz : Nat} {v x : Value} {t : TypeId} {fr : Nat × Nat} {L : List (List Value)} (hR : w.heap[R]? = some (Obj.cells #[.slice none 0 0] t fr)) (h : Rw w v sz L) (hs : ∀ j (hj : j < L.length), ∃ k s, k < sz ∧ L[j][k]? = some (.string s)) : Rw (w.setCell ⟨R, 0, none⟩ x) v sz L := by
  obtain ⟨g, off, ad, cap, h1, h2, h3⟩ := h
  refine ⟨g, off, ad, cap, h1, h2, fun j hj k hk => ?_⟩
  obtain ⟨y, h4, h5⟩ := h3 j hj k hk
  have hne : g ≠ R := by
    rintro rfl
    obtain ⟨k', s, hk', he⟩ := hs j hj
    obtain ⟨z, h6, h7⟩ := h3 j hj k' hk'
    rw [he] at h6
    injection h6 with h6
    subst h6
    unfold World.cell? at h7
    simp only [hR] at h7
    generalize off + j * sz + k' = m at h7
    rcases m with _ | q
    · cases h7
    · simp at h7
  exact ⟨y, h4, (World.cell?_of_block (heap_setCell_other _ _ _ _ hne)).trans h5⟩
theorem ar_set {w : World} {R : Nat} {v x : Value} {t : TypeId} {fr : Nat × Nat} {a : List Mo.Fd} (hR : w.heap[R]? = some (Obj.cells #[.slice none 0 0] t fr)) (h : ArIs w v a) : ArIs (w.setCell ⟨R, 0, none⟩ x) v a := by
  obtain ⟨L, h1, h2, h3⟩ := h
  refine ⟨L, h1, rw_set hR h2 (fun j hj => ?_), fun j hj hL => ?_⟩
  · obtain ⟨vp, ve, e, -, -⟩ := h3 j (by omega) hj
    exact ⟨1, _, by omega, by rw [e]; rfl⟩
  · obtain ⟨vp, ve, e, hp, he⟩ := h3 j hj hL
    exact ⟨vp, ve, e, rw_set hR hp (fun i hi => ⟨0, _, by omega, by rw [List.getElem_map]; rfl⟩), rw_set hR he (fun i hi => ⟨0, _, by omega, by rw [List.getElem_map]; rfl⟩)⟩
theorem get_ok {W : World} {B F s n : Nat} {Z p : Nat → Prop} {a : AS} (h : Fs W B F Z a p) (ok : a.Ok n) (hs : Sto W s F) (ar : List Mo.Fd) (q : List UInt8) (hq : Jv.enc (Jv.jA ar) = q) (hr : a.read (nX ++ sJson) = (q, 0))
    (pe : Me.Enc ar) (js : Me.JB (Jv.jA ar)) (wt : Me.WT W) (sp : ∀ u, Below W.heap.size W u → Me.Spaces u) (len : q.length ≤ 1000000) :
    Calls Tryz.prog 10 #[.pointer (some ⟨s, 0, none⟩), .string ⟨#[120]⟩] W fun e w' => (∃ va, e = .returned (.tuple #[.agg #[va], .int .i64 0]) ∧ ArIs w' va ar) ∧ Below W.heap.size W w' := by
  have hb0 := (Below.refl W.heap.size W).alloc (Nat.le_refl _) (.cells #[.slice none 0 0] 24)
  have HB0 := Lib.hid hb0
  have HR0 := Lib.hid (heap_alloc_new W (.cells #[.slice none 0 0] 24))
  have HS := Lib.hid hs
  have HQS := Lib.hid (show (⟨q.toArray⟩ : ByteArray).size = q.length by simp [ByteArray.size])
  have CI := Lib.hid (fun u => isname_x u)
  have CR := Lib.hid (fun u (hu : Below W.heap.size W u) => read_fs (h.below hu) ok (nX ++ sJson) (by decide))
  rw [hr] at CR
  have CD := Lib.hid (fun u (hu : Below W.heap.size W u) => De.decode_is ⟨q.toArray⟩ ar u ⟨(wt.below hu).u8, (wt.below hu).lt⟩ (by rw [HQS.out]; omega) (by rw [hq]) (Jv.jA_ok pe.ok) js (jA_js ar) pe.len pe.ents pe.path
    (fun x v hx hv => by
      have h1 := encodeA_ok x v ar ⟨hv, pe, js, wt.below (below_seq hu hx), fun y hy => sp y (below_seq (below_seq hu hx) hy), by rw [hq]; exact len⟩
      rw [hq] at h1
      exact h1))
  obtain ⟨Q, hQ⟩ : ∃ Q : ByteArray, (⟨q.toArray⟩ : ByteArray) = Q := ⟨_, rfl⟩
  have HQQ := Lib.hid hQ
  rw [hQ] at CD
  clear hQ
  clear hb0 h ok hs hr pe js wt sp
  unfold nX sJson at CR
  have hadd := fun w => run_string_add_sum (P := Tryz.prog) w ⟨#[120]⟩ ⟨#[46, 106, 115, 111, 110]⟩ (by decide)
  go_enter Tryz.func10, Tryz.ntmps10
  go_wp2_with fail
  refine (CI.out _).mono ?_
  rintro e w1 ⟨rfl, hb1⟩
  have HB1 := Lib.hid (below_seq HB0.out hb1)
  have HR1 := Lib.hid ((hb1.block _ (Rw.lt_of_heap HR0.out)).trans HR0.out)
  have y0 : w1.cell? ⟨s, 0, none⟩ = some (.pointer (some ⟨F, 0, none⟩)) := cell_under HS.out HB1.out
  clear hb1 CI
  go_wp2_with fail
  refine (CR.out _ HB1.out).mono ?_
  rintro e w2 ⟨v, rfl, hv, -, hb2⟩
  obtain ⟨ax, xn, xc, rfl⟩ := Rd.slice hv
  have hcv := hv.conv
  have hcq : (⟨((q, (0 : Int)).1).toArray⟩ : ByteArray) = Q := HQQ.out
  rw [hcq] at hcv
  have HB2 := Lib.hid (below_seq HB1.out hb2)
  have HR2 := Lib.hid ((hb2.block _ (Rw.lt_of_heap HR1.out)).trans HR1.out)
  clear hv hb2 CR y0 hcq
  go_wp2_with fail
  refine (CD.out _ HB2.out).mono ?_
  rintro e w3 ⟨⟨va, rfl, hva⟩, hb3⟩
  have HB3 := Lib.hid (below_seq HB2.out hb3)
  have HR3 := Lib.hid ((hb3.block _ (Rw.lt_of_heap HR2.out)).trans HR2.out)
  obtain ⟨g, off, ad, cap, rfl, -, -⟩ := Mw.feeds_at hva
  have HVA := Lib.hid hva
  have q0 := Me.box_at (j := 0) HR3.out rfl
  have fq := frozen_of_row w3 _ 0 _ _ HR3.out
  clear hb3 CD hva
  generalize ar.length = nn at HVA ⊢
  go_wp2_with fail
  have hz2 := heap_setCell_same w3 W.heap.size 0 _ _ (.slice ad nn cap) HR3.out
  refine bodyPost_ret (De.res_cell_slot rfl _ _ W.heap.size _ _ _ _ rfl hz2 Tryz.underlying24 rfl (by kernel_rfl)) rfl ?_
  exact ⟨⟨.slice ad nn cap, rfl, ar_set HR3.out HVA.out⟩, ⟨HB3.out.os, HB3.out.tape, HB3.out.output, by simpa using HB3.out.size, fun q hq => (heap_setCell_other _ _ _ _ (show q ≠ W.heap.size by omega)).trans (HB3.out.block q hq)⟩⟩
end Go.Proofs.YtjaojenalodolaaGreatDoor.Ms
/- TopStoresDurably, walked. Printed by gensdl.py. -/
namespace Go.Proofs.YtjaojenalodolaaGreatDoor.Ms
open Go Go.RowKit Go.Proofs.YtjaojenalodolaaGreatDoor Go.Proofs.YtjaojenalodolaaGreatDoor.Rw Go.Proofs.YtjaojenalodolaaGreatDoor.Vf
set_option linter.unusedVariables false
set_option maxRecDepth 100000
set_option maxHeartbeats 16000000
structure DurIn (W : World) (va vb vl : Value) (ar : List Mo.Fd) (ch : List Bool) (ls : List Int) : Prop where
  li : LawIn W va (.slice none 0 0) ar []
  bl : Bl W vb ch
  il : Il W vl ls
  bn : ch.length ≤ 140737488355328
  ln : ls.length ≤ 140737488355328
theorem lawin_under {W u : World} {va vn : Value} {ar : List Mo.Fd} {ns : List ByteArray} (h : LawIn W va vn ar ns) (hu : Below W.heap.size W u) : LawIn u va vn ar ns := ⟨h.mem.under hu, h.bd, h.nm.under hu, h.wt.below hu, fun w hw => h.sp w (below_seq hu hw)⟩
theorem ar_old {W : World} {va : Value} {ar : List Mo.Fd} (h : ArIs W va ar) : ∃ ad cap, va = .slice ad ar.length cap := by
  obtain ⟨-, -, ad, cap, rfl, -, -⟩ := Mw.feeds_at h
  exact ⟨ad, cap, rfl⟩
theorem bl_now {W0 w : World} {B F : Nat} {Z p0 : Nat → Prop} {a : AS} {v : Value} {l : List Bool} (h : Now W0 w B F Z p0 a) (hb : Bl W0 v l) (hp : ∀ g, g < W0.heap.size → 0 < l.length → v.ownBlock = some g → ¬ p0 g) : Bl w v l := by
  obtain ⟨g, off, ad, c, rfl, h1, h2⟩ := hb
  exact ⟨g, off, ad, c, rfl, h1, fun j hj => h.cell (h2 j hj) (hp g (Rw.lt_of_cell (h2 j hj)) (by omega) (by rw [h1 (by omega)]; rfl))⟩
theorem il_now {W0 w : World} {B F : Nat} {Z p0 : Nat → Prop} {a : AS} {v : Value} {l : List Int} (h : Now W0 w B F Z p0 a) (hb : Il W0 v l) (hp : ∀ g, g < W0.heap.size → 0 < l.length → v.ownBlock = some g → ¬ p0 g) : Il w v l := by
  obtain ⟨g, off, ad, c, rfl, h0, h1, h2⟩ := hb
  exact ⟨g, off, ad, c, rfl, h0, h1, fun j hj => h.cell (h2 j hj) (hp g (Rw.lt_of_cell (h2 j hj)) (by omega) (by rw [h1 (by omega)]; rfl))⟩
theorem bl_lt {w : World} {v : Value} {l : List Bool} (h : Bl w v l) (h0 : 0 < l.length) : ∀ g, v.ownBlock = some g → g < w.heap.size := by
  obtain ⟨g, off, ad, c, rfl, h1, h2⟩ := h
  intro b hb
  rw [h1 h0] at hb
  obtain rfl : g = b := by injection hb
  exact Rw.lt_of_cell (h2 0 h0)
theorem il_lt {w : World} {v : Value} {l : List Int} (h : Il w v l) (h0 : 0 < l.length) : ∀ g, v.ownBlock = some g → g < w.heap.size := by
  obtain ⟨g, off, ad, c, rfl, _, h1, h2⟩ := h
  intro b hb
  rw [h1 h0] at hb
  obtain rfl : g = b := by injection hb
  exact Rw.lt_of_cell (h2 0 h0)
theorem bl_below {w w' : World} {v : Value} {l : List Bool} (h : Bl w v l) (hb : Below w.heap.size w w') : Bl w' v l := by
  obtain ⟨g, off, ad, c, rfl, h1, h2⟩ := h
  exact ⟨g, off, ad, c, rfl, h1, fun j hj => cell_under (h2 j hj) hb⟩
theorem il_below {w w' : World} {v : Value} {l : List Int} (h : Il w v l) (hb : Below w.heap.size w w') : Il w' v l := by
  obtain ⟨g, off, ad, c, rfl, h0, h1, h2⟩ := h
  exact ⟨g, off, ad, c, rfl, h0, h1, fun j hj => cell_under (h2 j hj) hb⟩
theorem crash_rows {W0 w : World} {B F n : Nat} {Z p0 : Nat → Prop} {a : AS} (h : Now W0 w B F Z p0 a) (ok : a.Ok n) (hn : n ≤ 400000) (v1 v2 : Value) (ch : List Bool) (ls : List Int) (h1 : Bl w v1 ch) (h2 : Il w v2 ls) (g1 : 0 < ch.length → ∀ g, v1.ownBlock = some g → ¬ p0 g ∧ g < W0.heap.size) (g2 : 0 < ls.length → ∀ g, v2.ownBlock = some g → ¬ p0 g ∧ g < W0.heap.size) (hc : ch.length ≤ 1000000000) (hl : ls.length ≤ 1000000000) :
    Calls Tryz.prog 9 #[.pointer (some ⟨F, 0, none⟩), v1, v2] w fun e w' => e = .returned (.tuple #[]) ∧ Now W0 w' B F Z p0 (a.crash ch ls) := by
  obtain ⟨p', k1, k2, k3⟩ := h
  have np : ∀ g, ¬ p0 g → g < W0.heap.size → ¬ p' g := fun g a b c => (k3 g c).elim a (fun x => by omega)
  refine (crash_fs0 k1 ok hn v1 v2 ch ls h1 h2 (fun x g hg => np g (g1 x g hg).1 (g1 x g hg).2) (fun x g hg => np g (g2 x g hg).1 (g2 x g hg).2) hc hl).mono ?_
  rintro e w' ⟨rfl, q, h4, h5, h6⟩
  refine ⟨rfl, q, h4, k2.trans h5 (fun k hk hq => (k3 k hq).elim id (fun g => absurd hk (by omega))), fun k hk => ?_⟩
  rcases h6 k hk with g | g
  · exact k3 k g
  · exact .inr (Nat.le_trans k2.size g)
theorem a0_read (q : List UInt8) : (A0 q).read (nX ++ sJson) = (q, 0) := rfl
theorem a0_text (q : List UInt8) : ftext (A0 q) = [120, 46, 106, 115, 111, 110, 10] ++ (q ++ [10]) := by
  have : ftext (A0 q) = ([120, 46, 106, 115, 111, 110] ++ 10 :: (q ++ [10])) ++ [] := rfl
  rw [this]
  simp
section
variable {W : World} {va vb vl : Value} {ar : List Mo.Fd} {ch : List Bool} {ls : List Int}
theorem dur_too (h : DurIn W va vb vl ar ch ls) (hc : 5000 < Mo.wtA ar) :
    Calls Tryz.prog 3 #[.agg #[va], vb, vl] W fun e w' => e = .returned (.bool true) ∧ Below W.heap.size W w' := by
  have hba := (Below.refl W.heap.size W).alloc (Nat.le_refl _) (.cells #[va] 24)
  have x0 := Me.box_at (j := 0) (heap_alloc_new W (.cells #[va] 24)) rfl
  have HB := Lib.hid hba
  have CO := Lib.hid (topen_is (W.alloc (.cells #[va] 24)))
  have CT := Lib.hid (fun u (hu : Below W.heap.size W u) => Mw.tooLarge_is u va ar (h.li.mem.under hu) h.li.bd)
  have CS := Lib.hid (fun u (hu : Below W.heap.size W u) => stores_ok u (h.li.wt.below hu) (fun w hw => h.li.sp w (below_seq hu hw)))
  rw [Mw.tooA_big hc] at CT
  obtain ⟨ad, cap, rfl⟩ := ar_old h.li.mem
  obtain ⟨bg, bo, ba, bc, rfl, -, -⟩ := id h.bl
  obtain ⟨lg, lo, la, lc, rfl, -, -⟩ := id h.il
  clear hba h hc
  go_enter Tryz.func3, Tryz.ntmps3
  go_wp2_with fail
  refine CO.out.mono ?_
  rintro e w1 ⟨F, s, p, rfl, -, -, -, hb1, -⟩
  have HB1 := Lib.hid (below_seq HB.out hb1)
  replace x0 := cell_under x0 hb1
  clear hb1 HB CO
  go_wp2_with fail
  refine (CT.out _ HB1.out).mono ?_
  rintro e w2 ⟨rfl, hb2⟩
  have HB2 := Lib.hid (below_seq HB1.out hb2)
  clear hb2 CT x0
  go_wp2_with fail
  refine (CS.out _ HB2.out).mono ?_
  rintro e w9 ⟨rfl, hb9⟩
  have HB9 := Lib.hid (below_seq HB2.out hb9)
  clear hb9 CS
  go_wp2_with fail
  go_ret
  exact ⟨rfl, HB9.out⟩
theorem dur_bad (h : DurIn W va vb vl ar ch ls) (hc : ¬ 5000 < Mo.wtA ar) (hk : Mo.okA ar = false) :
    Calls Tryz.prog 3 #[.agg #[va], vb, vl] W fun e w' => e = .returned (.bool true) ∧ Below W.heap.size W w' := by
  have hba := (Below.refl W.heap.size W).alloc (Nat.le_refl _) (.cells #[va] 24)
  have x0 := Me.box_at (j := 0) (heap_alloc_new W (.cells #[va] 24)) rfl
  have HB := Lib.hid hba
  have CO := Lib.hid (topen_is (W.alloc (.cells #[va] 24)))
  have CT := Lib.hid (fun u (hu : Below W.heap.size W u) => Mw.tooLarge_is u va ar (h.li.mem.under hu) h.li.bd)
  have CS := Lib.hid (fun u (hu : Below W.heap.size W u) => stores_ok u (h.li.wt.below hu) (fun w hw => h.li.sp w (below_seq hu hw)))
  rw [show Mw.tooA ar = 0 from by unfold Mw.tooA; rw [if_neg hc]] at CT
  have CK := Lib.hid (fun u (hu : Below W.heap.size W u) => Mw.rcheckA_is u va ar (h.li.mem.under hu) h.li.bd)
  rw [hk] at CK
  change Hid (∀ u (hu : Below W.heap.size W u), Calls _ _ _ _ (fun e w' => e = .returned (.int .i64 22) ∧ _)) at CK
  obtain ⟨ad, cap, rfl⟩ := ar_old h.li.mem
  obtain ⟨bg, bo, ba, bc, rfl, -, -⟩ := id h.bl
  obtain ⟨lg, lo, la, lc, rfl, -, -⟩ := id h.il
  clear hba h hc hk
  go_enter Tryz.func3, Tryz.ntmps3
  go_wp2_with fail
  refine CO.out.mono ?_
  rintro e w1 ⟨F, s, p, rfl, -, -, -, hb1, -⟩
  have HB1 := Lib.hid (below_seq HB.out hb1)
  replace x0 := cell_under x0 hb1
  clear hb1 HB CO
  go_wp2_with fail
  refine (CT.out _ HB1.out).mono ?_
  rintro e w2 ⟨rfl, hb2⟩
  have HB2 := Lib.hid (below_seq HB1.out hb2)
  replace x0 := cell_under x0 hb2
  clear hb2 CT
  go_wp2_with fail
  refine (CK.out _ HB2.out).mono ?_
  rintro e w4 ⟨rfl, hb4⟩
  have HB4 := Lib.hid (below_seq HB2.out hb4)
  clear hb4 CK x0
  go_wp2_with fail
  refine (CS.out _ HB4.out).mono ?_
  rintro e w9 ⟨rfl, hb9⟩
  have HB9 := Lib.hid (below_seq HB4.out hb9)
  clear hb9 CS
  go_wp2_with fail
  go_ret
  exact ⟨rfl, HB9.out⟩
theorem dur_many (h : DurIn W va vb vl ar ch ls) (hc : ¬ 5000 < Mo.wtA ar) (hk : Mo.okA ar = true) (hn : 1000 < ch.length + ls.length) :
    Calls Tryz.prog 3 #[.agg #[va], vb, vl] W fun e w' => e = .returned (.bool true) ∧ Below W.heap.size W w' := by
  have hba := (Below.refl W.heap.size W).alloc (Nat.le_refl _) (.cells #[va] 24)
  have x0 := Me.box_at (j := 0) (heap_alloc_new W (.cells #[va] 24)) rfl
  have HB := Lib.hid hba
  have CO := Lib.hid (topen_is (W.alloc (.cells #[va] 24)))
  have CT := Lib.hid (fun u (hu : Below W.heap.size W u) => Mw.tooLarge_is u va ar (h.li.mem.under hu) h.li.bd)
  have CS := Lib.hid (fun u (hu : Below W.heap.size W u) => stores_ok u (h.li.wt.below hu) (fun w hw => h.li.sp w (below_seq hu hw)))
  rw [show Mw.tooA ar = 0 from by unfold Mw.tooA; rw [if_neg hc]] at CT
  have CK := Lib.hid (fun u (hu : Below W.heap.size W u) => Mw.rcheckA_is u va ar (h.li.mem.under hu) h.li.bd)
  rw [hk] at CK
  change Hid (∀ u (hu : Below W.heap.size W u), Calls _ _ _ _ (fun e w' => e = .returned (.int .i64 0) ∧ _)) at CK
  have hbn := h.bn
  have hln := h.ln
  obtain ⟨nb, hnb⟩ : ∃ n, ch.length = n := ⟨_, rfl⟩
  obtain ⟨nl, hnl⟩ : ∃ n, ls.length = n := ⟨_, rfl⟩
  obtain ⟨ad, cap, rfl⟩ := ar_old h.li.mem
  obtain ⟨bg, bo, ba, bc, rfl, -, -⟩ := id h.bl
  obtain ⟨lg, lo, la, lc, rfl, -, -⟩ := id h.il
  rw [hnb] at hbn hn ⊢
  rw [hnl] at hln hn ⊢
  have gw : IntKind.i64.wrap ((nb : Int) + (nl : Int)) = (nb : Int) + (nl : Int) := IntWalk.i64_in _ (by omega)
  have g1 : (1000 : Int) < (nb : Int) + (nl : Int) := by omega
  have g2 : decide ((1000 : Int) < (nb : Int) + (nl : Int)) = true := decide_eq_true g1
  clear hba h hc hk hnb hnl hn hbn hln
  go_enter Tryz.func3, Tryz.ntmps3
  go_wp2_with fail
  refine CO.out.mono ?_
  rintro e w1 ⟨F, s, p, rfl, -, -, -, hb1, -⟩
  have HB1 := Lib.hid (below_seq HB.out hb1)
  replace x0 := cell_under x0 hb1
  clear hb1 HB CO
  go_wp2_with fail
  refine (CT.out _ HB1.out).mono ?_
  rintro e w2 ⟨rfl, hb2⟩
  have HB2 := Lib.hid (below_seq HB1.out hb2)
  replace x0 := cell_under x0 hb2
  clear hb2 CT
  go_wp2_with fail
  refine (CK.out _ HB2.out).mono ?_
  rintro e w4 ⟨rfl, hb4⟩
  have HB4 := Lib.hid (below_seq HB2.out hb4)
  clear hb4 CK x0
  go_wp2_with fail
  refine (CS.out _ HB4.out).mono ?_
  rintro e w9 ⟨rfl, hb9⟩
  have HB9 := Lib.hid (below_seq HB4.out hb9)
  clear hb9 CS
  go_wp2_with fail
  go_ret
  exact ⟨rfl, HB9.out⟩
theorem dur_main (h : DurIn W va vb vl ar ch ls) (hc : ¬ 5000 < Mo.wtA ar) (hk : Mo.okA ar = true) (hn : ¬ 1000 < ch.length + ls.length) :
    Calls Tryz.prog 3 #[.agg #[va], vb, vl] W fun e w' => e = .returned (.bool true) ∧ Below W.heap.size W w' := by
  have hba := (Below.refl W.heap.size W).alloc (Nat.le_refl _) (.cells #[va] 24)
  have x0 := Me.box_at (j := 0) (heap_alloc_new W (.cells #[va] 24)) rfl
  have HB := Lib.hid hba
  have CO := Lib.hid (topen_is (W.alloc (.cells #[va] 24)))
  have CT := Lib.hid (fun u (hu : Below W.heap.size W u) => Mw.tooLarge_is u va ar (h.li.mem.under hu) h.li.bd)
  have CS := Lib.hid (fun u (hu : Below W.heap.size W u) => stores_ok u (h.li.wt.below hu) (fun w hw => h.li.sp w (below_seq hu hw)))
  rw [show Mw.tooA ar = 0 from by unfold Mw.tooA; rw [if_neg hc]] at CT
  have CK := Lib.hid (fun u (hu : Below W.heap.size W u) => Mw.rcheckA_is u va ar (h.li.mem.under hu) h.li.bd)
  rw [hk] at CK
  change Hid (∀ u (hu : Below W.heap.size W u), Calls _ _ _ _ (fun e w' => e = .returned (.int .i64 0) ∧ _)) at CK
  have PO := Lib.hid (fun u (hu : Below W.heap.size W u) => putok_of (lawin_under h.li hu) hc hk)
  have PK := Lib.hid (putok_of h.li hc hk)
  have hbn := h.bn
  have hln := h.ln
  obtain ⟨nb, hnb⟩ : ∃ n, ch.length = n := ⟨_, rfl⟩
  obtain ⟨nl, hnl⟩ : ∃ n, ls.length = n := ⟨_, rfl⟩
  obtain ⟨ad, cap, rfl⟩ := ar_old h.li.mem
  obtain ⟨bg, bo, ba, bc, rfl, -, -⟩ := id h.bl
  obtain ⟨lg, lo, la, lc, rfl, -, -⟩ := id h.il
  have HBL0 := Lib.hid h.bl
  have HIL0 := Lib.hid h.il
  have HAR := Lib.hid h.li.mem
  have HMB := Lib.hid h.li.bd
  rw [hnb] at hbn hn ⊢
  rw [hnl] at hln hn ⊢
  have gw : IntKind.i64.wrap ((nb : Int) + (nl : Int)) = (nb : Int) + (nl : Int) := IntWalk.i64_in _ (by omega)
  have g1 : ¬ (1000 : Int) < (nb : Int) + (nl : Int) := by omega
  have g2 : decide ((1000 : Int) < (nb : Int) + (nl : Int)) = false := decide_eq_false g1
  rw [hnb] at HBL0
  rw [hnl] at HIL0
  have HNN := Lib.hid (show ch.length ≤ 1000000000 ∧ ls.length ≤ 1000000000 by omega)
  obtain ⟨q, hq⟩ : ∃ q, Jv.enc (Jv.jA ar) = q := ⟨_, rfl⟩
  have HQ := Lib.hid hq
  have HQL := Lib.hid (show q.length ≤ 1000000 by rw [← hq]; exact PK.out.len)
  have HQ0 := Lib.hid (a0_q (l := q) HQL.out)
  clear hba h hc hk hnb hnl hn hbn hln hq
  go_enter Tryz.func3, Tryz.ntmps3
  go_wp2_with fail
  refine CO.out.mono ?_
  rintro e w1 ⟨F, s, p, rfl, hF, hs, np, hb1, hpk⟩
  have HB1 := Lib.hid (below_seq HB.out hb1)
  have HBL := Lib.hid HB.out.size
  have HBW := Lib.hid hb1.size
  have HBX := Lib.hid (Rw.lt_of_heap (heap_alloc_new W (.cells #[.slice ad ar.length cap] 24)))
  replace x0 := cell_under x0 hb1
  generalize (W.alloc (.cells #[.slice ad ar.length cap] 24)).heap.size = B at hF hpk HBL HBW HBX
  have HF := Lib.hid hF
  have HS := Lib.hid hs
  have HNP := Lib.hid np
  have HPK := Lib.hid hpk
  clear hb1 HB CO hF hs np hpk
  go_wp2_with fail
  refine (CT.out _ HB1.out).mono ?_
  rintro e w2 ⟨rfl, hb2⟩
  have HB2 := Lib.hid (below_seq HB1.out hb2)
  have HF2 := Lib.hid (HF.out.below hb2)
  have HS2 := Lib.hid (show Sto w2 s F from cell_under HS.out hb2)
  have HW2 := Lib.hid (Nat.le_trans HBW.out hb2.size)
  replace x0 := cell_under x0 hb2
  clear hb2 CT HF HS HBW
  go_wp2_with fail
  refine (CK.out _ HB2.out).mono ?_
  rintro e w3 ⟨rfl, hb3⟩
  have HB3 := Lib.hid (below_seq HB2.out hb3)
  have HS3 := Lib.hid (show Sto w3 s F from cell_under HS2.out hb3)
  have HW3 := Lib.hid (Nat.le_trans HW2.out hb3.size)
  have CP := Lib.hid (put_ok (nm := nX) isname_x (by decide) (HF2.out.below hb3) new_q (by omega) HS3.out HNP.out _ ar (PO.out w3 HB3.out) rfl)
  rw [HQ.out] at CP
  change Hid (Calls _ _ _ _ (fun e w' => _ ∧ Now w3 w' B F (fun _ => False) p (A0 q))) at CP
  replace x0 := cell_under x0 hb3
  have HX3 := Lib.hid x0
  clear hb3 CK HF2 HS2 HW2
  unfold nX at CP
  go_wp2_with fail
  refine CP.out.mono ?_
  rintro e w4 ⟨rfl, h4⟩
  have hg : ∀ g, g < W.heap.size → ¬ p g ∧ g < w3.heap.size := fun g hg => ⟨fun hp => by have h1 := HPK.out g hp; have h2 := HBL.out; omega, by have h1 := HB3.out.size; omega⟩
  have CC := Lib.hid (crash_rows h4 HQ0.out.ok (by omega) _ _ ch ls (bl_now h4 (bl_below HBL0.out HB3.out) (fun g _ h0 hv => (hg g (bl_lt HBL0.out h0 g hv)).1)) (il_now h4 (il_below HIL0.out HB3.out) (fun g _ h0 hv => (hg g (il_lt HIL0.out h0 g hv)).1)) (fun h0 g hv => hg g (bl_lt HBL0.out h0 g hv)) (fun h0 g hv => hg g (il_lt HIL0.out h0 g hv)) HNN.out.1 HNN.out.2)
  rw [crash_rest HQ0.out ch ls] at CC
  have HX4 := Lib.hid (h4.cell HX3.out (fun hp => by have h1 := HPK.out _ hp; have h2 := HBX.out; exact absurd h1 (Nat.not_le.2 h2)))
  clear h4 CP
  have x4 := HX4.out
  go_wp2_with fail
  refine CC.out.mono ?_
  rintro e w5 ⟨rfl, h5⟩
  have HBW5 := Lib.hid (HB3.out.trans ((h5.under HPK.out HW3.out).mono HBL.out))
  have HS5 := Lib.hid (show Sto w5 s F from h5.cell HS3.out HNP.out)
  have H5 := Lib.hid h5
  obtain ⟨p', k1, k2, k3⟩ := id h5
  have PW := PO.out w5 HBW5.out
  have CG := Lib.hid (get_ok k1 HQ0.out.ok HS5.out ar q HQ.out (a0_read q) PW.enc PW.js PW.wt PW.sp HQL.out)
  have HX5 := Lib.hid (h5.cell HX3.out (fun hp => by have h1 := HPK.out _ hp; have h2 := HBX.out; exact absurd h1 (Nat.not_le.2 h2)))
  clear h5 k1 k2 k3 CC x4 PW
  go_wp2_with fail
  refine CG.out.mono ?_
  rintro e w6 ⟨⟨v6, rfl, hv6⟩, hb6⟩
  obtain ⟨ad6, cap6, rfl⟩ := ar_old hv6
  have hba6 := (Below.refl w6.heap.size w6).alloc (Nat.le_refl _) (.cells #[.slice ad6 ar.length cap6] 24)
  have HB6 := Lib.hid (below_seq HBW5.out (below_seq hb6 hba6))
  have HV6 := Lib.hid (hv6.under hba6)
  have y6 := Me.box_at (j := 0) (heap_alloc_new w6 (.cells #[.slice ad6 ar.length cap6] 24)) rfl
  have H6 := Lib.hid (H5.out.below (below_seq hb6 hba6))
  have x6 := cell_under HX5.out (below_seq hb6 hba6)
  have CE := Lib.hid (R2.rencode_ok (.slice ad ar.length cap) ar (w6.alloc (.cells #[.slice ad6 ar.length cap6] 24)) (HAR.out.under HB6.out) PK.out.enc.bd PK.out.enc.ok PK.out.enc.len PK.out.enc.path PK.out.enc.ents (Jv.jA_ok PK.out.enc.ok) PK.out.js (jA_js ar) (by rw [HQ.out]; have := HQL.out; omega))
  rw [HQ.out] at CE
  have HTXT := Lib.hid (a0_text q)
  have HQQ := Lib.hid (show (⟨q.toArray⟩ : ByteArray).data.toList = q by simp)
  have HQZ := Lib.hid (show (⟨q.toArray⟩ : ByteArray).size = q.length by simp [ByteArray.size])
  generalize (⟨q.toArray⟩ : ByteArray) = Q at CE HQQ HQZ
  clear hv6 hb6 hba6 CG
  go_wp2_with fail
  generalize w6.alloc (.cells #[.slice ad6 ar.length cap6] 24) = w6a at HB6 HV6 y6 H6 x6 CE ⊢
  refine CE.out.mono ?_
  rintro e w7 ⟨rfl, hb7⟩
  have HB7 := Lib.hid (below_seq HB6.out hb7)
  have H7 := Lib.hid (H6.out.below hb7)
  have HV7 := Lib.hid (HV6.out.under hb7)
  replace x6 := cell_under x6 hb7
  replace y6 := cell_under y6 hb7
  clear hb7 CE
  go_wp2_with fail
  refine (CS.out _ HB7.out).mono ?_
  rintro e w8 ⟨rfl, hb8⟩
  have HB8 := Lib.hid (below_seq HB7.out hb8)
  have H8 := Lib.hid (H7.out.below hb8)
  have HV8 := Lib.hid (HV7.out.under hb8)
  have CQ := Lib.hid (Eqw.equal_is ar (.slice ad ar.length cap) (.slice ad6 ar.length cap6) w8 (HAR.out.under HB8.out) HV8.out (by have := PK.out.enc.len; omega) (fun f hf => ⟨by have := PK.out.enc.path f hf; omega, by have := PK.out.enc.ents f hf; omega⟩))
  replace x6 := cell_under x6 hb8
  replace y6 := cell_under y6 hb8
  clear hb8 CS
  go_wp2_with fail
  refine CQ.out.mono ?_
  rintro e w9 ⟨rfl, hb9⟩
  have HB9 := Lib.hid (below_seq HB8.out hb9)
  have CF := Lib.hid (files_now (H8.out.below hb9) HQ0.out.ok rfl (by omega) (a0_sh q))
  have hT : (⟨(ftext (A0 q)).toArray⟩ : ByteArray) = (⟨#[120, 46, 106, 115, 111, 110, 10]⟩ : ByteArray) ++ Q ++ ⟨#[10]⟩ := by
    apply Bs.ba_eq
    rw [R2.app_list, R2.app_list, R2.mk_list, a0_text, HQQ.out]
    simp
  rw [hT] at CF
  have s1 : (⟨#[120, 46, 106, 115, 111, 110, 10]⟩ : ByteArray).size = 7 := rfl
  have s2 : (⟨#[10]⟩ : ByteArray).size = 1 := rfl
  have hadd1 := fun w => run_string_add_sum (P := Tryz.prog) w ⟨#[120, 46, 106, 115, 111, 110, 10]⟩ Q (by rw [s1, HQZ.out]; have := HQL.out; omega)
  have hadd2 := fun w => run_string_add_sum (P := Tryz.prog) w (⟨#[120, 46, 106, 115, 111, 110, 10]⟩ ++ Q) ⟨#[10]⟩ (by rw [ByteArray.size_append, s1, s2, HQZ.out]; have := HQL.out; omega)
  generalize (⟨#[120, 46, 106, 115, 111, 110, 10]⟩ : ByteArray) ++ Q = t1 at CF hadd1 hadd2
  generalize t1 ++ (⟨#[10]⟩ : ByteArray) = t2 at CF hadd2
  clear hb9 CQ x6 y6 s1 s2 hT
  go_wp2_with fail
  refine CF.out.mono ?_
  rintro e w10 ⟨rfl, h10⟩
  have HB10 := Lib.hid (HB3.out.trans ((h10.under HPK.out HW3.out).mono HBL.out))
  clear h10 CF
  go_wp2_with fail
  go_ret
  exact ⟨rfl, HB10.out⟩
theorem dur_is (h : DurIn W va vb vl ar ch ls) :
    Calls Tryz.prog 3 #[.agg #[va], vb, vl] W fun e w' => e = .returned (.bool true) ∧ Below W.heap.size W w' := by
  by_cases hc : 5000 < Mo.wtA ar
  · exact dur_too h hc
  · cases hk : Mo.okA ar with
    | false => exact dur_bad h hc hk
    | true =>
      by_cases hn : 1000 < ch.length + ls.length
      · exact dur_many h hc hk hn
      · exact dur_main h hc hk hn
end
end Go.Proofs.YtjaojenalodolaaGreatDoor.Ms
