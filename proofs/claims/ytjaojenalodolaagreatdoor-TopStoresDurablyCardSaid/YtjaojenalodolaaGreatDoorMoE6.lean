/- The store's Encode, walked. -/
import Derived.Test.YtjaojenalodolaaGreatDoorKE
namespace Go.Proofs.YtjaojenalodolaaGreatDoor.Me
open Go Go.RowKit Go.Proofs.YtjaojenalodolaaGreatDoor Go.Proofs.YtjaojenalodolaaGreatDoor.Rw Go.Proofs.YtjaojenalodolaaGreatDoor.Vf Go.Proofs.YtjaojenalodolaaGreatDoor.Mw
set_option linter.unusedVariables false
set_option maxRecDepth 100000
set_option maxHeartbeats 16000000
theorem grow_cell {w w' : World} {row : Option Nat} {E : Nat} (h : w.grownBy w' row) (hr : row ≠ some E) (hE : E < w.heap.size) (o : Nat) : w'.cell? ⟨E, o, none⟩ = w.cell? ⟨E, o, none⟩ :=
  World.cell?_of_block (h.block E hE (fun e => hr e.symm))
theorem strs_all {w : World} {l : List ByteArray} {L : List (List Value)} (h : All Jv w (l.map Jv.J.str) L) (u : World) : All Jv u (l.map Jv.J.str) L :=
  ⟨h.1, fun j hj hL => by
    have := h.2 j hj hL
    rw [List.getElem_map] at this ⊢
    unfold Jv at this ⊢
    exact this⟩
theorem head_all {T X n c : Nat} {w wB u : World} {j : Jv.J} {cs : List Value} (hV : Val T wB j cs) (hb : Below wB.heap.size wB w) (hX : wB.heap.size ≤ X) (hu : Agree T w u (Value.ownBlock (.slice (some ⟨X, 0, none⟩) n c))) : Jv u j cs :=
  hV u fun k h1 h2 _ => (hu k h1 (Nat.lt_of_lt_of_le h2 hb.size) (fun e => by cases e; exact absurd h2 (Nat.not_lt.2 hX))).trans (hb.block k h2)
theorem rw_at {w : World} {X : Nat} (hX : w.heap.size = X) (l : List ByteArray) (t : TypeId) (cap : Nat) : Rw (w.alloc (.cells (l.map Value.string).toArray t)) (.slice (some ⟨X, 0, none⟩) l.length cap) 1 (l.map sCell) := by
  subst hX
  exact rw_new w l t cap
theorem one_at {w : World} {X : Nat} (hX : w.heap.size = X) {c : List Value} {sz : Nat} {t : TypeId} (h : c.length = sz) : (w.alloc (.cells c.toArray t)).ownsRow X t sz (.slice (some ⟨X, 0, none⟩) 1 1) 1 c := by
  subst hX
  exact one_row h
theorem own_eq {X q n c : Nat} (e : Value.ownBlock (.slice (some ⟨X, 0, none⟩) n c) = some q) : X ≤ q := by
  cases e
  exact Nat.le_refl _
theorem cells4_grow {w w' : World} {row : Option Nat} {E : Nat} (h : w.grownBy w' row) (hr : row ≠ some E) (hE : E < w.heap.size) {a b c d : Value} (hc : w.cell? ⟨E, 0, none⟩ = some a ∧ w.cell? ⟨E, 1, none⟩ = some b ∧ w.cell? ⟨E, 2, none⟩ = some c ∧ w.cell? ⟨E, 3, none⟩ = some d) :
    w'.cell? ⟨E, 0, none⟩ = some a ∧ w'.cell? ⟨E, 1, none⟩ = some b ∧ w'.cell? ⟨E, 2, none⟩ = some c ∧ w'.cell? ⟨E, 3, none⟩ = some d := by
  rw [grow_cell h hr hE, grow_cell h hr hE, grow_cell h hr hE, grow_cell h hr hE]
  exact hc
theorem arr_apart {S T : Nat} {w w' u : World} {v v2 : Value} {l : List Jv.J} {L : List (List Value)} {row : Option Nat} (hL : Flat 7 L) (hn : L.length = l.length) (hE : ∀ u, Agree S w u v.ownBlock → All Jv u l L) (hb : Below w.heap.size w w') (hc : w'.ownsRow T 82 7 v2 l.length L.flatten) (hS : S ≤ w.heap.size) (hT : w.heap.size ≤ T) (hq : ∀ b, row = some b → w.heap.size ≤ b ∧ b < T) (hu : Agree S w' u row) : Jv u (.arr l) (vCells 4 false 0 ⟨#[]⟩ v2 nilV 0) := by
  have h2 : u.ownsRow T 82 7 v2 l.length L.flatten := own_kept hc fun g hg => hu g (Nat.le_trans hS (Nat.le_trans hT (own_lt hc hg).1)) (own_lt hc hg).2 (fun e => by have := hq g e.symm; have := (own_lt hc hg).1; omega)
  have h3 := hE u (fun k a b c => (hu k a (Nat.lt_of_lt_of_le b hb.size) (fun e => by have := (hq k e.symm).1; omega)).trans (hb.block k b))
  unfold Jv
  exact ⟨0, v2, L, rfl, Rw.of_own h2 hn (fun j hj k hk => flat_at hL.1 j hj k hk) (fun j hj => hL.1 _ (List.getElem_mem hj)), h3.jl⟩
theorem array_fa {S fn : Nat} {v : Value} {l : List Mo.Fd} (W : World) (h : VRow S W v (l.map Jv.jF)) (hS : S ≤ W.heap.size) (hn : l.length = fn) (hl : fn ≤ 100000) :
    Calls Tryz.prog 43 #[v] W fun e w' => (∃ a2 n2, e = .returned (.agg #[.int .i64 4, .bool false, .int .i64 0, .string ⟨#[]⟩, .slice a2 fn n2, .slice none 0 0, .int .i64 0]) ∧ Val S w' (.arr (l.map Jv.jF)) [.int .i64 4, .bool false, .int .i64 0, .string ⟨#[]⟩, .slice a2 fn n2, .slice none 0 0, .int .i64 0]) ∧ Below W.heap.size W w' := by
  subst hn
  have := array_is S v (l.map Jv.jF) W h hS (by rw [List.length_map]; omega)
  rw [List.length_map] at this
  exact this
theorem array_fn {S fn : Nat} {v : Value} {l : List ByteArray} (W : World) (h : VRow S W v (l.map Jv.J.str)) (hS : S ≤ W.heap.size) (hn : l.length = fn) (hl : l.length ≤ 100000) :
    Calls Tryz.prog 43 #[v] W fun e w' => (∃ a2 n2, e = .returned (.agg #[.int .i64 4, .bool false, .int .i64 0, .string ⟨#[]⟩, .slice a2 fn n2, .slice none 0 0, .int .i64 0]) ∧ Val S w' (.arr (l.map Jv.J.str)) [.int .i64 4, .bool false, .int .i64 0, .string ⟨#[]⟩, .slice a2 fn n2, .slice none 0 0, .int .i64 0]) ∧ Below W.heap.size W w' := by
  subst hn
  have := array_is S v (l.map Jv.J.str) W h hS (by rw [List.length_map]; omega)
  rw [List.length_map] at this
  exact this
structure Enc (a : List Mo.Fd) : Prop where
  ok : Mo.okA a = true
  bd : ArB a
  len : a.length ≤ 100000
  ents : ∀ f ∈ a, f.ents.length ≤ 100000
  path : ∀ f ∈ a, f.path.length ≤ 100000
theorem encode_is (W : World) (v : Value) (a : List Mo.Fd) (h : ArIs W v a) (hT : Lib.Utf8Tabs 2 3 W) (htab : ∀ u, Below W.heap.size W u → Spaces u) (hE : Enc a) (txt : ByteArray)
    (cW : ∀ (u : World) (ad : Option Addr) (cap : Nat), Below W.heap.size W u → Val W.heap.size u (Jv.jA a) (vCells 4 false 0 ⟨#[]⟩ (.slice ad a.length cap) nilV 0) → Calls Tryz.prog 44 #[.agg #[.int .i64 4, .bool false, .int .i64 0, .string ⟨#[]⟩, .slice ad a.length cap, .slice none 0 0, .int .i64 0]] u fun e w' => e = .returned (.tuple #[.string txt, .int .i64 0]) ∧ Below u.heap.size u w') :
    Calls Tryz.prog 19 #[.agg #[v]] W fun e w' => e = .returned (.tuple #[.string txt, .int .i64 0]) ∧ Below W.heap.size W w' := by
  have CC := Lib.hid (fun u (hu : Below W.heap.size W u) => checkA_ok u v a (h.under hu) (Tx.u8_below hT hu) hE.bd hE.ok)
  obtain ⟨g, off, ad, cap, rfl, had, hfd⟩ := feeds_at h
  obtain ⟨m, hm⟩ : ∃ m, a.length = m := ⟨_, rfl⟩
  rw [hm] at had CC cW ⊢
  have HM := Lib.hid hm
  have HAD := Lib.hid had
  have HFD := Lib.hid hfd
  have HE := Lib.hid hE
  have HT := Lib.hid htab
  have CW := Lib.hid cW
  have hlen : m ≤ 100000 := hm ▸ hE.len
  have HB0 := Lib.hid ((Below.refl W.heap.size W).alloc (Nat.le_refl _) (.cells #[.slice ad m cap] 24))
  have x0 : (W.alloc (.cells #[.slice ad m cap] 24)).cell? ⟨W.heap.size, 0, none⟩ = some (.slice ad m cap) := by unfold World.cell?; simp only [heap_alloc_new]; rfl
  obtain ⟨ti, tz, hi, hz0, hz1, hz2, hz3⟩ := info_sz infoV
  have HI := Lib.hid (And.intro hi (And.intro hz0 (And.intro hz1 (And.intro hz2 hz3))))
  clear h had hfd hE hT htab cW hm hi hz0 hz1 hz2 hz3
  go_enter Tryz.func19, Tryz.ntmps19
  go_wp2_with fail
  refine (CC.out _ HB0.out).mono ?_
  rintro e w1 ⟨rfl, hb1⟩
  have HB1 := Lib.hid (below_seq HB0.out hb1)
  replace x0 := cell_under x0 hb1
  clear hb1 HB0 CC
  go_wp2_with fail
  go_loopw [5, 20] (fun o x wr => ∃ k : Nat, k ≤ m ∧ x = .int .i64 k ∧ Hid (VRow W.heap.size wr o ((a.take k).map Jv.jF)) ∧ Hid (Below W.heap.size W wr)) (fun o x _ => m - (intOf x).toNat)
  case atStart => exact ⟨0, Nat.zero_le _, rfl, Lib.hid Row.nil, HB1⟩
  case round =>
    obtain ⟨k, hk, rfl, hr, hb⟩ := hrel
    by_cases hlt : k < m
    · obtain rfl := HAD.out (by omega)
      have hkl : k < a.length := by rw [HM.out]; exact hlt
      obtain ⟨vp, ve, hp, he, y0, y1, y2, y3, y4, y5⟩ := HFD.out k hkl
      obtain ⟨-, -, pa, pc, rfl, -, -⟩ := path_at hp
      obtain ⟨eg, eo, ea, ec, rfl, hea, hent⟩ := ents_at he
      have HPP := Lib.hid (hp.under hb.out)
      have HEN := Lib.hid (And.intro hea hent)
      replace y0 := cell_under y0 hb.out
      replace y1 := cell_under y1 hb.out
      replace y2 := cell_under y2 hb.out
      replace y3 := cell_under y3 hb.out
      replace y4 := cell_under y4 hb.out
      replace y5 := cell_under y5 hb.out
      have i1 : (k : Int) < (m : Int) := by omega
      have i0 : (0 : Int) ≤ (k : Int) := by omega
      have HK := Lib.hid (take_map Jv.jF a hkl)
      have HLE := Lib.hid (HE.out.ents _ (List.getElem_mem hkl))
      have HLP := Lib.hid (HE.out.path _ (List.getElem_mem hkl))
      have HLk := Lib.hid (show ((a.take k).map Jv.jF).length = k by rw [List.length_map, List.length_take, HM.out]; omega)
      clear hp he hea hent
      generalize a[k] = f at y0 y1 y2 y3 y4 y5 HPP HEN HK HLE HLP
      obtain ⟨fp, fi, ft, fl, fu, fe⟩ := f
      simp only at y0 y1 y2 y3 y4 y5
      generalize hfn : fp.length = fn at y0
      generalize hfe : fe.length = fne at y5
      have HFN := Lib.hid hfn
      have HFE := Lib.hid hfe
      have hfe2 : fne ≤ 100000 := hfe ▸ HLE.out
      clear hfn hfe
      go_wp2_with fail
      have HX := cells6 (w := wr) (x0 := .slice pa fn pc) (x1 := .string fi) (x2 := .string ft) (x3 := .string fl) (x4 := .int .i64 fu) (x5 := .slice ea fne ec) (t := 49)
      have hba := (Below.refl wr.heap.size wr).alloc (Nat.le_refl _) (.cells #[.slice pa fn pc, .string fi, .string ft, .string fl, .int .i64 fu, .slice ea fne ec] 49)
      have HBQ := Lib.hid (below_seq hb.out hba)
      have HRQ := Lib.hid (hr.out.below hba)
      have HPQ := Lib.hid (HPP.out.under hba)
      have HGS := Lib.hid (show wr.heap.size < (wr.alloc (.cells #[.slice pa fn pc, .string fi, .string ft, .string fl, .int .i64 fu, .slice ea fne ec] 49)).heap.size from Rw.lt_of_heap (heap_alloc_new _ _))
      generalize hG : wr.heap.size = G at HX HGS ⊢
      generalize wr.alloc (.cells #[.slice pa fn pc, .string fi, .string ft, .string fl, .int .i64 fu, .slice ea fne ec] 49) = wT at HX HBQ HRQ HPQ HGS ⊢
      clear hba hG hr hb y0 y1 y2 y3 y4 y5 HPP
      obtain ⟨z0, z1, z2, z3, z4, z5⟩ := HX
      go_loopw [8, 27] (fun o x wq => ∃ j : Nat, j ≤ fne ∧ x = .int .i64 j ∧ Hid (VRow wT.heap.size wq o ((fe.take j).map Jv.jE)) ∧ Hid (Below wT.heap.size wT wq)) (fun o x _ => fne - (intOf x).toNat)
      case atStart => exact ⟨0, Nat.zero_le _, rfl, Lib.hid Row.nil, Lib.hid (Below.refl _ _)⟩
      case round =>
        obtain ⟨j, hj, rfl, hre, hbe⟩ := hrel
        by_cases hjt : j < fne
        · obtain rfl := HEN.out.1 (by rw [HFE.out]; omega)
          have hjl : j < fe.length := by rw [HFE.out]; exact hjt
          have hbw := below_seq HBQ.out hbe.out
          obtain ⟨c0, c1, c2, c3, c4⟩ := HEN.out.2 j hjl
          replace c0 := cell_under c0 hbw
          replace c1 := cell_under c1 hbw
          replace c2 := cell_under c2 hbw
          replace c3 := cell_under c3 hbw
          replace c4 := cell_under c4 hbw
          have j1 : (j : Int) < (fne : Int) := by omega
          have j0 : (0 : Int) ≤ (j : Int) := by omega
          have HJ := Lib.hid (take_map Jv.jE fe hjl)
          have HLj := Lib.hid (show ((fe.take j).map Jv.jE).length = j by rw [List.length_map, List.length_take, HFE.out]; omega)
          generalize fe[j] = en at c0 c1 c2 c3 c4 HJ
          obtain ⟨eid, eti, eli, eco, eup⟩ := en
          simp only at c0 c1 c2 c3 c4
          go_wp2_with fail
          have HX2 := cells5 (w := wr) (x0 := .string eid) (x1 := .string eti) (x2 := .string eli) (x3 := .string eco) (x4 := .int .i64 eup) (t := 51)
          have hba2 := (Below.refl wr.heap.size wr).alloc (Nat.le_refl _) (.cells #[.string eid, .string eti, .string eli, .string eco, .int .i64 eup] 51)
          have HB2 := Lib.hid (below_seq hbe.out hba2)
          have HRE := Lib.hid (hre.out.below hba2)
          have HLT := Lib.hid (fun q (e : Value.ownBlock u8 = some q) => by obtain ⟨L, -, h, -⟩ := hre.out; exact (own_lt h e).2)
          have HEL := Lib.hid (show wr.heap.size < (wr.alloc (.cells #[.string eid, .string eti, .string eli, .string eco, .int .i64 eup] 51)).heap.size from Rw.lt_of_heap (heap_alloc_new _ _))
          generalize hE2 : wr.heap.size = E at HX2 HLT HEL ⊢
          generalize wr.alloc (.cells #[.string eid, .string eti, .string eli, .string eco, .int .i64 eup] 51) = w2 at HX2 HB2 HRE HEL ⊢
          clear hba2 hE2 hre hbe hbw c0 c1 c2 c3 c4
          obtain ⟨d0, d1, d2, d3, d4⟩ := HX2
          have HC5 := Lib.hid (fun u (hu : Below w2.heap.size w2 u) => (show u.cell? ⟨E, 0, none⟩ = some (.string eid) ∧ u.cell? ⟨E, 1, none⟩ = some (.string eti) ∧ u.cell? ⟨E, 2, none⟩ = some (.string eli) ∧ u.cell? ⟨E, 3, none⟩ = some (.string eco) ∧ u.cell? ⟨E, 4, none⟩ = some (.int .i64 eup) from ⟨cell_under d0 hu, cell_under d1 hu, cell_under d2 hu, cell_under d3 hu, cell_under d4 hu⟩))
          have HD := Lib.hid ((Below.refl w2.heap.size w2).drew.alloc (Nat.le_refl _) (.cells #[.string eid, .string eti, .string eli, .string eco] 9))
          have CT := texts_is [eid, eti, eli, eco] (.slice (some ⟨w2.heap.size, 0, none⟩) 4 4) (w2.drew.alloc (.cells #[.string eid, .string eti, .string eli, .string eco] 9)) (rw_new w2.drew [eid, eti, eli, eco] 9 4) (by simp)
          have HTB := Lib.hid (fun u (hu : Below w2.heap.size w2 u) => HT.out u (below_seq HBQ.out (below_seq HB2.out hu)))
          obtain ⟨LR, hL, ho, hE⟩ := HRE.out
          rw [HLj.out] at ho
          have HQ := Lib.hid (And.intro hL (And.intro ho hE))
          clear hL ho hE HEN HPQ z0 z1 z2 z3 z4 z5 HFD
          go_region_held3 (fun w' => w'.cell? ⟨E, 0, none⟩ = some (.string eid) ∧ w'.cell? ⟨E, 1, none⟩ = some (.string eti) ∧ w'.cell? ⟨E, 2, none⟩ = some (.string eli) ∧ w'.cell? ⟨E, 3, none⟩ = some (.string eco) ∧ w'.cell? ⟨E, 4, none⟩ = some (.int .i64 eup)) (first | assumption | go_keep)
            (first
              | (go_at_call 41; refine CT.mono ?_; rintro e wA ⟨⟨vA, rfl, hvA⟩, hbA⟩; have HbA := Lib.hid (below_seq HD.out hbA); obtain ⟨adA, cpA, rfl⟩ : ∃ ad c, vA = .slice ad 4 c := hvA.slice; have HvA := Lib.hid (hvA.base (S := w2.heap.size) HD.out.size); have sA := HC5.out wA HbA.out; clear hvA hbA)
              | (go_at_call 42; refine (int_is eup _).mono ?_; rintro e wB ⟨rfl, hbB⟩; have HbB := Lib.hid (below_seq HbA.out hbB); have HvB := Lib.hid (HvA.out.below hbB); have sB := HC5.out wB HbB.out; have hbC := (Below.refl wB.heap.size wB).alloc (Nat.le_refl _) (.cells #[.int .i64 2, .bool false, .int .i64 eup, .string ⟨#[]⟩, .slice none 0 0, .slice none 0 0, .int .i64 0] 82); have HbC := Lib.hid (below_seq HbB.out hbC); obtain ⟨LC, hLC, hoC, hEC⟩ := HvB.out.below hbC; have HQC := Lib.hid (And.intro hLC (And.intro hoC hEC)); clear hbB hbC sA hLC hoC hEC)
              | (refine step_append_row _ rfl (.tmp 41) (.tmp 45) 79 rfl w2.heap.size wB.heap.size 82 ti tz 7 96 Tryz.underlying79 HI.out.1 HI.out.2.1 HI.out.2.2.1 HI.out.2.2.2.1 HI.out.2.2.2.2 (by decide) _ 4 LC.flatten rfl HQC.out.2.1 _ 1 [.int .i64 2, .bool false, .int .i64 eup, .string ⟨#[]⟩, .slice none 0 0, .slice none 0 0, .int .i64 0] rfl (one_row (c := [.int .i64 2, .bool false, .int .i64 eup, .string ⟨#[]⟩, .slice none 0 0, .slice none 0 0, .int .i64 0]) (sz := 7) rfl) (Val.int (S := 0) (w := wB) eup).one (by unfold maxLen; omega) (by omega) HbC.out.size ?_; intro v3 w3 hown hgrow hv1; have H3 : Hid (VRow w2.heap.size w3 v3 [.str eid, .str eti, .str eli, .str eco, .int eup]) := Lib.hid (Row.appended (M := [[.int .i64 2, .bool false, .int .i64 eup, .string ⟨#[]⟩, .slice none 0 0, .slice none 0 0, .int .i64 0]]) (l2 := [Jv.J.int eup]) HQC.out.1 HQC.out.2.2 (Flat.one rfl (Val.int (S := 0) (w := wB) eup).one) (fun u hu => All.one (by unfold Jv; exact ⟨0, rfl⟩)) hown hgrow hv1); have HB3 := Lib.hid (below_grew hgrow HbC.out (fun q e => (own_lt HQC.out.2.1 e).1) HbC.out.size); obtain ⟨ad3, cp3, e3⟩ : ∃ ad c, v3 = .slice ad 5 c := H3.out.slice; subst e3; have s3 := HC5.out w3 HB3.out; clear hown hgrow hv1 sB)
              | (go_at_call 40; refine (objE_is ⟨eid, eti, eli, eco, eup⟩ w2.heap.size (.slice ad3 5 cp3) w3 H3.out HB3.out.size (fun u hu => HTB.out u (below_seq HB3.out hu))).mono ?_; rintro e w4 ⟨⟨a4, n4, rfl, hV4⟩, hb4⟩; have HB4 := Lib.hid (below_seq HB3.out hb4); have s4 := HC5.out w4 HB4.out; have hbF := (Below.refl w4.heap.size w4).alloc (Nat.le_refl _) (.cells #[.int .i64 5, .bool false, .int .i64 0, .string ⟨#[]⟩, .slice none 0 0, .slice a4 5 n4, .int .i64 0] 82); have HbF := Lib.hid (below_seq HB4.out hbF); have HV5 := Lib.hid (hV4.below hbF); obtain ⟨LF, hLF, hoF, hEF⟩ := HRE.out.below HbF.out; rw [HLj.out] at hoF; have HQF := Lib.hid (And.intro hLF (And.intro hoF hEF)); clear hb4 hV4 hbF hLF hoF hEF s3)
              | (refine step_append_row _ rfl (.tmp 31) (.tmp 48) 79 rfl wT.heap.size w4.heap.size 82 ti tz 7 96 Tryz.underlying79 HI.out.1 HI.out.2.1 HI.out.2.2.1 HI.out.2.2.2.1 HI.out.2.2.2.2 (by decide) _ j LF.flatten rfl HQF.out.2.1 _ 1 [.int .i64 5, .bool false, .int .i64 0, .string ⟨#[]⟩, .slice none 0 0, .slice a4 5 n4, .int .i64 0] rfl (one_row (c := [.int .i64 5, .bool false, .int .i64 0, .string ⟨#[]⟩, .slice none 0 0, .slice a4 5 n4, .int .i64 0]) (sz := 7) rfl) HV5.out.one (by unfold maxLen; omega) (by omega) (Nat.le_trans HB2.out.size HbF.out.size) ?_; intro v5 w5 hown hgrow hv1; have H5 : Hid (VRow wT.heap.size w5 v5 ((fe.take (j + 1)).map Jv.jE)) := Lib.hid (by rw [HJ.out]; exact Row.appended (M := [[.int .i64 5, .bool false, .int .i64 0, .string ⟨#[]⟩, .slice none 0 0, .slice a4 5 n4, .int .i64 0]]) (l2 := [Jv.jE ⟨eid, eti, eli, eco, eup⟩]) HQF.out.1 HQF.out.2.2 (Flat.one rfl HV5.out.one) (fun u hu => All.one (HV5.out.apart HB2.out.size (fun q e => (own_lt HQ.out.2.1 e).2) hu)) (by rw [HLj.out]; exact hown) hgrow hv1); have HB5 := Lib.hid (below_grew hgrow (below_seq HB2.out HbF.out) (fun q e => (own_lt HQF.out.2.1 e).1) (Nat.le_trans HB2.out.size HbF.out.size)); have s5 := HC5.out _ HbF.out; rw [← grow_cell hgrow (fun e => by have := HLT.out _ e; omega) (Nat.lt_of_lt_of_le HEL.out HbF.out.size) 0, ← grow_cell hgrow (fun e => by have := HLT.out _ e; omega) (Nat.lt_of_lt_of_le HEL.out HbF.out.size) 1, ← grow_cell hgrow (fun e => by have := HLT.out _ e; omega) (Nat.lt_of_lt_of_le HEL.out HbF.out.size) 2, ← grow_cell hgrow (fun e => by have := HLT.out _ e; omega) (Nat.lt_of_lt_of_le HEL.out HbF.out.size) 3, ← grow_cell hgrow (fun e => by have := HLT.out _ e; omega) (Nat.lt_of_lt_of_le HEL.out HbF.out.size) 4] at s5; clear hown hgrow hv1 s4))
          all_goals
            clear s5 HQF HV5 HbF HB4 H3 HB3 HQC HvB HbB HvA HbA HTB CT HD HC5 d0 d1 d2 d3 d4
            go_wp2_with fail
            go_roundw
            case rel => exact ⟨j + 1, by omega, by go_num, H5, HB5⟩
            case measure => simp [intOf]; omega
        · have gj : decide ((j : Int) < (fne : Int)) = false := decide_eq_false (by omega)
          have HRE : Hid (VRow wT.heap.size wr u8 (fe.map Jv.jE)) := Lib.hid (by
            have := hre.out
            rw [List.take_of_length_le (by rw [HFE.out]; omega)] at this
            exact this)
          have HBE := Lib.hid hbe.out
          have HC4 := Lib.hid (fun u (hu : Below wr.heap.size wr u) => (show u.cell? ⟨G, 0, none⟩ = some (.slice pa fn pc) ∧ u.cell? ⟨G, 1, none⟩ = some (.string fi) ∧ u.cell? ⟨G, 2, none⟩ = some (.string ft) ∧ u.cell? ⟨G, 3, none⟩ = some (.string fl) from ⟨cell_under (cell_under z0 HBE.out) hu, cell_under (cell_under z1 HBE.out) hu, cell_under (cell_under z2 HBE.out) hu, cell_under (cell_under z3 HBE.out) hu⟩))
          have HZ4 := Lib.hid (fun u (hu : Below wr.heap.size wr u) => (show u.cell? ⟨G, 4, none⟩ = some (.int .i64 fu) from cell_under (cell_under z4 HBE.out) hu))
          obtain ⟨d0, d1, d2, d3⟩ := HC4.out wr (Below.refl _ _)
          have HNM := Lib.hid (show 1 + 3 ≤ maxLen ∧ (1 + 3) * 96 ≤ 140737488355328 from ⟨by unfold maxLen; omega, by omega⟩)
          have HDD := Lib.hid (Below.refl wr.heap.size wr).drew
          have HDS := Lib.hid ((Below.refl wr.heap.size wr).alloc (Nat.le_refl _) (.cells #[.string fi, .string ft, .string fl] 9)).drew
          have HGE := Lib.hid (Nat.lt_of_lt_of_le HGS.out HBE.out.size)
          have CP := Lib.hid (fun u (hu : Below wr.heap.size wr u) => texts_is fp (.slice pa fn pc) u (by have := (HPQ.out.under HBE.out).under hu; rw [HFN.out] at this; exact this) HLP.out)
          clear hre hbe z0 z1 z2 z3 z4 z5 HPQ HEN
          go_upto_region 14 with fail
          go_cut [11, 20] from 20 to 78 (fun r x wx => x = .int .i64 k ∧ Hid (VRow wT.heap.size wx r [.arr (fp.map Jv.J.str), .str fi, .str ft, .str fl]) ∧ Hid (Below wr.heap.size wr wx) ∧ Hid (∀ q, r.ownBlock = some q → wr.heap.size ≤ q))
          case first =>
            go_region_held3 (fun w' => w'.cell? ⟨G, 0, none⟩ = some (.slice pa fn pc) ∧ w'.cell? ⟨G, 1, none⟩ = some (.string fi) ∧ w'.cell? ⟨G, 2, none⟩ = some (.string ft) ∧ w'.cell? ⟨G, 3, none⟩ = some (.string fl)) (first | assumption | go_keep)
              (first
                | (go_at_call 41; have C5 := CP.out (wr.alloc (.cells #[.string fi, .string ft, .string fl] 9)).drew (HDS.out); (with_reducible refine C5.mono ?_); clear C5; rintro e wA ⟨⟨vA, rfl, hvA⟩, hbA⟩; have HbA := Lib.hid (below_seq (HDS.out) hbA); have HRS := Lib.hid (Rw.under (w := (wr.alloc (.cells #[.string fi, .string ft, .string fl] 9)).drew) (show Rw _ (.slice (some ⟨wr.heap.size, 0, none⟩) 3 3) 1 ([fi, ft, fl].map sCell) from rw_new wr.drew [fi, ft, fl] 9 3) hbA); obtain ⟨adA, cpA, rfl⟩ : ∃ ad c, vA = .slice ad fn c := (by obtain ⟨ad, c, e⟩ := hvA.slice; exact ⟨ad, c, by rw [e, List.length_map, HFN.out]⟩); have HvA := Lib.hid (hvA.base (S := wT.heap.size) (Nat.le_trans HBE.out.size (Below.size (HDS.out)))); have sA := HC4.out wA HbA.out; clear hvA hbA)
                | (go_at_call 41; have C5 := CP.out wr.drew (HDD.out); (with_reducible refine C5.mono ?_); clear C5; rintro e wA ⟨⟨vA, rfl, hvA⟩, hbA⟩; have HbA := Lib.hid (below_seq (HDD.out) hbA); skip; obtain ⟨adA, cpA, rfl⟩ : ∃ ad c, vA = .slice ad fn c := (by obtain ⟨ad, c, e⟩ := hvA.slice; exact ⟨ad, c, by rw [e, List.length_map, HFN.out]⟩); have HvA := Lib.hid (hvA.base (S := wT.heap.size) (Nat.le_trans HBE.out.size (Below.size (HDD.out)))); have sA := HC4.out wA HbA.out; clear hvA hbA)
                | (go_at_call 43; have C5 := array_fn (wA.alloc (.cells #[.string fi, .string ft, .string fl] 9)) (HvA.out.below ((Below.refl (World.heap wA).size wA).alloc (Nat.le_refl _) (.cells #[.string fi, .string ft, .string fl] 9))) (by exact Nat.le_trans HBE.out.size (Below.size (below_seq HbA.out ((Below.refl (World.heap wA).size wA).alloc (Nat.le_refl _) (.cells #[.string fi, .string ft, .string fl] 9))))) HFN.out HLP.out; (with_reducible refine C5.mono ?_); clear C5; rintro e wB ⟨⟨aB, nB, rfl, hV⟩, hbB⟩; have HbB := Lib.hid (below_seq (below_seq HbA.out ((Below.refl (World.heap wA).size wA).alloc (Nat.le_refl _) (.cells #[.string fi, .string ft, .string fl] 9))) hbB); have HRS := Lib.hid ((rw_new wA [fi, ft, fl] 9 3).under hbB); have HVB := Lib.hid hV; have sB := HC4.out wB HbB.out; clear hV hbB sA)
                | (go_at_call 43; have C5 := array_fn wA (HvA.out) (by exact Nat.le_trans HBE.out.size (Below.size (HbA.out))) HFN.out HLP.out; (with_reducible refine C5.mono ?_); clear C5; rintro e wB ⟨⟨aB, nB, rfl, hV⟩, hbB⟩; have HbB := Lib.hid (below_seq (HbA.out) hbB); (try have HRS := Lib.hid (HRS.out.under hbB)); have HVB := Lib.hid hV; have sB := HC4.out wB HbB.out; clear hV hbB sA)
                | (go_at_call 41; have C5 := texts_is [fi, ft, fl] _ wB (HRS.out) (by simp); change Calls _ _ #[.slice (some ⟨_, 0, none⟩) 3 3] wB _ at C5; (with_reducible refine C5.mono ?_); clear C5; rintro e wC ⟨⟨vC, rfl, hvC⟩, hbC⟩; have HBBC := Lib.hid (below_seq (Below.refl wB.heap.size wB) hbC); have HbC := Lib.hid (below_seq HbB.out HBBC.out); obtain ⟨adC, cpC, rfl⟩ : ∃ ad c, vC = .slice ad 3 c := (by obtain ⟨ad, c, e⟩ := hvC.slice; exact ⟨ad, c, e⟩); obtain ⟨LC, hLC, hoC, hEC⟩ := hvC.base (S := wT.heap.size) (Nat.le_trans HBE.out.size (Nat.le_trans HbB.out.size (Below.size (Below.refl wB.heap.size wB)))); have HQC := Lib.hid (And.intro hLC (And.intro hoC (strs_all (hEC wC (fun _ _ _ _ => rfl))))); skip; have sC := HC4.out wC HbC.out; clear hLC hoC hEC hbC hvC)
                | (go_at_call 41; have C5 := texts_is [fi, ft, fl] _ (wB.alloc (.cells #[.string fi, .string ft, .string fl] 9)) (rw_new wB [fi, ft, fl] 9 3) (by simp); change Calls _ _ #[.slice (some ⟨wB.heap.size, 0, none⟩) 3 3] (wB.alloc (.cells #[.string fi, .string ft, .string fl] 9)) _ at C5; (with_reducible refine C5.mono ?_); clear C5; rintro e wC ⟨⟨vC, rfl, hvC⟩, hbC⟩; have HBBC := Lib.hid (below_seq (((Below.refl (World.heap wB).size wB).alloc (Nat.le_refl _) (.cells #[.string fi, .string ft, .string fl] 9))) hbC); have HbC := Lib.hid (below_seq HbB.out HBBC.out); obtain ⟨adC, cpC, rfl⟩ : ∃ ad c, vC = .slice ad 3 c := (by obtain ⟨ad, c, e⟩ := hvC.slice; exact ⟨ad, c, e⟩); obtain ⟨LC, hLC, hoC, hEC⟩ := hvC.base (S := wT.heap.size) (Nat.le_trans HBE.out.size (Nat.le_trans HbB.out.size (Below.size (((Below.refl (World.heap wB).size wB).alloc (Nat.le_refl _) (.cells #[.string fi, .string ft, .string fl] 9)))))); have HQC := Lib.hid (And.intro hLC (And.intro hoC (strs_all (hEC wC (fun _ _ _ _ => rfl))))); skip; have sC := HC4.out wC HbC.out; clear hLC hoC hEC hbC hvC)
                | (go_at_call 41; have C5 := texts_is [fi, ft, fl] _ (wB.alloc (.cells #[.int .i64 4, .bool false, .int .i64 0, .string ⟨#[]⟩, .slice aB fn nB, .slice none 0 0, .int .i64 0] 82)) (HRS.out.under ((Below.refl (World.heap wB).size wB).alloc (Nat.le_refl _) (.cells #[.int .i64 4, .bool false, .int .i64 0, .string ⟨#[]⟩, .slice aB fn nB, .slice none 0 0, .int .i64 0] 82))) (by simp); change Calls _ _ #[.slice (some ⟨_, 0, none⟩) 3 3] (wB.alloc (.cells #[.int .i64 4, .bool false, .int .i64 0, .string ⟨#[]⟩, .slice aB fn nB, .slice none 0 0, .int .i64 0] 82)) _ at C5; (with_reducible refine C5.mono ?_); clear C5; rintro e wC ⟨⟨vC, rfl, hvC⟩, hbC⟩; have HBBC := Lib.hid (below_seq (((Below.refl (World.heap wB).size wB).alloc (Nat.le_refl _) (.cells #[.int .i64 4, .bool false, .int .i64 0, .string ⟨#[]⟩, .slice aB fn nB, .slice none 0 0, .int .i64 0] 82))) hbC); have HbC := Lib.hid (below_seq HbB.out HBBC.out); obtain ⟨adC, cpC, rfl⟩ : ∃ ad c, vC = .slice ad 3 c := (by obtain ⟨ad, c, e⟩ := hvC.slice; exact ⟨ad, c, e⟩); obtain ⟨LC, hLC, hoC, hEC⟩ := hvC.base (S := wT.heap.size) (Nat.le_trans HBE.out.size (Nat.le_trans HbB.out.size (Below.size (((Below.refl (World.heap wB).size wB).alloc (Nat.le_refl _) (.cells #[.int .i64 4, .bool false, .int .i64 0, .string ⟨#[]⟩, .slice aB fn nB, .slice none 0 0, .int .i64 0] 82)))))); have HQC := Lib.hid (And.intro hLC (And.intro hoC (strs_all (hEC wC (fun _ _ _ _ => rfl))))); have HOC := Lib.hid (own_base (own_kept (one_row (c := [.int .i64 4, .bool false, .int .i64 0, .string ⟨#[]⟩, .slice aB fn nB, .slice none 0 0, .int .i64 0]) (sz := 7) rfl) (fun q e => hbC.block q (own_lt (one_row (c := [.int .i64 4, .bool false, .int .i64 0, .string ⟨#[]⟩, .slice aB fn nB, .slice none 0 0, .int .i64 0]) (sz := 7) rfl) e).2)) (Nat.le_trans HBE.out.size HbB.out.size)); have HXC := Lib.hid (Nat.le_refl wB.heap.size); have sC := HC4.out wC HbC.out; clear hLC hoC hEC hbC hvC)
                | (go_at_call 41; have C5 := texts_is [fi, ft, fl] _ ((wB.alloc (.cells #[.int .i64 4, .bool false, .int .i64 0, .string ⟨#[]⟩, .slice aB fn nB, .slice none 0 0, .int .i64 0] 82)).alloc (.cells #[.string fi, .string ft, .string fl] 9)) (rw_at (w := wB.alloc (.cells #[.int .i64 4, .bool false, .int .i64 0, .string ⟨#[]⟩, .slice aB fn nB, .slice none 0 0, .int .i64 0] 82)) (X := wB.heap.size + 1) (Array.size_push _) [fi, ft, fl] 9 3) (by simp); change Calls _ _ #[.slice (some ⟨wB.heap.size + 1, 0, none⟩) 3 3] ((wB.alloc (.cells #[.int .i64 4, .bool false, .int .i64 0, .string ⟨#[]⟩, .slice aB fn nB, .slice none 0 0, .int .i64 0] 82)).alloc (.cells #[.string fi, .string ft, .string fl] 9)) _ at C5; (with_reducible refine C5.mono ?_); clear C5; rintro e wC ⟨⟨vC, rfl, hvC⟩, hbC⟩; have HBBC := Lib.hid (below_seq (below_seq ((Below.refl (World.heap wB).size wB).alloc (Nat.le_refl _) (.cells #[.int .i64 4, .bool false, .int .i64 0, .string ⟨#[]⟩, .slice aB fn nB, .slice none 0 0, .int .i64 0] 82)) ((Below.refl (World.heap (wB.alloc (.cells #[.int .i64 4, .bool false, .int .i64 0, .string ⟨#[]⟩, .slice aB fn nB, .slice none 0 0, .int .i64 0] 82))).size (wB.alloc (.cells #[.int .i64 4, .bool false, .int .i64 0, .string ⟨#[]⟩, .slice aB fn nB, .slice none 0 0, .int .i64 0] 82))).alloc (Nat.le_refl _) (.cells #[.string fi, .string ft, .string fl] 9))) hbC); have HbC := Lib.hid (below_seq HbB.out HBBC.out); obtain ⟨adC, cpC, rfl⟩ : ∃ ad c, vC = .slice ad 3 c := (by obtain ⟨ad, c, e⟩ := hvC.slice; exact ⟨ad, c, e⟩); obtain ⟨LC, hLC, hoC, hEC⟩ := hvC.base (S := wT.heap.size) (Nat.le_trans HBE.out.size (Nat.le_trans HbB.out.size (Below.size (below_seq ((Below.refl (World.heap wB).size wB).alloc (Nat.le_refl _) (.cells #[.int .i64 4, .bool false, .int .i64 0, .string ⟨#[]⟩, .slice aB fn nB, .slice none 0 0, .int .i64 0] 82)) ((Below.refl (World.heap (wB.alloc (.cells #[.int .i64 4, .bool false, .int .i64 0, .string ⟨#[]⟩, .slice aB fn nB, .slice none 0 0, .int .i64 0] 82))).size (wB.alloc (.cells #[.int .i64 4, .bool false, .int .i64 0, .string ⟨#[]⟩, .slice aB fn nB, .slice none 0 0, .int .i64 0] 82))).alloc (Nat.le_refl _) (.cells #[.string fi, .string ft, .string fl] 9)))))); have HQC := Lib.hid (And.intro hLC (And.intro hoC (strs_all (hEC wC (fun _ _ _ _ => rfl))))); have HOC := Lib.hid (own_base (own_kept (one_row (c := [.int .i64 4, .bool false, .int .i64 0, .string ⟨#[]⟩, .slice aB fn nB, .slice none 0 0, .int .i64 0]) (sz := 7) rfl) (fun q e => ((below_seq ((Below.refl (World.heap (wB.alloc (.cells #[.int .i64 4, .bool false, .int .i64 0, .string ⟨#[]⟩, .slice aB fn nB, .slice none 0 0, .int .i64 0] 82))).size (wB.alloc (.cells #[.int .i64 4, .bool false, .int .i64 0, .string ⟨#[]⟩, .slice aB fn nB, .slice none 0 0, .int .i64 0] 82))).alloc (Nat.le_refl _) (.cells #[.string fi, .string ft, .string fl] 9)) hbC)).block q (own_lt (one_row (c := [.int .i64 4, .bool false, .int .i64 0, .string ⟨#[]⟩, .slice aB fn nB, .slice none 0 0, .int .i64 0]) (sz := 7) rfl) e).2)) (Nat.le_trans HBE.out.size HbB.out.size)); have HXC := Lib.hid (Nat.le_refl wB.heap.size); have sC := HC4.out wC HbC.out; clear hLC hoC hEC hbC hvC)
                | (go_at_call 41; have C5 := texts_is [fi, ft, fl] _ ((wB.alloc (.cells #[.string fi, .string ft, .string fl] 9)).alloc (.cells #[.int .i64 4, .bool false, .int .i64 0, .string ⟨#[]⟩, .slice aB fn nB, .slice none 0 0, .int .i64 0] 82)) ((rw_new wB [fi, ft, fl] 9 3).under ((Below.refl (World.heap (wB.alloc (.cells #[.string fi, .string ft, .string fl] 9))).size (wB.alloc (.cells #[.string fi, .string ft, .string fl] 9))).alloc (Nat.le_refl _) (.cells #[.int .i64 4, .bool false, .int .i64 0, .string ⟨#[]⟩, .slice aB fn nB, .slice none 0 0, .int .i64 0] 82))) (by simp); change Calls _ _ #[.slice (some ⟨wB.heap.size, 0, none⟩) 3 3] ((wB.alloc (.cells #[.string fi, .string ft, .string fl] 9)).alloc (.cells #[.int .i64 4, .bool false, .int .i64 0, .string ⟨#[]⟩, .slice aB fn nB, .slice none 0 0, .int .i64 0] 82)) _ at C5; (with_reducible refine C5.mono ?_); clear C5; rintro e wC ⟨⟨vC, rfl, hvC⟩, hbC⟩; have HBBC := Lib.hid (below_seq (below_seq ((Below.refl (World.heap wB).size wB).alloc (Nat.le_refl _) (.cells #[.string fi, .string ft, .string fl] 9)) ((Below.refl (World.heap (wB.alloc (.cells #[.string fi, .string ft, .string fl] 9))).size (wB.alloc (.cells #[.string fi, .string ft, .string fl] 9))).alloc (Nat.le_refl _) (.cells #[.int .i64 4, .bool false, .int .i64 0, .string ⟨#[]⟩, .slice aB fn nB, .slice none 0 0, .int .i64 0] 82))) hbC); have HbC := Lib.hid (below_seq HbB.out HBBC.out); obtain ⟨adC, cpC, rfl⟩ : ∃ ad c, vC = .slice ad 3 c := (by obtain ⟨ad, c, e⟩ := hvC.slice; exact ⟨ad, c, e⟩); obtain ⟨LC, hLC, hoC, hEC⟩ := hvC.base (S := wT.heap.size) (Nat.le_trans HBE.out.size (Nat.le_trans HbB.out.size (Below.size (below_seq ((Below.refl (World.heap wB).size wB).alloc (Nat.le_refl _) (.cells #[.string fi, .string ft, .string fl] 9)) ((Below.refl (World.heap (wB.alloc (.cells #[.string fi, .string ft, .string fl] 9))).size (wB.alloc (.cells #[.string fi, .string ft, .string fl] 9))).alloc (Nat.le_refl _) (.cells #[.int .i64 4, .bool false, .int .i64 0, .string ⟨#[]⟩, .slice aB fn nB, .slice none 0 0, .int .i64 0] 82)))))); have HQC := Lib.hid (And.intro hLC (And.intro hoC (strs_all (hEC wC (fun _ _ _ _ => rfl))))); have HOC := Lib.hid (own_base (own_kept (one_at (w := wB.alloc (.cells #[.string fi, .string ft, .string fl] 9)) (X := wB.heap.size + 1) (Array.size_push _) (c := [.int .i64 4, .bool false, .int .i64 0, .string ⟨#[]⟩, .slice aB fn nB, .slice none 0 0, .int .i64 0]) (sz := 7) (t := 82) rfl) (fun q e => hbC.block q (own_lt (one_at (w := wB.alloc (.cells #[.string fi, .string ft, .string fl] 9)) (X := wB.heap.size + 1) (Array.size_push _) (c := [.int .i64 4, .bool false, .int .i64 0, .string ⟨#[]⟩, .slice aB fn nB, .slice none 0 0, .int .i64 0]) (sz := 7) (t := 82) rfl) e).2)) (Nat.le_trans HBE.out.size (Nat.le_succ_of_le HbB.out.size))); have HXC := Lib.hid (Nat.le_succ wB.heap.size); have sC := HC4.out wC HbC.out; clear hLC hoC hEC hbC hvC)
                | (have OWN1 := HOC.out; have OWN2 := own_kept (w' := wC) HQC.out.2.1 (fun q e => Below.block (Below.refl wC.heap.size wC) q (own_lt HQC.out.2.1 e).2); change World.ownsRow _ _ _ _ _ 3 _ at OWN2; refine step_append_row _ rfl (.tmp 55) (.tmp 63) 79 rfl wT.heap.size wT.heap.size 82 ti tz 7 96 Tryz.underlying79 HI.out.1 HI.out.2.1 HI.out.2.2.1 HI.out.2.2.2.1 HI.out.2.2.2.2 (by decide) _ 1 [.int .i64 4, .bool false, .int .i64 0, .string ⟨#[]⟩, .slice aB fn nB, .slice none 0 0, .int .i64 0] rfl OWN1 _ 3 LC.flatten rfl OWN2 HQC.out.1.2 HNM.out.1 HNM.out.2 (Nat.le_trans HBE.out.size (Nat.le_trans HbC.out.size (Below.size (Below.refl wC.heap.size wC)))) ?_; clear OWN1 OWN2; intro v6 w6 hown hgrow hv1; have HGR := Lib.hid (And.intro hown (And.intro hgrow hv1)); have HB6 := Lib.hid (below_grew hgrow (below_seq HbB.out (HBBC.out)) (fun q e => Nat.le_trans (Nat.le_trans HbB.out.size (HXC.out)) (own_eq e)) (Nat.le_trans HbB.out.size (Below.size (HBBC.out)))); have s6 := cells4_grow hgrow (fun e => Nat.not_le.2 HGE.out (Nat.le_trans (Nat.le_trans HbB.out.size (HXC.out)) (own_eq e))) (Nat.lt_of_lt_of_le HGE.out (Nat.le_trans HbB.out.size (Below.size (HBBC.out)))) (HC4.out _ (below_seq HbB.out (HBBC.out))); have HBW := Lib.hid (And.intro (HBBC.out) (HXC.out)); clear hown hgrow hv1)
                | (have OWN1 := own_base (w := wC.alloc (.cells #[.int .i64 4, .bool false, .int .i64 0, .string ⟨#[]⟩, .slice aB fn nB, .slice none 0 0, .int .i64 0] 82)) (one_row (c := [.int .i64 4, .bool false, .int .i64 0, .string ⟨#[]⟩, .slice aB fn nB, .slice none 0 0, .int .i64 0]) (sz := 7) rfl) (Nat.le_trans HBE.out.size HbC.out.size); have OWN2 := own_kept (w' := (wC.alloc (.cells #[.int .i64 4, .bool false, .int .i64 0, .string ⟨#[]⟩, .slice aB fn nB, .slice none 0 0, .int .i64 0] 82))) HQC.out.2.1 (fun q e => Below.block (((Below.refl (World.heap wC).size wC).alloc (Nat.le_refl _) (.cells #[.int .i64 4, .bool false, .int .i64 0, .string ⟨#[]⟩, .slice aB fn nB, .slice none 0 0, .int .i64 0] 82))) q (own_lt HQC.out.2.1 e).2); change World.ownsRow _ _ _ _ _ 3 _ at OWN2; refine step_append_row _ rfl (.tmp 55) (.tmp 63) 79 rfl wT.heap.size wT.heap.size 82 ti tz 7 96 Tryz.underlying79 HI.out.1 HI.out.2.1 HI.out.2.2.1 HI.out.2.2.2.1 HI.out.2.2.2.2 (by decide) _ 1 [.int .i64 4, .bool false, .int .i64 0, .string ⟨#[]⟩, .slice aB fn nB, .slice none 0 0, .int .i64 0] rfl OWN1 _ 3 LC.flatten rfl OWN2 HQC.out.1.2 HNM.out.1 HNM.out.2 (Nat.le_trans HBE.out.size (Nat.le_trans HbC.out.size (Below.size (((Below.refl (World.heap wC).size wC).alloc (Nat.le_refl _) (.cells #[.int .i64 4, .bool false, .int .i64 0, .string ⟨#[]⟩, .slice aB fn nB, .slice none 0 0, .int .i64 0] 82)))))) ?_; clear OWN1 OWN2; intro v6 w6 hown hgrow hv1; have HGR := Lib.hid (And.intro hown (And.intro hgrow hv1)); have HB6 := Lib.hid (below_grew hgrow (below_seq HbB.out (below_seq HBBC.out ((Below.refl (World.heap wC).size wC).alloc (Nat.le_refl _) (.cells #[.int .i64 4, .bool false, .int .i64 0, .string ⟨#[]⟩, .slice aB fn nB, .slice none 0 0, .int .i64 0] 82)))) (fun q e => Nat.le_trans (Nat.le_trans HbB.out.size (HBBC.out.size)) (own_eq e)) (Nat.le_trans HbB.out.size (Below.size (below_seq HBBC.out ((Below.refl (World.heap wC).size wC).alloc (Nat.le_refl _) (.cells #[.int .i64 4, .bool false, .int .i64 0, .string ⟨#[]⟩, .slice aB fn nB, .slice none 0 0, .int .i64 0] 82)))))); have s6 := cells4_grow hgrow (fun e => Nat.not_le.2 HGE.out (Nat.le_trans (Nat.le_trans HbB.out.size (HBBC.out.size)) (own_eq e))) (Nat.lt_of_lt_of_le HGE.out (Nat.le_trans HbB.out.size (Below.size (below_seq HBBC.out ((Below.refl (World.heap wC).size wC).alloc (Nat.le_refl _) (.cells #[.int .i64 4, .bool false, .int .i64 0, .string ⟨#[]⟩, .slice aB fn nB, .slice none 0 0, .int .i64 0] 82)))))) (HC4.out _ (below_seq HbB.out (below_seq HBBC.out ((Below.refl (World.heap wC).size wC).alloc (Nat.le_refl _) (.cells #[.int .i64 4, .bool false, .int .i64 0, .string ⟨#[]⟩, .slice aB fn nB, .slice none 0 0, .int .i64 0] 82))))); have HBW := Lib.hid (And.intro (below_seq HBBC.out ((Below.refl (World.heap wC).size wC).alloc (Nat.le_refl _) (.cells #[.int .i64 4, .bool false, .int .i64 0, .string ⟨#[]⟩, .slice aB fn nB, .slice none 0 0, .int .i64 0] 82))) (HBBC.out.size)); clear hown hgrow hv1))
            all_goals
              have H6 : Hid (VRow wT.heap.size w6 v6 [.arr (fp.map Jv.J.str), .str fi, .str ft, .str fl]) := Lib.hid (Row.appended (L := [[.int .i64 4, .bool false, .int .i64 0, .string ⟨#[]⟩, .slice aB fn nB, .slice none 0 0, .int .i64 0]]) (l := [Jv.J.arr (fp.map Jv.J.str)]) (l2 := [fi, ft, fl].map Jv.J.str) (Flat.one rfl HVB.out.one) (fun u hu => All.one (head_all HVB.out HBW.out.1 HBW.out.2 hu)) HQC.out.1 (fun u hu => HQC.out.2.2 u) HGR.out.1 HGR.out.2.1 HGR.out.2.2)
              have HO6 : Hid (∀ q, v6.ownBlock = some q → wr.heap.size ≤ q) := Lib.hid (fun q e => (HGR.out.2.2).elim (fun h => Nat.le_trans (Nat.le_trans HbB.out.size HBW.out.2) (own_eq (h.symm.trans e))) (fun h => by rw [h] at e; cases e; exact Nat.le_trans HbB.out.size (Below.size HBW.out.1)))
              clear HGR HBW HQC HVB HBBC HbC HbB HvA HbA s6 CP HDS HC4
              go_wp2_with fail
              go_meet
              exact ⟨rfl, H6, HB6, HO6⟩
          case rest =>
            clear d0 d1 d2 d3 HDS HDD CP HC4
            obtain ⟨rfl, hr6, hb6, ho6⟩ := hcut
            have y4 := HZ4.out _ hb6.out
            have HR6 := Lib.hid hr6.out
            have HO6 := Lib.hid ho6.out
            have HB6 := Lib.hid hb6.out
            obtain ⟨ad6, cp6, e6⟩ : ∃ ad c, u11 = .slice ad 4 c := (by obtain ⟨ad, c, e⟩ := hr6.out.slice; exact ⟨ad, c, e⟩)
            subst e6
            have HW6 := Lib.hid (fun u (hu : Below wr.heap.size wr u) => below_seq HBQ.out (below_seq HBE.out hu))
            clear hr6 hb6 ho6 HZ4
            go_wp2_with fail
            refine (int_is fu _).mono ?_
            rintro e w7 ⟨rfl, hb7⟩
            have HB7 := Lib.hid (below_seq HB6.out hb7)
            have HR7 := Lib.hid (HR6.out.below hb7)
            have HE7 := Lib.hid (HRE.out.below HB7.out)
            clear hb7 HR6 HB6 y4
            go_wp2_with fail
            obtain ⟨LE, hLE, hoE, hEE⟩ := HRE.out
            have HLE2 := Lib.hid hLE
            have HLN := Lib.hid (hEE wr (fun _ _ _ _ => rfl)).1
            have HEE := Lib.hid hEE
            have HOE := Lib.hid hoE
            have CA := Lib.hid (array_raw u8 (fe.map Jv.jE).length wT.heap.size LE.flatten w7 (own_kept hoE (fun q e => HB7.out.block q (own_lt hoE e).2)) hLE.2 (by rw [List.length_map, HFE.out]; omega))
            rw [List.length_map, HFE.out] at CA
            obtain ⟨ade, cpe, ee⟩ : ∃ ad c, u8 = .slice ad fne c := (by obtain ⟨ad, c, e⟩ := own_slice hoE; rw [List.length_map, HFE.out] at e; exact ⟨ad, c, e⟩)
            clear hLE hoE hEE HE7
            refine CA.out.mono ?_
            rintro e w8 ⟨⟨aD, nD, rfl, ho8⟩, hb8⟩
            have HB8 := Lib.hid (below_seq HB7.out hb8)
            have hba := (Below.refl w8.heap.size w8).alloc (Nat.le_refl _) (.cells #[.int .i64 2, .bool false, .int .i64 fu, .string ⟨#[]⟩, .slice none 0 0, .slice none 0 0, .int .i64 0, .int .i64 4, .bool false, .int .i64 0, .string ⟨#[]⟩, .slice aD fne nD, .slice none 0 0, .int .i64 0] 82)
            have HB9 := Lib.hid (below_seq HB8.out hba)
            have HO8 := Lib.hid (own_kept (w' := w8.alloc (.cells #[.int .i64 2, .bool false, .int .i64 fu, .string ⟨#[]⟩, .slice none 0 0, .slice none 0 0, .int .i64 0, .int .i64 4, .bool false, .int .i64 0, .string ⟨#[]⟩, .slice aD fne nD, .slice none 0 0, .int .i64 0] 82)) ho8 (fun q e => hba.block q (own_lt ho8 e).2))
            obtain ⟨L9, hL9, ho9, hE9⟩ := (HR7.out.below hb8).below hba
            have HQ9 := Lib.hid (And.intro hL9 (And.intro ho9 hE9))
            have HLT9 := Lib.hid (fun q (e : Value.ownBlock (.slice ad6 4 cp6) = some q) => by obtain ⟨L, -, h, -⟩ := HR7.out; exact (own_lt h e).2)
            have HO9 := Lib.hid (own_new (base := w8.heap.size) (size := 7) (n := 2) (cs := [.int .i64 2, .bool false, .int .i64 fu, .string ⟨#[]⟩, .slice none 0 0, .slice none 0 0, .int .i64 0, .int .i64 4, .bool false, .int .i64 0, .string ⟨#[]⟩, .slice aD fne nD, .slice none 0 0, .int .i64 0]) (heap_alloc_new w8 (.cells #[.int .i64 2, .bool false, .int .i64 fu, .string ⟨#[]⟩, .slice none 0 0, .slice none 0 0, .int .i64 0, .int .i64 4, .bool false, .int .i64 0, .string ⟨#[]⟩, .slice aD fne nD, .slice none 0 0, .int .i64 0] 82)) (Nat.le_refl _) rfl (by unfold maxLen; omega))
            have HF9 := Lib.hid (show Flat 7 [[.int .i64 2, .bool false, .int .i64 fu, .string ⟨#[]⟩, .slice none 0 0, .slice none 0 0, .int .i64 0], [.int .i64 4, .bool false, .int .i64 0, .string ⟨#[]⟩, .slice aD fne nD, .slice none 0 0, .int .i64 0]] from (Flat.one rfl (Val.int (S := 0) (w := w8) fu).one).append (Flat.one rfl (by intro u hu; simp only [List.mem_cons, List.not_mem_nil, or_false] at hu; rcases hu with rfl | rfl | rfl | rfl | rfl | rfl | rfl <;> rfl)))
            have HB79 := Lib.hid (HB7.out.size)
            clear hb8 hba hL9 ho9 hE9 ho8 CA
            go_wp2_with (at_builtin; (refine wpList_append_row _ rfl _ _ 79 rfl wT.heap.size w8.heap.size 82 ti tz 7 96 Tryz.underlying79 HI.out.1 HI.out.2.1 HI.out.2.2.1 HI.out.2.2.2.1 HI.out.2.2.2.2 (by decide) _ 4 L9.flatten rfl HQ9.out.2.1 _ 2 [.int .i64 2, .bool false, .int .i64 fu, .string ⟨#[]⟩, .slice none 0 0, .slice none 0 0, .int .i64 0, .int .i64 4, .bool false, .int .i64 0, .string ⟨#[]⟩, .slice aD fne nD, .slice none 0 0, .int .i64 0] rfl HO9.out HF9.out.2 ?a3 ?a4 ?a5 ?_))
            case a3 => unfold maxLen; omega
            case a4 => omega
            case a5 => exact Nat.le_trans HBE.out.size HB9.out.size
            intro v10 w10 hown hgrow hv1
            have HB10 := Lib.hid (below_grew hgrow (below_seq HBE.out HB9.out) (fun q e => (own_lt HQ9.out.2.1 e).1) (Nat.le_trans HBE.out.size HB9.out.size))
            have HR10 : Hid (VRow wT.heap.size w10 v10 [.arr (fp.map Jv.J.str), .str fi, .str ft, .str fl, .int fu, .arr (fe.map Jv.jE)]) := Lib.hid (by
              have hsz : (w8.alloc (.cells #[.int .i64 2, .bool false, .int .i64 fu, .string ⟨#[]⟩, .slice none 0 0, .slice none 0 0, .int .i64 0, .int .i64 4, .bool false, .int .i64 0, .string ⟨#[]⟩, .slice aD fne nD, .slice none 0 0, .int .i64 0] 82)).heap.size = w8.heap.size + 1 := Array.size_push _
              have hlf : (fe.map Jv.jE).length = fne := by rw [List.length_map, HFE.out]
              refine Row.appended (l := [Jv.J.arr (fp.map Jv.J.str), Jv.J.str fi, Jv.J.str ft, Jv.J.str fl]) (M := [[.int .i64 2, .bool false, .int .i64 fu, .string ⟨#[]⟩, .slice none 0 0, .slice none 0 0, .int .i64 0], [.int .i64 4, .bool false, .int .i64 0, .string ⟨#[]⟩, .slice aD fne nD, .slice none 0 0, .int .i64 0]]) (l2 := [Jv.J.int fu, Jv.J.arr (fe.map Jv.jE)]) HQ9.out.1 HQ9.out.2.2 HF9.out (fun u hu => (All.one (x := Jv.J.int fu) (by unfold Jv; exact ⟨0, rfl⟩)).append (All.one (x := Jv.J.arr (fe.map Jv.jE)) (arr_apart (S := wT.heap.size) (T := w7.heap.size) (w := wr) (v := u8) HLE2.out HLN.out HEE.out HB9.out (by rw [hlf]; exact HO8.out) HBE.out.size HB79.out (fun q e => ⟨HO6.out q e, HLT9.out q e⟩) hu))) hown hgrow (by rw [hsz]; exact hv1))
            clear hown hgrow hv1 HQ9 HLT9 HO9 HF9 HO8 HEE HOE
            obtain ⟨ad10, cp10, e10⟩ : ∃ ad c, v10 = .slice ad 6 c := (by obtain ⟨ad, c, e⟩ := HR10.out.slice; exact ⟨ad, c, e⟩)
            subst e10
            go_wp2_with fail
            refine (objF_is ⟨fp, fi, ft, fl, fu, fe⟩ wT.heap.size (.slice ad10 6 cp10) w10 HR10.out HB10.out.size (fun u hu => HT.out u (below_seq HBQ.out (below_seq HB10.out hu)))).mono ?_
            rintro e w11 ⟨⟨aF, nF, rfl, hV11⟩, hb11⟩
            have HB11 := Lib.hid (below_seq HB10.out hb11)
            have hba := (Below.refl w11.heap.size w11).alloc (Nat.le_refl _) (.cells #[.int .i64 5, .bool false, .int .i64 0, .string ⟨#[]⟩, .slice none 0 0, .slice aF 6 nF, .int .i64 0] 82)
            have HB12 := Lib.hid (below_seq HB11.out hba)
            have HV12 := Lib.hid (hV11.below hba)
            have HLTQ := Lib.hid (fun q (e : Value.ownBlock u5 = some q) => by obtain ⟨L, -, h, -⟩ := HRQ.out; exact (own_lt h e).2)
            obtain ⟨L12, hL12, ho12, hE12⟩ := HRQ.out.below HB12.out
            rw [HLk.out] at ho12
            have HQ12 := Lib.hid (And.intro hL12 (And.intro ho12 hE12))
            clear hb11 hba hV11 hL12 ho12 hE12
            go_wp2_with (at_builtin; (refine wpList_append_row _ rfl _ _ 79 rfl W.heap.size w11.heap.size 82 ti tz 7 96 Tryz.underlying79 HI.out.1 HI.out.2.1 HI.out.2.2.1 HI.out.2.2.2.1 HI.out.2.2.2.2 (by decide) _ k L12.flatten rfl HQ12.out.2.1 _ 1 [.int .i64 5, .bool false, .int .i64 0, .string ⟨#[]⟩, .slice none 0 0, .slice aF 6 nF, .int .i64 0] rfl (one_row (c := [.int .i64 5, .bool false, .int .i64 0, .string ⟨#[]⟩, .slice none 0 0, .slice aF 6 nF, .int .i64 0]) (sz := 7) rfl) HV12.out.one ?a3 ?a4 ?a5 ?_))
            case a3 => unfold maxLen; omega
            case a4 => omega
            case a5 => exact Nat.le_trans HBQ.out.size HB12.out.size
            intro v13 w13 hown hgrow hv1
            have HB13 := Lib.hid (below_grew hgrow (below_seq HBQ.out HB12.out) (fun q e => (own_lt HQ12.out.2.1 e).1) (Nat.le_trans HBQ.out.size HB12.out.size))
            have HR13 : Hid (VRow W.heap.size w13 v13 ((a.take (k + 1)).map Jv.jF)) := Lib.hid (by
              have hsz : (w11.alloc (.cells #[.int .i64 5, .bool false, .int .i64 0, .string ⟨#[]⟩, .slice none 0 0, .slice aF 6 nF, .int .i64 0] 82)).heap.size = w11.heap.size + 1 := Array.size_push _
              rw [HK.out]
              refine Row.appended (M := [[.int .i64 5, .bool false, .int .i64 0, .string ⟨#[]⟩, .slice none 0 0, .slice aF 6 nF, .int .i64 0]]) (l2 := [Jv.jF ⟨fp, fi, ft, fl, fu, fe⟩]) HQ12.out.1 HQ12.out.2.2 (Flat.one rfl HV12.out.one) (fun u hu => All.one (HV12.out.apart HBQ.out.size HLTQ.out hu)) (by rw [HLk.out]; exact hown) hgrow (by rw [hsz]; exact hv1))
            clear hown hgrow hv1 HQ12 HV12 HLTQ
            go_wp2_with fail
            go_roundw
            case rel => exact ⟨k + 1, by omega, by go_num, HR13, HB13⟩
            case measure => simp [intOf]; omega
    · have gl : decide ((k : Int) < (m : Int)) = false := decide_eq_false (by omega)
      have HR : Hid (VRow W.heap.size wr u5 (a.map Jv.jF)) := Lib.hid (by
        have := hr.out
        rw [List.take_of_length_le (by rw [HM.out]; omega)] at this
        exact this)
      have CZ := Lib.hid (array_fa wr HR.out hb.out.size HM.out hlen)
      go_wp2_with fail
      refine CZ.out.mono ?_
      rintro e w2 ⟨⟨aZ, nZ, rfl, hV⟩, hb2⟩
      have HV := Lib.hid hV
      have HB2 := Lib.hid (below_seq hb.out hb2)
      clear hV hb2 CZ
      go_wp2_with fail
      refine (CW.out _ _ _ HB2.out HV.out).mono ?_
      rintro e w3 ⟨rfl, hb3⟩
      have HB3 := Lib.hid (below_seq HB2.out hb3)
      clear hb3
      go_wp2_with fail
      go_ret2
      exact ⟨rfl, HB3.out⟩
end Go.Proofs.YtjaojenalodolaaGreatDoor.Me
