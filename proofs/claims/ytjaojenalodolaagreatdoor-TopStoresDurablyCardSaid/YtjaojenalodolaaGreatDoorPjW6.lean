/- value's two closures on a canonical text. Printed by genpj6.py. -/
import Derived.Test.YtjaojenalodolaaGreatDoorKP
import Derived.Deep.RegionHeld3
namespace Go.Proofs.YtjaojenalodolaaGreatDoor.Pj
open Go Go.RowKit Go.Proofs.YtjaojenalodolaaGreatDoor Go.Proofs.YtjaojenalodolaaGreatDoor.Rw Go.Proofs.YtjaojenalodolaaGreatDoor.Vf Go.Proofs.YtjaojenalodolaaGreatDoor.Mw Go.Proofs.YtjaojenalodolaaGreatDoor.Me Go.Proofs.YtjaojenalodolaaGreatDoor.Pa
set_option linter.unusedVariables false
set_option maxRecDepth 100000
set_option maxHeartbeats 16000000
structure Iv (P V a : Nat) (kd : Int) (W u : World) (items members : Value) : Prop where
  os : u.os = W.os
  tape : u.tape = W.tape
  output : u.output = W.output
  size : W.heap.size ≤ u.heap.size
  block : ∀ k, k < W.heap.size → k ≠ P → k ≠ V → u.heap[k]? = W.heap[k]?
  vb : u.heap[V]? = some (Obj.cells #[.int .i64 kd, .bool false, .int .i64 0, .string ⟨#[]⟩, items, members, .int .i64 a] 82 (0, 0))
section
variable {P V a : Nat} {kd : Int} {W u w : World} {items members : Value}
theorem Iv.sd (h : Iv P V a kd W u items members) (k : Sd P u w) (hV : V ≠ P) : Iv P V a kd W w items members :=
  ⟨k.os.trans h.os, k.tape.trans h.tape, k.output.trans h.output, Nat.le_trans h.size k.size, fun i h1 h2 h3 => (k.block i (Nat.lt_of_lt_of_le h1 h.size) h2).trans (h.block i h1 h2 h3), (k.block V (Rw.lt_of_heap h.vb) hV).trans h.vb⟩
theorem Iv.bel (h : Iv P V a kd W u items members) (k : Below W.heap.size u w) (hV : V < W.heap.size) : Iv P V a kd W w items members :=
  ⟨k.os.trans h.os, k.tape.trans h.tape, k.output.trans h.output, Nat.le_trans h.size k.size, fun i h1 h2 h3 => (k.block i h1).trans (h.block i h1 h2 h3), (k.block V hV).trans h.vb⟩
theorem Iv.cell (h : Iv P V a kd W u items members) {b j : Nat} {x : Value} (hc : W.cell? ⟨b, j, none⟩ = some x) (h1 : b ≠ P) (h2 : b ≠ V) : u.cell? ⟨b, j, none⟩ = some x := by
  have hl := Rw.lt_of_cell hc
  unfold World.cell? at hc ⊢
  rw [h.block b hl h1 h2]
  exact hc
theorem Iv.base {W0 : World} (h : Iv P V a kd W u items members) (hW : Below W0.heap.size W0 W) (hP : W0.heap.size ≤ P) (hV : W0.heap.size ≤ V) : Below W0.heap.size W0 u :=
  ⟨h.os.trans hW.os, h.tape.trans hW.tape, h.output.trans hW.output, Nat.le_trans hW.size h.size, fun i hi => (h.block i (Nat.lt_of_lt_of_le hi hW.size) (by omega) (by omega)).trans (hW.block i hi)⟩
theorem Iv.sets (h : Iv P V a kd W u items members) {g o : Nat} {cs : List Value} (hg : W.heap.size ≤ g) (hV : V < W.heap.size) : Iv P V a kd W (u.setCells g o cs) items members := by
  obtain ⟨f1, f2, f3, f4, f5⟩ := setCells_frame g cs o u
  exact h.bel ⟨f1, f2, f3, by rw [f4]; exact Nat.le_refl _, fun i hi => f5 i (by omega)⟩ hV
end
theorem below_sets {n g o : Nat} {cs : List Value} (w : World) (hg : n ≤ g) : Below n w (w.setCells g o cs) := by
  obtain ⟨f1, f2, f3, f4, f5⟩ := setCells_frame g cs o w
  exact ⟨f1, f2, f3, by rw [f4]; exact Nat.le_refl _, fun i hi => f5 i (by omega)⟩
theorem Ps.bel {P a d n : Nat} {s : ByteArray} {u w : World} (h : Ps P s a d u) (hb : Below n u w) (hP : P < n) : Ps P s a d w := (hb.block P hP).trans h
theorem cell_bel {n b j : Nat} {u w : World} {x : Value} (h : u.cell? ⟨b, j, none⟩ = some x) (hb : Below n u w) (hn : b < n) : w.cell? ⟨b, j, none⟩ = some x := by
  unfold World.cell? at h ⊢
  rw [hb.block b hn]
  exact h
theorem stf {S sz k g c n : Nat} {w : World} {t : TypeId} {L : List (List Value)} {zs : List Value} (ho : w.ownsRow S t sz (.slice (some ⟨g, 0, none⟩) (k + 1) c) (k + 1) (L.flatten ++ zs)) (hL : L.flatten.length = k * sz) :
    (∀ j, w.frozen? ⟨g, j, none⟩ = false) ∧ ∀ j x, zs[j]? = some x → w.cell? ⟨g, k * sz + j, none⟩ = some x := by
  rcases ho.2 with ⟨e, -⟩ | ⟨g', cap, cur, e, hb, hg, hnc, hcm, hcs, ht⟩
  · cases e
  · have e1 : g = g' := by injection e with e; injection e with e; injection e
    subst e1
    refine ⟨fun j => frozen_of_row w g j _ _ hg, fun j x hx => ?_⟩
    have hl := ho.1
    have hj : j < zs.length := by
      rcases Nat.lt_or_ge j zs.length with h | h
      · exact h
      · rw [List.getElem?_eq_none h] at hx; cases hx
    have h2 := congrArg (fun m : List Value => m[k * sz + j]?) ht
    rw [List.length_append, hL] at hl
    simp only [List.getElem?_take, if_pos (show k * sz + j < (k + 1) * sz by omega)] at h2
    rw [List.getElem?_append_right (by omega), hL, Nat.add_sub_cancel_left, hx] at h2
    unfold World.cell?
    simp only [hg]
    rw [← h2]
    simp
theorem fin_iv {α : Type} {El : World → α → List Value → Prop} {P V a ak d sz k g c m : Nat} {kd : Int} {s : ByteArray} {t : TypeId} {W w wf : World} {L : List (List Value)} {l0 : List α} {el : α} {cs zs : List Value} {it0 me0 it1 me1 : Value}
    (hF : F6 El sz t W.heap.size k L l0 el cs zs w g c) (hL : Flat sz L) (hn : l0.length = k) (hl : L.length = k) (hz : zs.length = sz) (hc : cs.length = sz ∧ ∀ x ∈ cs, x.oneCell' = true)
    (hI : Iv P V a kd W w it0 me0) (hP : Ps P s ak d w) (hPl : P < W.heap.size) (hVl : V < W.heap.size) (hPV : V ≠ P)
    (hvb : (#[Value.int .i64 kd, .bool false, .int .i64 0, .string ⟨#[]⟩, it0, me0, .int .i64 a] : Array Value).setIfInBounds m (.slice (some ⟨g, 0, none⟩) (k + 1) c) = #[.int .i64 kd, .bool false, .int .i64 0, .string ⟨#[]⟩, it1, me1, .int .i64 a])
    (hwf : wf = (w.setCells g (k * sz) cs).setCell ⟨V, m, none⟩ (.slice (some ⟨g, 0, none⟩) (k + 1) c) ∨ wf = (w.setCell ⟨V, m, none⟩ (.slice (some ⟨g, 0, none⟩) (k + 1) c)).setCells g (k * sz) cs) :
    Iv P V a kd W wf it1 me1 ∧ Row El sz t W.heap.size wf (.slice (some ⟨g, 0, none⟩) (k + 1) c) (l0 ++ [el]) ∧ Ps P s ak d wf := by
  have hg : W.heap.size ≤ g ∧ g < w.heap.size := own_lt hF.own rfl
  rcases hwf with rfl | rfl
  · have hr := hF.set hL hn hl hz hc.1 hc.2
    have hI8 := hI.sets (o := k * sz) (cs := cs) hg.1 hVl
    have hP8 := hP.bel (below_sets w (o := k * sz) (cs := cs) hg.1) hPl
    generalize w.setCells g (k * sz) cs = w8 at hr hI8 hP8 ⊢
    have h9 : ∀ i, i ≠ V → (w8.setCell ⟨V, m, none⟩ (.slice (some ⟨g, 0, none⟩) (k + 1) c)).heap[i]? = w8.heap[i]? := fun i hi => heap_setCell_other _ _ _ _ hi
    have hs9 : (w8.setCell ⟨V, m, none⟩ (.slice (some ⟨g, 0, none⟩) (k + 1) c)).heap.size = w8.heap.size := by simp [World.setCell]
    refine ⟨⟨hI8.os, hI8.tape, hI8.output, by rw [hs9]; exact hI8.size, fun i h1 h2 h3 => (h9 i h3).trans (hI8.block i h1 h2 h3), ?_⟩, row_keep hr (by rw [hs9]; exact Nat.le_refl _) fun i h1 h2 => h9 i (by omega), (h9 P hPV.symm).trans hP8⟩
    rw [← hvb]
    exact heap_setCell_same _ V m _ _ _ hI8.vb
  · have h9 : ∀ i, i ≠ V → (w.setCell ⟨V, m, none⟩ (.slice (some ⟨g, 0, none⟩) (k + 1) c)).heap[i]? = w.heap[i]? := fun i hi => heap_setCell_other _ _ _ _ hi
    have hs9 : (w.setCell ⟨V, m, none⟩ (.slice (some ⟨g, 0, none⟩) (k + 1) c)).heap.size = w.heap.size := by simp [World.setCell]
    have hv9 := heap_setCell_same w V m _ _ (.slice (some ⟨g, 0, none⟩) (k + 1) c) hI.vb
    rw [hvb] at hv9
    have hI9 : Iv P V a kd W (w.setCell ⟨V, m, none⟩ (.slice (some ⟨g, 0, none⟩) (k + 1) c)) it1 me1 := ⟨hI.os, hI.tape, hI.output, by rw [hs9]; exact hI.size, fun i h1 h2 h3 => (h9 i h3).trans (hI.block i h1 h2 h3), hv9⟩
    have hP9 : Ps P s ak d (w.setCell ⟨V, m, none⟩ (.slice (some ⟨g, 0, none⟩) (k + 1) c)) := (h9 P hPV.symm).trans hP
    have hF9 : F6 El sz t W.heap.size k L l0 el cs zs (w.setCell ⟨V, m, none⟩ (.slice (some ⟨g, 0, none⟩) (k + 1) c)) g c :=
      ⟨own_kept hF.own fun q e => h9 q (by have := (own_lt hF.own e).1; omega), fun w' hw => hF.all w' fun i h1 h2 h3 => (hw i h1 (by rw [hs9]; exact h2) h3).trans (h9 i (by omega)), fun w' hw => hF.new w' fun i h1 h2 h3 => (hw i h1 (by rw [hs9]; exact h2) h3).trans (h9 i (by omega))⟩
    exact ⟨hI9.sets (o := k * sz) (cs := cs) hg.1 hVl, hF9.set hL hn hl hz hc.1 hc.2, hP9.bel (below_sets _ (o := k * sz) (cs := cs) hg.1) hPl⟩
theorem fin_iv2 {A B : Value → Prop} {C : Prop} {x : Value} (h : A x ∧ B x ∧ C) : (∃ it, A it ∧ B it) ∧ C := ⟨⟨x, h.1, h.2.1⟩, h.2.2⟩
abbrev zero7 : List Value := [.int .i64 0, .bool false, .int .i64 0, .string ⟨#[]⟩, .slice none 0 0, .slice none 0 0, .int .i64 0]
abbrev zero9 : List Value := [.string ⟨#[]⟩, .int .i64 0, .bool false, .int .i64 0, .string ⟨#[]⟩, .slice none 0 0, .slice none 0 0, .int .i64 0, .int .i64 0]
theorem zero7_one : ∀ u ∈ zero7, u.oneCell' = true := by
  intro u hu
  simp only [zero7, List.mem_cons, List.not_mem_nil, or_false] at hu
  rcases hu with rfl | rfl | rfl | rfl | rfl | rfl | rfl <;> rfl
theorem zero9_one : ∀ u ∈ zero9, u.oneCell' = true := by
  intro u hu
  simp only [zero9, List.mem_cons, List.not_mem_nil, or_false] at hu
  rcases hu with rfl | rfl | rfl | rfl | rfl | rfl | rfl | rfl | rfl <;> rfl
def MC (P : Nat) (s : ByteArray) (x : ByteArray × Jv.J) (a d : Nat) (u : World) (v : Value) : Prop :=
  Calls Tryz.prog 145 #[.pointer (some ⟨P, 0, none⟩), v] u fun e w' => (∃ k b n t a1 n1 c1 a2 n2 c2 p q, e = .returned (.agg #[.string x.1, .int .i64 k, .bool b, .int .i64 n, .string t, .slice a1 n1 c1, .slice a2 n2 c2, .int .i64 p, .int .i64 q]) ∧ MVal u.heap.size w' x [.string x.1, .int .i64 k, .bool b, .int .i64 n, .string t, .slice a1 n1 c1, .slice a2 n2 c2, .int .i64 p, .int .i64 q]) ∧ Ps P s (a + (Jv.encP x).length) d w' ∧ Sd P u w'
def ld_val1 : Op := .load 79 (.tmp 2)
theorem val1_is (P V B a ak d : Nat) (s : ByteArray) (l : List Jv.J) (k : Nat) (hk : k < l.length) (W0 W u : World) (items : Value) (hP : P < W.heap.size) (hV : V < W.heap.size) (hB : B < W.heap.size) (hPV : V ≠ P) (hBP : B ≠ P) (hBV : B ≠ V) (hb : W.cell? ⟨B, 0, none⟩ = some (.pointer (some ⟨P, 0, none⟩))) (hP0 : W0.heap.size ≤ P) (hV0 : W0.heap.size ≤ V) (hW : Below W0.heap.size W0 W)
    (hl : l.length ≤ 1000000) (hi : Iv P V a 4 W u items (.slice none 0 0)) (hr : VRow W.heap.size u items (l.take k)) (hp : Ps P s ak d u) (hv : ∀ x, Ps P s ak d x → Below W0.heap.size W0 x → VC P s l[k] ak d x) :
    Calls Tryz.prog 143 #[.pointer (some ⟨V, 0, none⟩), .pointer (some ⟨B, 0, none⟩)] u fun e w' => e = .returned (.tuple #[]) ∧ (∃ it, Iv P V a 4 W w' it (.slice none 0 0) ∧ VRow W.heap.size w' it (l.take (k + 1))) ∧ Ps P s (ak + (Jv.enc l[k]).length) d w' := by
  have HB0 := Lib.hid (hi.base hW hP0 hV0)
  have y0 := hi.cell hb hBP hBV
  have v4 := Me.box_at (j := 4) hi.vb rfl
  have HRW := Lib.hid hr
  obtain ⟨ti, tz, hi', hz0, hz1, hz2, hz3⟩ := info_sz infoV
  have HI := Lib.hid (And.intro hi' (And.intro hz0 (And.intro hz1 (And.intro hz2 hz3))))
  obtain ⟨L, hL, ho, hE⟩ := hr
  obtain ⟨ad, cap, rfl⟩ := own_slice ho
  have HLk : (l.take k).length = k := by rw [List.length_take]; omega
  have HLL := Lib.hid (And.intro HLk ((hE u (fun _ _ _ _ => rfl)).1.trans HLk))
  rw [HLk] at ho v4 hi hE HRW
  have HO := Lib.hid ho
  have HT := Lib.hid (show l.take (k + 1) = l.take k ++ [l[k]] by rw [List.take_add_one, List.getElem?_eq_getElem hk]; rfl)
  have HE := Lib.hid hE
  have HL := Lib.hid hL
  have HIU := Lib.hid hi
  have HFL := Lib.hid (show L.flatten.length = k * 7 by rw [flat_len hL.1, (hE u (fun _ _ _ _ => rfl)).1, HLk])
  have HQ := Lib.hid (And.intro hP (And.intro hV (And.intro hB (And.intro hPV (And.intro hBP hBV)))))
  have hkl : k + 1 ≤ 1000000 := by omega
  have HPU := Lib.hid hp
  have HV := Lib.hid hv
  have HSU := Lib.hid hi.size
  have BD := Lib.hid ((Below.refl u.heap.size u).drew)
  have BZ := Lib.hid ((Below.refl u.heap.size u).alloc (Nat.le_refl _) (.cells zero7.toArray 82)).drew
  have v4z := cell_under v4 ((Below.refl u.heap.size u).alloc (Nat.le_refl _) (.cells zero7.toArray 82))
  have j1 : k < k + 1 := Nat.lt_succ_self k
  have j2 : (0 : Int) ≤ (k : Int) := by omega
  have j3 : (k : Int) < (k : Int) + 1 := by omega
  generalize hel : l[k] = el at HT hv HV ⊢
  clear ho hE hL hp hv hi hi' hz0 hz1 hz2 hz3 HLk hW hb hP hV hB hPV hBP hBV hP0 hV0 hl
  go_enter Tryz.func143, Tryz.ntmps143
  go_wp2_with fail
  have hld : ld_val1 = .load 79 (.tmp 2) := rfl
  rw [← hld]
  go_region_held3 (fun w' => w'.cell? ⟨B, 0, none⟩ = some (.pointer (some ⟨P, 0, none⟩))) (first | (with_reducible assumption) | go_keep)
    (first
      | (go_at_call 96; have C5 := HV.out u.drew (HPU.out.below BD.out) (HB0.out.trans (BD.out.mono HB0.out.size)); unfold VC at C5; (with_reducible refine C5.mono ?_); clear C5; rintro e w5 ⟨⟨vk, vb, vn, vt, a1, n1, c1, a2, n2, c2, vp, rfl, hv5⟩, hp5, hs5⟩; have HP5 := Lib.hid hp5; have hs := (Sd.of_below (P := P) BD.out).trans hs5; have HS5 := Lib.hid hs; have HV5 := Lib.hid (show ∀ w', Agree u.heap.size w5 w' none → Jv w' el [.int .i64 vk, .bool vb, .int .i64 vn, .string vt, .slice a1 n1 c1, .slice a2 n2 c2, .int .i64 vp] from fun w' hw => hv5 w' hw); have HI5 := Lib.hid (HIU.out.sd hs HQ.out.2.2.2.1); have sV := hs.cell v4 HQ.out.2.2.2.1; have sB := hs.cell y0 HQ.out.2.2.2.2.1; have sVz := cell_under sV ((Below.refl w5.heap.size w5).alloc (Nat.le_refl _) (.cells zero7.toArray 82)); clear hv5 hp5 hs5 hs)
      | (go_at_call 96; have C5 := HV.out ((u.alloc (.cells zero7.toArray 82)).drew) (HPU.out.below BZ.out) (HB0.out.trans (BZ.out.mono HB0.out.size)); unfold VC at C5; (with_reducible refine C5.mono ?_); clear C5; rintro e w5 ⟨⟨vk, vb, vn, vt, a1, n1, c1, a2, n2, c2, vp, rfl, hv5⟩, hp5, hs5⟩; have HP5 := Lib.hid hp5; have hs := (Sd.of_below (P := P) BZ.out).trans hs5; have HZ5 := Lib.hid (own_kept (w' := w5) (one_row (w := u) (c := zero7) (sz := 7) (t := 82) rfl) (fun q e => hs5.block q (own_lt (one_row (w := u) (c := zero7) (sz := 7) (t := 82) rfl) e).2 (by have h1 := (own_lt (one_row (w := u) (c := zero7) (sz := 7) (t := 82) rfl) e).1; have h2 := HSU.out; have h3 := HQ.out.1; omega))); have HS5 := Lib.hid hs; have HV5 := Lib.hid (show ∀ w', Agree u.heap.size w5 w' none → Jv w' el [.int .i64 vk, .bool vb, .int .i64 vn, .string vt, .slice a1 n1 c1, .slice a2 n2 c2, .int .i64 vp] from fun w' hw => hv5 w' (fun i h1 h2 h3 => hw i (Nat.le_trans BZ.out.size h1) h2 h3)); have HI5 := Lib.hid (HIU.out.sd hs HQ.out.2.2.2.1); have sV := hs.cell v4 HQ.out.2.2.2.1; have sB := hs.cell y0 HQ.out.2.2.2.2.1; clear hv5 hp5 hs5 hs)
      | (refine step_append_row _ rfl (.tmp 3) (.tmp 7) 79 rfl W.heap.size u.heap.size 82 ti tz 7 96 Tryz.underlying79 HI.out.1 HI.out.2.1 HI.out.2.2.1 HI.out.2.2.2.1 HI.out.2.2.2.2 (by decide) (.slice ad k cap) k L.flatten rfl ?o1 _ 1 zero7 rfl ?o2 zero7_one ?a3 ?a4 ?a5 ?_; (case o1 => exact (own_kept (w' := (w5.alloc (.cells zero7.toArray 82))) HO.out (fun q e => (((Below.refl w5.heap.size w5).alloc (Nat.le_refl _) (.cells zero7.toArray 82)).block q (Nat.lt_of_lt_of_le (own_lt HO.out e).2 HS5.out.size)).trans (HS5.out.block q (own_lt HO.out e).2 (fun e2 => by have := (own_lt HO.out e).1; have := HQ.out.1; omega))))); (case o2 => exact (own_base (one_row (w := w5) (c := zero7) (sz := 7) rfl) HS5.out.size)); (case a3 => (unfold maxLen; omega)); (case a4 => omega); (case a5 => exact (Nat.le_trans HSU.out (Nat.le_trans HS5.out.size ((Below.refl w5.heap.size w5).alloc (Nat.le_refl _) (.cells zero7.toArray 82)).size))); intro v6 w6 hown hgrow hv6; have BX := (Below.refl w5.heap.size w5).alloc (Nat.le_refl _) (.cells zero7.toArray 82); obtain ⟨g6, c6, rfl, hF6, hB6⟩ := fin_app (El := Jv) (cs := [.int .i64 vk, .bool vb, .int .i64 vn, .string vt, .slice a1 n1 c1, .slice a2 n2 c2, .int .i64 vp]) HQ.out.1 HO.out HE.out HS5.out HSU.out BX HV5.out hown hgrow hv6; have HF6 := Lib.hid hF6; have HI6 := Lib.hid (HI5.out.bel hB6 HQ.out.2.1); have HP6 := Lib.hid (HP5.out.bel hB6 HQ.out.1); have sV6 := cell_bel sV hB6 HQ.out.2.1; have sB6 := cell_bel sB hB6 HQ.out.2.2.1; have HG6 := Lib.hid (show W.heap.size ≤ g6 ∧ g6 < w6.heap.size from own_lt hF6.own rfl); have HC6 := Lib.hid (show ([.int .i64 vk, .bool vb, .int .i64 vn, .string vt, .slice a1 n1 c1, .slice a2 n2 c2, .int .i64 vp] : List Value).length = 7 ∧ (∀ x ∈ ([.int .i64 vk, .bool vb, .int .i64 vn, .string vt, .slice a1 n1 c1, .slice a2 n2 c2, .int .i64 vp] : List Value), x.oneCell' = true) from ⟨rfl, by simp [Value.oneCell']⟩); obtain ⟨fr6, hc6⟩ := stf (n := 0) hF6.own HFL.out; have e0 : w6.cell? ⟨g6, k * 7, none⟩ = some _ := hc6 0 _ rfl; have e1 := hc6 1 _ rfl; have e2 := hc6 2 _ rfl; have e3 := hc6 3 _ rfl; have e4 := hc6 4 _ rfl; have e5 := hc6 5 _ rfl; have e6 := hc6 6 _ rfl; have fV6 := frozen_of_row _ V 4 _ _ HI6.out.vb; have nBV := HQ.out.2.2.2.2.2; have nGV := (show g6 ≠ V by have := HG6.out.1; have := HQ.out.2.1; omega); have nVB := HQ.out.2.2.2.2.2.symm; have nGB := (show g6 ≠ B by have := HG6.out.1; have := HQ.out.2.2.1; omega); have nBG := (show B ≠ g6 by have := HG6.out.1; have := HQ.out.2.2.1; omega); clear hc6; have sB8 : (((((((w6.setCell ⟨g6, k * 7, none⟩ (.int .i64 vk)).setCell ⟨g6, k * 7 + 1, none⟩ (.bool vb)).setCell ⟨g6, k * 7 + 2, none⟩ (.int .i64 vn)).setCell ⟨g6, k * 7 + 3, none⟩ (.string vt)).setCell ⟨g6, k * 7 + 4, none⟩ (.slice a1 n1 c1)).setCell ⟨g6, k * 7 + 5, none⟩ (.slice a2 n2 c2)).setCell ⟨g6, k * 7 + 6, none⟩ (.int .i64 vp)).cell? ⟨B, 0, none⟩ = some (.pointer (some ⟨P, 0, none⟩)) := (World.cell?_setCell_far _ _ _ _ nGB).trans ((World.cell?_setCell_far _ _ _ _ nGB).trans ((World.cell?_setCell_far _ _ _ _ nGB).trans ((World.cell?_setCell_far _ _ _ _ nGB).trans ((World.cell?_setCell_far _ _ _ _ nGB).trans ((World.cell?_setCell_far _ _ _ _ nGB).trans ((World.cell?_setCell_far _ _ _ _ nGB).trans (sB6))))))); have sB9 : ((((((((w6.setCell ⟨V, 4, none⟩ (.slice (some ⟨g6, 0, none⟩) (k + 1) c6)).setCell ⟨g6, k * 7, none⟩ (.int .i64 vk)).setCell ⟨g6, k * 7 + 1, none⟩ (.bool vb)).setCell ⟨g6, k * 7 + 2, none⟩ (.int .i64 vn)).setCell ⟨g6, k * 7 + 3, none⟩ (.string vt)).setCell ⟨g6, k * 7 + 4, none⟩ (.slice a1 n1 c1)).setCell ⟨g6, k * 7 + 5, none⟩ (.slice a2 n2 c2)).setCell ⟨g6, k * 7 + 6, none⟩ (.int .i64 vp)).cell? ⟨B, 0, none⟩ = some (.pointer (some ⟨P, 0, none⟩)) := (World.cell?_setCell_far _ _ _ _ nGB).trans ((World.cell?_setCell_far _ _ _ _ nGB).trans ((World.cell?_setCell_far _ _ _ _ nGB).trans ((World.cell?_setCell_far _ _ _ _ nGB).trans ((World.cell?_setCell_far _ _ _ _ nGB).trans ((World.cell?_setCell_far _ _ _ _ nGB).trans ((World.cell?_setCell_far _ _ _ _ nGB).trans ((World.cell?_setCell_far _ _ _ _ nVB).trans sB6))))))); clear hown hgrow hv6 hF6 hB6)
      | (refine step_append_row _ rfl (.tmp 3) (.tmp 7) 79 rfl W.heap.size u.heap.size 82 ti tz 7 96 Tryz.underlying79 HI.out.1 HI.out.2.1 HI.out.2.2.1 HI.out.2.2.2.1 HI.out.2.2.2.2 (by decide) (.slice ad k cap) k L.flatten rfl ?o1 _ 1 zero7 rfl ?o2 zero7_one ?a3 ?a4 ?a5 ?_; (case o1 => exact (own_kept (w' := w5) HO.out (fun q e => HS5.out.block q (own_lt HO.out e).2 (fun e2 => by have := (own_lt HO.out e).1; have := HQ.out.1; omega)))); (case o2 => exact HZ5.out); (case a3 => (unfold maxLen; omega)); (case a4 => omega); (case a5 => exact (Nat.le_trans HSU.out HS5.out.size)); intro v6 w6 hown hgrow hv6; have BX := Below.refl w5.heap.size w5; obtain ⟨g6, c6, rfl, hF6, hB6⟩ := fin_app (El := Jv) (cs := [.int .i64 vk, .bool vb, .int .i64 vn, .string vt, .slice a1 n1 c1, .slice a2 n2 c2, .int .i64 vp]) HQ.out.1 HO.out HE.out HS5.out HSU.out BX HV5.out hown hgrow hv6; have HF6 := Lib.hid hF6; have HI6 := Lib.hid (HI5.out.bel hB6 HQ.out.2.1); have HP6 := Lib.hid (HP5.out.bel hB6 HQ.out.1); have sV6 := cell_bel sV hB6 HQ.out.2.1; have sB6 := cell_bel sB hB6 HQ.out.2.2.1; have HG6 := Lib.hid (show W.heap.size ≤ g6 ∧ g6 < w6.heap.size from own_lt hF6.own rfl); have HC6 := Lib.hid (show ([.int .i64 vk, .bool vb, .int .i64 vn, .string vt, .slice a1 n1 c1, .slice a2 n2 c2, .int .i64 vp] : List Value).length = 7 ∧ (∀ x ∈ ([.int .i64 vk, .bool vb, .int .i64 vn, .string vt, .slice a1 n1 c1, .slice a2 n2 c2, .int .i64 vp] : List Value), x.oneCell' = true) from ⟨rfl, by simp [Value.oneCell']⟩); obtain ⟨fr6, hc6⟩ := stf (n := 0) hF6.own HFL.out; have e0 : w6.cell? ⟨g6, k * 7, none⟩ = some _ := hc6 0 _ rfl; have e1 := hc6 1 _ rfl; have e2 := hc6 2 _ rfl; have e3 := hc6 3 _ rfl; have e4 := hc6 4 _ rfl; have e5 := hc6 5 _ rfl; have e6 := hc6 6 _ rfl; have fV6 := frozen_of_row _ V 4 _ _ HI6.out.vb; have nBV := HQ.out.2.2.2.2.2; have nGV := (show g6 ≠ V by have := HG6.out.1; have := HQ.out.2.1; omega); have nVB := HQ.out.2.2.2.2.2.symm; have nGB := (show g6 ≠ B by have := HG6.out.1; have := HQ.out.2.2.1; omega); have nBG := (show B ≠ g6 by have := HG6.out.1; have := HQ.out.2.2.1; omega); clear hc6; have sB8 : (((((((w6.setCell ⟨g6, k * 7, none⟩ (.int .i64 vk)).setCell ⟨g6, k * 7 + 1, none⟩ (.bool vb)).setCell ⟨g6, k * 7 + 2, none⟩ (.int .i64 vn)).setCell ⟨g6, k * 7 + 3, none⟩ (.string vt)).setCell ⟨g6, k * 7 + 4, none⟩ (.slice a1 n1 c1)).setCell ⟨g6, k * 7 + 5, none⟩ (.slice a2 n2 c2)).setCell ⟨g6, k * 7 + 6, none⟩ (.int .i64 vp)).cell? ⟨B, 0, none⟩ = some (.pointer (some ⟨P, 0, none⟩)) := (World.cell?_setCell_far _ _ _ _ nGB).trans ((World.cell?_setCell_far _ _ _ _ nGB).trans ((World.cell?_setCell_far _ _ _ _ nGB).trans ((World.cell?_setCell_far _ _ _ _ nGB).trans ((World.cell?_setCell_far _ _ _ _ nGB).trans ((World.cell?_setCell_far _ _ _ _ nGB).trans ((World.cell?_setCell_far _ _ _ _ nGB).trans (sB6))))))); have sB9 : ((((((((w6.setCell ⟨V, 4, none⟩ (.slice (some ⟨g6, 0, none⟩) (k + 1) c6)).setCell ⟨g6, k * 7, none⟩ (.int .i64 vk)).setCell ⟨g6, k * 7 + 1, none⟩ (.bool vb)).setCell ⟨g6, k * 7 + 2, none⟩ (.int .i64 vn)).setCell ⟨g6, k * 7 + 3, none⟩ (.string vt)).setCell ⟨g6, k * 7 + 4, none⟩ (.slice a1 n1 c1)).setCell ⟨g6, k * 7 + 5, none⟩ (.slice a2 n2 c2)).setCell ⟨g6, k * 7 + 6, none⟩ (.int .i64 vp)).cell? ⟨B, 0, none⟩ = some (.pointer (some ⟨P, 0, none⟩)) := (World.cell?_setCell_far _ _ _ _ nGB).trans ((World.cell?_setCell_far _ _ _ _ nGB).trans ((World.cell?_setCell_far _ _ _ _ nGB).trans ((World.cell?_setCell_far _ _ _ _ nGB).trans ((World.cell?_setCell_far _ _ _ _ nGB).trans ((World.cell?_setCell_far _ _ _ _ nGB).trans ((World.cell?_setCell_far _ _ _ _ nGB).trans ((World.cell?_setCell_far _ _ _ _ nVB).trans sB6))))))); clear hown hgrow hv6 hF6 hB6))
  all_goals
    clear sB8 sB9
    go_wp2_with fail
    go_end0
    rw [HT.out]
    refine ⟨rfl, fin_iv2 (fin_iv (m := 4) HF6.out HL.out HLL.out.1 HLL.out.2 rfl HC6.out HI6.out HP6.out HQ.out.1 HQ.out.2.1 HQ.out.2.2.2.1 rfl ?_)⟩
    first
      | (left; simp only [World.setCells, Nat.add_assoc, Nat.reduceAdd]; done)
      | (right; simp only [World.setCells, Nat.add_assoc, Nat.reduceAdd]; done)
def ld_val2 : Op := .load 80 (.tmp 2)
def le_val2 : Op := .load 80 (.tmp 5)
theorem val2_is (P V B a ak d : Nat) (s : ByteArray) (l : List (ByteArray × Jv.J)) (k : Nat) (hk : k < l.length) (W0 W u : World) (items : Value) (hP : P < W.heap.size) (hV : V < W.heap.size) (hB : B < W.heap.size) (hPV : V ≠ P) (hBP : B ≠ P) (hBV : B ≠ V) (hb : W.cell? ⟨B, 0, none⟩ = some (.pointer (some ⟨P, 0, none⟩))) (hP0 : W0.heap.size ≤ P) (hV0 : W0.heap.size ≤ V) (hW : Below W0.heap.size W0 W)
    (hl : l.length ≤ 1000000) (hi : Iv P V a 5 W u (.slice none 0 0) items) (hr : MRow W.heap.size u items (l.take k)) (hp : Ps P s ak d u) (hv : ∀ x v, Ps P s ak d x → Below W0.heap.size W0 x → (MRow W.heap.size x v (l.take k)) → MC P s l[k] ak d x v) :
    Calls Tryz.prog 144 #[.pointer (some ⟨V, 0, none⟩), .pointer (some ⟨B, 0, none⟩)] u fun e w' => e = .returned (.tuple #[]) ∧ (∃ it, Iv P V a 5 W w' (.slice none 0 0) it ∧ MRow W.heap.size w' it (l.take (k + 1))) ∧ Ps P s (ak + (Jv.encP l[k]).length) d w' := by
  have HB0 := Lib.hid (hi.base hW hP0 hV0)
  have y0 := hi.cell hb hBP hBV
  have v4 := Me.box_at (j := 5) hi.vb rfl
  have HRW := Lib.hid hr
  obtain ⟨ti, tz, hi', hz0, hz1, hz2, hz3⟩ := info_sz infoM
  have HI := Lib.hid (And.intro hi' (And.intro hz0 (And.intro hz1 (And.intro hz2 hz3))))
  obtain ⟨L, hL, ho, hE⟩ := hr
  obtain ⟨ad, cap, rfl⟩ := own_slice ho
  have HLk : (l.take k).length = k := by rw [List.length_take]; omega
  have HLL := Lib.hid (And.intro HLk ((hE u (fun _ _ _ _ => rfl)).1.trans HLk))
  rw [HLk] at ho v4 hi hE HRW
  have HO := Lib.hid ho
  have HT := Lib.hid (show l.take (k + 1) = l.take k ++ [l[k]] by rw [List.take_add_one, List.getElem?_eq_getElem hk]; rfl)
  have HE := Lib.hid hE
  have HL := Lib.hid hL
  have HIU := Lib.hid hi
  have HFL := Lib.hid (show L.flatten.length = k * 9 by rw [flat_len hL.1, (hE u (fun _ _ _ _ => rfl)).1, HLk])
  have HQ := Lib.hid (And.intro hP (And.intro hV (And.intro hB (And.intro hPV (And.intro hBP hBV)))))
  have hkl : k + 1 ≤ 1000000 := by omega
  have HPU := Lib.hid hp
  have HV := Lib.hid hv
  have HSU := Lib.hid hi.size
  have BD := Lib.hid ((Below.refl u.heap.size u).drew)
  have BZ := Lib.hid ((Below.refl u.heap.size u).alloc (Nat.le_refl _) (.cells zero9.toArray 144)).drew
  have v4z := cell_under v4 ((Below.refl u.heap.size u).alloc (Nat.le_refl _) (.cells zero9.toArray 144))
  have j1 : k < k + 1 := Nat.lt_succ_self k
  have j2 : (0 : Int) ≤ (k : Int) := by omega
  have j3 : (k : Int) < (k : Int) + 1 := by omega
  generalize hel : l[k] = el at HT hv HV ⊢
  clear ho hE hL hp hv hi hi' hz0 hz1 hz2 hz3 HLk hW hb hP hV hB hPV hBP hBV hP0 hV0 hl
  go_enter Tryz.func144, Tryz.ntmps144
  go_wp2_with fail
  have hld : ld_val2 = .load 80 (.tmp 2) := rfl
  rw [← hld]
  have hle : le_val2 = .load 80 (.tmp 5) := rfl
  rw [← hle]
  go_region_held3 (fun w' => w'.cell? ⟨B, 0, none⟩ = some (.pointer (some ⟨P, 0, none⟩))) (first | (with_reducible assumption) | go_keep)
    (first
      | (go_at_call 145; have C5 := HV.out u.drew _ (HPU.out.below BD.out) (HB0.out.trans (BD.out.mono HB0.out.size)) (HRW.out.below BD.out); unfold MC at C5; (with_reducible refine C5.mono ?_); clear C5; rintro e w5 ⟨⟨vk, vb, vn, vt, a1, n1, c1, a2, n2, c2, vp, vq, rfl, hv5⟩, hp5, hs5⟩; have HP5 := Lib.hid hp5; have hs := (Sd.of_below (P := P) BD.out).trans hs5; have HS5 := Lib.hid hs; have HV5 := Lib.hid (show ∀ w', Agree u.heap.size w5 w' none → JvP w' el [.string el.1, .int .i64 vk, .bool vb, .int .i64 vn, .string vt, .slice a1 n1 c1, .slice a2 n2 c2, .int .i64 vp, .int .i64 vq] from fun w' hw => hv5 w' hw); have HI5 := Lib.hid (HIU.out.sd hs HQ.out.2.2.2.1); have sV := hs.cell v4 HQ.out.2.2.2.1; have sB := hs.cell y0 HQ.out.2.2.2.2.1; have sVz := cell_under sV ((Below.refl w5.heap.size w5).alloc (Nat.le_refl _) (.cells zero9.toArray 144)); clear hv5 hp5 hs5 hs)
      | (go_at_call 145; have C5 := HV.out ((u.alloc (.cells zero9.toArray 144)).drew) _ (HPU.out.below BZ.out) (HB0.out.trans (BZ.out.mono HB0.out.size)) (HRW.out.below BZ.out); unfold MC at C5; (with_reducible refine C5.mono ?_); clear C5; rintro e w5 ⟨⟨vk, vb, vn, vt, a1, n1, c1, a2, n2, c2, vp, vq, rfl, hv5⟩, hp5, hs5⟩; have HP5 := Lib.hid hp5; have hs := (Sd.of_below (P := P) BZ.out).trans hs5; have HZ5 := Lib.hid (own_kept (w' := w5) (one_row (w := u) (c := zero9) (sz := 9) (t := 144) rfl) (fun q e => hs5.block q (own_lt (one_row (w := u) (c := zero9) (sz := 9) (t := 144) rfl) e).2 (by have h1 := (own_lt (one_row (w := u) (c := zero9) (sz := 9) (t := 144) rfl) e).1; have h2 := HSU.out; have h3 := HQ.out.1; omega))); have HS5 := Lib.hid hs; have HV5 := Lib.hid (show ∀ w', Agree u.heap.size w5 w' none → JvP w' el [.string el.1, .int .i64 vk, .bool vb, .int .i64 vn, .string vt, .slice a1 n1 c1, .slice a2 n2 c2, .int .i64 vp, .int .i64 vq] from fun w' hw => hv5 w' (fun i h1 h2 h3 => hw i (Nat.le_trans BZ.out.size h1) h2 h3)); have HI5 := Lib.hid (HIU.out.sd hs HQ.out.2.2.2.1); have sV := hs.cell v4 HQ.out.2.2.2.1; have sB := hs.cell y0 HQ.out.2.2.2.2.1; clear hv5 hp5 hs5 hs)
      | (refine step_append_row _ rfl (.tmp 3) (.tmp 9) 80 rfl W.heap.size u.heap.size 144 ti tz 9 120 Tryz.underlying80 HI.out.1 HI.out.2.1 HI.out.2.2.1 HI.out.2.2.2.1 HI.out.2.2.2.2 (by decide) (.slice ad k cap) k L.flatten rfl ?o1 _ 1 zero9 rfl ?o2 zero9_one ?a3 ?a4 ?a5 ?_; (case o1 => exact (own_kept (w' := (w5.alloc (.cells zero9.toArray 144))) HO.out (fun q e => (((Below.refl w5.heap.size w5).alloc (Nat.le_refl _) (.cells zero9.toArray 144)).block q (Nat.lt_of_lt_of_le (own_lt HO.out e).2 HS5.out.size)).trans (HS5.out.block q (own_lt HO.out e).2 (fun e2 => by have := (own_lt HO.out e).1; have := HQ.out.1; omega))))); (case o2 => exact (own_base (one_row (w := w5) (c := zero9) (sz := 9) rfl) HS5.out.size)); (case a3 => (unfold maxLen; omega)); (case a4 => omega); (case a5 => exact (Nat.le_trans HSU.out (Nat.le_trans HS5.out.size ((Below.refl w5.heap.size w5).alloc (Nat.le_refl _) (.cells zero9.toArray 144)).size))); intro v6 w6 hown hgrow hv6; have BX := (Below.refl w5.heap.size w5).alloc (Nat.le_refl _) (.cells zero9.toArray 144); obtain ⟨g6, c6, rfl, hF6, hB6⟩ := fin_app (El := JvP) (cs := [.string el.1, .int .i64 vk, .bool vb, .int .i64 vn, .string vt, .slice a1 n1 c1, .slice a2 n2 c2, .int .i64 vp, .int .i64 vq]) HQ.out.1 HO.out HE.out HS5.out HSU.out BX HV5.out hown hgrow hv6; have HF6 := Lib.hid hF6; have HI6 := Lib.hid (HI5.out.bel hB6 HQ.out.2.1); have HP6 := Lib.hid (HP5.out.bel hB6 HQ.out.1); have sV6 := cell_bel sV hB6 HQ.out.2.1; have sB6 := cell_bel sB hB6 HQ.out.2.2.1; have HG6 := Lib.hid (show W.heap.size ≤ g6 ∧ g6 < w6.heap.size from own_lt hF6.own rfl); have HC6 := Lib.hid (show ([.string el.1, .int .i64 vk, .bool vb, .int .i64 vn, .string vt, .slice a1 n1 c1, .slice a2 n2 c2, .int .i64 vp, .int .i64 vq] : List Value).length = 9 ∧ (∀ x ∈ ([.string el.1, .int .i64 vk, .bool vb, .int .i64 vn, .string vt, .slice a1 n1 c1, .slice a2 n2 c2, .int .i64 vp, .int .i64 vq] : List Value), x.oneCell' = true) from ⟨rfl, by simp [Value.oneCell']⟩); obtain ⟨fr6, hc6⟩ := stf (n := 0) hF6.own HFL.out; have e0 : w6.cell? ⟨g6, k * 9, none⟩ = some _ := hc6 0 _ rfl; have e1 := hc6 1 _ rfl; have e2 := hc6 2 _ rfl; have e3 := hc6 3 _ rfl; have e4 := hc6 4 _ rfl; have e5 := hc6 5 _ rfl; have e6 := hc6 6 _ rfl; have e7 := hc6 7 _ rfl; have e8 := hc6 8 _ rfl; have fV6 := frozen_of_row _ V 5 _ _ HI6.out.vb; have nBV := HQ.out.2.2.2.2.2; have nGV := (show g6 ≠ V by have := HG6.out.1; have := HQ.out.2.1; omega); have nVB := HQ.out.2.2.2.2.2.symm; have nGB := (show g6 ≠ B by have := HG6.out.1; have := HQ.out.2.2.1; omega); have nBG := (show B ≠ g6 by have := HG6.out.1; have := HQ.out.2.2.1; omega); clear hc6; have sB8 : (((((((((w6.setCell ⟨g6, k * 9, none⟩ (.string el.1)).setCell ⟨g6, k * 9 + 1, none⟩ (.int .i64 vk)).setCell ⟨g6, k * 9 + 2, none⟩ (.bool vb)).setCell ⟨g6, k * 9 + 3, none⟩ (.int .i64 vn)).setCell ⟨g6, k * 9 + 4, none⟩ (.string vt)).setCell ⟨g6, k * 9 + 5, none⟩ (.slice a1 n1 c1)).setCell ⟨g6, k * 9 + 6, none⟩ (.slice a2 n2 c2)).setCell ⟨g6, k * 9 + 7, none⟩ (.int .i64 vp)).setCell ⟨g6, k * 9 + 8, none⟩ (.int .i64 vq)).cell? ⟨B, 0, none⟩ = some (.pointer (some ⟨P, 0, none⟩)) := (World.cell?_setCell_far _ _ _ _ nGB).trans ((World.cell?_setCell_far _ _ _ _ nGB).trans ((World.cell?_setCell_far _ _ _ _ nGB).trans ((World.cell?_setCell_far _ _ _ _ nGB).trans ((World.cell?_setCell_far _ _ _ _ nGB).trans ((World.cell?_setCell_far _ _ _ _ nGB).trans ((World.cell?_setCell_far _ _ _ _ nGB).trans ((World.cell?_setCell_far _ _ _ _ nGB).trans ((World.cell?_setCell_far _ _ _ _ nGB).trans (sB6))))))))); have sB9 : ((((((((((w6.setCell ⟨V, 5, none⟩ (.slice (some ⟨g6, 0, none⟩) (k + 1) c6)).setCell ⟨g6, k * 9, none⟩ (.string el.1)).setCell ⟨g6, k * 9 + 1, none⟩ (.int .i64 vk)).setCell ⟨g6, k * 9 + 2, none⟩ (.bool vb)).setCell ⟨g6, k * 9 + 3, none⟩ (.int .i64 vn)).setCell ⟨g6, k * 9 + 4, none⟩ (.string vt)).setCell ⟨g6, k * 9 + 5, none⟩ (.slice a1 n1 c1)).setCell ⟨g6, k * 9 + 6, none⟩ (.slice a2 n2 c2)).setCell ⟨g6, k * 9 + 7, none⟩ (.int .i64 vp)).setCell ⟨g6, k * 9 + 8, none⟩ (.int .i64 vq)).cell? ⟨B, 0, none⟩ = some (.pointer (some ⟨P, 0, none⟩)) := (World.cell?_setCell_far _ _ _ _ nGB).trans ((World.cell?_setCell_far _ _ _ _ nGB).trans ((World.cell?_setCell_far _ _ _ _ nGB).trans ((World.cell?_setCell_far _ _ _ _ nGB).trans ((World.cell?_setCell_far _ _ _ _ nGB).trans ((World.cell?_setCell_far _ _ _ _ nGB).trans ((World.cell?_setCell_far _ _ _ _ nGB).trans ((World.cell?_setCell_far _ _ _ _ nGB).trans ((World.cell?_setCell_far _ _ _ _ nGB).trans ((World.cell?_setCell_far _ _ _ _ nVB).trans sB6))))))))); clear hown hgrow hv6 hF6 hB6)
      | (refine step_append_row _ rfl (.tmp 3) (.tmp 9) 80 rfl W.heap.size u.heap.size 144 ti tz 9 120 Tryz.underlying80 HI.out.1 HI.out.2.1 HI.out.2.2.1 HI.out.2.2.2.1 HI.out.2.2.2.2 (by decide) (.slice ad k cap) k L.flatten rfl ?o1 _ 1 zero9 rfl ?o2 zero9_one ?a3 ?a4 ?a5 ?_; (case o1 => exact (own_kept (w' := w5) HO.out (fun q e => HS5.out.block q (own_lt HO.out e).2 (fun e2 => by have := (own_lt HO.out e).1; have := HQ.out.1; omega)))); (case o2 => exact HZ5.out); (case a3 => (unfold maxLen; omega)); (case a4 => omega); (case a5 => exact (Nat.le_trans HSU.out HS5.out.size)); intro v6 w6 hown hgrow hv6; have BX := Below.refl w5.heap.size w5; obtain ⟨g6, c6, rfl, hF6, hB6⟩ := fin_app (El := JvP) (cs := [.string el.1, .int .i64 vk, .bool vb, .int .i64 vn, .string vt, .slice a1 n1 c1, .slice a2 n2 c2, .int .i64 vp, .int .i64 vq]) HQ.out.1 HO.out HE.out HS5.out HSU.out BX HV5.out hown hgrow hv6; have HF6 := Lib.hid hF6; have HI6 := Lib.hid (HI5.out.bel hB6 HQ.out.2.1); have HP6 := Lib.hid (HP5.out.bel hB6 HQ.out.1); have sV6 := cell_bel sV hB6 HQ.out.2.1; have sB6 := cell_bel sB hB6 HQ.out.2.2.1; have HG6 := Lib.hid (show W.heap.size ≤ g6 ∧ g6 < w6.heap.size from own_lt hF6.own rfl); have HC6 := Lib.hid (show ([.string el.1, .int .i64 vk, .bool vb, .int .i64 vn, .string vt, .slice a1 n1 c1, .slice a2 n2 c2, .int .i64 vp, .int .i64 vq] : List Value).length = 9 ∧ (∀ x ∈ ([.string el.1, .int .i64 vk, .bool vb, .int .i64 vn, .string vt, .slice a1 n1 c1, .slice a2 n2 c2, .int .i64 vp, .int .i64 vq] : List Value), x.oneCell' = true) from ⟨rfl, by simp [Value.oneCell']⟩); obtain ⟨fr6, hc6⟩ := stf (n := 0) hF6.own HFL.out; have e0 : w6.cell? ⟨g6, k * 9, none⟩ = some _ := hc6 0 _ rfl; have e1 := hc6 1 _ rfl; have e2 := hc6 2 _ rfl; have e3 := hc6 3 _ rfl; have e4 := hc6 4 _ rfl; have e5 := hc6 5 _ rfl; have e6 := hc6 6 _ rfl; have e7 := hc6 7 _ rfl; have e8 := hc6 8 _ rfl; have fV6 := frozen_of_row _ V 5 _ _ HI6.out.vb; have nBV := HQ.out.2.2.2.2.2; have nGV := (show g6 ≠ V by have := HG6.out.1; have := HQ.out.2.1; omega); have nVB := HQ.out.2.2.2.2.2.symm; have nGB := (show g6 ≠ B by have := HG6.out.1; have := HQ.out.2.2.1; omega); have nBG := (show B ≠ g6 by have := HG6.out.1; have := HQ.out.2.2.1; omega); clear hc6; have sB8 : (((((((((w6.setCell ⟨g6, k * 9, none⟩ (.string el.1)).setCell ⟨g6, k * 9 + 1, none⟩ (.int .i64 vk)).setCell ⟨g6, k * 9 + 2, none⟩ (.bool vb)).setCell ⟨g6, k * 9 + 3, none⟩ (.int .i64 vn)).setCell ⟨g6, k * 9 + 4, none⟩ (.string vt)).setCell ⟨g6, k * 9 + 5, none⟩ (.slice a1 n1 c1)).setCell ⟨g6, k * 9 + 6, none⟩ (.slice a2 n2 c2)).setCell ⟨g6, k * 9 + 7, none⟩ (.int .i64 vp)).setCell ⟨g6, k * 9 + 8, none⟩ (.int .i64 vq)).cell? ⟨B, 0, none⟩ = some (.pointer (some ⟨P, 0, none⟩)) := (World.cell?_setCell_far _ _ _ _ nGB).trans ((World.cell?_setCell_far _ _ _ _ nGB).trans ((World.cell?_setCell_far _ _ _ _ nGB).trans ((World.cell?_setCell_far _ _ _ _ nGB).trans ((World.cell?_setCell_far _ _ _ _ nGB).trans ((World.cell?_setCell_far _ _ _ _ nGB).trans ((World.cell?_setCell_far _ _ _ _ nGB).trans ((World.cell?_setCell_far _ _ _ _ nGB).trans ((World.cell?_setCell_far _ _ _ _ nGB).trans (sB6))))))))); have sB9 : ((((((((((w6.setCell ⟨V, 5, none⟩ (.slice (some ⟨g6, 0, none⟩) (k + 1) c6)).setCell ⟨g6, k * 9, none⟩ (.string el.1)).setCell ⟨g6, k * 9 + 1, none⟩ (.int .i64 vk)).setCell ⟨g6, k * 9 + 2, none⟩ (.bool vb)).setCell ⟨g6, k * 9 + 3, none⟩ (.int .i64 vn)).setCell ⟨g6, k * 9 + 4, none⟩ (.string vt)).setCell ⟨g6, k * 9 + 5, none⟩ (.slice a1 n1 c1)).setCell ⟨g6, k * 9 + 6, none⟩ (.slice a2 n2 c2)).setCell ⟨g6, k * 9 + 7, none⟩ (.int .i64 vp)).setCell ⟨g6, k * 9 + 8, none⟩ (.int .i64 vq)).cell? ⟨B, 0, none⟩ = some (.pointer (some ⟨P, 0, none⟩)) := (World.cell?_setCell_far _ _ _ _ nGB).trans ((World.cell?_setCell_far _ _ _ _ nGB).trans ((World.cell?_setCell_far _ _ _ _ nGB).trans ((World.cell?_setCell_far _ _ _ _ nGB).trans ((World.cell?_setCell_far _ _ _ _ nGB).trans ((World.cell?_setCell_far _ _ _ _ nGB).trans ((World.cell?_setCell_far _ _ _ _ nGB).trans ((World.cell?_setCell_far _ _ _ _ nGB).trans ((World.cell?_setCell_far _ _ _ _ nGB).trans ((World.cell?_setCell_far _ _ _ _ nVB).trans sB6))))))))); clear hown hgrow hv6 hF6 hB6))
  all_goals
    clear sB8 sB9
    go_wp2_with fail
    go_end0
    rw [HT.out]
    refine ⟨rfl, fin_iv2 (fin_iv (m := 5) HF6.out HL.out HLL.out.1 HLL.out.2 rfl HC6.out HI6.out HP6.out HQ.out.1 HQ.out.2.1 HQ.out.2.2.2.1 rfl ?_)⟩
    first
      | (left; simp only [World.setCells, Nat.add_assoc, Nat.reduceAdd]; done)
      | (right; simp only [World.setCells, Nat.add_assoc, Nat.reduceAdd]; done)
end Go.Proofs.YtjaojenalodolaaGreatDoor.Pj
