/- The store's object, walked. -/
import Derived.Test.YtbodoncomeegpaaGreatDoorMoE3
namespace Go.Proofs.YtbodoncomeegpaaGreatDoor.Me
open Go Go.RowKit Go.Proofs.YtbodoncomeegpaaGreatDoor Go.Proofs.YtbodoncomeegpaaGreatDoor.Rw Go.Proofs.YtbodoncomeegpaaGreatDoor.Vf Go.Proofs.YtbodoncomeegpaaGreatDoor.Mw
set_option linter.unusedVariables false

set_option maxRecDepth 100000
set_option maxHeartbeats 16000000
/-- A row of values, cell by cell. -/
theorem vals_at {w : World} {v : Value} {l : List Jv.J} {L : List (List Value)} (h : Rw w v 7 L) (hA : All Jv w l L) : ∃ g off ad cap, v = .slice ad l.length cap ∧ (0 < l.length → ad = some ⟨g, off, none⟩) ∧
    ∀ j (hj : j < l.length) (hL : j < L.length), ∃ k b n s a1 n1 c1 a2 n2 c2 p, L[j] = vCells k b n s (.slice a1 n1 c1) (.slice a2 n2 c2) p ∧
      w.cell? ⟨g, off + j * 7, none⟩ = some (.int .i64 k) ∧ w.cell? ⟨g, off + j * 7 + 1, none⟩ = some (.bool b) ∧ w.cell? ⟨g, off + j * 7 + 2, none⟩ = some (.int .i64 n) ∧ w.cell? ⟨g, off + j * 7 + 3, none⟩ = some (.string s) ∧ w.cell? ⟨g, off + j * 7 + 4, none⟩ = some (.slice a1 n1 c1) ∧ w.cell? ⟨g, off + j * 7 + 5, none⟩ = some (.slice a2 n2 c2) ∧ w.cell? ⟨g, off + j * 7 + 6, none⟩ = some (.int .i64 p) := by
  obtain ⟨g, off, ad, cap, rfl, h2, h3⟩ := h
  refine ⟨g, off, ad, cap, by rw [hA.1], by rw [← hA.1]; exact h2, fun j hj hL => ?_⟩
  obtain ⟨k, b, n, s, a1, n1, c1, a2, n2, c2, p, e⟩ := Jv_form (hA.2 j hj hL)
  have at' : ∀ q (hq : q < 7), ∃ x, (vCells k b n s (.slice a1 n1 c1) (.slice a2 n2 c2) p)[q]? = some x ∧ w.cell? ⟨g, off + j * 7 + q, none⟩ = some x := fun q hq => by
    have := h3 j hL q hq
    rw [e] at this
    exact this
  refine ⟨k, b, n, s, a1, n1, c1, a2, n2, c2, p, e, ?_, ?_, ?_, ?_, ?_, ?_, ?_⟩
  · obtain ⟨x, hx, hc⟩ := at' 0 (by omega); simp only [vCells, List.getElem?_cons_zero, Option.some.injEq] at hx; subst hx; exact hc
  · obtain ⟨x, hx, hc⟩ := at' 1 (by omega); simp only [vCells, List.getElem?_cons_succ, List.getElem?_cons_zero, Option.some.injEq] at hx; subst hx; exact hc
  · obtain ⟨x, hx, hc⟩ := at' 2 (by omega); simp only [vCells, List.getElem?_cons_succ, List.getElem?_cons_zero, Option.some.injEq] at hx; subst hx; exact hc
  · obtain ⟨x, hx, hc⟩ := at' 3 (by omega); simp only [vCells, List.getElem?_cons_succ, List.getElem?_cons_zero, Option.some.injEq] at hx; subst hx; exact hc
  · obtain ⟨x, hx, hc⟩ := at' 4 (by omega); simp only [vCells, List.getElem?_cons_succ, List.getElem?_cons_zero, Option.some.injEq] at hx; subst hx; exact hc
  · obtain ⟨x, hx, hc⟩ := at' 5 (by omega); simp only [vCells, List.getElem?_cons_succ, List.getElem?_cons_zero, Option.some.injEq] at hx; subst hx; exact hc
  · obtain ⟨x, hx, hc⟩ := at' 6 (by omega); simp only [vCells, List.getElem?_cons_succ, List.getElem?_cons_zero, Option.some.injEq] at hx; subst hx; exact hc
theorem keys_cell (w : World) (ks : List ByteArray) (t : TypeId) (j : Nat) (hj : j < ks.length) : (w.alloc (.cells (ks.map Value.string).toArray t)).cell? ⟨w.heap.size, j, none⟩ = some (.string ks[j]) := by
  unfold World.cell?
  simp only [heap_alloc_new]
  simp [hj]
abbrev Spaces (w : World) : Prop := Lib.TabIs Tryz.prog w "strings.asciiSpace" .u8 Lib.asciiSpaceTab
theorem fields_is (s : ByteArray) (ks : List ByteArray) (w : World) (hs : s.size < 1000) (hascii : ∀ (j : Nat) b, s.data.toList[j]? = some b → b.toNat < 128) (hk : (Lib.fields s.data.toList).map (fun l => (⟨l.toArray⟩ : ByteArray)) = ks) (htab : Spaces w) :
    Calls Tryz.prog 73 #[.string s] w fun e w' => e = .returned (.slice (some ⟨w.heap.size, 0, none⟩) ks.length ks.length) ∧ w' = w.alloc (.cells (ks.map Value.string).toArray 9) := by
  subst hk
  have := Tryz.strings_Fields s w (by omega) hascii htab
  rw [List.length_map, List.map_map]
  exact this
theorem zip_take {α β : Type} (a : List α) (b : List β) {k : Nat} (ha : k < a.length) (hb : k < b.length) : (a.zip b).take (k + 1) = (a.zip b).take k ++ [(a[k], b[k])] := by
  rw [List.take_add_one, List.getElem?_eq_getElem (by rw [List.length_zip]; omega), List.getElem_zip]
  rfl
theorem obj_is (s : ByteArray) (ks : List ByteArray) (S : Nat) (v : Value) (l : List Jv.J) (W : World) (hs : s.size < 1000) (hascii : ∀ (j : Nat) b, s.data.toList[j]? = some b → b.toNat < 128) (hk : (Lib.fields s.data.toList).map (fun l => (⟨l.toArray⟩ : ByteArray)) = ks) (h : VRow S W v l) (hlen : ks.length = l.length) (hl : l.length ≤ 1000) (hS : S ≤ W.heap.size) (htab : ∀ u, Below W.heap.size W u → Spaces u) :
    Calls Tryz.prog 42 #[.string s, v] W fun e w' => (∃ a2 n2, e = .returned (.agg #[.int .i64 5, .bool false, .int .i64 0, .string ⟨#[]⟩, .slice none 0 0, .slice a2 (ks.zip l).length n2, .int .i64 0]) ∧ Val S w' (.obj (ks.zip l)) (vCells 5 false 0 ⟨#[]⟩ nilV (.slice a2 (ks.zip l).length n2) 0)) ∧ Below W.heap.size W w' := by
  obtain ⟨L, hL, ho, hE⟩ := h
  obtain ⟨L', hR, hn', hL', hA'⟩ := Row.rw (El := Jv) ⟨L, hL, ho, hE⟩
  have hA := hE W (fun _ _ _ _ => rfl)
  have hRw := Rw.of_own ho hA.1 (fun j hj k hk => flat_at hL.1 j hj k hk) (fun j hj => hL.1 _ (List.getElem_mem hj))
  obtain ⟨g, off, ad, cap, rfl, had, hcells⟩ := vals_at hRw hA
  clear L' hR hn' hL' hA'
  obtain ⟨m, hm⟩ : ∃ m, l.length = m := ⟨_, rfl⟩
  rw [hm] at had hlen hl hE ⊢
  have HM := Lib.hid hm
  have HAD := Lib.hid had
  have HC := Lib.hid hcells
  have HE := Lib.hid hE
  have HA := Lib.hid hA.1
  have HLn := Lib.hid hlen
  have HS := Lib.hid hS
  have HT := Lib.hid htab
  have HZ := Lib.hid (heap_alloc_new W (.cells #[.int .i64 0, .bool false, .int .i64 0, .string ByteArray.empty, .slice none 0 0, .slice none 0 0, .int .i64 0] 98))
  have HB0 := Lib.hid ((Below.refl W.heap.size W).alloc (Nat.le_refl _) (.cells #[.int .i64 0, .bool false, .int .i64 0, .string ByteArray.empty, .slice none 0 0, .slice none 0 0, .int .i64 0] 98))
  have HSZ := Lib.hid (show W.heap.size < (W.alloc (.cells #[.int .i64 0, .bool false, .int .i64 0, .string ByteArray.empty, .slice none 0 0, .slice none 0 0, .int .i64 0] 98)).heap.size from Rw.lt_of_heap HZ.out)
  have CF := Lib.hid (fun u (hu : Below W.heap.size W u) => fields_is s ks u hs hascii hk (htab u hu))
  obtain ⟨ti, tz, hi, hz0, hz1, hz2, hz3⟩ := info_sz infoM
  have HI := Lib.hid (And.intro hi (And.intro hz0 (And.intro hz1 (And.intro hz2 hz3))))
  clear ho hL hE hA hRw had hcells hS htab hs hascii hk hm hi hz0 hz1 hz2 hz3
  go_enter Tryz.func42, Tryz.ntmps42
  go_wp2_with fail
  change Calls _ _ _ (W.alloc (.cells #[.int .i64 0, .bool false, .int .i64 0, .string ByteArray.empty, .slice none 0 0, .slice none 0 0, .int .i64 0] 98)) _
  generalize W.alloc (.cells #[.int .i64 0, .bool false, .int .i64 0, .string ByteArray.empty, .slice none 0 0, .slice none 0 0, .int .i64 0] 98) = w0 at HZ HB0 HSZ ⊢
  refine (CF.out _ HB0.out).mono ?_
  rintro e w1 ⟨rfl, hw1⟩
  rw [hlen]
  have HK := Lib.hid (fun j (hj : j < ks.length) => keys_cell w0 ks 9 j hj)
  rw [← hw1] at HK
  have hb1 : Below w0.heap.size w0 w1 := by rw [hw1]; exact (Below.refl _ _).alloc (Nat.le_refl _) _
  have HB1 := Lib.hid (below_seq HB0.out hb1)
  have HZ1 := Lib.hid ((hb1.block _ HSZ.out).trans HZ.out)
  have HLT := Lib.hid (show w0.heap.size < w1.heap.size by rw [hw1]; show _ < (w0.heap.push _).size; rw [Array.size_push]; omega)
  obtain ⟨F, hF⟩ : ∃ F, w0.heap.size = F := ⟨_, rfl⟩
  have HSF := Lib.hid (show W.heap.size < F from hF ▸ HSZ.out)
  rw [hF] at HK HLT ⊢
  clear hw1 hb1 HZ HB0 HSZ CF hF
  go_wp2_with fail
  go_loopw [5, 11] (fun o x wr => ∃ k : Nat, k ≤ m ∧ x = .int .i64 k ∧ Hid (∃ M, Flat 9 M ∧ wr.ownsRow S 129 9 o k M.flatten ∧ ∀ u, Agree S W u (Value.ownBlock (.slice ad m cap)) → All JvP u ((ks.zip l).take k) M) ∧ Hid (∀ q, o.ownBlock = some q → w1.heap.size ≤ q) ∧ Hid (Below w1.heap.size w1 wr)) (fun o x _ => m - (intOf x).toNat)
  case atStart => exact ⟨0, Nat.zero_le _, rfl, Lib.hid ⟨[], ⟨fun c hc => absurd hc (by simp), fun u hu => absurd hu (by simp)⟩, ⟨by simp, .inl ⟨rfl, rfl⟩⟩, fun u _ => ⟨rfl, fun j hj => absurd hj (by simp)⟩⟩, Lib.hid (fun q hq => absurd hq (by simp [Value.ownBlock])), Lib.hid (Below.refl _ _)⟩
  case round =>
    obtain ⟨k, hk, rfl, hr, hq, hb⟩ := hrel
    by_cases hlt : k < m
    · obtain rfl := HAD.out (by omega)
      have hkl : k < l.length := by rw [HM.out]; exact hlt
      have hkL : k < L.length := by rw [HA.out]; exact hkl
      have hkk : k < ks.length := by rw [HLn.out]; exact hlt
      obtain ⟨vk, vb, vn, vs, a1, n1, c1, a2, n2, c2, vp, eL, y0, y1, y2, y3, y4, y5, y6⟩ := HC.out k hkl hkL
      have hbw := below_seq HB1.out hb.out
      replace y0 := cell_under y0 hbw
      replace y1 := cell_under y1 hbw
      replace y2 := cell_under y2 hbw
      replace y3 := cell_under y3 hbw
      replace y4 := cell_under y4 hbw
      replace y5 := cell_under y5 hbw
      replace y6 := cell_under y6 hbw
      have x0 := cell_under (HK.out k hkk) hb.out
      have HZT := Lib.hid (zip_take ks l hkk hkl)
      have HEL := Lib.hid (fun u (hu : Agree S W u (Value.ownBlock (.slice (some ⟨g, off, none⟩) m cap))) => by have := (HE.out u hu).2 k hkl hkL; rw [eL] at this; exact this)
      have HLK := Lib.hid (show ((ks.zip l).take k).length = k by rw [List.length_take, List.length_zip, HLn.out, HM.out]; omega)
      generalize ks[k] = key at x0 HZT
      generalize l[k] = el at HZT HEL
      have i1 : (k : Int) < (m : Int) := by omega
      have i0 : (0 : Int) ≤ (k : Int) := by omega
      clear eL
      go_wp2_with fail
      refine (member_is key vk vb vn vs a1 n1 c1 a2 n2 c2 vp _).mono ?_
      rintro e w2 ⟨rfl, hb2⟩
      have HB2 := Lib.hid (below_seq hb.out hb2)
      have hba := (Below.refl w2.heap.size w2).alloc (Nat.le_refl _) (.cells #[.string key, .int .i64 vk, .bool vb, .int .i64 vn, .string vs, .slice a1 n1 c1, .slice a2 n2 c2, .int .i64 vp, .int .i64 0] 129)
      have HBA := Lib.hid (below_seq HB2.out hba)
      have HBX := Lib.hid (below_seq hb2 hba)
      have HO := Lib.hid (one_row (w := w2) (c := [Value.string key, .int .i64 vk, .bool vb, .int .i64 vn, .string vs, .slice a1 n1 c1, .slice a2 n2 c2, .int .i64 vp, .int .i64 0]) (sz := 9) (t := 129) rfl)
      clear hb2 hba hbw x0 y0 y1 y2 y3 y4 y5 y6
      obtain ⟨M, hL, ho, hE⟩ := hr.out
      replace ho := own_kept ho fun q hq => HBX.out.block q (own_lt ho hq).2
      clear hr
      have hone : ∀ u ∈ [Value.string key, .int .i64 vk, .bool vb, .int .i64 vn, .string vs, .slice a1 n1 c1, .slice a2 n2 c2, .int .i64 vp, .int .i64 0], u.oneCell' = true := by
        intro u hu
        simp only [List.mem_cons, List.not_mem_nil, or_false] at hu
        rcases hu with rfl | rfl | rfl | rfl | rfl | rfl | rfl | rfl | rfl <;> rfl
      have HQ := Lib.hid (And.intro hL (And.intro ho (And.intro hE hone)))
      clear hL ho hE hone
      have HSA := Lib.hid (show S ≤ (w2.alloc (.cells #[.string key, .int .i64 vk, .bool vb, .int .i64 vn, .string vs, .slice a1 n1 c1, .slice a2 n2 c2, .int .i64 vp, .int .i64 0] 129)).heap.size from Nat.le_trans HS.out (Nat.le_trans HB1.out.size HBA.out.size))
      go_wp2_with (at_builtin; (refine wpList_append_row _ rfl _ _ 96 rfl S w2.heap.size 129 ti tz 9 120 Tryz.underlying96 HI.out.1 HI.out.2.1 HI.out.2.2.1 HI.out.2.2.2.1 HI.out.2.2.2.2 (by decide) _ k M.flatten rfl HQ.out.2.1 _ 1 [Value.string key, .int .i64 vk, .bool vb, .int .i64 vn, .string vs, .slice a1 n1 c1, .slice a2 n2 c2, .int .i64 vp, .int .i64 0] rfl HO.out HQ.out.2.2.2 ?a3 ?a4 ?a5 ?_))
      case a3 => unfold maxLen; omega
      case a4 => omega
      case a5 => exact HSA.out
      intro v1 w3 hown hgrow hv1
      have HB3 := Lib.hid (below_grew hgrow HBA.out (fun q e => hq.out q e) HBA.out.size)
      have hsz : (w2.alloc (.cells #[.string key, .int .i64 vk, .bool vb, .int .i64 vn, .string vs, .slice a1 n1 c1, .slice a2 n2 c2, .int .i64 vp, .int .i64 0] 129)).heap.size = w2.heap.size + 1 := Array.size_push _
      have HQ3 : Hid (∀ q, v1.ownBlock = some q → w1.heap.size ≤ q) := Lib.hid (fun q e => by
        rcases hv1 with h | h
        · exact hq.out q (h.symm.trans e)
        · rw [h] at e
          cases e
          have := HB2.out.size
          omega)
      have HR3 : Hid (∃ M, Flat 9 M ∧ w3.ownsRow S 129 9 v1 (k + 1) M.flatten ∧ ∀ u, Agree S W u (Value.ownBlock (.slice (some ⟨g, off, none⟩) m cap)) → All JvP u ((ks.zip l).take (k + 1)) M) := Lib.hid (by
        refine ⟨M ++ [[Value.string key, .int .i64 vk, .bool vb, .int .i64 vn, .string vs, .slice a1 n1 c1, .slice a2 n2 c2, .int .i64 vp, .int .i64 0]], HQ.out.1.append (Flat.one rfl HQ.out.2.2.2), by simpa using hown, fun u hu => ?_⟩
        rw [HZT.out]
        refine (HQ.out.2.2.1 u hu).append (All.one ?_)
        unfold JvP
        exact ⟨_, 0, rfl, HEL.out u hu⟩)
      clear hown hgrow hv1 hsz
      go_wp2_with fail
      go_roundw
      case rel => exact ⟨k + 1, by omega, by go_num, HR3, HQ3, HB3⟩
      case measure => simp [intOf]; omega
    · have gl : decide ((k : Int) < (m : Int)) = false := decide_eq_false (by omega)
      obtain ⟨M, hL, ho, hE⟩ := hr.out
      have hkm : k = m := by omega
      rw [hkm] at ho
      have HE3 := Lib.hid (fun u hu => by have := hE u hu; rw [List.take_of_length_le (by rw [List.length_zip, HLn.out, HM.out]; omega)] at this; exact this)
      have HLz := Lib.hid (show (ks.zip l).length = m by rw [List.length_zip, HLn.out, HM.out]; omega)
      have HLM := Lib.hid hL
      have HBW := Lib.hid (below_seq HB1.out hb.out)
      have HZ2 := Lib.hid ((hb.out.block _ (by have := HSF.out; have := HLT.out; omega)).trans HZ1.out)
      have CO := Lib.hid (object_raw u5 m S M.flatten wr ho hL.2 (by omega))
      clear hL ho hE hr hkm
      go_wp2_with fail
      refine CO.out.mono ?_
      rintro e w2 ⟨⟨ax, nx, rfl, hv⟩, hb2⟩
      have hz2 := (hb2.block _ (Rw.lt_of_heap HZ2.out)).trans HZ2.out
      have HV := Lib.hid hv
      have HBF := Lib.hid (below_seq HBW.out hb2)
      have HLTW := Lib.hid (Rw.lt_of_heap HZ2.out)
      clear hv hb2 CO
      go_wp2_with (refine wpList_store_row rfl 98 _ _ rfl W.heap.size #[.int .i64 5, .bool false, .int .i64 0, .string ⟨#[]⟩, .slice none 0 0, .slice ax m nx, .int .i64 0] rfl rfl 98 _ hz2 (by kernel_rfl) rfl (by simp [Value.oneCell']) ?_)
      go_wp2_with fail
      have hz3 := setRow_heap w2 W.heap.size _ #[.int .i64 5, .bool false, .int .i64 0, .string ⟨#[]⟩, .slice none 0 0, .slice ax m nx, .int .i64 0] _ _ hz2
      refine bodyPost_ret (results_cell_row rfl _ _ W.heap.size _ _ _ _ rfl hz3 Tryz.underlying98 rfl (by kernel_rfl)) rfl ?_
      have hb3 := below_setRow HBF.out (Nat.le_refl _) #[.int .i64 5, .bool false, .int .i64 0, .string ⟨#[]⟩, .slice none 0 0, .slice ax m nx, .int .i64 0]
      refine ⟨⟨ax, nx, by rw [HLz.out], ?_⟩, hb3⟩
      rw [HLz.out]
      refine Val.obj HLM.out (HE3.out W (fun _ _ _ _ => rfl)).1 HE3.out hb3 ?_ (Nat.le_trans HS.out HBW.out.size)
      rw [HLz.out]
      exact own_kept HV.out fun q hq => setRow_other _ _ _ _ (by have := (own_lt HV.out hq).1; have := HLTW.out; omega)
end Go.Proofs.YtbodoncomeegpaaGreatDoor.Me
