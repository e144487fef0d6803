/- Clone: its walk. -/
import Derived.Test.YtcobjjaicckgpaaVfW28
import Derived.Deep.RegionWith
import Derived.Deep.RegionHeld3
import Derived.Deep.DrawnRows
namespace Go.Proofs.Ytcobjjaicckgpaa.Vf
open Go Go.RowKit Go.Maps Go.Proofs.Ytcobjjaicckgpaa Go.Proofs.Ytcobjjaicckgpaa.Bs
set_option linter.unusedVariables false
attribute [local go_sem ↓] Go.wp_at_zero Go.wp_at_succ

set_option maxRecDepth 100000 in
set_option maxHeartbeats 4000000 in
theorem clone_nil (W : World) :
    Calls Try.prog 29 #[.pointer none] W fun e w' => e = .returned (.pointer none) ∧ w' = W := by
  go_enter Try.func29, Try.ntmps29
  go_wp2_with fail
  go_ret
  exact ⟨rfl, rfl⟩
theorem Cl.start {W : World} {B S : Nat} {o : Loc} {bl : Nat → Nat} {a : AS} (h : Is W B o (conc bl a)) (hS : W.heap.size = S) :
    Cl W (((W.alloc (.map #[] 0)).alloc (.cells #[.map (some S)] 93)).alloc (.cells #[.map (some o.nb), .map (some o.db), .slice none 0 0, .slice none 0 0, .bool a.down, .bool a.armed, .int .i64 a.after, .int .i64 a.err] 64)) S o.Z bl bl a (.map (some o.nb)) (.map (some o.db)) (.slice none 0 0) (.slice none 0 0) 0 0 := by
  have s1 : (W.alloc (.map #[] 0)).heap.size = S + 1 := by rw [alloc_sz, hS]
  have s2 : ((W.alloc (.map #[] 0)).alloc (.cells #[.map (some S)] 93)).heap.size = S + 2 := by rw [alloc_sz, s1]
  have b0 : Below S W (W.alloc (.map #[] 0)) := (Below.refl S W).alloc (by omega) _
  have b1 := b0.alloc (by omega) (.cells #[.map (some S)] 93)
  exact
    { below := b1.alloc (by omega) _
      g := by rw [← s2]; exact heap_alloc_new _ _
      box := by rw [old_block _ _ _ (by omega), ← s1]; exact heap_alloc_new _ _
      map := by rw [old_block _ _ _ (by omega), old_block _ _ _ (by omega), ← hS]; exact new_block _ _
      files := ⟨rfl, .inl ⟨rfl, rfl⟩⟩
      pend := ⟨rfl, .inl ⟨rfl, rfl⟩⟩
      each := fun i f hi => by omega
      ge := fun i hi => by omega
      inj := fun i j hi => by omega }
theorem own_slice {w : World} {base n size : Nat} {e : TypeId} {v : Value} {xs : List Value} (h : w.ownsRow base e size v n xs) : ∃ ad c, v = .slice ad n c := by
  rcases h.2 with ⟨rfl, rfl⟩ | ⟨g, cap, cur, rfl, _⟩
  · exact ⟨none, 0, rfl⟩
  · exact ⟨_, _, rfl⟩
theorem cell_below {S : Nat} {W w : World} {ad : Addr} {v : Value} (h : W.cell? ad = some v) (hb : Below S W w) (hS : W.heap.size = S) : w.cell? ad = some v := by
  have hl := lt_of_cell h
  unfold World.cell? at h ⊢
  rw [hb.block _ (by omega)]
  exact h
theorem cell_but {b : Nat} {w w' : World} {ad : Addr} {v : Value} (h : w.cell? ad = some v) (hb : But b w w') (hn : ad.block ≠ b) : w'.cell? ad = some v := hb.cell h hn
theorem g_cells {w : World} {G : Nat} {x0 x1 x2 x3 x4 x5 x6 x7 : Value} (h : w.heap[G]? = some (Obj.cells #[x0, x1, x2, x3, x4, x5, x6, x7] 64 (0, 0))) : w.cell? ⟨G, 0, none⟩ = some x0 ∧ w.cell? ⟨G, 1, none⟩ = some x1 ∧ w.cell? ⟨G, 2, none⟩ = some x2 ∧ w.cell? ⟨G, 3, none⟩ = some x3 ∧ ∀ j, w.frozen? ⟨G, j, none⟩ = false := by
  unfold World.cell? World.frozen?
  simp only [h]
  exact ⟨rfl, rfl, rfl, rfl, fun j => by simp⟩
theorem box_cell {w : World} {b : Nat} {x : Value} {t : TypeId} (h : w.heap[b]? = some (Obj.cells #[x] t (0, 0))) : w.cell? ⟨b, 0, none⟩ = some x := by
  unfold World.cell?
  simp only [h]
  rfl
theorem Cl.cps {W wr : World} {B S n j : Nat} {o : Loc} {Z : Nat → Prop} {bl bl' : Nat → Nat} {a : AS} {nbv dbv fsv psv : Value} (h : Cl W wr S Z bl bl' a nbv dbv fsv psv n j) (hI : Is W B o (conc bl a)) (hn : a.files.length = n) (hS : W.heap.size = S) : Cps wr bl bl' S n n where
  map := h.map
  isF := fun i hi => by
    have hi2 : i < a.files.length := by omega
    obtain ⟨d0, r0, h0, -⟩ := hI.fileAt (List.getElem?_eq_getElem hi2)
    exact ⟨_, (h.below.block _ (by have := lt_of_heap h0; omega)).trans h0⟩
  inj := fun i j hi hj e => by
    have h1 : ∀ i (hi : i < a.files.length), ((a.files.mapIdx (cf bl)).map (·.blk))[i]'(by simpa using hi) = bl i := fun i hi => by simp [cf]
    have hi2 : i < a.files.length := by omega
    have hj2 : j < a.files.length := by omega
    rcases Nat.lt_trichotomy i j with hlt | heq | hlt
    · exact absurd ((h1 i hi2).trans (e.trans (h1 j hj2).symm)) (List.pairwise_iff_getElem.1 hI.dist i j (by simpa [conc] using hi2) (by simpa [conc] using hj2) hlt)
    · exact heq
    · exact absurd ((h1 j hj2).trans (e.symm.trans (h1 i hi2).symm)) (List.pairwise_iff_getElem.1 hI.dist j i (by simpa [conc] using hj2) (by simpa [conc] using hi2) hlt)
theorem Dir.of_map {w w' : World} {b : Nat} {m : Nm} (h : Dir w b m) (hk : ∀ (b : Nat) (es : Array MapEntry) (ck : Nat), w.heap[b]? = some (.map es ck) → w'.heap[b]? = some (.map es ck)) : Dir w' b m := by
  obtain ⟨es, ck, hb⟩ := h.block
  exact h.of_block (by rw [hk b es ck hb, hb])
set_option maxRecDepth 100000 in
set_option maxHeartbeats 4000000 in
theorem clone_walk (B F S : Nat) (bl : Nat → Nat) (o : Loc) (a : AS) (W : World) (h : Is W B o (conc bl a)) (hw : a.Wf) (hF : o.F = F) (hS : W.heap.size = S) (hfn : a.files.length ≤ 1000000) (hpn : a.pend.length ≤ 1000000) (hnn : a.names.length ≤ 1000000) (hdn : a.dur.length ≤ 1000000) (hso : So a.names) (hsd : So a.dur) :
    Calls Try.prog 29 #[.pointer (some ⟨F, 0, none⟩)] W fun e w' => ∃ (o' : Loc) (bl' : Nat → Nat), e = .returned (.pointer (some ⟨S + 2, 0, none⟩)) ∧ o'.F = S + 2 ∧ o'.Z = o.Z ∧ Is w' S o' (conc bl' a) ∧ Below S W w' := by
  have hmm := @run_makeMap Try.prog
  obtain ⟨i0, hi, hz0, hz1, hz2⟩ := info_parts infoP
  have II := Lib.hid (And.intro hi (And.intro hz0 (And.intro hz1 hz2)))
  clear hi hz0 hz1 hz2
  obtain ⟨c1, c2, c4, c5, c6, c7, fz⟩ := fs_flags h.fs
  have c0 := fs_at0 h.fs
  obtain ⟨c3, -⟩ := fs_at3 h.fs
  obtain ⟨fg, fad, fcap, ef, hfad, -⟩ := h.filesAt
  obtain ⟨pg, pad, pcap, ep, hpad, hpc⟩ := h.pendAt
  have hfl : (conc bl a).files.length = a.files.length := by simp [conc]
  have hpl : (conc bl a).pend.length = a.pend.length := by simp [conc]
  rw [hfl] at ef hfad
  rw [hpl] at ep hpad hpc
  rw [hF] at c0 c1 c2 c3 c4 c5 c6 c7
  rw [ef] at c2
  rw [ep] at c3
  obtain ⟨nf, hnf⟩ : ∃ nf, a.files.length = nf := ⟨_, rfl⟩
  obtain ⟨np, hnp⟩ : ∃ np, a.pend.length = np := ⟨_, rfl⟩
  rw [hnf] at ef hfad hfn c2
  rw [hnp] at ep hpad hpc hpn c3
  have HI := Lib.hid h
  have HF := Lib.hid hF
  have HNF := Lib.hid hnf
  have HNP := Lib.hid hnp
  have HFA := Lib.hid (And.intro ef hfad)
  have HPA := Lib.hid (And.intro ep hpad)
  have HW := Lib.hid hw
  have HSZ := Lib.hid hS
  have HSO := Lib.hid (And.intro hso (And.intro hsd (And.intro hnn hdn)))
  have HST := Lib.hid (Cl.start h hS)
  replace c4 : W.cell? ⟨F, 4, none⟩ = some (.bool a.down) := c4
  replace c5 : W.cell? ⟨F, 5, none⟩ = some (.bool a.armed) := c5
  replace c6 : W.cell? ⟨F, 6, none⟩ = some (.int .i64 a.after) := c6
  replace c7 : W.cell? ⟨F, 7, none⟩ = some (.int .i64 a.err) := c7
  have hFlt := lt_of_cell c0
  clear h hF hnf hnp ef hfad ep hpad hw hso hsd hnn hdn fz hfl hpl
  subst hS
  go_enter Try.func29, Try.ntmps29
  have d2 := cell_below c2 HST.out.below rfl
  go_wp2_with fail
  go_loopw [24] (fun i wr => ∃ k : Nat, k ≤ nf ∧ i = .int .i64 k ∧ Hid (∃ bl' fsv, Cl W wr W.heap.size o.Z bl bl' a (.map (some o.nb)) (.map (some o.db)) fsv (.slice none 0 0) k 0)) (fun i _ => nf - (intOf i).toNat)
  case atStart => exact ⟨0, Nat.zero_le _, rfl, bl, _, HST.out⟩
  case round =>
    clear d2 c2
    obtain ⟨k, hk, rfl, hC⟩ := hrel
    obtain ⟨bl', fsv, hC⟩ := hC.out
    by_cases hlt : k < nf
    · obtain rfl := HFA.out.2 (by omega)
      have hk3 : k < a.files.length := by rw [HNF.out]; exact hlt
      obtain ⟨f, hf⟩ : ∃ f, a.files[k]? = some f := ⟨_, List.getElem?_eq_getElem hk3⟩
      have q0 := cell_below (HI.out.fileCell HFA.out.1 (k := k) hk3) hC.below rfl
      obtain ⟨dv, rv, hcb0, hrd0, hrr0⟩ := HI.out.fileAt hf
      have hcb : wr.heap[bl k]? = some (Obj.cells #[dv, rv, .bool f.synced] 70 (0, 0)) := by rw [hC.below.block _ (lt_of_heap hcb0)]; exact hcb0
      have hbytes : ∀ (g : Nat) (cur : Array Value) (fr : Nat × Nat), W.heap[g]? = some (Obj.cells cur 5 fr) → wr.heap[g]? = W.heap[g]? := fun g cur fr hg => hC.below.block g (lt_of_heap hg)
      have hrd := hrd0.kept hbytes
      have hrr := hrr0.kept hbytes
      obtain ⟨da, dn, dc, hdv⟩ := hrd.1.slice
      obtain ⟨ra, rn, rc, hrv⟩ := hrr.1.slice
      subst hdv
      subst hrv
      obtain ⟨q1, q2, q3, -⟩ := file_cells hcb
      have isF : ∀ i, i < nf → IsF (wr.alloc (.cells #[.slice da dn dc, .slice ra rn rc, .bool f.synced] 70)) (bl i) := fun i hi => by
        have hi2 : i < a.files.length := by rw [HNF.out]; exact hi
        obtain ⟨d0, r0, h0, -⟩ := HI.out.fileAt (List.getElem?_eq_getElem hi2)
        have h1 : wr.heap[bl i]? = some (Obj.cells #[d0, r0, .bool a.files[i].synced] 70 (0, 0)) := by rw [hC.below.block _ (lt_of_heap h0)]; exact h0
        exact ⟨_, (old_block _ _ _ (lt_of_heap h1)).trans h1⟩
      have hinj : ∀ i, i < k → bl k ≠ bl i := fun i hi e => by
        have h1 : ((a.files.mapIdx (cf bl)).map (·.blk))[i]'(by simp; omega) = bl i := by simp [cf]
        have h2 : ((a.files.mapIdx (cf bl)).map (·.blk))[k]'(by simpa using hk3) = bl k := by simp [cf]
        exact List.pairwise_iff_getElem.1 HI.out.dist i k (by simp [conc]; omega) (by simp [conc]; omega) hi (h1.trans (e.symm.trans h2.symm))
      have hm1 : (wr.alloc (.cells #[.slice da dn dc, .slice ra rn rc, .bool f.synced] 70)).heap[W.heap.size]? = some (.map (cmap bl (upd bl' k wr.heap.size) k) k) := by
        rw [cmap_upd, old_block _ _ _ (lt_of_heap hC.map)]; exact hC.map
      obtain ⟨w2, hupd, hput, hB2⟩ := copies_put _ bl (upd bl' k wr.heap.size) W.heap.size k hm1 (isF k hlt) (fun i hi => ⟨isF i (by omega), hinj i hi⟩)
      have eU : upd bl' k wr.heap.size k = wr.heap.size := by simp [upd]
      rw [eU] at hupd
      have z1 := cell_allocA (box_cell hC.box) (.cells #[.slice da dn dc, .slice ra rn rc, .bool f.synced] 70)
      obtain ⟨fad', fcap', rfl⟩ := own_slice hC.files
      have hGold : (wr.alloc (.cells #[.slice da dn dc, .slice ra rn rc, .bool f.synced] 70)).heap[W.heap.size + 1 + 1]? = some _ := (old_block _ _ _ (lt_of_heap hC.g)).trans hC.g
      have hG2 : w2.heap[W.heap.size + 1 + 1]? = some _ := (hB2.block _ (lt_of_heap hGold) (by intro e; injection e with e; omega)).trans hGold
      obtain ⟨-, -, z2, -, z3⟩ := g_cells hG2
      have own2 : w2.ownsRow W.heap.size 66 1 (.slice fad' k fcap') k ((List.range k).map fun i => fptr (bl' i)) := own_kept hC.files fun q hq => by
        obtain ⟨cur, hc⟩ := own_block hC.files hq
        have h1 : (wr.alloc (.cells #[.slice da dn dc, .slice ra rn rc, .bool f.synced] 70)).heap[q]? = some _ := (old_block _ _ _ (lt_of_heap hc)).trans hc
        rw [hB2.block q (lt_of_heap h1) (by intro e; injection e with e; subst e; rw [hC.map] at hc; simp at hc), h1, hc]
      have hsz2 : (wr.alloc (.cells #[.slice da dn dc, .slice ra rn rc, .bool f.synced] 70)).heap.size ≤ w2.heap.size := hB2.size
      have hwr : W.heap.size ≤ wr.heap.size := hC.below.size
      rw [alloc_sz] at hsz2
      have HCl := Lib.hid hC
      have HX := Lib.hid (And.intro hf (And.intro hrd (And.intro hrr (And.intro hput (And.intro hB2 (And.intro own2 hG2))))))
      clear hC hcb0 hrd0 hrr0 hcb hbytes hrd hrr isF hinj hm1 hput hB2 hGold hG2 own2 hf hk3 eU
      simp only [fptr] at hupd
      go_wp2_with (at_builtin; refine wpList_append_lies _ rfl _ _ 61 rfl W.heap.size 66 i0 (.pointer none) 1 8 Try.underlying61 II.out.1 II.out.2.1 II.out.2.2.1 II.out.2.2.2 rfl (by decide) _ _ _ rfl (HX.out.2.2.2.2.2.1.alloc _) ⟨w2.heap.size, 0, none⟩ 1 1 [fptr wr.heap.size] rfl rfl (new_cellP w2 [fptr wr.heap.size]) ?a1 (by decide) ?a2 ?a3 ?a4 (w2.heap.size + 1) ?a5 ?_)
      case a1 => rfl
      case a2 => unfold maxLen; omega
      case a3 => omega
      case a4 => omega
      intro g1 cap1 w3 hown3 hgrow3 hg1 hg2
      have hG3 := grow_atP hgrow3 HX.out.2.2.2.2.2.2 (own_ne HX.out.2.2.2.2.2.1 HX.out.2.2.2.2.2.2 (by decide))
      obtain ⟨-, -, y2, -, y3⟩ := g_cells hG3
      have y3 := y3 2
      have HR := Lib.hid (HCl.out.file rfl HX.out.1 HX.out.2.1 HX.out.2.2.1 rfl HX.out.2.2.2.1 HX.out.2.2.2.2.1 hgrow3 hown3)
      clear hown3 hgrow3 hg1 hg2 hG3
      go_wp2_with fail
      go_roundw
      case rel => exact ⟨k + 1, by omega, by go_num, _, _, HR.out⟩
      case measure => simp [intOf]; omega
    · have hkn : k = nf := by omega
      subst hkn
      have hCl2 : Cl W wr W.heap.size o.Z bl bl' a (.map (some o.nb)) (.map (some o.db)) fsv (.slice none 0 0) k 0 := hC
      have hwr : W.heap.size ≤ wr.heap.size := hC.below.size
      have hcps := hC.cps HI.out HNF.out rfl
      have hDn : Dir wr o.nb (cn bl a.names) := HI.out.names.of_block (hC.below.block _ HI.out.names.lt)
      have hDd : Dir wr o.db (cn bl a.dur) := HI.out.dur.of_block (hC.below.block _ HI.out.dur.lt)
      have p0 := cell_below c0 hC.below rfl
      have p1 := cell_below c1 hC.below rfl
      have hboxc := box_cell hC.box
      obtain ⟨g0, g1, -, -, gz⟩ := g_cells hC.g
      have hGlt := lt_of_heap hC.g
      have KK : ∀ (w : World), Below wr.heap.size wr w → w.cell? ⟨F, 0, none⟩ = some (.map (some o.nb)) ∧ w.cell? ⟨F, 1, none⟩ = some (.map (some o.db)) ∧ w.cell? ⟨W.heap.size + 1 + 1, 0, none⟩ = some (.map (some o.nb)) ∧ w.cell? ⟨W.heap.size + 1 + 1, 1, none⟩ = some (.map (some o.db)) ∧ w.frozen? ⟨W.heap.size + 1 + 1, 0, none⟩ = false ∧ w.frozen? ⟨W.heap.size + 1 + 1, 1, none⟩ = false := fun w hb => by
        refine ⟨cell_below p0 hb rfl, cell_below p1 hb rfl, cell_below g0 hb rfl, cell_below g1 hb rfl, ?_, ?_⟩
        · have := gz 0; unfold World.frozen? at this ⊢; rw [hb.block _ hGlt]; exact this
        · have := gz 1; unfold World.frozen? at this ⊢; rw [hb.block _ hGlt]; exact this
      have cM : ∀ (w : World) (mb : Nat) (m : Nm), Below wr.heap.size wr w → Dir wr mb (cn bl m) → So m → (∀ p ∈ m, p.2 < k) → m.length ≤ 1000000 → Calls Try.prog 52 #[.map (some mb), .pointer (some ⟨W.heap.size + 1, 0, none⟩)] w fun e w' => ∃ r, e = .returned (.map (some r)) ∧ w'.cell? ⟨F, 0, none⟩ = some (.map (some o.nb)) ∧ w'.cell? ⟨F, 1, none⟩ = some (.map (some o.db)) ∧ w'.cell? ⟨W.heap.size + 1 + 1, 0, none⟩ = some (.map (some o.nb)) ∧ w'.cell? ⟨W.heap.size + 1 + 1, 1, none⟩ = some (.map (some o.db)) ∧ w'.frozen? ⟨W.heap.size + 1 + 1, 0, none⟩ = false ∧ w'.frozen? ⟨W.heap.size + 1 + 1, 1, none⟩ = false ∧ Hid (w.heap.size = r ∧ Dir w' r (cn bl' m) ∧ Below w.heap.size w w' ∧ Below wr.heap.size wr w') := fun w mb m hb hD hS hm hl => by
        refine (move_is w bl bl' mb (W.heap.size + 1) W.heap.size k k m (hD.of_block (hb.block _ hD.lt)) hS hm hl (cell_below hboxc hb rfl) (hcps.kept hb)).mono ?_
        rintro e w' ⟨rfl, h1, h2⟩
        have h3 := below_at hb hb.size h2
        obtain ⟨k1, k2, k3, k4, k5, k6⟩ := KK w' h3
        exact ⟨_, rfl, k1, k2, k3, k4, k5, k6, rfl, h1, h2, h3⟩
      have CA := Lib.hid (fun w hb => cM w o.nb a.names hb hDn HSO.out.1 (fun p hp => by have := HW.out.names p hp; rw [HNF.out] at this; exact this) HSO.out.2.2.1)
      have CB := Lib.hid (fun w hb => cM w o.db a.dur hb hDd HSO.out.2.1 (fun p hp => by have := HW.out.dur p hp; rw [HNF.out] at this; exact this) HSO.out.2.2.2)
      have hGF : W.heap.size + 1 + 1 ≠ F := by omega
      have HC2 := Lib.hid (And.intro hCl2 (And.intro hcps hDn))
      have HNE := Lib.hid HI.out.nd
      clear hC hCl2 hcps hDn hDd cM KK gz hboxc hGlt c0 c1 c4 c5 c6 c7 g0 g1
      go_wp2_with fail
      go_region_held3 (fun w' => w'.cell? ⟨F, 0, none⟩ = some (.map (some o.nb)) ∧ w'.cell? ⟨F, 1, none⟩ = some (.map (some o.db))) (first | go_keep | ((try dsimp only); refine ⟨?_, ?_⟩ <;> (first | exact (World.cell?_setCell_other _ _ _ _ (by simp [hGF])).trans (by assumption) | exact (World.cell?_setCell_other _ _ _ _ (by simp [hGF])).trans ((World.cell?_setCell_other _ _ _ _ (by simp [hGF])).trans (by assumption)))))
        (first
          | (go_at_call_of 52 (Value.map (some o.nb)); refine (CA.out _ (by exact ⟨rfl, rfl, rfl, Nat.le_refl _, fun _ _ => rfl⟩)).mono ?_; clear p0 p1; rintro e wA ⟨r1, rfl, a0, a1, a2, a3, a4, a5, HA⟩)
          | (go_at_call_of 52 (Value.map (some o.db)); refine (CB.out _ (by exact HA.out.2.2.2)).mono ?_; clear a0 a1 a2 a3 a4 a5; rintro e wB ⟨r2, rfl, b0, b1, b2, b3, b4, b5, HBB⟩))
      all_goals
        have hC3 := HC2.out.1.dirs rfl HBB.out.2.2.2 (x := .map (some r1)) (y := .map (some r2))
        have hwA : wr.heap.size ≤ r1 := by have := HA.out.1; rw [← this]; exact Nat.le_refl _
        have hwA2 : r1 < wA.heap.size := HA.out.2.1.lt
        have hwB : wA.heap.size = r2 := HBB.out.1
        have hD1 : Dir ((wB.setCell ⟨W.heap.size + 1 + 1, 0, none⟩ (.map (some r1))).setCell ⟨W.heap.size + 1 + 1, 1, none⟩ (.map (some r2))) r1 (cn bl' a.names) := HA.out.2.1.of_block (by
          have hG := lt_of_heap HC2.out.1.g
          rw [heap_setCell_other _ _ _ _ (by show r1 ≠ W.heap.size + 1 + 1; omega), heap_setCell_other _ _ _ _ (by show r1 ≠ W.heap.size + 1 + 1; omega), HBB.out.2.2.1.block _ hwA2])
        have hD2 : Dir ((wB.setCell ⟨W.heap.size + 1 + 1, 0, none⟩ (.map (some r1))).setCell ⟨W.heap.size + 1 + 1, 1, none⟩ (.map (some r2))) r2 (cn bl' a.dur) := HBB.out.2.1.of_block (by
          have hG := lt_of_heap HC2.out.1.g
          rw [heap_setCell_other _ _ _ _ (by show r2 ≠ W.heap.size + 1 + 1; omega), heap_setCell_other _ _ _ _ (by show r2 ≠ W.heap.size + 1 + 1; omega)])
        have HRR := Lib.hid (show r1 ≠ r2 ∧ W.heap.size ≤ r1 ∧ W.heap.size ≤ r2 from ⟨by omega, by omega, by omega⟩)
        have d3 := cell_below c3 hC3.below rfl
        have HC3 := Lib.hid (And.intro hC3 (And.intro hD1 hD2))
        obtain ⟨i1, ji, jz0, jz1, jz2⟩ := info_parts infoC
        have JJ := Lib.hid (And.intro ji (And.intro jz0 (And.intro jz1 jz2)))
        clear hC3 hD1 hD2 hwA hwA2 hwB c3 b0 b1 b2 b3 b4 b5 ji jz0 jz1 jz2
        try go_wp2_with fail
        go_loopw [63] (fun i wr => ∃ j : Nat, j ≤ np ∧ i = .int .i64 j ∧ Hid (∃ psv, Cl W wr W.heap.size o.Z bl bl' a (.map (some r1)) (.map (some r2)) fsv psv k j ∧ Dir wr r1 (cn bl' a.names) ∧ Dir wr r2 (cn bl' a.dur))) (fun i _ => np - (intOf i).toNat)
        case atStart => exact ⟨0, Nat.zero_le _, rfl, _, HC3.out⟩
        case round =>
          clear d3
          obtain ⟨j, hj, rfl, hC⟩ := hrel
          obtain ⟨psv, hC, hD1, hD2⟩ := hC.out
          by_cases hlt : j < np
          · obtain ⟨rfl, -⟩ := HPA.out.2 (by omega)
            have hj3 : j < a.pend.length := by rw [HNP.out]; exact hlt
            obtain ⟨c, hc⟩ : ∃ c, a.pend[j]? = some c := ⟨_, List.getElem?_eq_getElem hj3⟩
            have hce : a.pend[j] = c := by rw [List.getElem?_eq_getElem hj3] at hc; exact Option.some.inj hc
            have hmem : c ∈ a.pend := by rw [← hce]; exact List.getElem_mem _
            obtain ⟨q0, q1, q2⟩ := HI.out.pendCells HPA.out.1 j (by simpa [conc] using hj3)
            have hpk : (conc bl a).pend[j]'(by simpa [conc] using hj3) = cc bl c := by rw [← hce]; simp [conc]
            rw [hpk] at q0 q1 q2
            replace q0 := cell_below q0 hC.below rfl
            replace q1 := cell_below q1 hC.below rfl
            replace q2 := cell_below q2 hC.below rfl
            replace q0 : wr.cell? ⟨pg, j * 3, none⟩ = some (.string c.src) := q0
            replace q1 : wr.cell? ⟨pg, j * 3 + 1, none⟩ = some (.string c.dst) := q1
            have hcps := hC.cps HI.out HNF.out rfl
            obtain ⟨pa, pa', hpa, hpa', hlk⟩ : ∃ pa pa', fptrO (cc bl c).file = .pointer pa ∧ fptrO (cc bl' c).file = .pointer pa' ∧ ∀ (w : World), Below wr.heap.size wr w → (Instr.lookup 93 (.map (some W.heap.size)) (.pointer pa) false).run Try.prog w = .ok (.pointer pa') w := by
              cases hd : c.dst.toList.isEmpty with
              | true =>
                refine ⟨none, none, by unfold cc; rw [if_pos hd]; rfl, by unfold cc; rw [if_pos hd]; rfl, fun w hb => ?_⟩
                exact copies_nil w bl bl' W.heap.size k k ((hcps.kept hb).map)
              | false =>
                have hin : c.file < k := by have := HW.out.pend c hmem hd; rw [HNF.out] at this; exact this
                have hne : ¬ (c.dst.toList.isEmpty = true) := by rw [hd]; decide
                refine ⟨some ⟨bl c.file, 0, none⟩, some ⟨bl' c.file, 0, none⟩, by unfold cc; rw [if_neg hne]; rfl, by unfold cc; rw [if_neg hne]; rfl, fun w hb => ?_⟩
                exact (hcps.kept hb).look hin
            rw [hpa] at q2
            have b1 : Below wr.heap.size wr (wr.alloc (.cells #[.string c.src, .string c.dst, .pointer pa] 74)) := (Below.refl _ _).alloc (Nat.le_refl _) _
            have hlook := hlk _ b1
            have z1 := cell_allocA (box_cell hC.box) (.cells #[.string c.src, .string c.dst, .pointer pa] 74)
            obtain ⟨psa, psc, rfl⟩ := own_slice hC.pend
            have hG2 : (wr.alloc (.cells #[.string c.src, .string c.dst, .pointer pa'] 74)).heap[W.heap.size + 1 + 1]? = some _ := (old_block _ _ _ (lt_of_heap hC.g)).trans hC.g
            obtain ⟨-, -, -, z2, z3⟩ := g_cells hG2
            have own2 := hC.pend.alloc (.cells #[.string c.src, .string c.dst, .pointer pa'] 74)
            have hnc : ∀ (q : Nat) (u : Value), [Value.string c.src, .string c.dst, .pointer pa'][q]? = some u → ((wr.alloc (.cells #[.string c.src, .string c.dst, .pointer pa'] 74)).alloc (.cells #[.string c.src, .string c.dst, .pointer pa'] 74)).cell? ((⟨wr.heap.size + 1, 0, none⟩ : Addr).add q) = some u := by
              have := new_cellC (wr.alloc (.cells #[.string c.src, .string c.dst, .pointer pa'] 74)) [.string c.src, .string c.dst, .pointer pa']
              rw [alloc_sz] at this
              exact this
            have hwr : W.heap.size ≤ wr.heap.size := hC.below.size
            have HCl := Lib.hid hC
            have HX := Lib.hid (And.intro hc (And.intro hpa' (And.intro own2 (And.intro hG2 (And.intro hD1 (And.intro hD2 hnc))))))
            clear hC hc hce hmem hpk hcps hpa hpa' hlk b1 hG2 own2 hD1 hD2 hj3 hnc
            go_wp2_with (at_builtin; refine wpList_append_lies _ rfl _ _ 62 rfl W.heap.size 74 i1 (.agg #[.string ByteArray.empty, .string ByteArray.empty, .pointer none]) 3 40 Try.underlying62 JJ.out.1 JJ.out.2.1 JJ.out.2.2.1 JJ.out.2.2.2 rfl (by decide) _ _ _ rfl (HX.out.2.2.1.alloc _) ⟨wr.heap.size + 1, 0, none⟩ 1 1 [.string c.src, .string c.dst, .pointer pa'] rfl rfl HX.out.2.2.2.2.2.2 ?e1 (by decide) ?e2 ?e3 ?e4 (wr.heap.size + 2) ?e5 ?_)
            case e1 => first | rfl | (intro u hu; simp only [List.mem_cons, List.not_mem_nil, or_false] at hu; rcases hu with rfl | rfl | rfl <;> rfl) | exact ⟨rfl, rfl, rfl⟩
            case e2 => unfold maxLen; omega
            case e3 => omega
            case e4 => omega
            intro g1 cap1 w4 hown4 hgrow4 hg1 hg2
            have hG4 := grow_atP hgrow4 HX.out.2.2.2.1 (own_ne HX.out.2.2.1 HX.out.2.2.2.1 (by decide))
            obtain ⟨-, -, -, y2, y3⟩ := g_cells hG4
            have y3 := y3 3
            rw [← HX.out.2.1] at hgrow4 hown4
            rw [← List.map_take] at hown4
            have HR := Lib.hid (HCl.out.change HX.out.1 rfl hgrow4 hown4)
            clear hown4 hgrow4 hg1 hg2 hG4
            go_wp2_with fail
            go_roundw
            case rel => exact ⟨j + 1, by omega, by go_num, _, HR.out.1, HX.out.2.2.2.2.1.of_map HR.out.2, HX.out.2.2.2.2.2.1.of_map HR.out.2⟩
            case measure => simp [intOf]; omega
          · have hjn : j = np := by omega
            subst hjn
            have HX := Lib.hid (And.intro hC (And.intro hD1 hD2))
            clear hC hD1 hD2
            go_wp2_with fail
            go_ret
            obtain ⟨hC, hD1, hD2⟩ := HX.out
            have hC' : Cl W wr W.heap.size o.Z bl bl' a (.map (some r1)) (.map (some r2)) fsv psv a.files.length a.pend.length := by rw [HNF.out, HNP.out]; exact hC
            exact ⟨⟨W.heap.size + 2, r1, r2, fsv, psv, o.Z⟩, bl', rfl, rfl, rfl, hC'.done HI.out rfl hD1 hD2 HRR.out.1 HRR.out.2.1 HRR.out.2.2, hC.below⟩
end Go.Proofs.Ytcobjjaicckgpaa.Vf
