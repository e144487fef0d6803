/- TooLarge of the laws (feedvaultlaw13), walked. -/
import Derived.Test.YtjaojenalodolaaGreatDoorProg
import Derived.Test.YtjaojenalodolaaGreatDoorKB
import Derived.WalkKit
import Derived.OwnWalk
import Derived.Outline
import Derived.Laws.Small
import Derived.Lib.MinMax
namespace Go.Proofs.YtjaojenalodolaaGreatDoor.Mw
open Go Go.RowKit Go.Proofs.YtjaojenalodolaaGreatDoor Go.Proofs.YtjaojenalodolaaGreatDoor.Rw
set_option linter.unusedVariables false
def sumK {α : Type} (g : α → Nat) (l : List α) (k : Nat) : Nat := ((l.take k).map g).sum
theorem sumK_zero {α : Type} (g : α → Nat) (l : List α) : sumK g l 0 = 0 := rfl
theorem sumK_succ {α : Type} (g : α → Nat) (l : List α) (k : Nat) (hk : k < l.length) : sumK g l (k + 1) = sumK g l k + g l[k] := by
  unfold sumK
  rw [List.take_add_one, List.map_append, List.sum_append, List.getElem?_eq_getElem hk]
  simp
theorem sumK_all {α : Type} (g : α → Nat) (l : List α) {k : Nat} (hk : l.length ≤ k) : sumK g l k = (l.map g).sum := by
  unfold sumK
  rw [List.take_of_length_le hk]
theorem sumK_le {α : Type} (g : α → Nat) (l : List α) (k : Nat) : sumK g l k ≤ (l.map g).sum := by
  have : (l.map g).sum = sumK g l k + ((l.drop k).map g).sum := by
    unfold sumK
    rw [← List.sum_append, ← List.map_append, List.take_append_drop]
  omega
structure EnB (e : Mo.En) : Prop where
  id : e.id.size ≤ 140737488355327
  title : e.title.size ≤ 140737488355327
  link : e.link.size ≤ 140737488355327
  content : e.content.size ≤ 140737488355327
  upd : -9223372036854775808 ≤ e.upd ∧ e.upd ≤ 9223372036854775807
structure FdB (f : Mo.Fd) : Prop where
  id : f.id.size ≤ 140737488355327
  title : f.title.size ≤ 140737488355327
  link : f.link.size ≤ 140737488355327
  plen : f.path.length ≤ 8796093022208
  path : ∀ p ∈ f.path, p.size ≤ 140737488355327
  elen : f.ents.length ≤ 8796093022208
  ents : ∀ e ∈ f.ents, EnB e
  upd : -9223372036854775808 ≤ f.upd ∧ f.upd ≤ 9223372036854775807
structure ArB (a : List Mo.Fd) : Prop where
  len : a.length ≤ 8796093022208
  each : ∀ f ∈ a, FdB f
def tooA (a : List Mo.Fd) : Int := if 5000 < Mo.wtA a then 1 else 0
theorem rw_slice {w : World} {v : Value} {sz n : Nat} {L : List (List Value)} (h : Rw w v sz L) (hn : L.length = n) : ∃ g off ad cap, v = .slice ad n cap ∧ (0 < n → ad = some ⟨g, off, none⟩) ∧ ∀ j (hj : j < L.length) k (hk : k < sz), ∃ x, L[j][k]? = some x ∧ w.cell? ⟨g, off + j * sz + k, none⟩ = some x := by
  subst hn
  exact h
theorem path_at {w : World} {v : Value} {p : List ByteArray} (h : Rw w v 1 (p.map sCell)) : ∃ g off ad cap, v = .slice ad p.length cap ∧ (0 < p.length → ad = some ⟨g, off, none⟩) ∧ ∀ j (hj : j < p.length), w.cell? ⟨g, off + j, none⟩ = some (.string p[j]) := by
  obtain ⟨g, off, ad, cap, h1, h2, h3⟩ := rw_slice h (n := p.length) (by simp)
  refine ⟨g, off, ad, cap, h1, h2, fun j hj => ?_⟩
  obtain ⟨x, h4, h5⟩ := h3 j (by simpa using hj) 0 (by omega)
  rw [List.getElem_map] at h4
  simp only [sCell, List.getElem?_cons_zero, Option.some.injEq] at h4
  rw [h4]
  simpa using h5
theorem ents_at {w : World} {v : Value} {p : List Mo.En} (h : Rw w v 5 (p.map eCells)) : ∃ g off ad cap, v = .slice ad p.length cap ∧ (0 < p.length → ad = some ⟨g, off, none⟩) ∧ ∀ j (hj : j < p.length), w.cell? ⟨g, off + j * 5, none⟩ = some (.string p[j].id) ∧ w.cell? ⟨g, off + j * 5 + 1, none⟩ = some (.string p[j].title) ∧ w.cell? ⟨g, off + j * 5 + 2, none⟩ = some (.string p[j].link) ∧ w.cell? ⟨g, off + j * 5 + 3, none⟩ = some (.string p[j].content) ∧ w.cell? ⟨g, off + j * 5 + 4, none⟩ = some (.int .i64 p[j].upd) := by
  obtain ⟨g, off, ad, cap, h1, h2, h3⟩ := rw_slice h (n := p.length) (by simp)
  refine ⟨g, off, ad, cap, h1, h2, fun j hj => ?_⟩
  have hj2 : j < (p.map eCells).length := by simpa using hj
  have key : ∀ k (hk : k < 5), w.cell? ⟨g, off + j * 5 + k, none⟩ = (eCells p[j])[k]? := fun k hk => by
    obtain ⟨x, h4, h5⟩ := h3 j hj2 k hk
    rw [List.getElem_map] at h4
    rw [h5, h4]
  exact ⟨key 0 (by omega), key 1 (by omega), key 2 (by omega), key 3 (by omega), key 4 (by omega)⟩
theorem feeds_at {w : World} {v : Value} {a : List Mo.Fd} (h : ArIs w v a) : ∃ g off ad cap, v = .slice ad a.length cap ∧ (0 < a.length → ad = some ⟨g, off, none⟩) ∧ ∀ j (hj : j < a.length), ∃ vp ve, Rw w vp 1 (a[j].path.map sCell) ∧ Rw w ve 5 (a[j].ents.map eCells) ∧ w.cell? ⟨g, off + j * 6, none⟩ = some vp ∧ w.cell? ⟨g, off + j * 6 + 1, none⟩ = some (.string a[j].id) ∧ w.cell? ⟨g, off + j * 6 + 2, none⟩ = some (.string a[j].title) ∧ w.cell? ⟨g, off + j * 6 + 3, none⟩ = some (.string a[j].link) ∧ w.cell? ⟨g, off + j * 6 + 4, none⟩ = some (.int .i64 a[j].upd) ∧ w.cell? ⟨g, off + j * 6 + 5, none⟩ = some ve := by
  obtain ⟨L, hL, hR, hF⟩ := h
  obtain ⟨g, off, ad, cap, h1, h2, h3⟩ := rw_slice hR hL
  refine ⟨g, off, ad, cap, h1, h2, fun j hj => ?_⟩
  obtain ⟨vp, ve, e, hp, he⟩ := hF j hj (by omega)
  have key : ∀ k (hk : k < 6), w.cell? ⟨g, off + j * 6 + k, none⟩ = (fCells a[j] vp ve)[k]? := fun k hk => by
    obtain ⟨x, h4, h5⟩ := h3 j (by omega) k hk
    rw [e] at h4
    rw [h5, h4]
  exact ⟨vp, ve, hp, he, key 0 (by omega), key 1 (by omega), key 2 (by omega), key 3 (by omega), key 4 (by omega), key 5 (by omega)⟩
theorem part_le {a : List Mo.Fd} {k x : Nat} (hk : k < a.length) (hx : x ≤ Mo.wtF a[k]) : sumK Mo.wtF a k + x ≤ Mo.wtA a := by
  have h1 := sumK_succ Mo.wtF a k hk
  have h2 : sumK Mo.wtF a (k + 1) ≤ Mo.wtA a := sumK_le Mo.wtF a (k + 1)
  omega
theorem tooA_big {a : List Mo.Fd} (h : 5000 < Mo.wtA a) : tooA a = 1 := by unfold tooA; rw [if_pos h]
theorem cells6 {w : World} {x0 x1 x2 x3 x4 x5 : Value} {t : TypeId} : (w.alloc (.cells #[x0, x1, x2, x3, x4, x5] t)).cell? ⟨w.heap.size, 0, none⟩ = some x0 ∧ (w.alloc (.cells #[x0, x1, x2, x3, x4, x5] t)).cell? ⟨w.heap.size, 1, none⟩ = some x1 ∧ (w.alloc (.cells #[x0, x1, x2, x3, x4, x5] t)).cell? ⟨w.heap.size, 2, none⟩ = some x2 ∧ (w.alloc (.cells #[x0, x1, x2, x3, x4, x5] t)).cell? ⟨w.heap.size, 3, none⟩ = some x3 ∧ (w.alloc (.cells #[x0, x1, x2, x3, x4, x5] t)).cell? ⟨w.heap.size, 4, none⟩ = some x4 ∧ (w.alloc (.cells #[x0, x1, x2, x3, x4, x5] t)).cell? ⟨w.heap.size, 5, none⟩ = some x5 := by
  unfold World.cell?
  simp only [heap_alloc_new]
  exact ⟨rfl, rfl, rfl, rfl, rfl, rfl⟩
set_option maxRecDepth 100000 in
set_option maxHeartbeats 8000000 in
theorem tooLarge_is (W : World) (v : Value) (a : List Mo.Fd) (h : ArIs W v a) (hb : ArB a) :
    Calls Tryz.prog 5 #[.agg #[v]] W fun e w' => e = .returned (.int .i64 (tooA a)) ∧ Below W.heap.size W w' := by
  obtain ⟨g, off, ad, cap, rfl, had, hfd⟩ := feeds_at h
  obtain ⟨m, hm⟩ : ∃ m, a.length = m := ⟨_, rfl⟩
  rw [hm] at had ⊢
  have hm2 : m ≤ 8796093022208 := by rw [← hm]; exact hb.len
  have HM := Lib.hid hm
  have HAD := Lib.hid had
  have HFD := Lib.hid hfd
  have HB := Lib.hid hb
  have HB0 := Lib.hid ((Below.refl W.heap.size W).alloc (Nat.le_refl _) (.cells #[.slice ad m cap] 24))
  have x0 : (W.alloc (.cells #[.slice ad m cap] 24)).cell? ⟨W.heap.size, 0, none⟩ = some (.slice ad m cap) := by unfold World.cell?; simp only [heap_alloc_new]; rfl
  clear h had hfd hb hm
  go_enter Tryz.func5, Tryz.ntmps5
  go_wp2_with fail
  clear x0
  go_loopw [3, 13] (fun x i wr => ∃ k n : Nat, k ≤ m ∧ x = .int .i64 n ∧ i = .int .i64 k ∧ n ≤ 5000 ∧ Hid (n = sumK Mo.wtF a k) ∧ Hid (Below W.heap.size W wr)) (fun _ i _ => m - (intOf i).toNat)
  case atStart => exact ⟨0, 0, Nat.zero_le _, rfl, rfl, Nat.zero_le _, rfl, HB0.out⟩
  case round =>
    obtain ⟨k, n, hk, rfl, rfl, hn, hx, hbw⟩ := hrel
    by_cases hlt : k < m
    · obtain rfl := HAD.out (by omega)
      have hkl : k < a.length := by rw [HM.out]; exact hlt
      obtain ⟨vp, ve, hp, he, y0, y1, y2, y3, y4, y5⟩ := HFD.out k hkl
      have hfb := HB.out.each _ (List.getElem_mem hkl)
      have HPL : Hid (∀ x, x ≤ Mo.wtF a[k] → sumK Mo.wtF a k + x ≤ Mo.wtA a) := fun x hx => part_le hkl hx
      have HSK := Lib.hid (sumK_succ Mo.wtF a k hkl)
      generalize a[k] = f at hp he y1 y2 y3 y4 hfb HPL HSK
      obtain ⟨path, id, title, link, upd, ents⟩ := f
      obtain ⟨pg, po, pa, pc, rfl, hpa, hpath⟩ := path_at hp
      obtain ⟨eg, eo, ea, ec, rfl, hea, hents⟩ := ents_at he
      obtain ⟨z1, z2, z3, z4, z5, z6, z7, -⟩ := hfb
      simp only at y1 y2 y3 y4 z1 z2 z3 z4 z5 z6 z7 hpa hpath hea hents
      replace y0 := cell_under y0 hbw.out
      replace y1 := cell_under y1 hbw.out
      replace y2 := cell_under y2 hbw.out
      replace y3 := cell_under y3 hbw.out
      replace y4 := cell_under y4 hbw.out
      replace y5 := cell_under y5 hbw.out
      obtain ⟨n1, e1⟩ : ∃ n1, id.size = n1 := ⟨_, rfl⟩
      obtain ⟨n2, e2⟩ : ∃ n2, title.size = n2 := ⟨_, rfl⟩
      obtain ⟨n3, e3⟩ : ∃ n3, link.size = n3 := ⟨_, rfl⟩
      obtain ⟨pl, hpl⟩ : ∃ pl, path.length = pl := ⟨_, rfl⟩
      obtain ⟨el, hel⟩ : ∃ el, ents.length = el := ⟨_, rfl⟩
      rw [e1] at z1; rw [e2] at z2; rw [e3] at z3; rw [hpl] at z4 hpa; rw [hel] at z6 hea
      obtain ⟨mn, hmn⟩ : ∃ mn : Int, min ((n1 : Int) + (n2 : Int) + (n3 : Int)) 9000 = mn := ⟨_, rfl⟩
      have q1 : 0 ≤ mn := by omega
      have q2 : mn ≤ 9000 := by omega
      have HMN : Hid (mn = ((min (n1 + n2 + n3) 9000 : Nat) : Int)) := by show mn = _; omega
      have HWF : Hid (Mo.wtF ⟨path, id, title, link, upd, ents⟩ = 1 + min (n1 + n2 + n3) 9000 + sumK Mo.wtP path pl + sumK Mo.wtE ents el) := by
        show _ = _
        unfold Mo.wtF
        rw [sumK_all _ _ (by omega), sumK_all _ _ (by omega)]
        simp only [e1, e2, e3]
      have HP := Lib.hid (And.intro hpl (And.intro hpa (And.intro hpath z5)))
      have HE := Lib.hid (And.intro hel (And.intro hea hents))
      have HBZ := Lib.hid z7
      have HX := hx
      have HB1 := Lib.hid (below_seq hbw.out ((Below.refl wr.heap.size wr).alloc (Nat.le_refl _) (.cells #[.slice pa path.length pc, .string id, .string title, .string link, .int .i64 upd, .slice ea ents.length ec] 49)))
      have HBW := Lib.hid hbw.out
      rw [hpl] at y0 HB1
      rw [hel] at y5 HB1
      obtain ⟨c0, c1, c2, c3, c4, c5⟩ := cells6 (w := wr) (x0 := .slice pa pl pc) (x1 := .string id) (x2 := .string title) (x3 := .string link) (x4 := .int .i64 upd) (x5 := .slice ea el ec) (t := 49)
      clear hp he hpa hpath hea hents hpl hel hx hbw z5 z7
      go_wp2_with fail
      have hpl2 : pl ≤ 8796093022208 := z4
      generalize (wr.alloc (.cells #[.slice pa pl pc, .string id, .string title, .string link, .int .i64 upd, .slice ea el ec] 49)) = w1 at HB1 c0 c1 c2 c3 c4 c5 ⊢
      have HPW : Hid (∀ j (hj : j < path.length), w1.cell? ⟨pg, po + j, none⟩ = some (.string path[j])) := fun j hj => cell_under (HP.out.2.2.1 j hj) HB1.out
      go_loopw [3, 35] (fun x i wr' => ∃ j q : Nat, j ≤ pl ∧ x = .int .i64 q ∧ i = .int .i64 j ∧ q ≤ 14001 + j * 9001 ∧ Hid (q = n + (1 + min (n1 + n2 + n3) 9000) + sumK Mo.wtP path j) ∧ wr' = w1) (fun _ i _ => pl - (intOf i).toNat)
      case atStart => exact ⟨0, n + (1 + min (n1 + n2 + n3) 9000), Nat.zero_le _, by rw [HMN.out]; rfl, rfl, by omega, by rw [sumK_zero]; rfl, rfl⟩
      case round =>
        obtain ⟨j, q, hj, rfl, rfl, hq, hqx, hww⟩ := hrel
        rw [hww]
        clear hww
        by_cases hlt2 : j < pl
        · obtain rfl := HP.out.2.1 (by omega)
          have hjl : j < path.length := by rw [HP.out.1]; exact hlt2
          have xc := HPW.out j hjl
          have hz := HP.out.2.2.2 _ (List.getElem_mem hjl)
          have HS2 := Lib.hid (sumK_succ Mo.wtP path j hjl)
          generalize path[j] = p at xc hz HS2
          obtain ⟨n4, e4⟩ : ∃ n4, p.size = n4 := ⟨_, rfl⟩
          rw [e4] at hz
          obtain ⟨m2, hm2'⟩ : ∃ m2 : Int, min (n4 : Int) 9000 = m2 := ⟨_, rfl⟩
          have q3 : 0 ≤ m2 := by omega
          have q4 : m2 ≤ 9000 := by omega
          have HM2 : Hid (m2 = ((min n4 9000 : Nat) : Int)) := by show m2 = _; omega
          have HWP : Hid (Mo.wtP p = 1 + min n4 9000) := by show _ = _; unfold Mo.wtP; rw [e4]
          go_wp2_with fail
          go_roundw
          case rel =>
            refine ⟨j + 1, q + (1 + min n4 9000), by omega, ?_, by go_num, by omega, ?_, trivial⟩
            · rw [HM2.out]; congr 1
            · show _ = _
              rw [HS2.out, HWP.out, hqx.out]
              omega
          case measure => simp [intOf]; omega
        · have gl2 : decide ((j : Int) < (pl : Int)) = false := decide_eq_false (by omega)
          have hjp : j = pl := by omega
          have HQ : Hid (q = n + (1 + min (n1 + n2 + n3) 9000) + sumK Mo.wtP path pl) := by rw [← hjp]; exact hqx.out
          have hqb : q ≤ 79173633292908209 := by omega
          clear hqx hq hjp
          go_wp2_with fail
          go_loopw [3, 49] (fun x i wr2 => ∃ j2 r : Nat, j2 ≤ el ∧ x = .int .i64 r ∧ i = .int .i64 j2 ∧ r ≤ 79173633292908209 ∧ (0 < j2 → r ≤ 5000) ∧ Hid (r = q + sumK Mo.wtE ents j2) ∧ Hid (Below w1.heap.size w1 wr2)) (fun _ i _ => el - (intOf i).toNat)
          case atStart => exact ⟨0, q, Nat.zero_le _, rfl, rfl, hqb, fun h => absurd h (by omega), by rw [sumK_zero]; rfl, Below.refl _ _⟩
          case round =>
            obtain ⟨j2, r, hj2, rfl, rfl, hr, hr5, hrx, hbr⟩ := hrel
            by_cases hlt3 : j2 < el
            · obtain rfl := HE.out.2.1 (by omega)
              have hjl2 : j2 < ents.length := by rw [HE.out.1]; exact hlt3
              have HBQ := Lib.hid (below_seq HB1.out hbr.out)
              obtain ⟨d0, d1, d2, d3, d4⟩ := HE.out.2.2 j2 hjl2
              replace d0 := cell_under d0 HBQ.out
              replace d1 := cell_under d1 HBQ.out
              replace d2 := cell_under d2 HBQ.out
              replace d3 := cell_under d3 HBQ.out
              replace d4 := cell_under d4 HBQ.out
              have heb := HBZ.out _ (List.getElem_mem hjl2)
              have HS3 := Lib.hid (sumK_succ Mo.wtE ents j2 hjl2)
              generalize ents[j2] = e at d0 d1 d2 d3 d4 heb HS3
              obtain ⟨eid, etitle, elink, econt, eupd⟩ := e
              obtain ⟨u1, u2, u3, u4, -⟩ := heb
              simp only at d0 d1 d2 d3 d4 u1 u2 u3 u4
              obtain ⟨m1, f1⟩ : ∃ m1, eid.size = m1 := ⟨_, rfl⟩
              obtain ⟨m2, f2⟩ : ∃ m2, etitle.size = m2 := ⟨_, rfl⟩
              obtain ⟨m3, f3⟩ : ∃ m3, elink.size = m3 := ⟨_, rfl⟩
              obtain ⟨m4, f4⟩ : ∃ m4, econt.size = m4 := ⟨_, rfl⟩
              rw [f1] at u1; rw [f2] at u2; rw [f3] at u3; rw [f4] at u4
              obtain ⟨mz, hmz⟩ : ∃ mz : Int, min ((m1 : Int) + (m2 : Int) + (m3 : Int) + (m4 : Int)) 9000 = mz := ⟨_, rfl⟩
              have q3 : 0 ≤ mz := by omega
              have q4 : mz ≤ 9000 := by omega
              have HMZ : Hid (mz = ((min (m1 + m2 + m3 + m4) 9000 : Nat) : Int)) := by show mz = _; omega
              have HWE : Hid (Mo.wtE ⟨eid, etitle, elink, econt, eupd⟩ = 1 + min (m1 + m2 + m3 + m4) 9000) := by show _ = _; unfold Mo.wtE; simp only [f1, f2, f3, f4]
              have HB3 := Lib.hid (below_seq hbr.out ((Below.refl wr.heap.size wr).alloc (Nat.le_refl _) (.cells #[.string eid, .string etitle, .string elink, .string econt, .int .i64 eupd] 51)))
              have HRX := hrx
              have HTOT : Hid (5000 < (r : Int) + (1 + mz) → 5000 < Mo.wtA a) := fun hbig => by
                have h1 := HPL.out (1 + min (n1 + n2 + n3) 9000 + sumK Mo.wtP path pl + sumK Mo.wtE ents (j2 + 1)) (by rw [HWF.out]; have := sumK_le Mo.wtE ents (j2 + 1); have h5 := sumK_all Mo.wtE ents (k := el) (by rw [HE.out.1]; exact Nat.le_refl _); omega)
                have h2 := HS3.out
                have h3 := HWE.out
                have h4 := HRX.out
                have h6 := HQ.out
                have h7 := HX.out
                have h8 := HMZ.out
                omega
              clear hrx hbr
              by_cases big : 5000 < (r : Int) + (1 + mz)
              · have HT := Lib.hid (tooA_big (HTOT.out big))
                have HBE := Lib.hid (below_seq HB1.out HB3.out)
                go_wp2_with fail
                go_ret
                exact ⟨by rw [HT.out]; rfl, HBE.out⟩
              · go_wp2_with fail
                go_roundw
                case rel =>
                  refine ⟨j2 + 1, r + (1 + min (m1 + m2 + m3 + m4) 9000), by omega, ?_, by go_num, ?_, ?_, ?_, HB3.out⟩
                  · rw [HMZ.out]; congr 1
                  · have := HMZ.out; omega
                  · intro _; have := HMZ.out; omega
                  · show _ = _
                    rw [HS3.out, HWE.out, HRX.out]
                    omega
                case measure => simp [intOf]; omega
            · have gl3 : decide ((j2 : Int) < (el : Int)) = false := decide_eq_false (by omega)
              have hje : j2 = el := by omega
              have HR : Hid (sumK Mo.wtF a k + Mo.wtF ⟨path, id, title, link, upd, ents⟩ = r) := by
                show _ = _
                have h1 := hrx.out
                have h2 := HQ.out
                have h3 := HX.out
                rw [hje] at h1
                rw [HWF.out]
                omega
              have HBE := Lib.hid (below_seq HB1.out hbr.out)
              clear hrx hbr
              by_cases big : 5000 < r
              · have HT : Hid (tooA a = 1) := tooA_big (by have h1 := HPL.out _ (Nat.le_refl _); have h2 := HR.out; omega)
                have gb : (5000 : Int) < (r : Int) := by omega
                go_wp2_with fail
                go_ret
                exact ⟨by rw [HT.out]; rfl, HBE.out⟩
              · have gb : ¬ (5000 : Int) < (r : Int) := by omega
                go_wp2_with fail
                go_roundw
                case rel => exact ⟨k + 1, r, by omega, rfl, by go_num, by omega, by show r = _; rw [HSK.out]; exact HR.out.symm, HBE.out⟩
                case measure => simp [intOf]; omega
    · have hkm : k = m := by omega
      have gl : decide ((k : Int) < (m : Int)) = false := decide_eq_false (by omega)
      have HT : Hid (tooA a = 0) := by
        have h1 : n = Mo.wtA a := by rw [hx.out]; exact sumK_all _ _ (by rw [HM.out]; omega)
        show tooA a = 0
        unfold tooA
        rw [if_neg (by omega)]
      go_wp2_with fail
      go_ret
      exact ⟨by rw [HT.out]; rfl, hbw.out⟩
end Go.Proofs.YtjaojenalodolaaGreatDoor.Mw
