/- The store's Decode on a canonical text. -/
import Derived.Test.YtjaojenalodolaaGreatDoorKP
import Derived.Test.YtjaojenalodolaaGreatDoorKQ
import Derived.Deep.RegionHeld3
namespace Go.Proofs.YtjaojenalodolaaGreatDoor.De
open Go Go.RowKit Go.Proofs.YtjaojenalodolaaGreatDoor Go.Proofs.YtjaojenalodolaaGreatDoor.Rw Go.Proofs.YtjaojenalodolaaGreatDoor.Mw Go.Proofs.YtjaojenalodolaaGreatDoor.Me Go.Proofs.YtjaojenalodolaaGreatDoor.Pj
set_option linter.unusedVariables false
set_option maxRecDepth 100000
set_option maxHeartbeats 16000000
theorem fld3 (t : ByteArray) (p : Int) (w : World) : (Instr.field 82 (.agg #[.int .i64 3, .bool false, .int .i64 0, .string t, .slice none 0 0, .slice none 0 0, .int .i64 p]) 3).run Tryz.prog w = .ok (.string t) w := by
  kernel_rfl
theorem fld2 (t : Int) (p : Int) (w : World) : (Instr.field 82 (.agg #[.int .i64 2, .bool false, .int .i64 t, .string ⟨#[]⟩, .slice none 0 0, .slice none 0 0, .int .i64 p]) 2).run Tryz.prog w = .ok (.int .i64 t) w := by
  kernel_rfl
theorem fld4 (ad : Option Addr) (n c : Nat) (p : Int) (w : World) : (Instr.field 82 (.agg #[.int .i64 4, .bool false, .int .i64 0, .string ⟨#[]⟩, .slice ad n c, .slice none 0 0, .int .i64 p]) 4).run Tryz.prog w = .ok (.slice ad n c) w := by
  kernel_rfl
theorem keep7set {w : World} {G H j : Nat} {x a0 a1 a2 a3 a4 a5 a6 : Value} (h : w.cell? ⟨G, 0, none⟩ = some a0 ∧ w.cell? ⟨G, 1, none⟩ = some a1 ∧ w.cell? ⟨G, 2, none⟩ = some a2 ∧ w.cell? ⟨G, 3, none⟩ = some a3 ∧ w.cell? ⟨G, 4, none⟩ = some a4 ∧ w.cell? ⟨G, 5, none⟩ = some a5 ∧ w.cell? ⟨G, 6, none⟩ = some a6) (hn : G ≠ H) :
    (w.setCell ⟨H, j, none⟩ x).cell? ⟨G, 0, none⟩ = some a0 ∧ (w.setCell ⟨H, j, none⟩ x).cell? ⟨G, 1, none⟩ = some a1 ∧ (w.setCell ⟨H, j, none⟩ x).cell? ⟨G, 2, none⟩ = some a2 ∧ (w.setCell ⟨H, j, none⟩ x).cell? ⟨G, 3, none⟩ = some a3 ∧ (w.setCell ⟨H, j, none⟩ x).cell? ⟨G, 4, none⟩ = some a4 ∧ (w.setCell ⟨H, j, none⟩ x).cell? ⟨G, 5, none⟩ = some a5 ∧ (w.setCell ⟨H, j, none⟩ x).cell? ⟨G, 6, none⟩ = some a6 := by
  have e : ∀ q, (w.setCell ⟨H, j, none⟩ x).cell? ⟨G, q, none⟩ = w.cell? ⟨G, q, none⟩ := fun q => World.cell?_of_block (heap_setCell_other _ _ _ _ hn)
  simp only [e]
  exact h
theorem six_set {w : World} {H : Nat} {t : TypeId} {a0 a1 a2 a3 a4 a5 x0 x1 x2 x3 x4 x5 : Value} (h : w.heap[H]? = some (Obj.cells #[a0, a1, a2, a3, a4, a5] t (0, 0))) {n : Nat} (hn : n ≤ H) :
    ((((((w.setCell ⟨H, 0, none⟩ x0).setCell ⟨H, 1, none⟩ x1).setCell ⟨H, 2, none⟩ x2).setCell ⟨H, 3, none⟩ x3).setCell ⟨H, 4, none⟩ x4).setCell ⟨H, 5, none⟩ x5).heap[H]? = some (Obj.cells #[x0, x1, x2, x3, x4, x5] t (0, 0)) ∧
    Below n w ((((((w.setCell ⟨H, 0, none⟩ x0).setCell ⟨H, 1, none⟩ x1).setCell ⟨H, 2, none⟩ x2).setCell ⟨H, 3, none⟩ x3).setCell ⟨H, 4, none⟩ x4).setCell ⟨H, 5, none⟩ x5) := by
  have e1 := heap_setCell_same _ H 0 _ _ x0 h
  have e2 := heap_setCell_same _ H 1 _ _ x1 e1
  have e3 := heap_setCell_same _ H 2 _ _ x2 e2
  have e4 := heap_setCell_same _ H 3 _ _ x3 e3
  have e5 := heap_setCell_same _ H 4 _ _ x4 e4
  have e6 := heap_setCell_same _ H 5 _ _ x5 e5
  have s : ∀ (u : World) (j : Nat) (x : Value), Below n u (u.setCell ⟨H, j, none⟩ x) := fun u j x => ⟨rfl, rfl, rfl, by simp, fun k hk => heap_setCell_other _ _ _ _ (show k ≠ H by omega)⟩
  exact ⟨e6, (((((s _ _ _).trans (s _ _ _)).trans (s _ _ _)).trans (s _ _ _)).trans (s _ _ _)).trans (s _ _ _)⟩
theorem one_row1 {w : World} {A : Obj} {c : List Value} {sz : Nat} {t : TypeId} (h : c.length = sz) : ((w.alloc A).alloc (.cells c.toArray t)).ownsRow (w.heap.size + 1) t sz (.slice (some ⟨w.heap.size + 1, 0, none⟩) 1 1) 1 c := by
  have := one_row (w := w.alloc A) (t := t) h
  rwa [show (w.alloc A).heap.size = w.heap.size + 1 from Array.size_push _] at this
theorem grown7 {w u : World} {G : Nat} {row : Option Nat} {a0 a1 a2 a3 a4 a5 a6 : Value} (h : u.cell? ⟨G, 0, none⟩ = some a0 ∧ u.cell? ⟨G, 1, none⟩ = some a1 ∧ u.cell? ⟨G, 2, none⟩ = some a2 ∧ u.cell? ⟨G, 3, none⟩ = some a3 ∧ u.cell? ⟨G, 4, none⟩ = some a4 ∧ u.cell? ⟨G, 5, none⟩ = some a5 ∧ u.cell? ⟨G, 6, none⟩ = some a6) (hg : u.grownBy w row) (hr : ∀ q, row = some q → q ≠ G) :
    w.cell? ⟨G, 0, none⟩ = some a0 ∧ w.cell? ⟨G, 1, none⟩ = some a1 ∧ w.cell? ⟨G, 2, none⟩ = some a2 ∧ w.cell? ⟨G, 3, none⟩ = some a3 ∧ w.cell? ⟨G, 4, none⟩ = some a4 ∧ w.cell? ⟨G, 5, none⟩ = some a5 ∧ w.cell? ⟨G, 6, none⟩ = some a6 := by
  have e : ∀ q, w.cell? ⟨G, q, none⟩ = u.cell? ⟨G, q, none⟩ := fun q => World.cell?_of_block (hg.block G (Rw.lt_of_cell h.1) (fun e => hr G e.symm rfl))
  simp only [e]
  exact h
theorem row_lt {α : Type} {El : World → α → List Value → Prop} {sz S : Nat} {t : TypeId} {w : World} {v : Value} {l : List α} (h : Row El sz t S w v l) {q : Nat} (hq : v.ownBlock = some q) : q < w.heap.size := by
  obtain ⟨L, h1, h2, h3⟩ := h
  exact (own_lt h2 hq).2
def LP (H : Nat) (W0 : World) (f : Mo.Fd) (k : Nat) (wr : World) : Prop := ∃ vp, Row PEl 1 9 W0.heap.size wr vp (f.path.take k) ∧ wr.heap[H]? = some (Obj.cells #[vp, .string f.id, .string f.title, .string f.link, .int .i64 f.upd, .slice none 0 0] 49 (0, 0)) ∧ Sd H W0 wr
def LI (B : Nat) (Wj : World) (a : List Mo.Fd) (k : Nat) (wr : World) : Prop := ∃ va, Row FdIs 6 49 Wj.heap.size wr va (a.take k) ∧ wr.heap[B]? = some (Obj.cells #[va] 24 (0, 0)) ∧ Sd B Wj wr
def LE (H : Nat) (W0 : World) (f : Mo.Fd) (vp : Value) (k : Nat) (wr : World) : Prop := ∃ ve, Row EEl 5 51 W0.heap.size wr ve (f.ents.take k) ∧ wr.heap[H]? = some (Obj.cells #[vp, .string f.id, .string f.title, .string f.link, .int .i64 f.upd, ve] 49 (0, 0)) ∧ Sd H W0 wr
theorem eone (e : Mo.En) : ∀ u ∈ eCells e, u.oneCell' = true := by
  intro u hu
  simp only [eCells, List.mem_cons, List.not_mem_nil, or_false] at hu
  rcases hu with rfl | rfl | rfl | rfl | rfl <;> rfl
def ld_ents : Op := .load 47 (.tmp 77)
theorem decode_is (s : ByteArray) (a : List Mo.Fd) (W : World) (hT : Jw.JTabs W) (hs : s.size ≤ 1000000000) (ht : s.data.toList = Jv.enc (Jv.jA a)) (ho : Jv.Ok 1 (Jv.jA a)) (hb : JB (Jv.jA a)) (hj : JS (Jv.jA a))
    (hlen : a.length ≤ 100000) (hent : ∀ f ∈ a, f.ents.length ≤ 100000) (hpath : ∀ f ∈ a, f.path.length ≤ 100000)
    (cE : ∀ u v, Below W.heap.size W u → ArIs u v a → Calls Tryz.prog 19 #[.agg #[v]] u fun e w' => e = .returned (.tuple #[.string s, .int .i64 0]) ∧ Below u.heap.size u w') :
    Calls Tryz.prog 25 #[.string s] W fun e w' => (∃ va, e = .returned (.tuple #[.agg #[va], .int .i64 0]) ∧ ArIs w' va a) ∧ Below W.heap.size W w' := by
  have CP := Lib.hid (fun (u : World) (hu : Below W.heap.size W u) => parse_is s (Jv.jA a) u (hT.below hu) hs ht ho hb hj)
  have CE := Lib.hid cE
  obtain ⟨m, hm⟩ : ∃ m, a.length = m := ⟨_, rfl⟩
  have HM := Lib.hid hm
  have hml : m ≤ 100000 := hm ▸ hlen
  have HX := Lib.hid (And.intro hent hpath)
  have hz0 := heap_alloc_new W (.cells #[.slice none 0 0] 24)
  have HB0 := Lib.hid ((Below.refl W.heap.size W).alloc (Nat.le_refl _) (.cells #[.slice none 0 0] 24))
  have HZ0 := Lib.hid hz0
  clear hT hs ht ho hb hj cE hlen hent hpath hm hz0
  go_enter Tryz.func25, Tryz.ntmps25
  go_wp2_with fail
  generalize W.alloc (.cells #[.slice none 0 0] 24) = w0 at HB0 HZ0 ⊢
  refine (CP.out _ HB0.out).mono ?_
  rintro e w1 ⟨⟨vk, vb, vn, vt, a1, n1, c1, a2, n2, c2, vp, rfl, hv1⟩, hb1⟩
  have hj := hv1 w1 (fun _ _ _ _ => rfl)
  unfold Jv.jA Jv at hj
  obtain ⟨q', v, L, e', hR, hM⟩ := hj
  have hM' := JvL_at hM
  obtain ⟨g, off, ad, cap, hve, had, hc⟩ := vals_at hR hM'
  subst hve
  simp only [vCells, nilV, List.cons.injEq, Value.int.injEq, Value.bool.injEq, Value.string.injEq, Value.slice.injEq, true_and, and_true] at e'
  obtain ⟨rfl, rfl, rfl, rfl, ⟨rfl, rfl, rfl⟩, ⟨rfl, rfl, rfl⟩, rfl⟩ := e'
  have hjs := hM'.2
  have hle : (List.map Jv.jF a).length = m := by rw [List.length_map]; exact HM.out
  rw [hle] at had hc
  have HB1 := Lib.hid (below_seq HB0.out hb1)
  have HZ1 := Lib.hid ((hb1.block _ (Rw.lt_of_heap HZ0.out)).trans HZ0.out)
  go_wp2_with fail
  have hbj := ((Below.refl w1.heap.size w1).alloc (Nat.le_refl _) (.cells #[.int .i64 4, .bool false, .int .i64 0, .string ⟨#[]⟩, .slice a1 m c1, .slice none 0 0, .int .i64 vp] 82))
  have hbk := hbj.alloc hbj.size (.cells #[.slice none 0 0] 24)
  have hbx := heap_alloc2_new w1 (.cells #[.int .i64 4, .bool false, .int .i64 0, .string ⟨#[]⟩, .slice a1 m c1, .slice none 0 0, .int .i64 vp] 82) (.cells #[.slice none 0 0] 24)
  have HC := Lib.hid hc
  have HAD := Lib.hid had
  have HJ := Lib.hid hjs
  have HL := Lib.hid (show L.length = m by rw [hM'.1, hle])
  clear hc had hjs hle hM' hM hR hv1 hbj hb1
  obtain ⟨B, hB⟩ : ∃ n, w1.heap.size + 1 = n := ⟨_, rfl⟩
  rw [hB] at hbx ⊢
  have HBE := Lib.hid hB
  generalize ((w1.alloc (.cells #[.int .i64 4, .bool false, .int .i64 0, .string ⟨#[]⟩, .slice a1 m c1, .slice none 0 0, .int .i64 vp] 82)).alloc (.cells #[.slice none 0 0] 24)) = Wj at hbk hbx ⊢
  have HBJ := Lib.hid hbk
  have HBX := Lib.hid hbx
  have HBL := Lib.hid (Rw.lt_of_heap hbx)
  clear hB hbk hbx
  go_loopw [30] (fun x wr => ∃ k : Nat, k ≤ m ∧ x = .int .i64 k ∧ Hid (LI B Wj a k wr)) (fun x _ => m - (intOf x).toNat)
  case atStart => exact ⟨0, Nat.zero_le _, rfl, Lib.hid ⟨_, Row.nil, HBX.out, Sd.refl _ _⟩⟩
  case round =>
    obtain ⟨k, hk, rfl, hI⟩ := hrel
    obtain ⟨va, hrow, hbox, hsd⟩ := hI.out
    have HROW := Lib.hid hrow
    have HBOX := Lib.hid hbox
    have HSD := Lib.hid hsd
    have hbw : Below w1.heap.size w1 wr := HBJ.out.trans (hsd.under (by have := HBE.out; omega) HBJ.out.size)
    have HBW := Lib.hid hbw
    clear hI hrow hbox hsd
    by_cases hlt : k < m
    · obtain rfl := HAD.out (by omega)
      have hkl : k < a.length := by rw [HM.out]; exact hlt
      have hkL : k < L.length := by rw [HL.out]; exact hlt
      obtain ⟨vk, vb, vn, vs, b1, m1, d1, b2, m2, d2, vq, hLk, y0, y1, y2, y3, y4, y5, y6⟩ := HC.out k hlt hkL
      have hJ := HJ.out k (by rw [List.length_map]; exact hkl) hkL
      rw [List.getElem_map] at hJ
      obtain ⟨q2, vm, e2, hob⟩ := Ob.of (l := fL a[k]) hJ
      rw [hLk] at e2
      simp only [vCells, nilV, List.cons.injEq, Value.int.injEq, Value.bool.injEq, Value.string.injEq, Value.slice.injEq, true_and, and_true] at e2
      obtain ⟨rfl, rfl, rfl, rfl, ⟨rfl, rfl, rfl⟩, rfl, rfl⟩ := e2
      replace y0 := cell_under y0 hbw
      replace y1 := cell_under y1 hbw
      replace y2 := cell_under y2 hbw
      replace y3 := cell_under y3 hbw
      replace y4 := cell_under y4 hbw
      replace y5 := cell_under y5 hbw
      replace y6 := cell_under y6 hbw
      have i1 : (k : Int) < (m : Int) := by omega
      have i0 : (0 : Int) ≤ (k : Int) := by omega
      have HK := Lib.hid (show a.take (k + 1) = a.take k ++ [a[k]] by rw [List.take_add_one, List.getElem?_eq_getElem hkl]; rfl)
      have HLE := Lib.hid (HX.out.1 _ (List.getElem_mem hkl))
      have HLP := Lib.hid (HX.out.2 _ (List.getElem_mem hkl))
      have HLk := Lib.hid (show (a.take k).length = k by rw [List.length_take, HM.out]; omega)
      have HOB := Lib.hid hob
      clear hJ hLk hob hbw
      generalize a[k] = f at HK HLE HLP HOB
      go_wp2_with fail
      have hba := (Below.refl wr.heap.size wr).alloc (Nat.le_refl _) (.cells #[.int .i64 5, .bool false, .int .i64 0, .string ⟨#[]⟩, .slice none 0 0, .slice b2 m2 d2, .int .i64 vq] 82)
      have hna := heap_alloc_new wr (.cells #[.int .i64 5, .bool false, .int .i64 0, .string ⟨#[]⟩, .slice none 0 0, .slice b2 m2 d2, .int .i64 vq] 82)
      have HBA := Lib.hid hba
      have HNA := Lib.hid hna
      have HB1A := Lib.hid (below_seq HBW.out hba)
      obtain ⟨G, hG⟩ : ∃ n, wr.heap.size = n := ⟨_, rfl⟩
      rw [hG] at hna HNA ⊢
      have HGE := Lib.hid hG
      generalize wr.alloc (.cells #[.int .i64 5, .bool false, .int .i64 0, .string ⟨#[]⟩, .slice none 0 0, .slice b2 m2 d2, .int .i64 vq] 82) = wA at hna HBA HNA HB1A ⊢
      have HGA := Lib.hid (Rw.lt_of_heap hna)
      have z0 := Me.box_at (j := 0) hna rfl
      have z1 := Me.box_at (j := 1) hna rfl
      have z2 := Me.box_at (j := 2) hna rfl
      have z3 := Me.box_at (j := 3) hna rfl
      have z4 := Me.box_at (j := 4) hna rfl
      have z5 := Me.box_at (j := 5) hna rfl
      have z6 := Me.box_at (j := 6) hna rfl
      clear y0 y1 y2 y3 y4 y5 y6 hba hna hG
      have HC7 := Lib.hid (fun u (hu : Below wA.heap.size wA u) => (show u.cell? ⟨G, 0, none⟩ = some (.int .i64 5) ∧ u.cell? ⟨G, 1, none⟩ = some (.bool false) ∧ u.cell? ⟨G, 2, none⟩ = some (.int .i64 0) ∧ u.cell? ⟨G, 3, none⟩ = some (.string ⟨#[]⟩) ∧ u.cell? ⟨G, 4, none⟩ = some (.slice none 0 0) ∧ u.cell? ⟨G, 5, none⟩ = some (.slice b2 m2 d2) ∧ u.cell? ⟨G, 6, none⟩ = some (.int .i64 vq) from ⟨cell_under z0 hu, cell_under z1 hu, cell_under z2 hu, cell_under z3 hu, cell_under z4 hu, cell_under z5 hu, cell_under z6 hu⟩))
      obtain ⟨c0, cA, cB, cC, cD, c5⟩ := fget f (.slice b2 m2 d2) vq wA (HOB.out.under HB1A.out)
      have CA := Lib.hid cA
      have CB := Lib.hid cB
      have CC := Lib.hid cC
      have CD := Lib.hid cD
      have C0 := Lib.hid c0
      have CZ := Lib.hid c5
      clear c0 cA cB cC cD c5
      have hgZ : G ≠ wA.heap.size := Nat.ne_of_lt HGA.out
      have hf3 := fld3
      have hf2 := fld2
      go_cut [11, 30] from 30 to 110 (fun q x wx => x = .int .i64 k ∧ ∃ H, q = .pointer (some ⟨H, 0, none⟩) ∧ Hid (wA.heap.size ≤ H ∧ wx.heap[H]? = some (Obj.cells #[.slice none 0 0, .string f.id, .string f.title, .string f.link, .int .i64 f.upd, .slice none 0 0] 49 (0, 0)) ∧ Below wA.heap.size wA wx))
      case first =>
        go_region_held3 (fun w' => w'.cell? ⟨G, 0, none⟩ = some (.int .i64 5) ∧ w'.cell? ⟨G, 1, none⟩ = some (.bool false) ∧ w'.cell? ⟨G, 2, none⟩ = some (.int .i64 0) ∧ w'.cell? ⟨G, 3, none⟩ = some (.string ⟨#[]⟩) ∧ w'.cell? ⟨G, 4, none⟩ = some (.slice none 0 0) ∧ w'.cell? ⟨G, 5, none⟩ = some (.slice b2 m2 d2) ∧ w'.cell? ⟨G, 6, none⟩ = some (.int .i64 vq)) (first | (with_reducible assumption) | ((with_reducible refine keep7set ?_ (by assumption)); (repeat (with_reducible refine keep7set ?_ (by assumption))); with_reducible assumption) | (with_reducible exact HC7.out _ (Below.refl _ _).drew) | (with_reducible exact HC7.out _ ((Below.refl (World.heap wA).size wA).alloc (Nat.le_refl _) _)) | (with_reducible exact HC7.out _ ((Below.refl (World.heap wA).size wA).alloc (Nat.le_refl _) _).drew) | (with_reducible exact HC7.out _ ((Below.refl (World.heap wA).size wA).drew.alloc (Nat.le_refl _) _)) | (with_reducible exact HC7.out _ (below_seq HA.out ((Below.refl _ _).alloc (Nat.le_refl _) _))) | (with_reducible exact HC7.out _ (below_seq HB.out ((Below.refl _ _).alloc (Nat.le_refl _) _))) | (with_reducible exact HC7.out _ (below_seq HC.out ((Below.refl _ _).alloc (Nat.le_refl _) _))) | (with_reducible exact HC7.out _ (below_seq HD.out ((Below.refl _ _).alloc (Nat.le_refl _) _))))
          (first
            | (go_at_call 54; have KA := CA; clear CA; first | (have hG := HGX.out; have C5 := KA.out wA (Below.refl (World.heap wA).size wA); (with_reducible refine C5.mono ?_); clear C5; rintro e uA ⟨⟨pA, rfl⟩, hb⟩; have HGX := Lib.hid ((hb.block _ (Rw.lt_of_heap hG)).trans hG); clear hG; have HA := Lib.hid (below_seq (Below.refl (World.heap wA).size wA) hb); have sA := HC7.out uA HA.out; have hgA : G ≠ uA.heap.size := Nat.ne_of_lt (Nat.lt_of_lt_of_le HGA.out HA.out.size); clear hb  KA) | (have C5 := KA.out wA.drew (Below.refl (World.heap wA).size wA).drew; (with_reducible refine C5.mono ?_); clear C5; rintro e uA ⟨⟨pA, rfl⟩, hb⟩; have HA := Lib.hid (below_seq (Below.refl (World.heap wA).size wA).drew hb); have sA := HC7.out uA HA.out; have hgA : G ≠ uA.heap.size := Nat.ne_of_lt (Nat.lt_of_lt_of_le HGA.out HA.out.size); clear hb  KA) | (have C5 := KA.out (wA.alloc (.cells #[.slice none 0 0, .string ⟨#[]⟩, .string ⟨#[]⟩, .string ⟨#[]⟩, .int .i64 0, .slice none 0 0] 49)).drew (below_seq (Below.refl (World.heap wA).size wA) ((Below.refl (World.heap wA).size wA).alloc (Nat.le_refl _) (.cells #[.slice none 0 0, .string ⟨#[]⟩, .string ⟨#[]⟩, .string ⟨#[]⟩, .int .i64 0, .slice none 0 0] 49))).drew; (with_reducible refine C5.mono ?_); clear C5; rintro e uA ⟨⟨pA, rfl⟩, hb⟩; have HGX := Lib.hid ((hb.block _ (Rw.lt_of_heap (heap_alloc_new wA (.cells #[.slice none 0 0, .string ⟨#[]⟩, .string ⟨#[]⟩, .string ⟨#[]⟩, .int .i64 0, .slice none 0 0] 49)))).trans (heap_alloc_new wA (.cells #[.slice none 0 0, .string ⟨#[]⟩, .string ⟨#[]⟩, .string ⟨#[]⟩, .int .i64 0, .slice none 0 0] 49))); have HA := Lib.hid (below_seq (below_seq (Below.refl (World.heap wA).size wA) ((Below.refl (World.heap wA).size wA).alloc (Nat.le_refl _) (.cells #[.slice none 0 0, .string ⟨#[]⟩, .string ⟨#[]⟩, .string ⟨#[]⟩, .int .i64 0, .slice none 0 0] 49))).drew hb); have sA := HC7.out uA HA.out; have hgA : G ≠ uA.heap.size := Nat.ne_of_lt (Nat.lt_of_lt_of_le HGA.out HA.out.size); clear hb  KA))
            | (go_at_call 54; have KB := CB; clear CB; first | (have hG := HGX.out; have C5 := KB.out uA HA.out; (with_reducible refine C5.mono ?_); clear C5; rintro e uB ⟨⟨pB, rfl⟩, hb⟩; have HGX := Lib.hid ((hb.block _ (Rw.lt_of_heap hG)).trans hG); clear hG; have HB := Lib.hid (below_seq HA.out hb); have sB := HC7.out uB HB.out; have hgB : G ≠ uB.heap.size := Nat.ne_of_lt (Nat.lt_of_lt_of_le HGA.out HB.out.size); clear hb sA KB) | (have C5 := KB.out uA HA.out; (with_reducible refine C5.mono ?_); clear C5; rintro e uB ⟨⟨pB, rfl⟩, hb⟩; have HB := Lib.hid (below_seq HA.out hb); have sB := HC7.out uB HB.out; have hgB : G ≠ uB.heap.size := Nat.ne_of_lt (Nat.lt_of_lt_of_le HGA.out HB.out.size); clear hb sA KB) | (have C5 := KB.out (uA.alloc (.cells #[.slice none 0 0, .string ⟨#[]⟩, .string ⟨#[]⟩, .string ⟨#[]⟩, .int .i64 0, .slice none 0 0] 49)) (below_seq HA.out ((Below.refl (World.heap uA).size uA).alloc (Nat.le_refl _) (.cells #[.slice none 0 0, .string ⟨#[]⟩, .string ⟨#[]⟩, .string ⟨#[]⟩, .int .i64 0, .slice none 0 0] 49))); (with_reducible refine C5.mono ?_); clear C5; rintro e uB ⟨⟨pB, rfl⟩, hb⟩; have HGX := Lib.hid ((hb.block _ (Rw.lt_of_heap (heap_alloc_new uA (.cells #[.slice none 0 0, .string ⟨#[]⟩, .string ⟨#[]⟩, .string ⟨#[]⟩, .int .i64 0, .slice none 0 0] 49)))).trans (heap_alloc_new uA (.cells #[.slice none 0 0, .string ⟨#[]⟩, .string ⟨#[]⟩, .string ⟨#[]⟩, .int .i64 0, .slice none 0 0] 49))); have HB := Lib.hid (below_seq (below_seq HA.out ((Below.refl (World.heap uA).size uA).alloc (Nat.le_refl _) (.cells #[.slice none 0 0, .string ⟨#[]⟩, .string ⟨#[]⟩, .string ⟨#[]⟩, .int .i64 0, .slice none 0 0] 49))) hb); have sB := HC7.out uB HB.out; have hgB : G ≠ uB.heap.size := Nat.ne_of_lt (Nat.lt_of_lt_of_le HGA.out HB.out.size); clear hb sA KB))
            | (go_at_call 54; have KC := CC; clear CC; first | (have hG := HGX.out; have C5 := KC.out uB HB.out; (with_reducible refine C5.mono ?_); clear C5; rintro e uC ⟨⟨pC, rfl⟩, hb⟩; have HGX := Lib.hid ((hb.block _ (Rw.lt_of_heap hG)).trans hG); clear hG; have HC := Lib.hid (below_seq HB.out hb); have sC := HC7.out uC HC.out; have hgC : G ≠ uC.heap.size := Nat.ne_of_lt (Nat.lt_of_lt_of_le HGA.out HC.out.size); clear hb sB KC) | (have C5 := KC.out uB HB.out; (with_reducible refine C5.mono ?_); clear C5; rintro e uC ⟨⟨pC, rfl⟩, hb⟩; have HC := Lib.hid (below_seq HB.out hb); have sC := HC7.out uC HC.out; have hgC : G ≠ uC.heap.size := Nat.ne_of_lt (Nat.lt_of_lt_of_le HGA.out HC.out.size); clear hb sB KC) | (have C5 := KC.out (uB.alloc (.cells #[.slice none 0 0, .string ⟨#[]⟩, .string ⟨#[]⟩, .string ⟨#[]⟩, .int .i64 0, .slice none 0 0] 49)) (below_seq HB.out ((Below.refl (World.heap uB).size uB).alloc (Nat.le_refl _) (.cells #[.slice none 0 0, .string ⟨#[]⟩, .string ⟨#[]⟩, .string ⟨#[]⟩, .int .i64 0, .slice none 0 0] 49))); (with_reducible refine C5.mono ?_); clear C5; rintro e uC ⟨⟨pC, rfl⟩, hb⟩; have HGX := Lib.hid ((hb.block _ (Rw.lt_of_heap (heap_alloc_new uB (.cells #[.slice none 0 0, .string ⟨#[]⟩, .string ⟨#[]⟩, .string ⟨#[]⟩, .int .i64 0, .slice none 0 0] 49)))).trans (heap_alloc_new uB (.cells #[.slice none 0 0, .string ⟨#[]⟩, .string ⟨#[]⟩, .string ⟨#[]⟩, .int .i64 0, .slice none 0 0] 49))); have HC := Lib.hid (below_seq (below_seq HB.out ((Below.refl (World.heap uB).size uB).alloc (Nat.le_refl _) (.cells #[.slice none 0 0, .string ⟨#[]⟩, .string ⟨#[]⟩, .string ⟨#[]⟩, .int .i64 0, .slice none 0 0] 49))) hb); have sC := HC7.out uC HC.out; have hgC : G ≠ uC.heap.size := Nat.ne_of_lt (Nat.lt_of_lt_of_le HGA.out HC.out.size); clear hb sB KC))
            | (go_at_call 54; have KD := CD; clear CD; first | (have hG := HGX.out; have C5 := KD.out uC HC.out; (with_reducible refine C5.mono ?_); clear C5; rintro e uD ⟨⟨pD, rfl⟩, hb⟩; have HGX := Lib.hid ((hb.block _ (Rw.lt_of_heap hG)).trans hG); clear hG; have HD := Lib.hid (below_seq HC.out hb); have sD := HC7.out uD HD.out; have hgD : G ≠ uD.heap.size := Nat.ne_of_lt (Nat.lt_of_lt_of_le HGA.out HD.out.size); clear hb sC KD; have g0 := Me.box_at (j := 0) HGX.out rfl; have g1 := Me.box_at (j := 1) HGX.out rfl; have g2 := Me.box_at (j := 2) HGX.out rfl; have g3 := Me.box_at (j := 3) HGX.out rfl; have g4 := Me.box_at (j := 4) HGX.out rfl; have g5 := Me.box_at (j := 5) HGX.out rfl; have fz := fun j => frozen_of_row uD _ j _ _ HGX.out) | (have C5 := KD.out uC HC.out; (with_reducible refine C5.mono ?_); clear C5; rintro e uD ⟨⟨pD, rfl⟩, hb⟩; have HD := Lib.hid (below_seq HC.out hb); have sD := HC7.out uD HD.out; have hgD : G ≠ uD.heap.size := Nat.ne_of_lt (Nat.lt_of_lt_of_le HGA.out HD.out.size); clear hb sC KD) | (have C5 := KD.out (uC.alloc (.cells #[.slice none 0 0, .string ⟨#[]⟩, .string ⟨#[]⟩, .string ⟨#[]⟩, .int .i64 0, .slice none 0 0] 49)) (below_seq HC.out ((Below.refl (World.heap uC).size uC).alloc (Nat.le_refl _) (.cells #[.slice none 0 0, .string ⟨#[]⟩, .string ⟨#[]⟩, .string ⟨#[]⟩, .int .i64 0, .slice none 0 0] 49))); (with_reducible refine C5.mono ?_); clear C5; rintro e uD ⟨⟨pD, rfl⟩, hb⟩; have HGX := Lib.hid ((hb.block _ (Rw.lt_of_heap (heap_alloc_new uC (.cells #[.slice none 0 0, .string ⟨#[]⟩, .string ⟨#[]⟩, .string ⟨#[]⟩, .int .i64 0, .slice none 0 0] 49)))).trans (heap_alloc_new uC (.cells #[.slice none 0 0, .string ⟨#[]⟩, .string ⟨#[]⟩, .string ⟨#[]⟩, .int .i64 0, .slice none 0 0] 49))); have HD := Lib.hid (below_seq (below_seq HC.out ((Below.refl (World.heap uC).size uC).alloc (Nat.le_refl _) (.cells #[.slice none 0 0, .string ⟨#[]⟩, .string ⟨#[]⟩, .string ⟨#[]⟩, .int .i64 0, .slice none 0 0] 49))) hb); have sD := HC7.out uD HD.out; have hgD : G ≠ uD.heap.size := Nat.ne_of_lt (Nat.lt_of_lt_of_le HGA.out HD.out.size); clear hb sC KD; have g0 := Me.box_at (j := 0) HGX.out rfl; have g1 := Me.box_at (j := 1) HGX.out rfl; have g2 := Me.box_at (j := 2) HGX.out rfl; have g3 := Me.box_at (j := 3) HGX.out rfl; have g4 := Me.box_at (j := 4) HGX.out rfl; have g5 := Me.box_at (j := 5) HGX.out rfl; have fz := fun j => frozen_of_row uD _ j _ _ HGX.out)))
        all_goals
          go_wp2_with fail
          go_meet
          first
            | exact ⟨rfl, _, rfl, Lib.hid ⟨HD.out.size, heap_alloc_new uD _, below_seq HD.out ((Below.refl _ _).alloc (Nat.le_refl _) _)⟩⟩
            | exact ⟨rfl, _, rfl, Lib.hid ⟨HC.out.size, (six_set HGX.out HC.out.size).1, HD.out.trans (six_set HGX.out HC.out.size).2⟩⟩
            | exact ⟨rfl, _, rfl, Lib.hid ⟨HB.out.size, (six_set HGX.out HB.out.size).1, HD.out.trans (six_set HGX.out HB.out.size).2⟩⟩
            | exact ⟨rfl, _, rfl, Lib.hid ⟨HA.out.size, (six_set HGX.out HA.out.size).1, HD.out.trans (six_set HGX.out HA.out.size).2⟩⟩
            | exact ⟨rfl, _, rfl, Lib.hid ⟨Nat.le_refl _, (six_set HGX.out (Nat.le_refl _)).1, HD.out.trans (six_set HGX.out (Nat.le_refl _)).2⟩⟩
      case rest =>
        obtain ⟨rfl, H, rfl, h9⟩ := hcut
        obtain ⟨h9a, h9b, h9c⟩ := h9.out
        have HH := Lib.hid h9a
        have HF9 := Lib.hid h9b
        have HB9 := Lib.hid h9c
        obtain ⟨y0, y1, y2, y3, y4, y5, y6⟩ := HC7.out _ h9c
        clear h9 h9a h9b h9c CA CB CC CD
        go_wp2_with fail
        refine (C0.out _ HB9.out).mono ?_
        rintro e w10 ⟨⟨pp, ap, cp, Lp, rfl, hRp, hAp⟩, hb10⟩
        obtain ⟨gp, op, ap', cp', hpe, hap, hcp⟩ := vals_at hRp hAp
        obtain ⟨rfl, -, rfl⟩ : ap = ap' ∧ True ∧ cp = cp' := by injection hpe with h1 h2 h3; exact ⟨h1, trivial, h3⟩
        obtain ⟨mp, hmp⟩ : ∃ n, (f.path.map Jv.J.str).length = n := ⟨_, rfl⟩
        rw [hmp] at hap hcp ⊢
        have HMP := Lib.hid (show f.path.length = mp by rw [← hmp, List.length_map])
        have HLP2 := Lib.hid (show Lp.length = mp by rw [hAp.1, hmp])
        have HAP := Lib.hid hap
        have HCP := Lib.hid hcp
        have HJP := Lib.hid hAp.2
        have HB10 := Lib.hid hb10
        have HBT := Lib.hid (below_seq HB9.out hb10)
        have HF10 := Lib.hid ((hb10.block _ (Rw.lt_of_heap HF9.out)).trans HF9.out)
        have hmpl : mp ≤ 100000 := by have := HLP.out; have := HMP.out; omega
        obtain ⟨y0, y1, y2, y3, y4, y5, y6⟩ := HC7.out _ HBT.out
        clear hpe hap hcp hmp hRp hAp hb10
        obtain ⟨ti, tz, hi', hz0, hz1, hz2, hz3⟩ := info_sz infoStr
        have HIS := Lib.hid (And.intro hi' (And.intro hz0 (And.intro hz1 (And.intro hz2 hz3))))
        clear hi' hz0 hz1 hz2 hz3
        have hf4 := fld4
        go_wp2_with fail
        go_loopw [56] (fun x wr => ∃ j : Nat, j ≤ mp ∧ x = .int .i64 j ∧ Hid (LP H w10 f j wr)) (fun x _ => mp - (intOf x).toNat)
        case atStart => exact ⟨0, Nat.zero_le _, rfl, Lib.hid ⟨_, Row.nil, HF10.out, Sd.refl _ _⟩⟩
        case round =>
          obtain ⟨j, hj, rfl, hI⟩ := hrel
          obtain ⟨vp2, hrow, hbox, hsd⟩ := hI.out
          have HROW2 := Lib.hid hrow
          have HBOX2 := Lib.hid hbox
          have HSD2 := Lib.hid hsd
          have HBW2 := Lib.hid (show Below wA.heap.size wA _ from HBT.out.trans (hsd.under HH.out HBT.out.size))
          clear hI hrow hbox hsd
          by_cases hlt2 : j < mp
          · have j1 : (j : Int) < (mp : Int) := by omega
            have j0 : (0 : Int) ≤ (j : Int) := by omega
            obtain rfl := HAP.out (by omega)
            have hjl : j < f.path.length := by rw [HMP.out]; exact hlt2
            have hjL : j < Lp.length := by rw [HLP2.out]; exact hlt2
            obtain ⟨vk, vb, vn, vs, b3, m3, d3, b4, m4, d4, vr, hLj, x0, x1, x2, x3, x4, x5, x6⟩ := HCP.out j hlt2 hjL
            have hJ := HJP.out j (by rw [List.length_map]; exact hjl) hjL
            rw [List.getElem_map, hLj] at hJ
            unfold Jv at hJ
            obtain ⟨q3, e3⟩ := hJ
            simp only [vCells, nilV, List.cons.injEq, Value.int.injEq, Value.bool.injEq, Value.string.injEq, Value.slice.injEq, true_and, and_true] at e3
            obtain ⟨rfl, rfl, rfl, rfl, ⟨rfl, rfl, rfl⟩, ⟨rfl, rfl, rfl⟩, rfl⟩ := e3
            replace x0 := cell_under x0 HBW2.out
            replace x1 := cell_under x1 HBW2.out
            replace x2 := cell_under x2 HBW2.out
            replace x3 := cell_under x3 HBW2.out
            replace x4 := cell_under x4 HBW2.out
            replace x5 := cell_under x5 HBW2.out
            replace x6 := cell_under x6 HBW2.out
            clear hLj
            have HTK := Lib.hid (show f.path.take (j + 1) = f.path.take j ++ [f.path[j]] by rw [List.take_add_one, List.getElem?_eq_getElem hjl]; rfl)
            have HTL := Lib.hid (show (f.path.take j).length = j by rw [List.length_take, HMP.out]; omega)
            generalize f.path[j] = pj at x3 HTK
            obtain ⟨adv, cpv, rfl⟩ := Row.slice HROW2.out
            rw [HTL.out] at HROW2 HBOX2
            have r0 := Me.box_at (j := 0) HBOX2.out rfl
            have hbz := (Below.refl wr.heap.size wr).alloc (Nat.le_refl _) (.cells #[.int .i64 3, .bool false, .int .i64 0, .string pj, .slice none 0 0, .slice none 0 0, .int .i64 vr] 82)
            have r0z := cell_under r0 hbz
            have HBZ := Lib.hid hbz
            clear r0 hbz
            have HZB := Lib.hid (HBZ.out.alloc HBZ.out.size (.cells #[.string pj] 9))
            go_wp2_with (at_builtin; (refine wpList_push (El := PEl) _ rfl _ _ 46 rfl w10.heap.size (World.heap (wr.alloc (.cells #[.int .i64 3, .bool false, .int .i64 0, .string pj, .slice none 0 0, .slice none 0 0, .int .i64 vr] 82))).size 9 ti tz 1 16 Tryz.underlying46 HIS.out.1 HIS.out.2.1 HIS.out.2.2.1 HIS.out.2.2.2.1 HIS.out.2.2.2.2 (by decide) _ (f.path.take j) j HTL.out rfl ?b1 _ pj (sCell pj) rfl ?b2 ?b3 ?b4 ?b5 ?b6 ?b7 rfl ?_))
            case b1 => exact HROW2.out.below HZB.out
            case b2 => exact one_row1 (c := sCell pj) (sz := 1) rfl
            case b3 => intro u hu; rcases List.mem_singleton.1 hu with rfl; rfl
            case b4 => exact fun u _ => rfl
            case b5 => unfold maxLen; omega
            case b6 => omega
            case b7 => have := HSD2.out.size; omega
            intro v1 w2 hrow2 hgrow hv1
            obtain ⟨a9, c9, hv9⟩ := Row.slice hrow2
            rw [List.length_append, HTL.out] at hv9
            change v1 = .slice a9 (j + 1) c9 at hv9
            subst hv9
            have hbox2 := grown_heap hgrow hv1 (Rw.lt_of_heap HF10.out) ((HZB.out.block _ (Rw.lt_of_heap HBOX2.out)).trans HBOX2.out)
            have HSD3 := Lib.hid (grown_sd (HSD2.out.below HZB.out) hgrow hv1 (Nat.le_refl _))
            have HROW3 := Lib.hid hrow2
            have HBOX3 := Lib.hid hbox2
            have r0 := Me.box_at (j := 0) hbox2 rfl
            have fr := frozen_of_row w2 _ 0 _ _ hbox2
            clear hrow2 hgrow hv1 hbox2 r0z HBZ HZB
            go_wp2_with fail
            go_roundw
            case rel =>
              refine ⟨j + 1, by omega, by go_num, Lib.hid ⟨.slice a9 (j + 1) c9, ?_, heap_setCell_same _ H 0 _ _ _ HBOX3.out, HSD3.out.set 0 _⟩⟩
              have h3 := row_set (B := H) (j := 0) (x := .slice a9 (j + 1) c9) HROW3.out (Rw.lt_of_heap HF10.out)
              rw [← HTK.out] at h3
              exact h3
            case measure => simp [intOf]; omega
          · have gl2 : decide ((j : Int) < (mp : Int)) = false := decide_eq_false (by omega)
            have HTA : Hid (f.path.take j = f.path) := Lib.hid (List.take_of_length_le (by rw [HMP.out]; omega))
            rw [HTA.out] at HROW2
            obtain ⟨avp, cvp, hvp⟩ := Row.slice HROW2.out
            subst hvp
            clear hj HTA HAP HCP HJP HLP2 y0 y1 y2 y3 y4 y5 y6
            obtain ⟨y0, y1, y2, y3, y4, y5, y6⟩ := HC7.out _ HBW2.out
            go_wp2_with fail
            refine (CZ.out _ HBW2.out).mono ?_
            rintro e w11 ⟨⟨pe, ae, ce, Le, rfl, hRe, hAe⟩, hb11⟩
            obtain ⟨ge, oe, ae', ce', hpe, hae, hce⟩ := vals_at hRe hAe
            obtain ⟨rfl, -, rfl⟩ : ae = ae' ∧ True ∧ ce = ce' := by injection hpe with h1 h2 h3; exact ⟨h1, trivial, h3⟩
            obtain ⟨me, hme⟩ : ∃ n, (f.ents.map Jv.jE).length = n := ⟨_, rfl⟩
            rw [hme] at hae hce ⊢
            have HME := Lib.hid (show f.ents.length = me by rw [← hme, List.length_map])
            have HLE2 := Lib.hid (show Le.length = me by rw [hAe.1, hme])
            have HAE := Lib.hid hae
            have HCE := Lib.hid hce
            have HJE := Lib.hid hAe.2
            have HB11 := Lib.hid (below_seq HBW2.out hb11)
            have HF11 := Lib.hid ((hb11.block _ (Rw.lt_of_heap HBOX2.out)).trans HBOX2.out)
            have HROW4 := Lib.hid (HROW2.out.below hb11)
            have HSD4 := Lib.hid (HSD2.out.below hb11)
            have hmel : me ≤ 100000 := by have := HLE.out; have := HME.out; omega
            clear hpe hae hce hme hRe hAe hb11 y0 y1 y2 y3 y4 y5 y6 HROW2 HBOX2 HSD2 gl2
            obtain ⟨t5, z5, hi', hz0, hz1, hz2, hz3⟩ := info_sz infoEnt
            have HIE := Lib.hid (And.intro hi' (And.intro hz0 (And.intro hz1 (And.intro hz2 hz3))))
            clear hi' hz0 hz1 hz2 hz3
            go_wp2_with fail
            go_loopw [73] (fun x wr => ∃ j : Nat, j ≤ me ∧ x = .int .i64 j ∧ Hid (LE H w11 f (.slice avp f.path.length cvp) j wr)) (fun x _ => me - (intOf x).toNat)
            case atStart => exact ⟨0, Nat.zero_le _, rfl, Lib.hid ⟨_, Row.nil, HF11.out, Sd.refl _ _⟩⟩
            case round =>
              obtain ⟨j, hj, rfl, hI⟩ := hrel
              obtain ⟨ve, hrow, hbox, hsd⟩ := hI.out
              have HROW5 := Lib.hid hrow
              have HBOX5 := Lib.hid hbox
              have HSD5 := Lib.hid hsd
              have HBW5 := Lib.hid (show Below wA.heap.size wA _ from HB11.out.trans (hsd.under HH.out HB11.out.size))
              clear hI hrow hbox hsd
              by_cases hlt3 : j < me
              · have j1 : (j : Int) < (me : Int) := by omega
                have j0 : (0 : Int) ≤ (j : Int) := by omega
                obtain rfl := HAE.out (by omega)
                have hjl : j < f.ents.length := by rw [HME.out]; exact hlt3
                have hjL : j < Le.length := by rw [HLE2.out]; exact hlt3
                obtain ⟨vk, vb, vn, vs, b3, m3, d3, b4, m4, d4, vr, hLj, x0, x1, x2, x3, x4, x5, x6⟩ := HCE.out j hlt3 hjL
                have hJ := HJE.out j (by rw [List.length_map]; exact hjl) hjL
                rw [List.getElem_map, hLj] at hJ
                obtain ⟨q3, vm3, e3, hob3⟩ := Ob.of (l := eL f.ents[j]) hJ
                simp only [vCells, nilV, List.cons.injEq, Value.int.injEq, Value.bool.injEq, Value.string.injEq, Value.slice.injEq, true_and, and_true] at e3
                obtain ⟨rfl, rfl, rfl, rfl, ⟨rfl, rfl, rfl⟩, rfl, rfl⟩ := e3
                replace x0 := cell_under x0 HBW5.out
                replace x1 := cell_under x1 HBW5.out
                replace x2 := cell_under x2 HBW5.out
                replace x3 := cell_under x3 HBW5.out
                replace x4 := cell_under x4 HBW5.out
                replace x5 := cell_under x5 HBW5.out
                replace x6 := cell_under x6 HBW5.out
                clear hLj hJ
                have HTK2 := Lib.hid (show f.ents.take (j + 1) = f.ents.take j ++ [f.ents[j]] by rw [List.take_add_one, List.getElem?_eq_getElem hjl]; rfl)
                have HTL2 := Lib.hid (show (f.ents.take j).length = j by rw [List.length_take, HME.out]; omega)
                have HOB3 := Lib.hid hob3
                clear hob3
                generalize f.ents[j] = en at HTK2 HOB3
                obtain ⟨adw, cpw, hve⟩ := Row.slice HROW5.out
                subst hve
                rw [HTL2.out] at HROW5 HBOX5
                go_wp2_with fail
                have hna := heap_alloc_new wr (.cells #[.int .i64 5, .bool false, .int .i64 0, .string ⟨#[]⟩, .slice none 0 0, .slice b4 m4 d4, .int .i64 vr] 82)
                have HWY := Lib.hid ((Below.refl wr.heap.size wr).alloc (Nat.le_refl _) (.cells #[.int .i64 5, .bool false, .int .i64 0, .string ⟨#[]⟩, .slice none 0 0, .slice b4 m4 d4, .int .i64 vr] 82))
                have HHY := Lib.hid ((HWY.out.block _ (Rw.lt_of_heap HBOX5.out)).trans HBOX5.out)
                obtain ⟨G2, hG2⟩ : ∃ n, wr.heap.size = n := ⟨_, rfl⟩
                rw [hG2] at hna ⊢
                replace hG2 := Lib.hid hG2
                generalize wr.alloc (.cells #[.int .i64 5, .bool false, .int .i64 0, .string ⟨#[]⟩, .slice none 0 0, .slice b4 m4 d4, .int .i64 vr] 82) = wy at hna HWY HHY ⊢
                have z0 := Me.box_at (j := 0) hna rfl
                have z1 := Me.box_at (j := 1) hna rfl
                have z2 := Me.box_at (j := 2) hna rfl
                have z3 := Me.box_at (j := 3) hna rfl
                have z4 := Me.box_at (j := 4) hna rfl
                have z5' := Me.box_at (j := 5) hna rfl
                have z6 := Me.box_at (j := 6) hna rfl
                have z7 := Me.box_at (j := 5) HHY.out rfl
                have HC8 := Lib.hid (fun u (hu : Below wy.heap.size wy u) => (show (u.cell? ⟨G2, 0, none⟩ = some (.int .i64 5) ∧ u.cell? ⟨G2, 1, none⟩ = some (.bool false) ∧ u.cell? ⟨G2, 2, none⟩ = some (.int .i64 0) ∧ u.cell? ⟨G2, 3, none⟩ = some (.string ⟨#[]⟩) ∧ u.cell? ⟨G2, 4, none⟩ = some (.slice none 0 0) ∧ u.cell? ⟨G2, 5, none⟩ = some (.slice b4 m4 d4) ∧ u.cell? ⟨G2, 6, none⟩ = some (.int .i64 vr)) ∧ u.cell? ⟨H, 5, none⟩ = some (.slice adw j cpw) from ⟨⟨cell_under z0 hu, cell_under z1 hu, cell_under z2 hu, cell_under z3 hu, cell_under z4 hu, cell_under z5' hu, cell_under z6 hu⟩, cell_under z7 hu⟩))
                obtain ⟨eA, eB, eC, eD, eE⟩ := eget en (.slice b4 m4 d4) vr wy (HOB3.out.under (below_seq HBW5.out HWY.out))
                have EA := Lib.hid eA
                have EB := Lib.hid eB
                have EC := Lib.hid eC
                have ED := Lib.hid eD
                have EE := Lib.hid eE
                clear eA eB eC eD eE x0 x1 x2 x3 x4 x5 x6 hna
                have hGH : G2 ≠ H := fun e => by have h1 := Rw.lt_of_heap HBOX5.out; have h2 := hG2.out; omega
                have r0 := z7
                have r1 := (HC8.out _ (Below.refl _ _).drew).2
                have hf3 := fld3
                have hf2 := fld2
                have hld : ld_ents = .load 47 (.tmp 77) := rfl
                rw [← hld]
                go_region_held3 (fun u => u.cell? ⟨G2, 0, none⟩ = some (.int .i64 5) ∧ u.cell? ⟨G2, 1, none⟩ = some (.bool false) ∧ u.cell? ⟨G2, 2, none⟩ = some (.int .i64 0) ∧ u.cell? ⟨G2, 3, none⟩ = some (.string ⟨#[]⟩) ∧ u.cell? ⟨G2, 4, none⟩ = some (.slice none 0 0) ∧ u.cell? ⟨G2, 5, none⟩ = some (.slice b4 m4 d4) ∧ u.cell? ⟨G2, 6, none⟩ = some (.int .i64 vr)) (first | (with_reducible assumption) | ((with_reducible refine keep7set ?_ hGH); with_reducible assumption) | (with_reducible exact (HC8.out _ (Below.refl _ _).drew).1) | (with_reducible exact (HC8.out _ (HE.out.alloc HE.out.size _)).1) | (with_reducible exact (HC8.out _ (HE.out.alloc HE.out.size _).drew).1))
                  (first
                    | (go_at_call 54; have KA := EA; clear EA; first | (have C5 := KA.out wy (Below.refl (World.heap wy).size wy); (with_reducible refine C5.mono ?_); clear C5; rintro e uA ⟨⟨pA, rfl⟩, hb⟩; have HA := Lib.hid (below_seq (Below.refl (World.heap wy).size wy) hb); have sA := (HC8.out uA HA.out).1; have rA := (HC8.out uA HA.out).2; clear hb KA) | (have C5 := KA.out wy.drew (Below.refl (World.heap wy).size wy).drew; (with_reducible refine C5.mono ?_); clear C5; rintro e uA ⟨⟨pA, rfl⟩, hb⟩; have HA := Lib.hid (below_seq (Below.refl (World.heap wy).size wy).drew hb); have sA := (HC8.out uA HA.out).1; have rA := (HC8.out uA HA.out).2; clear hb KA))
                    | (go_at_call 54; have KB := EB; clear EB; first | (have C5 := KB.out uA HA.out; (with_reducible refine C5.mono ?_); clear C5; rintro e uB ⟨⟨pB, rfl⟩, hb⟩; have HB := Lib.hid (below_seq HA.out hb); have sB := (HC8.out uB HB.out).1; have rB := (HC8.out uB HB.out).2; clear hb KB sA))
                    | (go_at_call 54; have KC := EC; clear EC; first | (have C5 := KC.out uB HB.out; (with_reducible refine C5.mono ?_); clear C5; rintro e uC ⟨⟨pC, rfl⟩, hb⟩; have HC := Lib.hid (below_seq HB.out hb); have sC := (HC8.out uC HC.out).1; have rC := (HC8.out uC HC.out).2; clear hb KC sB))
                    | (go_at_call 54; have KD := ED; clear ED; first | (have C5 := KD.out uC HC.out; (with_reducible refine C5.mono ?_); clear C5; rintro e uD ⟨⟨pD, rfl⟩, hb⟩; have HD := Lib.hid (below_seq HC.out hb); have sD := (HC8.out uD HD.out).1; have rD := (HC8.out uD HD.out).2; clear hb KD sC))
                    | (go_at_call 54; have KE := EE; clear EE; first | (have C5 := KE.out uD HD.out; (with_reducible refine C5.mono ?_); clear C5; rintro e uE ⟨⟨pE, rfl⟩, hb⟩; have HE := Lib.hid (below_seq HD.out hb); have sE := (HC8.out uE HE.out).1; have rE := (HC8.out uE HE.out).2; have rE2 := (HC8.out _ (HE.out.alloc HE.out.size (.cells #[.string en.id, .string en.title, .string en.link, .string en.content, .int .i64 en.upd] 51))).2; clear hb KE sD))
                    | (refine step_push (El := EEl) _ rfl (.tmp 78) (.tmp 100) 47 rfl w11.heap.size uE.heap.size 51 t5 z5 5 72 Tryz.underlying47 HIE.out.1 HIE.out.2.1 HIE.out.2.2.1 HIE.out.2.2.2.1 HIE.out.2.2.2.2 (by decide) (.slice adw j cpw) (f.ents.take j) j HTL2.out rfl ?b1 _ en (eCells en) rfl ?b2 ?b3 ?b4 ?b5 ?b6 ?b7 rfl ?_; (case b1 => exact HROW5.out.below (HWY.out.trans ((HE.out.alloc HE.out.size (.cells #[.string en.id, .string en.title, .string en.link, .string en.content, .int .i64 en.upd] 51)).mono HWY.out.size))); (case b2 => exact one_row (c := eCells en) (sz := 5) rfl); (case b3 => exact eone en); (case b4 => exact fun u _ => rfl); (case b5 => (unfold maxLen; omega)); (case b6 => omega); (case b7 => exact Nat.le_trans HSD5.out.size (Nat.le_trans HWY.out.size (HE.out.alloc HE.out.size (.cells #[.string en.id, .string en.title, .string en.link, .string en.content, .int .i64 en.upd] 51)).size)); intro v1 w2 hrow2 hgrow hv1; have HZ := Lib.hid (HWY.out.trans ((HE.out.alloc HE.out.size (.cells #[.string en.id, .string en.title, .string en.link, .string en.content, .int .i64 en.upd] 51)).mono HWY.out.size)); obtain ⟨a8, c8, hv8⟩ := Row.slice hrow2; rw [List.length_append, HTL2.out] at hv8; change v1 = .slice a8 (j + 1) c8 at hv8; subst hv8; have HROW6 := Lib.hid hrow2; have HBOX6 := Lib.hid (grown_heap hgrow hv1 (Rw.lt_of_heap HF11.out) ((HZ.out.block _ (Rw.lt_of_heap HBOX5.out)).trans HBOX5.out)); have HSD6 := Lib.hid (grown_sd (HSD5.out.below HZ.out) hgrow hv1 (Nat.le_refl _)); have c5 := Me.box_at (j := 5) HBOX6.out rfl; have fr := frozen_of_row w2 _ 5 _ _ HBOX6.out; have sF := grown7 (HC8.out _ (HE.out.alloc HE.out.size _)).1 hgrow (fun q hq e => by have h1 := row_lt HROW5.out hq; have h2 := hG2.out; omega); clear hrow2 hgrow hv1 sE))
                all_goals
                  go_wp2_with fail
                  go_roundw
                  case rel =>
                    refine ⟨j + 1, by omega, by go_num, Lib.hid ⟨.slice a8 (j + 1) c8, ?_, heap_setCell_same _ H 5 _ _ _ HBOX6.out, HSD6.out.set 5 _⟩⟩
                    have h3 := row_set (B := H) (j := 5) (x := .slice a8 (j + 1) c8) HROW6.out (Rw.lt_of_heap HF11.out)
                    rw [← HTK2.out] at h3
                    exact h3
                  case measure => simp [intOf]; omega
              · have gl3 : decide ((j : Int) < (me : Int)) = false := decide_eq_false (by omega)
                have HTA2 : Hid (f.ents.take j = f.ents) := Lib.hid (List.take_of_length_le (by rw [HME.out]; omega))
                rw [HTA2.out] at HROW5
                obtain ⟨adw, cpw, hve⟩ := Row.slice HROW5.out
                subst hve
                have HPR := Lib.hid (row_sd HROW4.out (Nat.lt_of_lt_of_le (Rw.lt_of_heap HF9.out) HB10.out.size) HSD5.out)
                have HBO5 := Lib.hid (below_seq HBA.out (show Below _ _ _ from HBW5.out.trans (Below.refl _ _)))
                have HBX5 := Lib.hid ((HBO5.out.block _ (Rw.lt_of_heap HBOX.out)).trans HBOX.out)
                obtain ⟨ava, cva, hva⟩ := Row.slice HROW.out
                subst hva
                rw [HLk.out] at HROW HBX5
                have hrl := fun q (hq : Value.ownBlock (.slice ava k cva) = some q) => row_lt HROW.out hq
                have HRL := Lib.hid hrl
                have b0 := Me.box_at (j := 0) HBX5.out rfl
                have f0 := Me.box_at (j := 0) HBOX5.out rfl
                have f1 := Me.box_at (j := 1) HBOX5.out rfl
                have f2 := Me.box_at (j := 2) HBOX5.out rfl
                have f3 := Me.box_at (j := 3) HBOX5.out rfl
                have f4 := Me.box_at (j := 4) HBOX5.out rfl
                have f5 := Me.box_at (j := 5) HBOX5.out rfl
                obtain ⟨t6, z6, hi', hz0, hz1, hz2, hz3⟩ := info_sz infoFd
                have HIF := Lib.hid (And.intro hi' (And.intro hz0 (And.intro hz1 (And.intro hz2 hz3))))
                clear hi' hz0 hz1 hz2 hz3 hrl
                have HZA := Lib.hid ((Below.refl wr.heap.size wr).alloc (Nat.le_refl _) (.cells #[.slice avp f.path.length cvp, .string f.id, .string f.title, .string f.link, .int .i64 f.upd, .slice adw f.ents.length cpw] 49))
                have HFD := Lib.hid (fd_of (S := w10.heap.size) (f := f) (HPR.out.below HZA.out) (HROW5.out.below HZA.out) (Nat.le_refl _) HSD4.out.size)
                go_wp2_with (at_builtin; (refine wpList_push (El := FdIs) _ rfl _ _ 22 rfl Wj.heap.size wr.heap.size 49 t6 z6 6 104 Tryz.underlying22 HIF.out.1 HIF.out.2.1 HIF.out.2.2.1 HIF.out.2.2.2.1 HIF.out.2.2.2.2 (by decide) _ (a.take k) k HLk.out rfl ?b1 _ f (fCells f (.slice avp f.path.length cvp) (.slice adw f.ents.length cpw)) rfl ?b2 ?b3 ?b4 ?b5 ?b6 ?b7 rfl ?_))
                case b1 => exact HROW.out.below (below_seq HBO5.out HZA.out)
                case b2 => exact one_row (c := fCells f (.slice avp f.path.length cvp) (.slice adw f.ents.length cpw)) (sz := 6) rfl
                case b3 => intro u hu; simp only [fCells, List.mem_cons, List.not_mem_nil, or_false] at hu; rcases hu with rfl | rfl | rfl | rfl | rfl | rfl <;> rfl
                case b4 => exact fun u hu => FdV.apart HFD.out (Nat.le_trans HSD.out.size (Nat.le_trans HBA.out.size HBT.out.size)) (fun q hq => by have h1 := HRL.out q hq; have h2 := HBA.out.size; have h3 := HBT.out.size; omega) hu
                case b5 => unfold maxLen; omega
                case b6 => omega
                case b7 => have h1 := HSD.out.size; have h2 := HBO5.out.size; have h3 := HZA.out.size; omega
                intro v1 w2 hrow2 hgrow hv1
                obtain ⟨a8, c8, hv8⟩ := Row.slice hrow2
                rw [List.length_append, HLk.out] at hv8
                change v1 = .slice a8 (k + 1) c8 at hv8
                subst hv8
                have HBX6 := Lib.hid (grown_heap hgrow hv1 HBL.out ((HZA.out.block _ (Rw.lt_of_heap HBX5.out)).trans HBX5.out))
                have HSD6 := Lib.hid (grown_sd (HSD.out.below (below_seq HBO5.out HZA.out)) hgrow hv1 (Nat.le_refl _))
                have HROW6 := Lib.hid hrow2
                have b1 := Me.box_at (j := 0) HBX6.out rfl
                have fr := frozen_of_row w2 _ 0 _ _ HBX6.out
                clear hrow2 hgrow hv1 b0 f0 f1 f2 f3 f4 f5
                go_wp2_with fail
                go_roundw
                case rel =>
                  refine ⟨k + 1, by omega, by go_num, Lib.hid ⟨.slice a8 (k + 1) c8, ?_, heap_setCell_same _ B 0 _ _ _ HBX6.out, HSD6.out.set 0 _⟩⟩
                  have h3 := row_set (B := B) (j := 0) (x := .slice a8 (k + 1) c8) HROW6.out HBL.out
                  rw [← HK.out] at h3
                  exact h3
                case measure => simp [intOf]; omega
    · have gl : decide ((k : Int) < (m : Int)) = false := decide_eq_false (by omega)
      have HTA : Hid (a.take k = a) := Lib.hid (List.take_of_length_le (by rw [HM.out]; omega))
      rw [HTA.out] at HROW
      obtain ⟨ava, cva, hva⟩ := Row.slice HROW.out
      subst hva
      have b0 := Me.box_at (j := 0) HBOX.out rfl
      have HWr := Lib.hid (show Below W.heap.size W _ from HB1.out.trans (HBW.out.mono HB1.out.size))
      have CEE := Lib.hid (CE.out _ _ HWr.out (ar_of HROW.out))
      go_wp2_with fail
      refine CEE.out.mono ?_
      rintro e w2 ⟨rfl, hb2⟩
      have HB2 := Lib.hid (below_seq HWr.out hb2)
      have HZ2 := Lib.hid (((HBW.out.trans (hb2.mono HBW.out.size)).block _ (Rw.lt_of_heap HZ1.out)).trans HZ1.out)
      have HROW7 := Lib.hid (HROW.out.below hb2)
      have HWJ := Lib.hid (show W.heap.size < Wj.heap.size by have h1 := Rw.lt_of_heap HZ1.out; have h2 := HBJ.out.size; omega)
      have q0 := Me.box_at (j := 0) HZ2.out rfl
      have fq := frozen_of_row w2 _ 0 _ _ HZ2.out
      replace b0 := cell_under b0 hb2
      clear hb2 CEE
      go_wp2_with fail
      have hz2 := heap_setCell_same w2 W.heap.size 0 _ _ (.slice ava a.length cva) HZ2.out
      refine bodyPost_ret (res_cell_slot rfl _ _ W.heap.size _ _ _ _ rfl hz2 Tryz.underlying24 rfl (by kernel_rfl)) rfl ?_
      exact ⟨⟨.slice ava a.length cva, rfl, ar_of (row_set HROW7.out HWJ.out)⟩, ⟨HB2.out.os, HB2.out.tape, HB2.out.output, by simpa using HB2.out.size, fun q hq => (heap_setCell_other _ _ _ _ (show q ≠ W.heap.size by omega)).trans (HB2.out.block q hq)⟩⟩
end Go.Proofs.YtjaojenalodolaaGreatDoor.De
