/- Parts of this proof, joined: JwW1, JwW2, JwW3, Blw, JwW4, JwW5, JwW6, JwW7, JwW8. -/
import Derived.Test.YtbodoncomeegpaaGreatDoorMoE4
import Derived.Test.YtbodoncomeegpaaGreatDoorProg
import Derived.Test.YtbodoncomeegpaaGreatDoorShelf
import Derived.WalkKit
import Derived.OwnWalk
import Derived.Below
import Derived.Lib.Hide
import Derived.Lib.Builder
import Derived.Lib.AppendStr
import Derived.Lib.UnsafeStr
import Derived.Laws.Externs
import Derived.StillTailTactics
import Derived.Test.YtbodoncomeegpaaGreatDoorBld
import Derived.Test.YtbodoncomeegpaaGreatDoorJsW2
import Derived.Deep.RegionHeld3
/- jsonwrite's unused and valid, walked: the true case. -/
namespace Go.Proofs.YtbodoncomeegpaaGreatDoor.Me
open Go Go.RowKit Go.Proofs.YtbodoncomeegpaaGreatDoor Go.Proofs.YtbodoncomeegpaaGreatDoor.Rw Go.Proofs.YtbodoncomeegpaaGreatDoor.Vf Go.Proofs.YtbodoncomeegpaaGreatDoor.Mw
set_option linter.unusedVariables false

set_option maxRecDepth 100000
set_option maxHeartbeats 16000000
theorem cells7 {w : World} {x0 x1 x2 x3 x4 x5 x6 : Value} {t : TypeId} : (w.alloc (.cells #[x0, x1, x2, x3, x4, x5, x6] t)).cell? ⟨w.heap.size, 0, none⟩ = some x0 ∧ (w.alloc (.cells #[x0, x1, x2, x3, x4, x5, x6] t)).cell? ⟨w.heap.size, 1, none⟩ = some x1 ∧ (w.alloc (.cells #[x0, x1, x2, x3, x4, x5, x6] t)).cell? ⟨w.heap.size, 2, none⟩ = some x2 ∧ (w.alloc (.cells #[x0, x1, x2, x3, x4, x5, x6] t)).cell? ⟨w.heap.size, 3, none⟩ = some x3 ∧ (w.alloc (.cells #[x0, x1, x2, x3, x4, x5, x6] t)).cell? ⟨w.heap.size, 4, none⟩ = some x4 ∧ (w.alloc (.cells #[x0, x1, x2, x3, x4, x5, x6] t)).cell? ⟨w.heap.size, 5, none⟩ = some x5 ∧ (w.alloc (.cells #[x0, x1, x2, x3, x4, x5, x6] t)).cell? ⟨w.heap.size, 6, none⟩ = some x6 := by
  unfold World.cell?
  simp only [heap_alloc_new]
  exact ⟨rfl, rfl, rfl, rfl, rfl, rfl, rfl⟩
theorem cells9 {w : World} {x0 x1 x2 x3 x4 x5 x6 x7 x8 : Value} {t : TypeId} : (w.alloc (.cells #[x0, x1, x2, x3, x4, x5, x6, x7, x8] t)).cell? ⟨w.heap.size, 0, none⟩ = some x0 ∧ (w.alloc (.cells #[x0, x1, x2, x3, x4, x5, x6, x7, x8] t)).cell? ⟨w.heap.size, 1, none⟩ = some x1 ∧ (w.alloc (.cells #[x0, x1, x2, x3, x4, x5, x6, x7, x8] t)).cell? ⟨w.heap.size, 2, none⟩ = some x2 ∧ (w.alloc (.cells #[x0, x1, x2, x3, x4, x5, x6, x7, x8] t)).cell? ⟨w.heap.size, 3, none⟩ = some x3 ∧ (w.alloc (.cells #[x0, x1, x2, x3, x4, x5, x6, x7, x8] t)).cell? ⟨w.heap.size, 4, none⟩ = some x4 ∧ (w.alloc (.cells #[x0, x1, x2, x3, x4, x5, x6, x7, x8] t)).cell? ⟨w.heap.size, 5, none⟩ = some x5 ∧ (w.alloc (.cells #[x0, x1, x2, x3, x4, x5, x6, x7, x8] t)).cell? ⟨w.heap.size, 6, none⟩ = some x6 ∧ (w.alloc (.cells #[x0, x1, x2, x3, x4, x5, x6, x7, x8] t)).cell? ⟨w.heap.size, 7, none⟩ = some x7 ∧ (w.alloc (.cells #[x0, x1, x2, x3, x4, x5, x6, x7, x8] t)).cell? ⟨w.heap.size, 8, none⟩ = some x8 := by
  unfold World.cell?
  simp only [heap_alloc_new]
  exact ⟨rfl, rfl, rfl, rfl, rfl, rfl, rfl, rfl, rfl⟩
theorem unused_is (j : Jv.J) (cs : List Value) (w : World) (h : Jv w j cs) :
    Calls Tryz.prog 130 #[.agg cs.toArray] w fun e w' => e = .returned (.bool true) ∧ Below w.heap.size w w' := by
  have key : ∀ (k : Int) (b : Bool) (n : Int) (s : ByteArray) (a1 : Option Addr) (n1 c1 : Nat) (a2 : Option Addr) (n2 c2 : Nat) (p : Int),
      ((k = 0 ∧ b = false ∧ n = 0 ∧ s = ⟨#[]⟩ ∧ n1 = 0 ∧ n2 = 0) ∨ (k = 1 ∧ n = 0 ∧ s = ⟨#[]⟩ ∧ n1 = 0 ∧ n2 = 0) ∨ (k = 2 ∧ b = false ∧ s = ⟨#[]⟩ ∧ n1 = 0 ∧ n2 = 0) ∨ (k = 3 ∧ b = false ∧ n = 0 ∧ n1 = 0 ∧ n2 = 0) ∨ (k = 4 ∧ b = false ∧ n = 0 ∧ s = ⟨#[]⟩ ∧ n2 = 0) ∨ (k = 5 ∧ b = false ∧ n = 0 ∧ s = ⟨#[]⟩ ∧ n1 = 0)) →
      Calls Tryz.prog 130 #[.agg #[.int .i64 k, .bool b, .int .i64 n, .string s, .slice a1 n1 c1, .slice a2 n2 c2, .int .i64 p]] w fun e w' => e = .returned (.bool true) ∧ Below w.heap.size w w' := by
    intro k b n s a1 n1 c1 a2 n2 c2 p hk
    have HB0 := Lib.hid ((Below.refl w.heap.size w).alloc (Nat.le_refl _) (.cells #[.int .i64 k, .bool b, .int .i64 n, .string s, .slice a1 n1 c1, .slice a2 n2 c2, .int .i64 p] 98))
    obtain ⟨x0, x1, x2, x3, x4, x5, -⟩ := cells7 (w := w) (x0 := .int .i64 k) (x1 := .bool b) (x2 := .int .i64 n) (x3 := .string s) (x4 := .slice a1 n1 c1) (x5 := .slice a2 n2 c2) (x6 := .int .i64 p) (t := 98)
    rcases hk with ⟨rfl, rfl, rfl, rfl, rfl, rfl⟩ | ⟨rfl, rfl, rfl, rfl, rfl⟩ | ⟨rfl, rfl, rfl, rfl, rfl⟩ | ⟨rfl, rfl, rfl, rfl, rfl⟩ | ⟨rfl, rfl, rfl, rfl, rfl⟩ | ⟨rfl, rfl, rfl, rfl, rfl⟩
    all_goals
      go_enter Tryz.func130, Tryz.ntmps130
      go_wp2_with fail
      go_ret
      exact ⟨rfl, HB0.out⟩
  cases j <;> unfold Jv at h
  · obtain ⟨p, rfl⟩ := h; exact key _ _ _ _ _ _ _ _ _ _ _ (by simp)
  · obtain ⟨p, rfl⟩ := h; exact key _ _ _ _ _ _ _ _ _ _ _ (by simp)
  · obtain ⟨p, rfl⟩ := h; exact key _ _ _ _ _ _ _ _ _ _ _ (by simp)
  · obtain ⟨p, rfl⟩ := h; exact key _ _ _ _ _ _ _ _ _ _ _ (by simp)
  · obtain ⟨p, v, L, rfl, ⟨g, o, ad, cap, rfl, -⟩, -⟩ := h; exact key _ _ _ _ _ _ _ _ _ _ _ (by simp)
  · obtain ⟨p, v, L, rfl, ⟨g, o, ad, cap, rfl, -⟩, -⟩ := h; exact key _ _ _ _ _ _ _ _ _ _ _ (by simp)
/-- A row of members, cell by cell. -/
theorem mems_at {w : World} {v : Value} {l : List (ByteArray × Jv.J)} {L : List (List Value)} (h : Rw w v 9 L) (hA : All JvP w l L) : ∃ g off ad cap, v = .slice ad l.length cap ∧ (0 < l.length → ad = some ⟨g, off, none⟩) ∧
    ∀ j (hj : j < l.length), ∃ k b n s a1 n1 c1 a2 n2 c2 p q, Jv w l[j].2 (vCells k b n s (.slice a1 n1 c1) (.slice a2 n2 c2) p) ∧
      w.cell? ⟨g, off + j * 9, none⟩ = some (.string l[j].1) ∧ w.cell? ⟨g, off + j * 9 + 1, none⟩ = some (.int .i64 k) ∧ w.cell? ⟨g, off + j * 9 + 2, none⟩ = some (.bool b) ∧ w.cell? ⟨g, off + j * 9 + 3, none⟩ = some (.int .i64 n) ∧ w.cell? ⟨g, off + j * 9 + 4, none⟩ = some (.string s) ∧ w.cell? ⟨g, off + j * 9 + 5, none⟩ = some (.slice a1 n1 c1) ∧ w.cell? ⟨g, off + j * 9 + 6, none⟩ = some (.slice a2 n2 c2) ∧ w.cell? ⟨g, off + j * 9 + 7, none⟩ = some (.int .i64 p) ∧ w.cell? ⟨g, off + j * 9 + 8, none⟩ = some (.int .i64 q) := by
  obtain ⟨g, off, ad, cap, rfl, h2, h3⟩ := h
  refine ⟨g, off, ad, cap, by rw [hA.1], by rw [← hA.1]; exact h2, fun j hj => ?_⟩
  have hL : j < L.length := by rw [hA.1]; exact hj
  have hP := hA.2 j hj hL
  unfold JvP at hP
  obtain ⟨d, q, e, hv⟩ := hP
  obtain ⟨k, b, n, s, a1, n1, c1, a2, n2, c2, p, rfl⟩ := Jv_form hv
  have at' : ∀ i (hi : i < 9), ∃ x, ((Value.string l[j].1 :: vCells k b n s (.slice a1 n1 c1) (.slice a2 n2 c2) p) ++ [Value.int .i64 q])[i]? = some x ∧ w.cell? ⟨g, off + j * 9 + i, none⟩ = some x := fun i hi => by
    have := h3 j hL i hi
    rw [e] at this
    exact this
  refine ⟨k, b, n, s, a1, n1, c1, a2, n2, c2, p, q, hv, ?_, ?_, ?_, ?_, ?_, ?_, ?_, ?_, ?_⟩
  · obtain ⟨x, hx, hc⟩ := at' 0 (by omega); simp [vCells] at hx; subst hx; exact hc
  · obtain ⟨x, hx, hc⟩ := at' 1 (by omega); simp [vCells] at hx; subst hx; exact hc
  · obtain ⟨x, hx, hc⟩ := at' 2 (by omega); simp [vCells] at hx; subst hx; exact hc
  · obtain ⟨x, hx, hc⟩ := at' 3 (by omega); simp [vCells] at hx; subst hx; exact hc
  · obtain ⟨x, hx, hc⟩ := at' 4 (by omega); simp [vCells] at hx; subst hx; exact hc
  · obtain ⟨x, hx, hc⟩ := at' 5 (by omega); simp [vCells] at hx; subst hx; exact hc
  · obtain ⟨x, hx, hc⟩ := at' 6 (by omega); simp [vCells] at hx; subst hx; exact hc
  · obtain ⟨x, hx, hc⟩ := at' 7 (by omega); simp [vCells] at hx; subst hx; exact hc
  · obtain ⟨x, hx, hc⟩ := at' 8 (by omega); simp [vCells] at hx; subst hx; exact hc
end Go.Proofs.YtbodoncomeegpaaGreatDoor.Me
/- jsonwrite's valid, walked: the true case. -/
namespace Go.Proofs.YtbodoncomeegpaaGreatDoor.Me
open Go Go.RowKit Go.Proofs.YtbodoncomeegpaaGreatDoor Go.Proofs.YtbodoncomeegpaaGreatDoor.Rw Go.Proofs.YtbodoncomeegpaaGreatDoor.Vf Go.Proofs.YtbodoncomeegpaaGreatDoor.Mw
set_option linter.unusedVariables false

set_option maxRecDepth 100000
set_option maxHeartbeats 16000000
abbrev U8 (w : World) : Prop := Lib.Utf8Tabs 2 3 w
theorem keys_fresh {mem : List (ByteArray × Jv.J)} (h : (mem.map (·.1)).Nodup) {k : Nat} (hk : k < mem.length) : ((mem.take k).any fun y => y.1.data.toList == mem[k].1.data.toList) = false := by
  rw [List.any_eq_false]
  intro y hy
  rw [List.mem_take_iff_getElem] at hy
  obtain ⟨i, hi, rfl⟩ := hy
  have hil : i < mem.length := by omega
  intro e
  have e2 := eq_of_beq e
  have e3 : mem[i].1 = mem[k].1 := Bs.ba_eq e2
  have h2 : (mem.map (·.1)).Pairwise (· ≠ ·) := h
  have := (List.pairwise_iff_getElem.1 h2) i k (by rw [List.length_map]; omega) (by rw [List.length_map]; exact hk) (by omega)
  rw [List.getElem_map, List.getElem_map] at this
  exact this e3
theorem valid_gen (k d n : Int) (b : Bool) (s : ByteArray) (l : List Jv.J) (mem : List (ByteArray × Jv.J)) (vi vm : Value) (p : Int) (W : World) (hk : 0 ≤ k ∧ k ≤ 5) (hd : 0 ≤ d ∧ d ≤ 100)
    (hs : Lib.validD s.data.toList = true) (hsz : s.size ≤ 140737488355327) (L M : List (List Value)) (hR : Rw W vi 7 L) (hL : All Jv W l L) (hl : l.length ≤ 1000000) (hRm : Rw W vm 9 M) (hM : All JvP W mem M) (hm : mem.length ≤ 1000000)
    (hnd : (mem.map (·.1)).Nodup) (hks : ∀ q ∈ mem, Lib.validD q.1.data.toList = true ∧ q.1.size ≤ 140737488355327) (hT : U8 W)
    (cU : ∀ u, Below W.heap.size W u → Calls Tryz.prog 130 #[.agg #[.int .i64 k, .bool b, .int .i64 n, .string s, vi, vm, .int .i64 p]] u fun e w' => e = .returned (.bool true) ∧ Below u.heap.size u w')
    (cV : ∀ j (hj : j < l.length) k b n s a1 n1 c1 a2 n2 c2 p u, Below W.heap.size W u → Jv W l[j] (vCells k b n s (.slice a1 n1 c1) (.slice a2 n2 c2) p) → Calls Tryz.prog 108 #[.agg #[.int .i64 k, .bool b, .int .i64 n, .string s, .slice a1 n1 c1, .slice a2 n2 c2, .int .i64 p], .int .i64 (d + 1)] u fun e w' => e = .returned (.bool true) ∧ Below u.heap.size u w')
    (cM : ∀ j (hj : j < mem.length) k b n s a1 n1 c1 a2 n2 c2 p u, Below W.heap.size W u → Jv W mem[j].2 (vCells k b n s (.slice a1 n1 c1) (.slice a2 n2 c2) p) → Calls Tryz.prog 108 #[.agg #[.int .i64 k, .bool b, .int .i64 n, .string s, .slice a1 n1 c1, .slice a2 n2 c2, .int .i64 p], .int .i64 (d + 1)] u fun e w' => e = .returned (.bool true) ∧ Below u.heap.size u w') :
    Calls Tryz.prog 108 #[.agg #[.int .i64 k, .bool b, .int .i64 n, .string s, vi, vm, .int .i64 p], .int .i64 d] W fun e w' => e = .returned (.bool true) ∧ Below W.heap.size W w' := by
  obtain ⟨g, off, ad, cap, rfl, had, hcl⟩ := vals_at hR hL
  obtain ⟨mg, mo, ma, mc, rfl, hma, hcm⟩ := mems_at hRm hM
  obtain ⟨ln, hln⟩ : ∃ n, l.length = n := ⟨_, rfl⟩
  obtain ⟨mn, hmn⟩ : ∃ n, mem.length = n := ⟨_, rfl⟩
  rw [hln] at had hl cU ⊢
  rw [hmn] at hma hm cU ⊢
  have HLn := Lib.hid hln
  have HMn := Lib.hid hmn
  have HAD := Lib.hid had
  have HMA := Lib.hid hma
  have HCL := Lib.hid hcl
  have HCM := Lib.hid hcm
  have HLL := Lib.hid hL.1
  have HJA := Lib.hid hL.2
  have HND := Lib.hid hnd
  have HKS := Lib.hid hks
  have HT := Lib.hid hT
  have CU := Lib.hid cU
  have CV := Lib.hid cV
  have CM := Lib.hid cM
  have CS := Lib.hid (fun u (hu : Below W.heap.size W u) => Tryz.utf8_ValidString s u (by omega) (Tx.u8_below hT hu))
  rw [hs] at CS
  obtain ⟨k0, k5⟩ := hk
  obtain ⟨d0, d1⟩ := hd
  have g1 : decide (k < 0) = false := decide_eq_false (by omega)
  have g2 : decide ((5 : Int) < k) = false := decide_eq_false (by omega)
  have g3 : decide ((100 : Int) < d) = false := decide_eq_false (by omega)
  have g4 : IntKind.i64.wrap (d + 1) = d + 1 := IntWalk.i64_in _ (by omega)
  have HB0 := Lib.hid ((Below.refl W.heap.size W).alloc (Nat.le_refl _) (.cells #[.int .i64 k, .bool b, .int .i64 n, .string s, .slice ad ln cap, .slice ma mn mc, .int .i64 p] 98))
  have HX := cells7 (w := W) (x0 := .int .i64 k) (x1 := .bool b) (x2 := .int .i64 n) (x3 := .string s) (x4 := .slice ad ln cap) (x5 := .slice ma mn mc) (x6 := .int .i64 p) (t := 98)
  clear hR hL hRm hM had hma hcl hcm hln hmn hnd hks hT cU cV cM hs hsz
  have hmm := @run_makeMap Tryz.prog
  go_enter Tryz.func108, Tryz.ntmps108
  obtain ⟨x0, x1, x2, x3, x4, x5, x6⟩ := HX
  go_wp2_with fail
  refine (CU.out _ HB0.out).mono ?_
  rintro e w1 ⟨rfl, hb1⟩
  have HB1 := Lib.hid (below_seq HB0.out hb1)
  replace x0 := cell_under x0 hb1
  replace x1 := cell_under x1 hb1
  replace x2 := cell_under x2 hb1
  replace x3 := cell_under x3 hb1
  replace x4 := cell_under x4 hb1
  replace x5 := cell_under x5 hb1
  replace x6 := cell_under x6 hb1
  clear hb1 HB0 CU
  go_wp2_with fail
  refine (CS.out _ HB1.out).mono ?_
  rintro e w2 ⟨rfl, hb2⟩
  have HB2 := Lib.hid (below_seq HB1.out hb2)
  replace x4 := cell_under x4 hb2
  replace x5 := cell_under x5 hb2
  clear hb2 HB1 CS x0 x1 x2 x3 x6
  go_wp2_with fail
  go_loopw [36] (fun x wr => ∃ i : Nat, i ≤ ln ∧ x = .int .i64 i ∧ Hid (Below w2.heap.size w2 wr)) (fun x _ => ln - (intOf x).toNat)
  case atStart => exact ⟨0, Nat.zero_le _, rfl, Lib.hid (Below.refl _ _)⟩
  case round =>
    obtain ⟨i, hi, rfl, hb⟩ := hrel
    by_cases hlt : i < ln
    · obtain rfl := HAD.out (by omega)
      have hil : i < l.length := by rw [HLn.out]; exact hlt
      have hiL : i < L.length := by rw [HLL.out]; exact hil
      obtain ⟨vk, vb, vn, vs, a1, n1, c1, a2, n2, c2, vp, eL, y0, y1, y2, y3, y4, y5, y6⟩ := HCL.out i hil hiL
      have hJ := HJA.out i hil hiL
      rw [eL] at hJ
      have hbw := below_seq HB2.out hb.out
      replace y0 := cell_under y0 hbw
      replace y1 := cell_under y1 hbw
      replace y2 := cell_under y2 hbw
      replace y3 := cell_under y3 hbw
      replace y4 := cell_under y4 hbw
      replace y5 := cell_under y5 hbw
      replace y6 := cell_under y6 hbw
      have i1 : (i : Int) < (ln : Int) := by omega
      have i0 : (0 : Int) ≤ (i : Int) := by omega
      have hba := (Below.refl wr.heap.size wr).alloc (Nat.le_refl _) (.cells #[.int .i64 vk, .bool vb, .int .i64 vn, .string vs, .slice a1 n1 c1, .slice a2 n2 c2, .int .i64 vp] 98)
      have HBA := Lib.hid (below_seq hb.out hba)
      have HX := cells7 (w := wr) (x0 := .int .i64 vk) (x1 := .bool vb) (x2 := .int .i64 vn) (x3 := .string vs) (x4 := .slice a1 n1 c1) (x5 := .slice a2 n2 c2) (x6 := .int .i64 vp) (t := 98)
      have CC := Lib.hid (CV.out i hil vk vb vn vs a1 n1 c1 a2 n2 c2 vp _ (below_seq HB2.out HBA.out) hJ)
      clear eL hJ hbw hba
      obtain ⟨z0, z1, z2, z3, z4, z5, z6⟩ := HX
      go_wp2_with fail
      refine CC.out.mono ?_
      rintro e w3 ⟨rfl, hb3⟩
      have HB3 := Lib.hid (below_seq HBA.out hb3)
      clear hb3 HBA CC z0 z1 z2 z3 z4 z5 z6 y0 y1 y2 y3 y4 y5 y6
      go_wp2_with fail
      go_roundw
      case rel => exact ⟨i + 1, by omega, by go_num, HB3⟩
      case measure => simp [intOf]; omega
    · have gl : decide ((i : Int) < (ln : Int)) = false := decide_eq_false (by omega)
      replace x5 := cell_under x5 hb.out
      have HB3 := Lib.hid (below_seq HB2.out hb.out)
      have HS0 := Lib.hid (Seen.new wr)
      have hbm := (Below.refl wr.heap.size wr).alloc (Nat.le_refl _) (.map #[] 0)
      have HB4 := Lib.hid (below_seq HB3.out hbm)
      replace x5 := cell_under x5 hbm
      have HWB := Lib.hid HB3.out.size
      clear hb hbm x4
      go_wp2_with fail
      obtain ⟨B, hB⟩ : ∃ B, wr.heap.size = B := ⟨_, rfl⟩
      generalize hwm : wr.alloc (.map #[] 0) = wm at HS0 HB4 x5 ⊢
      rw [hB] at HS0 HWB ⊢
      clear hwm hB
      go_loopw [50] (fun x wq => ∃ i : Nat, i ≤ mn ∧ x = .int .i64 i ∧ Hid (Seen wq B i (fun s => (mem.take i).any fun y => y.1.data.toList == s)) ∧ Hid (Below W.heap.size W wq)) (fun x _ => mn - (intOf x).toNat)
      case atStart => exact ⟨0, Nat.zero_le _, rfl, Lib.hid (HS0.out.congr (fun s => by simp)), HB4⟩
      case round =>
        obtain ⟨i, hi, rfl, hse, hbq⟩ := hrel
        by_cases hlt : i < mn
        · obtain rfl := HMA.out (by omega)
          have hil : i < mem.length := by rw [HMn.out]; exact hlt
          obtain ⟨vk, vb, vn, vs, a1, n1, c1, a2, n2, c2, vp, vq, hJ, y0, y1, y2, y3, y4, y5, y6, y7, y8⟩ := HCM.out i hil
          replace y0 := cell_under y0 hbq.out
          replace y1 := cell_under y1 hbq.out
          replace y2 := cell_under y2 hbq.out
          replace y3 := cell_under y3 hbq.out
          replace y4 := cell_under y4 hbq.out
          replace y5 := cell_under y5 hbq.out
          replace y6 := cell_under y6 hbq.out
          replace y7 := cell_under y7 hbq.out
          replace y8 := cell_under y8 hbq.out
          have HF := Lib.hid (keys_fresh HND.out hil)
          have HNX : Hid (∀ s, ((mem.take (i + 1)).any fun y => y.1.data.toList == s) = (mem[i].1.data.toList == s || (mem.take i).any fun y => y.1.data.toList == s)) := Lib.hid (fun s => any_take (l := mem) (fun s (y : ByteArray × Jv.J) => y.1.data.toList == s) hil s)
          have HKK := Lib.hid (HKS.out _ (List.getElem_mem hil))
          have CC := Lib.hid (fun u hu => CM.out i hil vk vb vn vs a1 n1 c1 a2 n2 c2 vp u hu hJ)
          clear hJ
          generalize mem[i].1 = key at y0 HF HKK HNX
          have i1 : (i : Int) < (mn : Int) := by omega
          have i0 : (0 : Int) ≤ (i : Int) := by omega
          have hba := (Below.refl wr.heap.size wr).alloc (Nat.le_refl _) (.cells #[.string key, .int .i64 vk, .bool vb, .int .i64 vn, .string vs, .slice a1 n1 c1, .slice a2 n2 c2, .int .i64 vp, .int .i64 vq] 129)
          have HBA := Lib.hid (below_seq hbq.out hba)
          have HX := cells9 (w := wr) (x0 := .string key) (x1 := .int .i64 vk) (x2 := .bool vb) (x3 := .int .i64 vn) (x4 := .string vs) (x5 := .slice a1 n1 c1) (x6 := .slice a2 n2 c2) (x7 := .int .i64 vp) (x8 := .int .i64 vq) (t := 129)
          have HSA := Lib.hid (hse.out.below hba)
          have lk := HSA.out.look key HKK.out.2 HF.out
          have CS := Lib.hid (fun u (hu : Below W.heap.size W u) => Tryz.utf8_ValidString key u (by have := HKK.out.2; omega) (Tx.u8_below HT.out hu))
          rw [HKK.out.1] at CS
          obtain ⟨z0, z1, z2, z3, z4, z5, z6, z7, z8⟩ := HX
          clear hba
          go_wp2_with fail
          refine (CS.out _ HBA.out).mono ?_
          rintro e w3 ⟨rfl, hb3⟩
          have HB3' := Lib.hid (below_seq HBA.out hb3)
          have HSB := Lib.hid (HSA.out.below hb3)
          replace z0 := cell_under z0 hb3
          replace z1 := cell_under z1 hb3
          replace z2 := cell_under z2 hb3
          replace z3 := cell_under z3 hb3
          replace z4 := cell_under z4 hb3
          replace z5 := cell_under z5 hb3
          replace z6 := cell_under z6 hb3
          replace z7 := cell_under z7 hb3
          clear hb3 HBA HSA CS lk z8 y0 y1 y2 y3 y4 y5 y6 y7 y8
          go_wp2_with fail
          refine (CC.out _ HB3'.out).mono ?_
          rintro e w4 ⟨rfl, hb4⟩
          have HB4' := Lib.hid (below_seq HB3'.out hb4)
          replace z0 := cell_under z0 hb4
          obtain ⟨w5, hput, hs5, hg5⟩ := (HSB.out.below hb4).put key HKK.out.2 (by unfold maxLen; omega)
          have HS5 := Lib.hid (hs5.congr (g := fun s => (mem.take (i + 1)).any fun y => y.1.data.toList == s) (fun s => by rw [HNX.out s]; simp only [Bool.beq_comm]))
          have HB5 := Lib.hid (Mw.below_grown HB4'.out HWB.out hg5)
          clear hs5 hg5 hb4 CC HB3' z1 z2 z3 z4 z5 z6 z7
          go_wp2_with fail
          go_roundw
          case rel => exact ⟨i + 1, by omega, by go_num, HS5, HB5⟩
          case measure => simp [intOf]; omega
        · have gm : decide ((i : Int) < (mn : Int)) = false := decide_eq_false (by omega)
          go_wp2_with fail
          go_ret
          exact ⟨rfl, hbq.out⟩
end Go.Proofs.YtbodoncomeegpaaGreatDoor.Me
/- jsonwrite's valid and Check, over every value that may be written. -/
namespace Go.Proofs.YtbodoncomeegpaaGreatDoor.Me
open Go Go.RowKit Go.Proofs.YtbodoncomeegpaaGreatDoor Go.Proofs.YtbodoncomeegpaaGreatDoor.Rw Go.Proofs.YtbodoncomeegpaaGreatDoor.Vf Go.Proofs.YtbodoncomeegpaaGreatDoor.Mw
set_option linter.unusedVariables false

set_option maxRecDepth 100000
set_option maxHeartbeats 16000000
mutual
/-- What a machine's memory bounds. -/
def JB : Jv.J → Prop
  | .str s => s.size ≤ 1000000
  | .int n => -9223372036854775808 ≤ n ∧ n ≤ 9223372036854775807
  | .arr l => l.length ≤ 1000000 ∧ JBL l
  | .obj l => l.length ≤ 1000000 ∧ JBM l
  | _ => True
def JBL : List Jv.J → Prop
  | [] => True
  | a :: r => JB a ∧ JBL r
def JBM : List (ByteArray × Jv.J) → Prop
  | [] => True
  | a :: r => JBP a ∧ JBM r
def JBP : ByteArray × Jv.J → Prop
  | (k, a) => k.size ≤ 1000000 ∧ JB a
end
theorem JBL_iff (l : List Jv.J) : JBL l ↔ ∀ x ∈ l, JB x := by
  induction l with
  | nil => simp [JBL]
  | cons a r ih => simp [JBL, ih]
theorem JBM_iff (l : List (ByteArray × Jv.J)) : JBM l ↔ ∀ p ∈ l, p.1.size ≤ 1000000 ∧ JB p.2 := by
  induction l with
  | nil => simp [JBM]
  | cons a r ih => obtain ⟨k, a⟩ := a; simp [JBM, JBP, ih]
theorem jl_all {w : World} {l : List Jv.J} {L : List (List Value)} (h : JvL w l L) : All Jv w l L := ⟨(JvL_at h).1, (JvL_at h).2⟩
theorem jm_all {w : World} {l : List (ByteArray × Jv.J)} {L : List (List Value)} (h : JvM w l L) : All JvP w l L := ⟨(JvM_at h).1, (JvM_at h).2⟩
theorem jl_nil (w : World) : All Jv w [] [] := ⟨rfl, fun j hj => absurd hj (by simp)⟩
theorem jm_nil (w : World) : All JvP w [] [] := ⟨rfl, fun j hj => absurd hj (by simp)⟩
theorem valid_ok : ∀ (m d : Nat) (j : Jv.J) (cs : List Value) (w : World), d + m = 101 → Jv.Ok d j → JB j → Jv w j cs → U8 w →
    Calls Tryz.prog 108 #[.agg cs.toArray, .int .i64 d] w fun e w' => e = .returned (.bool true) ∧ Below w.heap.size w w'
  | 0, d, j, cs, w, hm, ho, hb, h, hT => by
    exfalso
    cases j <;> simp only [Jv.Ok] at ho <;> omega
  | m + 1, d, j, cs, w, hm, ho, hb, h, hT => by
    have cU := fun u (hu : Below w.heap.size w u) => unused_is j cs u (Jv.under hu j cs h)
    have ev : Lib.validD (⟨#[]⟩ : ByteArray).data.toList = true := rfl
    have e0 : (⟨#[]⟩ : ByteArray).size ≤ 140737488355327 := by decide
    cases j <;> unfold Jv at h
    · obtain ⟨p, rfl⟩ := h
      exact valid_gen 0 d 0 false ⟨#[]⟩ [] [] nilV nilV p w (by omega) (by omega) ev e0 [] [] (Rw.nil _ _) (jl_nil _) (by simp) (Rw.nil _ _) (jm_nil _) (by simp) (by simp) (by simp) hT cU (fun j hj => absurd hj (by simp)) (fun j hj => absurd hj (by simp))
    · rename_i b
      obtain ⟨p, rfl⟩ := h
      exact valid_gen 1 d 0 b ⟨#[]⟩ [] [] nilV nilV p w (by omega) (by omega) ev e0 [] [] (Rw.nil _ _) (jl_nil _) (by simp) (Rw.nil _ _) (jm_nil _) (by simp) (by simp) (by simp) hT cU (fun j hj => absurd hj (by simp)) (fun j hj => absurd hj (by simp))
    · rename_i n
      obtain ⟨p, rfl⟩ := h
      exact valid_gen 2 d n false ⟨#[]⟩ [] [] nilV nilV p w (by omega) (by omega) ev e0 [] [] (Rw.nil _ _) (jl_nil _) (by simp) (Rw.nil _ _) (jm_nil _) (by simp) (by simp) (by simp) hT cU (fun j hj => absurd hj (by simp)) (fun j hj => absurd hj (by simp))
    · rename_i s
      obtain ⟨p, rfl⟩ := h
      simp only [Jv.Ok] at ho
      unfold JB at hb
      exact valid_gen 3 d 0 false s [] [] nilV nilV p w (by omega) (by omega) ho.2 (by omega) [] [] (Rw.nil _ _) (jl_nil _) (by simp) (Rw.nil _ _) (jm_nil _) (by simp) (by simp) (by simp) hT cU (fun j hj => absurd hj (by simp)) (fun j hj => absurd hj (by simp))
    · rename_i l
      obtain ⟨p, v, L, rfl, h1, h2⟩ := h
      simp only [Jv.Ok] at ho
      unfold JB at hb
      rw [Jv.OkL_iff] at ho
      rw [JBL_iff] at hb
      refine valid_gen 4 d 0 false ⟨#[]⟩ l [] v nilV p w (by omega) (by omega) ev e0 L [] h1 (jl_all h2) hb.1 (Rw.nil _ _) (jm_nil _) (by simp) (by simp) (by simp) hT cU (fun j hj k b n s a1 n1 c1 a2 n2 c2 p u hu hj2 => ?_) (fun j hj => absurd hj (by simp))
      exact valid_ok m (d + 1) l[j] _ u (by omega) (ho.2 _ (List.getElem_mem hj)) (hb.2 _ (List.getElem_mem hj)) (Jv.under hu _ _ hj2) (Tx.u8_below hT hu)
    · rename_i l
      obtain ⟨p, v, L, rfl, h1, h2⟩ := h
      simp only [Jv.Ok] at ho
      unfold JB at hb
      rw [Jv.OkM_iff] at ho
      rw [JBM_iff] at hb
      refine valid_gen 5 d 0 false ⟨#[]⟩ [] l nilV v p w (by omega) (by omega) ev e0 [] L (Rw.nil _ _) (jl_nil _) (by simp) h1 (jm_all h2) hb.1 ho.2.1 (fun q hq => ⟨(ho.2.2 q hq).1, by have := (hb.2 q hq).1; omega⟩) hT cU (fun j hj => absurd hj (by simp)) (fun j hj k b n s a1 n1 c1 a2 n2 c2 p u hu hj2 => ?_)
      exact valid_ok m (d + 1) l[j].2 _ u (by omega) (ho.2.2 _ (List.getElem_mem hj)).2 (hb.2 _ (List.getElem_mem hj)).2 (Jv.under hu _ _ hj2) (Tx.u8_below hT hu)
theorem check_ok (k n : Int) (b : Bool) (s : ByteArray) (a1 : Option Addr) (n1 c1 : Nat) (a2 : Option Addr) (n2 c2 : Nat) (p : Int) (j : Jv.J) (w : World) (ho : Jv.Ok 1 j) (hb : JB j) (h : Jv w j (vCells k b n s (.slice a1 n1 c1) (.slice a2 n2 c2) p)) (hT : U8 w) :
    Calls Tryz.prog 78 #[.agg #[.int .i64 k, .bool b, .int .i64 n, .string s, .slice a1 n1 c1, .slice a2 n2 c2, .int .i64 p]] w fun e w' => e = .returned (.int .i64 0) ∧ Below w.heap.size w w' := by
  have hba := (Below.refl w.heap.size w).alloc (Nat.le_refl _) (.cells #[.int .i64 k, .bool b, .int .i64 n, .string s, .slice a1 n1 c1, .slice a2 n2 c2, .int .i64 p] 98)
  have CV := Lib.hid (valid_ok 100 1 j _ _ rfl ho hb (Jv.under hba _ _ h) (Tx.u8_below hT hba))
  have HB := Lib.hid hba
  have HX := cells7 (w := w) (x0 := .int .i64 k) (x1 := .bool b) (x2 := .int .i64 n) (x3 := .string s) (x4 := .slice a1 n1 c1) (x5 := .slice a2 n2 c2) (x6 := .int .i64 p) (t := 98)
  clear hba h hT ho hb
  go_enter Tryz.func78, Tryz.ntmps78
  obtain ⟨x0, x1, x2, x3, x4, x5, x6⟩ := HX
  go_wp2_with fail
  refine CV.out.mono ?_
  rintro e w1 ⟨rfl, hb1⟩
  have HB1 := Lib.hid (below_seq HB.out hb1)
  clear hb1 CV HB
  go_wp2_with fail
  go_ret
  exact ⟨rfl, HB1.out⟩
end Go.Proofs.YtbodoncomeegpaaGreatDoor.Me
/- Printed by genbldw.py from XBld.lean: walks of strings.Builder's methods in a writer's block. Walks of strings.Builder's writing methods over this program (the copy check's own panic is refused by the loader here, so the shelf's layings do not fit): a builder that the call has made itself. -/
namespace Go.Proofs.YtbodoncomeegpaaGreatDoor.Blw
open Go Go.RowKit Go.Proofs.YtbodoncomeegpaaGreatDoor

abbrev TB : TypeId := 137
abbrev TU : TypeId := 5

theorem sizeB : (Tryz.prog.info? 60).map (·.size) = some 2 := by kernel_rfl
theorem liesB : liesAt Tryz.prog Tryz.prog.depth 137 (2 / Tryz.prog.cellsOf 137) 0 60 1 = true := by kernel_rfl
theorem infoU : (Tryz.prog.info? 5).map (fun i => (i.zero, i.size, i.bytes)) = some (some (.int .u8 0), 1, 1) := by kernel_rfl

/-! ### what is kept -/
theorem own_below {w w' : World} {base : Nat} {e : TypeId} {v : Value} {n : Nat} {xs : List Value} (h : w.ownsRow base e 1 v n xs) (hb : Below w.heap.size w w') : w'.ownsRow base e 1 v n xs :=
  h.kept (row := none) ⟨hb.os, hb.tape, hb.output, hb.size, fun k hk _ => hb.block k hk⟩ (by
    rcases h.2 with ⟨rfl, _⟩ | ⟨g, cap, cur, rfl, _⟩
    · left; rfl
    · right; simp [Value.ownBlock])
theorem at_below {B b : Nat} {p : Value} {bs : List Value} {w w' : World} (h : Lib.BuilderAt TB TU B b p bs w) (hb : Below w.heap.size w w') : Lib.BuilderAt TB TU B b p bs w' := by
  obtain ⟨h1, v, h2, h3, h4⟩ := h
  exact ⟨h1, v, by rw [hb.block b ((Array.getElem?_eq_some_iff.1 h2).1)]; exact h2, own_below h3 hb, h4⟩
theorem is_below {B b : Nat} {bs : List Value} {w w' : World} (h : Lib.IsBuilder TB TU B b bs w) (hb : Below w.heap.size w w') : Lib.IsBuilder TB TU B b bs w' := by
  rcases h with h | h
  · exact .inl (at_below h hb)
  · exact .inr (at_below h hb)
theorem is_lt {B b : Nat} {bs : List Value} {w : World} (h : Lib.IsBuilder TB TU B b bs w) : B ≤ b ∧ b < w.heap.size := by
  rcases h with h | h
  · exact ⟨h.1, h.lt⟩
  · exact ⟨h.1, h.lt⟩

/-- Blocks other than the writer's, that hold no bytes, are as they were. -/
def Fz (b : Nat) (w w' : World) : Prop := ∀ k cs t fr, w.heap[k]? = some (Obj.cells cs t fr) → k ≠ b → t ≠ TU → w'.heap[k]? = w.heap[k]?
theorem Fz.refl (b : Nat) (w : World) : Fz b w w := fun _ _ _ _ _ _ _ => rfl
theorem Fz.trans {b : Nat} {u v w : World} (h : Fz b u v) (k : Fz b v w) : Fz b u w := fun i cs t fr h1 h2 h3 => by
  have e := h i cs t fr h1 h2 h3
  rw [k i cs t fr (by rw [e]; exact h1) h2 h3, e]
theorem Fz.of_below {b : Nat} {u v : World} (h : Below u.heap.size u v) : Fz b u v := fun i cs t fr h1 _ _ => h.block i (by rcases Nat.lt_or_ge i u.heap.size with g | g; exact g; rw [Array.getElem?_eq_none g] at h1; cases h1)
theorem Fz.set {b : Nat} {u v : World} (h : Fz b u v) (j : Nat) (x : Value) : Fz b u (v.setCell ⟨b, j, none⟩ x) := fun i cs t fr h1 h2 h3 => by
  rw [heap_setCell_other _ _ _ _ h2]
  exact h i cs t fr h1 h2 h3
theorem Fz.grow {B b n : Nat} {u v w : World} {s : Value} {xs : List Value} (h : Fz b u v) (ho : v.ownsRow B TU 1 s n xs) (hg : v.grownBy w s.ownBlock) : Fz b u w := fun i cs t fr h1 h2 h3 => by
  have e := h i cs t fr h1 h2 h3
  have hv : v.heap[i]? = some (Obj.cells cs t fr) := by rw [e]; exact h1
  have hlt : i < v.heap.size := by
    rcases Nat.lt_or_ge i v.heap.size with g | g
    · exact g
    · rw [Array.getElem?_eq_none g] at hv; cases hv
  rw [hg.block i hlt ?_, e]
  intro e2
  rcases ho.2 with ⟨rfl, _⟩ | ⟨g, cap, cur, rfl, _, hc, _⟩
  · cases e2
  · cases e2
    rw [hv] at hc
    cases hc
    exact h3 rfl

/-! ### copyCheck -/
set_option maxRecDepth 100000 in
set_option maxHeartbeats 1000000 in
theorem check_used (b : Nat) (w : World) (h0 : w.cell? ⟨b, 0, none⟩ = some (.pointer (some ⟨b, 0, none⟩))) :
    Calls Tryz.prog 53 #[.pointer (some ⟨b, 0, none⟩)] w fun e w' => e = .returned (.tuple #[]) ∧ w' = w := by
  obtain ⟨j, hj, _⟩ := Option.map_eq_some_iff.1 sizeB
  go_enter Tryz.func53, Tryz.ntmps53
  go_wp2
  rw [Lib.run_neq_ptr_same w _ Tryz.underlying58 hj]
  go_wp2
  go_end0
  exact ⟨rfl, rfl⟩
set_option maxRecDepth 100000 in
set_option maxHeartbeats 1000000 in
theorem check_fresh (b : Nat) (w : World) (h0 : w.cell? ⟨b, 0, none⟩ = some (.pointer none)) (hsh : w.shape? b = some (TB, 2)) (hfz : w.frozen? ⟨b, 0, none⟩ = false) :
    Calls Tryz.prog 53 #[.pointer (some ⟨b, 0, none⟩)] w fun e w' => e = .returned (.tuple #[]) ∧ w' = w.setCell ⟨b, 0, none⟩ (.pointer (some ⟨b, 0, none⟩)) := by
  obtain ⟨j, hj, hjs⟩ := Option.map_eq_some_iff.1 sizeB
  go_enter Tryz.func53, Tryz.ntmps53
  go_wp2
  rw [Lib.run_to_unsafe w ⟨b, 0, none⟩ Tryz.underlying58 Tryz.underlying144 hj (by rw [hjs]; decide) hsh (Nat.zero_lt_succ 1)]
  simp only [Result.andThen]
  rw [Oper.upon_value]
  go_wp2
  rw [run_callFunc_extern Tryz.func87 (by kernel_rfl) (by kernel_rfl) (by kernel_rfl) (e := Extern.AbiNoEscape.same) (by kernel_rfl)]
  rw [Lib.run_noEscape]
  simp only [Result.andThen]
  rw [Oper.upon_value]
  go_wp2
  rw [Lib.run_from_unsafe w ⟨b, 0, none⟩ Tryz.underlying144 Tryz.underlying58 hj hsh liesB]
  simp only [Result.andThen]
  rw [Oper.upon_value]
  go_wp2
  go_end0
  exact ⟨rfl, rfl⟩
theorem check_any (B b : Nat) (bs : List Value) (w : World) (h : Lib.IsBuilder TB TU B b bs w) :
    Calls Tryz.prog 53 #[.pointer (some ⟨b, 0, none⟩)] w fun e w' => e = .returned (.tuple #[]) ∧ (Lib.BuilderAt TB TU B b (.pointer (some ⟨b, 0, none⟩)) bs w' ∧ Below B w w' ∧ Fz b w w') := by
  rcases h with h | h
  · refine (check_fresh b w h.cell0 h.shape h.frozen0).mono ?_
    rintro e w' ⟨rfl, rfl⟩
    exact ⟨rfl, h.used _, (Below.refl B w).setCell (p := ⟨b, 0, none⟩) h.1 _, (Fz.refl b w).set 0 _⟩
  · refine (check_used b w h.cell0).mono ?_
    rintro e w' ⟨rfl, rfl⟩
    exact ⟨rfl, h, Below.refl B _, Fz.refl b _⟩

/-! ### the writers -/
set_option maxRecDepth 100000 in
set_option maxHeartbeats 2000000 in
theorem writeByte (B b : Nat) (bs : List Value) (c : Int) (w : World) (h : Lib.IsBuilder TB TU B b bs w) (hlen : bs.length + 1 ≤ 140737488355328) (hBw : B ≤ w.heap.size) :
    Calls Tryz.prog 135 #[.pointer (some ⟨b, 0, none⟩), .int .u8 c] w fun e w' => e = .returned .nilIface ∧ (Lib.IsBuilder TB TU B b (bs ++ [.int .u8 c]) w' ∧ Below B w w' ∧ Fz b w w') := by
  obtain ⟨i0, hi, hz0, hz1, hz2⟩ := info_parts infoU
  go_enter Tryz.func135, Tryz.ntmps135
  go_wp2_with fail
  refine (check_any B b bs _ h).mono ?_
  rintro e w1 ⟨rfl, h1, hb1, hf1⟩
  obtain ⟨hB, v, hbk, hown, hne⟩ := h1
  have c0 : w1.cell? ⟨b, 0, none⟩ = some (.pointer (some ⟨b, 0, none⟩)) := by rw [Lib.cell_of_heap hbk]; rfl
  have c1 : w1.cell? ⟨b, 1, none⟩ = some v := by rw [Lib.cell_of_heap hbk]; rfl
  have hz := hb1.size
  go_wp2_with (at_builtin; refine wpList_append_own _ rfl _ _ 36 rfl B 5 i0 (.int .u8 0) 1 1 Tryz.underlying36 hi hz0 hz1 hz2 rfl (by decide) _ _ _ rfl (hown.alloc _) ⟨w1.heap.size, 0, none⟩ 1 1 [.int .u8 c] rfl rfl ?c1 ?c2 ?c3 ?c4 ?c5 ?_)
  case c1 =>
    intro j u hj
    match j, hj with
    | 0, hj => simp at hj; subst hj; simp [Addr.add]
  case c2 => intro u hu; simp at hu; subst hu; rfl
  case c3 => unfold maxLen; omega
  case c4 => omega
  case c5 => simp; omega
  intro v' w2 hown' hgrow _
  have hlt : b < w1.heap.size := (Array.getElem?_eq_some_iff.1 hbk).1
  have hb2 : w2.heap[b]? = some (.cells #[.pointer (some ⟨b, 0, none⟩), v] TB (0, 0)) := by
    rw [hgrow.block b (by simp; omega) (fun e => hne e.symm), Lib.alloc_old w1 _ b hlt]
    exact hbk
  have d0 : w2.cell? ⟨b, 0, none⟩ = some (.pointer (some ⟨b, 0, none⟩)) := by rw [Lib.cell_of_heap hb2]; rfl
  have d1 : w2.cell? ⟨b, 1, none⟩ = some v := by rw [Lib.cell_of_heap hb2]; rfl
  have f1 : w2.frozen? ⟨b, 1, none⟩ = false := Lib.frozen_of_heap hb2 1
  obtain ⟨g, cap, rfl⟩ : ∃ g cap, v' = .slice (some ⟨g, 0, none⟩) (bs.length + 1) cap := by
    rcases hown'.2 with ⟨_, h0⟩ | ⟨g, cap, cur, hv, _⟩
    · omega
    · exact ⟨g, cap, hv⟩
  go_wp2
  go_ret
  refine ⟨rfl, .inr ?_, ?_, ?_⟩
  · exact Lib.BuilderAt.put (T := TB) (e := TU) hB hb2 (bs' := bs ++ [.int .u8 c]) (by simpa using hown') (by decide)
  · exact ((hb1.alloc (by omega) _).grown hgrow (by simp; omega) (fun k hk => (hown.lt k hk).1)).setCell (p := ⟨b, 1, none⟩) hB _
  · exact ((hf1.trans (Fz.of_below ((Below.refl w1.heap.size w1).alloc (Nat.le_refl _) _))).grow (hown.alloc _) hgrow).set 1 _
set_option maxRecDepth 100000 in
set_option maxHeartbeats 2000000 in
theorem writeString (B b : Nat) (bs : List Value) (s : ByteArray) (w : World) (h : Lib.IsBuilder TB TU B b bs w) (hlen : bs.length + s.size ≤ 140737488355328) (hBw : B ≤ w.heap.size) :
    Calls Tryz.prog 23 #[.pointer (some ⟨b, 0, none⟩), .string s] w fun e w' => e = .returned (.tuple #[.int .i64 s.size, .nilIface]) ∧ (Lib.IsBuilder TB TU B b (bs ++ Lib.strCells s) w' ∧ Below B w w' ∧ Fz b w w') := by
  obtain ⟨i0, hi, hz0, hz1, hz2⟩ := info_parts infoU
  go_enter Tryz.func23, Tryz.ntmps23
  go_wp2_with fail
  refine (check_any B b bs _ h).mono ?_
  rintro e w1 ⟨rfl, h1, hb1, hf1⟩
  obtain ⟨hB, v, hbk, hown, hne⟩ := h1
  have c0 : w1.cell? ⟨b, 0, none⟩ = some (.pointer (some ⟨b, 0, none⟩)) := by rw [Lib.cell_of_heap hbk]; rfl
  have c1 : w1.cell? ⟨b, 1, none⟩ = some v := by rw [Lib.cell_of_heap hbk]; rfl
  have hz := hb1.size
  go_wp2_with (at_builtin; refine Lib.wpList_append_own_string _ rfl _ _ 36 9 rfl B 5 i0 Tryz.underlying36 Tryz.underlying9 hi hz0 hz1 hz2 _ _ _ rfl hown s rfl ?c3 ?c4 ?c5 ?_)
  case c3 => unfold maxLen; omega
  case c4 => omega
  case c5 => omega
  intro v' w2 hown' hgrow _
  have hlt : b < w1.heap.size := (Array.getElem?_eq_some_iff.1 hbk).1
  have hb2 : w2.heap[b]? = some (.cells #[.pointer (some ⟨b, 0, none⟩), v] TB (0, 0)) := by
    rw [hgrow.block b hlt (fun e => hne e.symm)]
    exact hbk
  have d0 : w2.cell? ⟨b, 0, none⟩ = some (.pointer (some ⟨b, 0, none⟩)) := by rw [Lib.cell_of_heap hb2]; rfl
  have d1 : w2.cell? ⟨b, 1, none⟩ = some v := by rw [Lib.cell_of_heap hb2]; rfl
  have f1 : w2.frozen? ⟨b, 1, none⟩ = false := Lib.frozen_of_heap hb2 1
  obtain ⟨ao, n', cap, rfl⟩ : ∃ ao n' cap, v' = .slice ao n' cap := by
    rcases hown'.2 with ⟨hv, _⟩ | ⟨g, cap, cur, hv, _⟩
    · exact ⟨_, _, _, hv⟩
    · exact ⟨_, _, _, hv⟩
  go_wp2
  go_ret2
  refine ⟨rfl, .inr ?_, ?_, ?_⟩
  · exact Lib.BuilderAt.put (T := TB) (e := TU) hB hb2 (bs' := bs ++ Lib.strCells s) (by simpa [Lib.strCells_length] using hown') (by decide)
  · exact (hb1.grown hgrow (by omega) (fun k hk => (hown.lt k hk).1)).setCell (p := ⟨b, 1, none⟩) hB _
  · exact (hf1.grow hown hgrow).set 1 _
set_option maxRecDepth 100000 in
set_option maxHeartbeats 4000000 in
theorem string_is (B b : Nat) (l : List UInt8) (w : World) (h : Lib.IsBuilder TB TU B b (Lib.byteCells l) w) (h0 : l ≠ []) (hl : l.length ≤ 140737488355328) :
    Calls Tryz.prog 24 #[.pointer (some ⟨b, 0, none⟩)] w fun e w' => e = .returned (.string ⟨l.toArray⟩) ∧ Below B w w' := by
  obtain ⟨p, hB, v, hbk, hown, hne⟩ : ∃ p, Lib.BuilderAt TB TU B b p (Lib.byteCells l) w := by
    rcases h with h | h
    · exact ⟨_, h⟩
    · exact ⟨_, h⟩
  have hl0 : 0 < l.length := List.length_pos_iff.2 h0
  rw [Lib.byteCells_length] at hown
  rcases hown.2 with ⟨_, h1⟩ | ⟨g, cap, cur, rfl, hg, hcur, hnc, hcm, hcs, ht⟩
  · omega
  have c1 : w.cell? ⟨b, 1, none⟩ = some (.slice (some ⟨g, 0, none⟩) l.length cap) := by rw [Lib.cell_of_heap hbk]; rfl
  have hSD : (Builtin.unsafeSliceData_ #[36] 110 #[.slice (some ⟨g, 0, none⟩) l.length cap]).run Tryz.prog w.drew = .ok (.pointer (some ⟨g, 0, none⟩)) w.drew := Lib.run_unsafeSliceData_row _ _ _ _ _ _ (by omega)
  have hcell : ∀ j x, l[j]? = some x → w.drew.cell? ((⟨g, 0, none⟩ : Addr).add j) = some (.int .u8 x.toNat) := by
    intro j x hx
    have e : ((⟨g, 0, none⟩ : Addr).add j) = ⟨g, j, none⟩ := by simp [Addr.add]; omega
    rw [e]
    show w.cell? _ = _
    unfold World.cell?
    simp only [hcur]
    have hj : j < l.length := (List.getElem?_eq_some_iff.1 hx).1
    have h2 := congrArg (fun m : List Value => m[j]?) ht
    simp only [List.getElem?_take, if_pos (show j < l.length * 1 by omega)] at h2
    have h3 : (Lib.byteCells l)[j]? = some (.int .u8 x.toNat) := by simp [Lib.byteCells, hx]
    rw [h3] at h2
    simpa using h2
  have hUS := Lib.run_unsafeString_row (P := Tryz.prog) (w := w.drew) 110 3 9 5 Tryz.underlying110 (by kernel_rfl) g cap (by have e : w.drew.heap[g]? = _ := hcur; unfold World.shape?; rw [e]; simp [hcs]) l h0 hnc (by omega) hcell
  have HBF := Lib.hid (Lib.below_freeze (B := B) ((Below.refl B w).drew) (p := ⟨g, 0, none⟩) hg l.length)
  have HL := Lib.hid h0
  clear hcell hbk hown hcur hne ht h hcs h0
  go_enter Tryz.func24, Tryz.ntmps24
  go_wp2_with fail
  go_still_tail 10, (by kernel_rfl)
  change wpList _ _ _ _ _ w.drew
  go_wp2_with fail
  go_ret
  exact ⟨rfl, HBF.out⟩
end Go.Proofs.YtbodoncomeegpaaGreatDoor.Blw
/- jsonwrite's writer: str, and what writing leaves. -/
namespace Go.Proofs.YtbodoncomeegpaaGreatDoor.Me
open Go Go.RowKit Go.Proofs.YtbodoncomeegpaaGreatDoor Go.Proofs.YtbodoncomeegpaaGreatDoor.Rw Go.Proofs.YtbodoncomeegpaaGreatDoor.Vf Go.Proofs.YtbodoncomeegpaaGreatDoor.Mw
set_option linter.unusedVariables false

set_option maxRecDepth 100000
set_option maxHeartbeats 16000000
/-- The writer in block b holds these bytes; W0's blocks are as they were. -/
def Wst (W0 : World) (b : Nat) (out : List UInt8) (w : World) : Prop := Lib.IsBuilder Blw.TB Blw.TU W0.heap.size b (Lib.byteCells out) w ∧ Below W0.heap.size W0 w
theorem Wst.below {W0 w w' : World} {b : Nat} {out : List UInt8} (h : Wst W0 b out w) (hb : Below w.heap.size w w') : Wst W0 b out w' := ⟨Blw.is_below h.1 hb, below_seq h.2 hb⟩
theorem Wst.alloc {W0 w : World} {b : Nat} {out : List UInt8} (h : Wst W0 b out w) (o : Obj) : Wst W0 b out (w.alloc o) := h.below ((Below.refl w.heap.size w).alloc (Nat.le_refl _) o)
theorem wbyte {W0 w : World} {b : Nat} {out : List UInt8} (c : UInt8) (v : Int) (hv : v = c.toNat) (h : Wst W0 b out w) (hl : out.length ≤ 1000000000) :
    Calls Tryz.prog 135 #[.pointer (some ⟨b, 0, none⟩), .int .u8 v] w fun e w' => e = .returned .nilIface ∧ Wst W0 b (out ++ [c]) w' ∧ Blw.Fz b w w' := by
  subst hv
  refine (Blw.writeByte W0.heap.size b (Lib.byteCells out) c.toNat w h.1 (by rw [Lib.byteCells_length]; omega) h.2.size).mono ?_
  rintro e w' ⟨rfl, h1, h2, h3⟩
  refine ⟨rfl, ⟨?_, h.2.trans h2⟩, h3⟩
  rw [Lib.byteCells_append]
  exact h1
theorem wstr {W0 w : World} {b : Nat} {out : List UInt8} (s : ByteArray) (h : Wst W0 b out w) (hl : out.length ≤ 1000000000) (hs : s.size ≤ 1000000000) :
    Calls Tryz.prog 23 #[.pointer (some ⟨b, 0, none⟩), .string s] w fun e w' => e = .returned (.tuple #[.int .i64 s.size, .nilIface]) ∧ Wst W0 b (out ++ s.data.toList) w' ∧ Blw.Fz b w w' := by
  refine (Blw.writeString W0.heap.size b (Lib.byteCells out) s w h.1 (by rw [Lib.byteCells_length]; omega) h.2.size).mono ?_
  rintro e w' ⟨rfl, h1, h2, h3⟩
  refine ⟨rfl, ⟨?_, h.2.trans h2⟩, h3⟩
  rw [Lib.byteCells_append, ← Lib.strCells_eq]
  exact h1
theorem str_out {W0 w : World} {b : Nat} {out : List UInt8} (s : ByteArray) (h : Wst W0 b out w) (hT : U8 W0) (hL : Jw.LetTab W0) (hv : Lib.validD s.data.toList = true) (hs : s.size ≤ 1000000) (hl : out.length + (Js.quote s.data.toList).length ≤ 1000000000) :
    Calls Tryz.prog 111 #[.pointer (some ⟨b, 0, none⟩), .string s] w fun e w' => e = .returned (.tuple #[]) ∧ Wst W0 b (out ++ Js.quote s.data.toList) w' ∧ Blw.Fz b w w' := by
  have CQ := Lib.hid (Jw.quote_any s w (by omega) (Tx.u8_below hT h.2) (hL.below h.2) hv)
  have HW := Lib.hid h
  obtain ⟨q, hq⟩ : ∃ q, Js.quote s.data.toList = q := ⟨_, rfl⟩
  rw [hq] at CQ hl ⊢
  clear h hT hL hv hq
  have hqs : (⟨q.toArray⟩ : ByteArray).size = q.length := by simp [ByteArray.size]
  have HQS := Lib.hid hqs
  have HQL := Lib.hid (show (⟨q.toArray⟩ : ByteArray).data.toList = q by simp)
  generalize (⟨q.toArray⟩ : ByteArray) = Q at CQ HQS HQL
  clear hqs
  go_enter Tryz.func111, Tryz.ntmps111
  go_wp2_with fail
  refine CQ.out.mono ?_
  rintro e w1 ⟨rfl, hb1⟩
  have HW1 := Lib.hid (HW.out.below hb1)
  have HF1 := Lib.hid (Blw.Fz.of_below (b := b) hb1)
  clear hb1 HW CQ
  go_wp2_with fail
  refine (wstr Q HW1.out (by omega) (by rw [HQS.out]; omega)).mono ?_
  rintro e w2 ⟨rfl, h2, hf2⟩
  rw [HQL.out] at h2
  have HW2 := Lib.hid h2
  have HF2 := Lib.hid (HF1.out.trans hf2)
  clear h2 hf2
  go_wp2_with fail
  go_end0
  exact ⟨rfl, HW2.out, HF2.out⟩
theorem below_num (w : World) (k : Nat) (os : Array Obj) : Below w.heap.size w (Sort.grow (w.drewN k) os) :=
  ⟨rfl, rfl, rfl, by simp [Sort.grow, World.drewN], fun i hi => by simp [Sort.grow, World.drewN, Array.getElem?_append, hi]⟩
abbrev Pow (w : World) : Prop := Lib.TabIs Tryz.prog w "internal/strconv.uint64pow10" .u64 Lib.pow10Tab
theorem num_is (n : Int) (h0 : -9223372036854775808 ≤ n) (h1 : n ≤ 9223372036854775807) (w : World) (ht : Pow w) :
    Calls Tryz.prog 110 #[.int .i64 n, .int .i64 10] w fun e w' => e = .returned (.string ⟨(Jv.dig n).toArray⟩) ∧ Below w.heap.size w w' := by
  refine (Tryz.strconv_FormatInt_10 n h0 h1 w ht).mono ?_
  rintro e w' ⟨rfl, k, os, rfl⟩
  exact ⟨rfl, below_num w k os⟩
end Go.Proofs.YtbodoncomeegpaaGreatDoor.Me
/- jsonwrite's join, walked, over the contract of what it calls. Printed by genjww5.py. -/
namespace Go.Proofs.YtbodoncomeegpaaGreatDoor.Me
open Go Go.RowKit Go.Proofs.YtbodoncomeegpaaGreatDoor Go.Proofs.YtbodoncomeegpaaGreatDoor.Rw Go.Proofs.YtbodoncomeegpaaGreatDoor.Vf Go.Proofs.YtbodoncomeegpaaGreatDoor.Mw
set_option linter.unusedVariables false

set_option maxRecDepth 100000
set_option maxHeartbeats 16000000
theorem box_at {w : World} {g j : Nat} {cs : Array Value} {t : TypeId} {fr : Nat × Nat} {x : Value} (h : w.heap[g]? = some (Obj.cells cs t fr)) (hx : cs[j]? = some x) : w.cell? ⟨g, j, none⟩ = some x := by
  unfold World.cell?
  simp only [h]
  exact hx
theorem joinC_take_len (l : List (List UInt8)) : ∀ k, (Jv.joinC (l.take k)).length ≤ (Jv.joinC l).length := by
  induction l with
  | nil => intro k; simp
  | cons a r ih =>
    intro k
    cases k with
    | zero => simp [Jv.joinC]
    | succ k =>
      rw [List.take_succ_cons]
      cases r with
      | nil => simp
      | cons b r =>
        cases k with
        | zero => simp [Jv.joinC]
        | succ k =>
          have := ih (k + 1)
          rw [List.take_succ_cons] at this ⊢
          simp only [Jv.joinC, List.length_append, List.length_cons]
          omega
theorem joinV_is (W0 : World) (b : Nat) (op en : UInt8) (l : List Jv.J) (v : Value) (L : List (List Value)) (W : World) (hR : Rw W0 v 7 L) (hA : All Jv W0 l L) (hl : l.length ≤ 1000000) (out : List UInt8) (hW : Wst W0 b out W) (hlen : out.length + (Jv.joinC (Jv.encL l)).length + 2 ≤ 1000000000)
    (cE : ∀ j (hj : j < l.length) k b' n s a1 n1 c1 a2 n2 c2 p u o, Wst W0 b o u → o.length + (Jv.enc l[j]).length ≤ 1000000000 → Jv W0 l[j] (vCells k b' n s (.slice a1 n1 c1) (.slice a2 n2 c2) p) → Calls Tryz.prog 79 #[.pointer (some ⟨b, 0, none⟩), .agg #[.int .i64 k, .bool b', .int .i64 n, .string s, .slice a1 n1 c1, .slice a2 n2 c2, .int .i64 p]] u fun e w' => e = .returned (.tuple #[]) ∧ Wst W0 b (o ++ Jv.enc l[j]) w') :
    Calls Tryz.prog 112 #[.pointer (some ⟨b, 0, none⟩), .int .u8 op.toNat, .int .u8 en.toNat, v, .func (.func 79) #[.pointer (some ⟨b, 0, none⟩)] #[]] W fun e w' => e = .returned (.tuple #[]) ∧ Wst W0 b (out ++ op :: (Jv.joinC (Jv.encL l) ++ [en])) w' := by
  obtain ⟨g, off, ad, cap, rfl, had, hcl⟩ := vals_at hR hA
  have HQ : Hid ((Jv.encL l).length = l.length ∧ ∀ j (hj : j < l.length) (h2 : j < (Jv.encL l).length), (Jv.encL l)[j] = Jv.enc l[j]) := Lib.hid ⟨by rw [Jv.encL_map]; simp, fun j hj h2 => by simp only [Jv.encL_map, List.getElem_map]⟩
  obtain ⟨S, hS⟩ : ∃ S, Jv.encL l = S := ⟨_, rfl⟩
  rw [hS] at hlen ⊢
  rw [hS] at HQ
  obtain ⟨m, hm⟩ : ∃ m, l.length = m := ⟨_, rfl⟩
  rw [hm] at had hl ⊢
  have HM := Lib.hid hm
  have HAD := Lib.hid had
  have HCL := Lib.hid hcl
  have HL := Lib.hid hA.1
  have HJ := Lib.hid hA.2
  have CE := Lib.hid cE
  have HW := Lib.hid hW
  have HLE := Lib.hid hlen
  obtain ⟨on, hon⟩ : ∃ n : Int, n = op.toNat := ⟨_, rfl⟩
  obtain ⟨ne, hne⟩ : ∃ n : Int, n = en.toNat := ⟨_, rfl⟩
  have CO := Lib.hid (wbyte op on hon hW (by omega))
  have CZ := Lib.hid (fun (w : World) (o : List UInt8) (h : Wst W0 b o w) (hl : o.length ≤ 1000000000) => wbyte en ne hne h hl)
  rw [← hon, ← hne]
  clear hR hA had hcl hm cE hW hS hon hne hlen
  go_enter Tryz.func112, Tryz.ntmps112
  go_wp2_with fail
  refine CO.out.mono ?_
  rintro e w1 ⟨rfl, h1, -⟩
  have HW1 := Lib.hid h1
  clear h1 CO HW
  go_wp2_with fail
  go_loopw [19] (fun x wr => ∃ j : Nat, j ≤ m ∧ x = .int .i64 j ∧ Hid (Wst W0 b (out ++ op :: Jv.joinC (S.take j)) wr)) (fun x _ => m - (intOf x).toNat)
  case atStart => exact ⟨0, Nat.zero_le _, rfl, Lib.hid (by rw [List.take_zero]; exact HW1.out)⟩
  case round =>
    obtain ⟨j, hj, rfl, hw⟩ := hrel
    by_cases hlt : j < m
    · obtain rfl := HAD.out (by omega)
      have hjl : j < l.length := by rw [HM.out]; exact hlt
      have hjS : j < S.length := by rw [HQ.out.1]; exact hjl
      have hjL : j < L.length := by rw [HL.out]; exact hjl
      obtain ⟨vk, vb, vn, vs, a1, n1, c1, a2, n2, c2, vp, eL, y0, y1, y2, y3, y4, y5, y6⟩ := HCL.out j hjl hjL
      have hJ := HJ.out j hjl hjL
      rw [eL] at hJ
      have CC := Lib.hid (fun u o h1 h2 => CE.out j hjl vk vb vn vs a1 n1 c1 a2 n2 c2 vp u o h1 h2 hJ)
      clear eL hJ
      rw [← HQ.out.2 j hjl hjS] at CC
      replace y0 := cell_under y0 hw.out.2
      replace y1 := cell_under y1 hw.out.2
      replace y2 := cell_under y2 hw.out.2
      replace y3 := cell_under y3 hw.out.2
      replace y4 := cell_under y4 hw.out.2
      replace y5 := cell_under y5 hw.out.2
      replace y6 := cell_under y6 hw.out.2
      have i1 : (j : Int) < (m : Int) := by omega
      have i0 : (0 : Int) ≤ (j : Int) := by omega
      have HTK := Lib.hid (Jv.joinC_take S j hjS)
      have HLT := Lib.hid (joinC_take_len S (j + 1))
      generalize S[j] = sj at CC HTK
      have HWA := Lib.hid (hw.out.alloc (.cells #[.int .i64 vk, .bool vb, .int .i64 vn, .string vs, .slice a1 n1 c1, .slice a2 n2 c2, .int .i64 vp] 98))
      have HX := cells7 (w := wr) (x0 := .int .i64 vk) (x1 := .bool vb) (x2 := .int .i64 vn) (x3 := .string vs) (x4 := .slice a1 n1 c1) (x5 := .slice a2 n2 c2) (x6 := .int .i64 vp) (t := 98)
      have hba := (Below.refl wr.heap.size wr).alloc (Nat.le_refl _) (.cells #[.int .i64 vk, .bool vb, .int .i64 vn, .string vs, .slice a1 n1 c1, .slice a2 n2 c2, .int .i64 vp] 98)
      have HBA := Lib.hid hba
      clear hba
      obtain ⟨z0, z1, z2, z3, z4, z5, z6⟩ := HX
      by_cases hj0 : j = 0
      · have gk : ¬ (0 : Int) < (j : Int) := by omega
        have gk1 : ¬ 0 < j := by omega
        have gk3 : decide ((0 : Int) < (j : Int)) = false := decide_eq_false gk
        have HZ := Lib.hid hj0
        have HEQ : Hid (out ++ op :: Jv.joinC (S.take j) ++ sj = out ++ op :: Jv.joinC (S.take (j + 1))) := Lib.hid (by
          rw [HTK.out, if_pos hj0, hj0]
          simp [Jv.joinC])
        have CV := Lib.hid (CC.out _ _ HWA.out (by
          have h1 := HTK.out
          rw [if_pos hj0] at h1
          have h2 := HLT.out
          have h3 := HLE.out
          rw [h1] at h2
          rw [hj0]
          simp [Jv.joinC]
          omega))
        clear hj0
        go_wp2_with fail
        refine CV.out.mono ?_
        rintro e w3 ⟨rfl, h3⟩
        rw [HEQ.out] at h3
        have HW3 := Lib.hid h3
        clear h3 CV CC HEQ HWA y0 z0 y1 z1 y2 z2 y3 z3 y4 z4 y5 z5 y6 z6
        go_wp2_with fail
        go_roundw
        case rel => exact ⟨j + 1, by omega, by go_num, HW3⟩
        case measure => simp [intOf]; omega
      · have gk : (0 : Int) < (j : Int) := by omega
        have gk1 : 0 < j := by omega
        have gk3 : decide ((0 : Int) < (j : Int)) = true := decide_eq_true gk
        have HEQ : Hid (out ++ op :: Jv.joinC (S.take j) ++ [44] ++ sj = out ++ op :: Jv.joinC (S.take (j + 1))) := Lib.hid (by
          rw [HTK.out, if_neg hj0]
          simp)
        have HLK := Lib.hid (show (out ++ op :: Jv.joinC (S.take j) ++ [44]).length + sj.length ≤ 1000000000 by
          have h1 := HTK.out
          rw [if_neg hj0] at h1
          have h2 := HLT.out
          have h3 := HLE.out
          rw [h1] at h2
          simp at h2 ⊢
          omega)
        have CB := Lib.hid (wbyte (44 : UInt8) (44 : Int) rfl HWA.out (by have := HLK.out; simp at this ⊢; omega))
        clear hj0
        go_wp2_with fail
        refine CB.out.mono ?_
        rintro e w2 ⟨rfl, h2, hf2⟩
        have hbx := hf2 wr.heap.size _ _ _ (heap_alloc_new wr (.cells #[.int .i64 vk, .bool vb, .int .i64 vn, .string vs, .slice a1 n1 c1, .slice a2 n2 c2, .int .i64 vp] 98)) (fun e => by have := (Blw.is_lt hw.out.1).2; omega) (by decide)
        rw [heap_alloc_new] at hbx
        have CV := Lib.hid (CC.out _ _ h2 HLK.out)
        have z0 := box_at (j := 0) hbx rfl
        have z1 := box_at (j := 1) hbx rfl
        have z2 := box_at (j := 2) hbx rfl
        have z3 := box_at (j := 3) hbx rfl
        have z4 := box_at (j := 4) hbx rfl
        have z5 := box_at (j := 5) hbx rfl
        have z6 := box_at (j := 6) hbx rfl
        clear h2 CB hf2 hbx HW1
        go_wp2_with fail
        refine CV.out.mono ?_
        rintro e w3 ⟨rfl, h3⟩
        rw [HEQ.out] at h3
        have HW3 := Lib.hid h3
        clear h3 CV CC HEQ HWA y0 z0 y1 z1 y2 z2 y3 z3 y4 z4 y5 z5 y6 z6
        go_wp2_with fail
        go_roundw
        case rel => exact ⟨j + 1, by omega, by go_num, HW3⟩
        case measure => simp [intOf]; omega
    · have gl : decide ((j : Int) < (m : Int)) = false := decide_eq_false (by omega)
      have HT : Hid (S.take j = S) := Lib.hid (List.take_of_length_le (by rw [HQ.out.1, HM.out]; omega))
      have hwf := hw.out
      rw [HT.out] at hwf
      have CF := Lib.hid (CZ.out wr _ hwf (by have := HLE.out; simp; omega))
      clear hwf
      go_wp2_with fail
      refine CF.out.mono ?_
      rintro e w3 ⟨rfl, h3, -⟩
      have HW3 := Lib.hid h3
      clear h3 CF
      go_wp2_with fail
      go_end0
      exact ⟨rfl, by have := HW3.out; simpa using this⟩
theorem joinM_is (W0 : World) (b : Nat) (op en : UInt8) (l : List (ByteArray × Jv.J)) (v : Value) (L : List (List Value)) (W : World) (hR : Rw W0 v 9 L) (hA : All JvP W0 l L) (hl : l.length ≤ 1000000) (out : List UInt8) (hW : Wst W0 b out W) (hlen : out.length + (Jv.joinC (Jv.encM l)).length + 2 ≤ 1000000000)
    (cE : ∀ j (hj : j < l.length) k b' n s a1 n1 c1 a2 n2 c2 p q u o, Wst W0 b o u → o.length + (Jv.encP l[j]).length ≤ 1000000000 → Jv W0 l[j].2 (vCells k b' n s (.slice a1 n1 c1) (.slice a2 n2 c2) p) → Calls Tryz.prog 114 #[.pointer (some ⟨b, 0, none⟩), .agg #[.string l[j].1, .int .i64 k, .bool b', .int .i64 n, .string s, .slice a1 n1 c1, .slice a2 n2 c2, .int .i64 p, .int .i64 q]] u fun e w' => e = .returned (.tuple #[]) ∧ Wst W0 b (o ++ Jv.encP l[j]) w') :
    Calls Tryz.prog 113 #[.pointer (some ⟨b, 0, none⟩), .int .u8 op.toNat, .int .u8 en.toNat, v, .func (.func 114) #[.pointer (some ⟨b, 0, none⟩)] #[]] W fun e w' => e = .returned (.tuple #[]) ∧ Wst W0 b (out ++ op :: (Jv.joinC (Jv.encM l) ++ [en])) w' := by
  obtain ⟨g, off, ad, cap, rfl, had, hcl⟩ := mems_at hR hA
  have HQ : Hid ((Jv.encM l).length = l.length ∧ ∀ j (hj : j < l.length) (h2 : j < (Jv.encM l).length), (Jv.encM l)[j] = Jv.encP l[j]) := Lib.hid ⟨by rw [Jv.encM_map]; simp, fun j hj h2 => by simp only [Jv.encM_map, List.getElem_map]; generalize l[j] = lj; obtain ⟨lk, la⟩ := lj; simp only [Jv.encP]⟩
  obtain ⟨S, hS⟩ : ∃ S, Jv.encM l = S := ⟨_, rfl⟩
  rw [hS] at hlen ⊢
  rw [hS] at HQ
  obtain ⟨m, hm⟩ : ∃ m, l.length = m := ⟨_, rfl⟩
  rw [hm] at had hl ⊢
  have HM := Lib.hid hm
  have HAD := Lib.hid had
  have HCL := Lib.hid hcl
  have HL := Lib.hid hA.1
  skip
  have CE := Lib.hid cE
  have HW := Lib.hid hW
  have HLE := Lib.hid hlen
  obtain ⟨on, hon⟩ : ∃ n : Int, n = op.toNat := ⟨_, rfl⟩
  obtain ⟨ne, hne⟩ : ∃ n : Int, n = en.toNat := ⟨_, rfl⟩
  have CO := Lib.hid (wbyte op on hon hW (by omega))
  have CZ := Lib.hid (fun (w : World) (o : List UInt8) (h : Wst W0 b o w) (hl : o.length ≤ 1000000000) => wbyte en ne hne h hl)
  rw [← hon, ← hne]
  clear hR hA had hcl hm cE hW hS hon hne hlen
  go_enter Tryz.func113, Tryz.ntmps113
  go_wp2_with fail
  refine CO.out.mono ?_
  rintro e w1 ⟨rfl, h1, -⟩
  have HW1 := Lib.hid h1
  clear h1 CO HW
  go_wp2_with fail
  go_loopw [19] (fun x wr => ∃ j : Nat, j ≤ m ∧ x = .int .i64 j ∧ Hid (Wst W0 b (out ++ op :: Jv.joinC (S.take j)) wr)) (fun x _ => m - (intOf x).toNat)
  case atStart => exact ⟨0, Nat.zero_le _, rfl, Lib.hid (by rw [List.take_zero]; exact HW1.out)⟩
  case round =>
    obtain ⟨j, hj, rfl, hw⟩ := hrel
    by_cases hlt : j < m
    · obtain rfl := HAD.out (by omega)
      have hjl : j < l.length := by rw [HM.out]; exact hlt
      have hjS : j < S.length := by rw [HQ.out.1]; exact hjl
      obtain ⟨vk, vb, vn, vs, a1, n1, c1, a2, n2, c2, vp, vq, hJ, y0, y1, y2, y3, y4, y5, y6, y7, y8⟩ := HCL.out j hjl
      have CC := Lib.hid (fun u o h1 h2 => CE.out j hjl vk vb vn vs a1 n1 c1 a2 n2 c2 vp vq u o h1 h2 hJ)
      clear hJ
      rw [← HQ.out.2 j hjl hjS] at CC
      generalize l[j].1 = key at y0 CC
      replace y0 := cell_under y0 hw.out.2
      replace y1 := cell_under y1 hw.out.2
      replace y2 := cell_under y2 hw.out.2
      replace y3 := cell_under y3 hw.out.2
      replace y4 := cell_under y4 hw.out.2
      replace y5 := cell_under y5 hw.out.2
      replace y6 := cell_under y6 hw.out.2
      replace y7 := cell_under y7 hw.out.2
      replace y8 := cell_under y8 hw.out.2
      have i1 : (j : Int) < (m : Int) := by omega
      have i0 : (0 : Int) ≤ (j : Int) := by omega
      have HTK := Lib.hid (Jv.joinC_take S j hjS)
      have HLT := Lib.hid (joinC_take_len S (j + 1))
      generalize S[j] = sj at CC HTK
      have HWA := Lib.hid (hw.out.alloc (.cells #[.string key, .int .i64 vk, .bool vb, .int .i64 vn, .string vs, .slice a1 n1 c1, .slice a2 n2 c2, .int .i64 vp, .int .i64 vq] 129))
      have HX := cells9 (w := wr) (x0 := .string key) (x1 := .int .i64 vk) (x2 := .bool vb) (x3 := .int .i64 vn) (x4 := .string vs) (x5 := .slice a1 n1 c1) (x6 := .slice a2 n2 c2) (x7 := .int .i64 vp) (x8 := .int .i64 vq) (t := 129)
      have hba := (Below.refl wr.heap.size wr).alloc (Nat.le_refl _) (.cells #[.string key, .int .i64 vk, .bool vb, .int .i64 vn, .string vs, .slice a1 n1 c1, .slice a2 n2 c2, .int .i64 vp, .int .i64 vq] 129)
      have HBA := Lib.hid hba
      clear hba
      obtain ⟨z0, z1, z2, z3, z4, z5, z6, z7, z8⟩ := HX
      by_cases hj0 : j = 0
      · have gk : ¬ (0 : Int) < (j : Int) := by omega
        have gk1 : ¬ 0 < j := by omega
        have gk3 : decide ((0 : Int) < (j : Int)) = false := decide_eq_false gk
        have HZ := Lib.hid hj0
        have HEQ : Hid (out ++ op :: Jv.joinC (S.take j) ++ sj = out ++ op :: Jv.joinC (S.take (j + 1))) := Lib.hid (by
          rw [HTK.out, if_pos hj0, hj0]
          simp [Jv.joinC])
        have CV := Lib.hid (CC.out _ _ HWA.out (by
          have h1 := HTK.out
          rw [if_pos hj0] at h1
          have h2 := HLT.out
          have h3 := HLE.out
          rw [h1] at h2
          rw [hj0]
          simp [Jv.joinC]
          omega))
        clear hj0
        go_wp2_with fail
        refine CV.out.mono ?_
        rintro e w3 ⟨rfl, h3⟩
        rw [HEQ.out] at h3
        have HW3 := Lib.hid h3
        clear h3 CV CC HEQ HWA y0 z0 y1 z1 y2 z2 y3 z3 y4 z4 y5 z5 y6 z6 y7 z7 y8 z8
        go_wp2_with fail
        go_roundw
        case rel => exact ⟨j + 1, by omega, by go_num, HW3⟩
        case measure => simp [intOf]; omega
      · have gk : (0 : Int) < (j : Int) := by omega
        have gk1 : 0 < j := by omega
        have gk3 : decide ((0 : Int) < (j : Int)) = true := decide_eq_true gk
        have HEQ : Hid (out ++ op :: Jv.joinC (S.take j) ++ [44] ++ sj = out ++ op :: Jv.joinC (S.take (j + 1))) := Lib.hid (by
          rw [HTK.out, if_neg hj0]
          simp)
        have HLK := Lib.hid (show (out ++ op :: Jv.joinC (S.take j) ++ [44]).length + sj.length ≤ 1000000000 by
          have h1 := HTK.out
          rw [if_neg hj0] at h1
          have h2 := HLT.out
          have h3 := HLE.out
          rw [h1] at h2
          simp at h2 ⊢
          omega)
        have CB := Lib.hid (wbyte (44 : UInt8) (44 : Int) rfl HWA.out (by have := HLK.out; simp at this ⊢; omega))
        clear hj0
        go_wp2_with fail
        refine CB.out.mono ?_
        rintro e w2 ⟨rfl, h2, hf2⟩
        have hbx := hf2 wr.heap.size _ _ _ (heap_alloc_new wr (.cells #[.string key, .int .i64 vk, .bool vb, .int .i64 vn, .string vs, .slice a1 n1 c1, .slice a2 n2 c2, .int .i64 vp, .int .i64 vq] 129)) (fun e => by have := (Blw.is_lt hw.out.1).2; omega) (by decide)
        rw [heap_alloc_new] at hbx
        have CV := Lib.hid (CC.out _ _ h2 HLK.out)
        have z0 := box_at (j := 0) hbx rfl
        have z1 := box_at (j := 1) hbx rfl
        have z2 := box_at (j := 2) hbx rfl
        have z3 := box_at (j := 3) hbx rfl
        have z4 := box_at (j := 4) hbx rfl
        have z5 := box_at (j := 5) hbx rfl
        have z6 := box_at (j := 6) hbx rfl
        have z7 := box_at (j := 7) hbx rfl
        have z8 := box_at (j := 8) hbx rfl
        clear h2 CB hf2 hbx HW1
        go_wp2_with fail
        refine CV.out.mono ?_
        rintro e w3 ⟨rfl, h3⟩
        rw [HEQ.out] at h3
        have HW3 := Lib.hid h3
        clear h3 CV CC HEQ HWA y0 z0 y1 z1 y2 z2 y3 z3 y4 z4 y5 z5 y6 z6 y7 z7 y8 z8
        go_wp2_with fail
        go_roundw
        case rel => exact ⟨j + 1, by omega, by go_num, HW3⟩
        case measure => simp [intOf]; omega
    · have gl : decide ((j : Int) < (m : Int)) = false := decide_eq_false (by omega)
      have HT : Hid (S.take j = S) := Lib.hid (List.take_of_length_le (by rw [HQ.out.1, HM.out]; omega))
      have hwf := hw.out
      rw [HT.out] at hwf
      have CF := Lib.hid (CZ.out wr _ hwf (by have := HLE.out; simp; omega))
      clear hwf
      go_wp2_with fail
      refine CF.out.mono ?_
      rintro e w3 ⟨rfl, h3, -⟩
      have HW3 := Lib.hid h3
      clear h3 CF
      go_wp2_with fail
      go_end0
      exact ⟨rfl, by have := HW3.out; simpa using this⟩
end Go.Proofs.YtbodoncomeegpaaGreatDoor.Me
/- jsonwrite's member, value and Write, walked. -/
namespace Go.Proofs.YtbodoncomeegpaaGreatDoor.Me
open Go Go.RowKit Go.Proofs.YtbodoncomeegpaaGreatDoor Go.Proofs.YtbodoncomeegpaaGreatDoor.Rw Go.Proofs.YtbodoncomeegpaaGreatDoor.Vf Go.Proofs.YtbodoncomeegpaaGreatDoor.Mw
set_option linter.unusedVariables false

set_option maxRecDepth 100000
set_option maxHeartbeats 16000000
mutual
/-- Values of strings, numbers, arrays and objects alone. -/
def JS : Jv.J → Prop
  | .null => False
  | .bool _ => False
  | .arr l => JSL l
  | .obj l => JSM l
  | _ => True
def JSL : List Jv.J → Prop
  | [] => True
  | a :: r => JS a ∧ JSL r
def JSM : List (ByteArray × Jv.J) → Prop
  | [] => True
  | a :: r => JSP a ∧ JSM r
def JSP : ByteArray × Jv.J → Prop
  | (_, a) => JS a
end
theorem JSL_iff (l : List Jv.J) : JSL l ↔ ∀ x ∈ l, JS x := by
  induction l with
  | nil => simp [JSL]
  | cons a r ih => simp [JSL, ih]
theorem JSM_iff (l : List (ByteArray × Jv.J)) : JSM l ↔ ∀ p ∈ l, JS p.2 := by
  induction l with
  | nil => simp [JSM]
  | cons a r ih => obtain ⟨k, a⟩ := a; simp [JSM, JSP, ih]
/-- What the writer's functions read of the program's tables. -/
structure WT (w : World) : Prop where
  u8 : U8 w
  lt : Jw.LetTab w
  pow : ∀ u, Below w.heap.size w u → Pow u
theorem member_out {W0 : World} {b : Nat} (hT : WT W0) (key : ByteArray) (a : Jv.J) (k n : Int) (b' : Bool) (s : ByteArray) (a1 : Option Addr) (n1 c1 : Nat) (a2 : Option Addr) (n2 c2 : Nat) (p q : Int) (w : World) (out : List UInt8)
    (hW : Wst W0 b out w) (hk : Lib.validD key.data.toList = true) (hks : key.size ≤ 1000000) (hl : out.length + (Jv.encP (key, a)).length ≤ 1000000000)
    (cV : ∀ u o, Wst W0 b o u → o.length + (Jv.enc a).length ≤ 1000000000 → Calls Tryz.prog 79 #[.pointer (some ⟨b, 0, none⟩), .agg #[.int .i64 k, .bool b', .int .i64 n, .string s, .slice a1 n1 c1, .slice a2 n2 c2, .int .i64 p]] u fun e w' => e = .returned (.tuple #[]) ∧ Wst W0 b (o ++ Jv.enc a) w') :
    Calls Tryz.prog 114 #[.pointer (some ⟨b, 0, none⟩), .agg #[.string key, .int .i64 k, .bool b', .int .i64 n, .string s, .slice a1 n1 c1, .slice a2 n2 c2, .int .i64 p, .int .i64 q]] w fun e w' => e = .returned (.tuple #[]) ∧ Wst W0 b (out ++ Jv.encP (key, a)) w' := by
  have heq : Jv.encP (key, a) = Js.quote key.data.toList ++ 58 :: Jv.enc a := by simp only [Jv.encP]
  rw [heq] at hl ⊢
  have hlen : out.length + ((Js.quote key.data.toList).length + ((Jv.enc a).length + 1)) ≤ 1000000000 := by simpa using hl
  have HWA := Lib.hid (hW.alloc (.cells #[.string key, .int .i64 k, .bool b', .int .i64 n, .string s, .slice a1 n1 c1, .slice a2 n2 c2, .int .i64 p, .int .i64 q] 129))
  have HLT := Lib.hid (Blw.is_lt hW.1).2
  obtain ⟨x0, x1, x2, x3, x4, x5, x6, x7, x8⟩ := cells9 (w := w) (x0 := .string key) (x1 := .int .i64 k) (x2 := .bool b') (x3 := .int .i64 n) (x4 := .string s) (x5 := .slice a1 n1 c1) (x6 := .slice a2 n2 c2) (x7 := .int .i64 p) (x8 := .int .i64 q) (t := 129)
  have HBX := Lib.hid (heap_alloc_new w (.cells #[.string key, .int .i64 k, .bool b', .int .i64 n, .string s, .slice a1 n1 c1, .slice a2 n2 c2, .int .i64 p, .int .i64 q] 129))
  have CQ := Lib.hid (str_out key HWA.out hT.u8 hT.lt hk hks (by omega))
  have CV := Lib.hid cV
  have HLE := Lib.hid hlen
  clear hW cV hT hk hks hl heq hlen
  go_enter Tryz.func114, Tryz.ntmps114
  go_wp2_with fail
  refine CQ.out.mono ?_
  rintro e w1 ⟨rfl, h1, hf1⟩
  have hb1 := hf1 w.heap.size _ _ _ HBX.out (fun e => by have := HLT.out; omega) (by decide)
  rw [HBX.out] at hb1
  have HB1 := Lib.hid hb1
  have CB := Lib.hid (wbyte (58 : UInt8) (58 : Int) rfl h1 (by have := HLE.out; simp; omega))
  have HLB := Lib.hid (Blw.is_lt h1.1).2
  clear h1 hf1 hb1 CQ x0 x1 x2 x3 x4 x5 x6 x7 x8
  go_wp2_with fail
  refine CB.out.mono ?_
  rintro e w2 ⟨rfl, h2, hf2⟩
  have hb2 := hf2 w.heap.size _ _ _ HB1.out (fun e => by have := HLT.out; omega) (by decide)
  rw [HB1.out] at hb2
  have x1 := box_at (j := 1) hb2 rfl
  have x2 := box_at (j := 2) hb2 rfl
  have x3 := box_at (j := 3) hb2 rfl
  have x4 := box_at (j := 4) hb2 rfl
  have x5 := box_at (j := 5) hb2 rfl
  have x6 := box_at (j := 6) hb2 rfl
  have x7 := box_at (j := 7) hb2 rfl
  have CC := Lib.hid (CV.out _ _ h2 (by have := HLE.out; simp; omega))
  clear h2 hf2 hb2 CB
  go_wp2_with fail
  refine CC.out.mono ?_
  rintro e w3 ⟨rfl, h3⟩
  have HW3 := Lib.hid h3
  clear h3 CC CV
  go_wp2_with fail
  go_end0
  exact ⟨rfl, by have := HW3.out; simpa using this⟩
end Go.Proofs.YtbodoncomeegpaaGreatDoor.Me
/- jsonwrite's value and Write, walked. -/
namespace Go.Proofs.YtbodoncomeegpaaGreatDoor.Me
open Go Go.RowKit Go.Proofs.YtbodoncomeegpaaGreatDoor Go.Proofs.YtbodoncomeegpaaGreatDoor.Rw Go.Proofs.YtbodoncomeegpaaGreatDoor.Vf Go.Proofs.YtbodoncomeegpaaGreatDoor.Mw
set_option linter.unusedVariables false

set_option maxRecDepth 100000
set_option maxHeartbeats 16000000
theorem fz_cell {b E : Nat} {w w' : World} {n : Int} {x0 x1 x3 x4 x5 x6 : Value} (h : Blw.Fz b w w') (hc : w.heap[E]? = some (Obj.cells #[x0, x1, .int .i64 n, x3, x4, x5, x6] 98 (0, 0))) (hn : E ≠ b) : w'.cell? ⟨E, 2, none⟩ = some (.int .i64 n) := by
  have := h E _ _ _ hc hn (by decide)
  rw [hc] at this
  exact box_at this rfl
theorem value_int {W0 : World} {b : Nat} (hT : WT W0) (n p : Int) (h0 : -9223372036854775808 ≤ n) (h1 : n ≤ 9223372036854775807) (w : World) (out : List UInt8) (hW : Wst W0 b out w) (hl : out.length + (Jv.dig n).length ≤ 1000000000) :
    Calls Tryz.prog 79 #[.pointer (some ⟨b, 0, none⟩), .agg #[.int .i64 2, .bool false, .int .i64 n, .string ⟨#[]⟩, .slice none 0 0, .slice none 0 0, .int .i64 p]] w fun e w' => e = .returned (.tuple #[]) ∧ Wst W0 b (out ++ Jv.dig n) w' := by
  have HWA := Lib.hid (hW.alloc (.cells #[.int .i64 2, .bool false, .int .i64 n, .string ⟨#[]⟩, .slice none 0 0, .slice none 0 0, .int .i64 p] 98))
  obtain ⟨x0, x1, x2, x3, x4, x5, x6⟩ := cells7 (w := w) (x0 := .int .i64 2) (x1 := .bool false) (x2 := .int .i64 n) (x3 := .string ⟨#[]⟩) (x4 := .slice none 0 0) (x5 := .slice none 0 0) (x6 := .int .i64 p) (t := 98)
  have HLT := Lib.hid (Blw.is_lt hW.1).2
  obtain ⟨q, hq⟩ : ∃ q, Jv.dig n = q := ⟨_, rfl⟩
  have CN := Lib.hid (fun u (hu : Below W0.heap.size W0 u) => num_is n h0 h1 u (hT.pow u hu))
  rw [hq] at hl CN ⊢
  have HQS := Lib.hid (show (⟨q.toArray⟩ : ByteArray).size = q.length by simp [ByteArray.size])
  have HQL := Lib.hid (show (⟨q.toArray⟩ : ByteArray).data.toList = q by simp)
  generalize (⟨q.toArray⟩ : ByteArray) = Q at CN HQS HQL
  clear hW hT hq h0 h1
  go_enter Tryz.func79, Tryz.ntmps79
  go_wp2_with fail
  have HBX := Lib.hid (heap_alloc_new w (.cells #[.int .i64 2, .bool false, .int .i64 n, .string ⟨#[]⟩, .slice none 0 0, .slice none 0 0, .int .i64 p] 98))
  have HEL := Lib.hid (Rw.lt_of_heap HBX.out)
  have HNB := Lib.hid (show w.heap.size ≠ b from fun e => by have := HLT.out; omega)
  generalize hE : w.heap.size = E at x0 x1 x2 x3 x4 x5 x6 HBX HEL HNB ⊢
  generalize w.alloc _ = w0 at HWA x0 x1 x2 x3 x4 x5 x6 HBX HEL ⊢
  have HWD := Lib.hid (show Wst W0 b out w0.drew from HWA.out.below ((Below.refl w0.heap.size w0).drew))
  have HLE := Lib.hid hl
  clear hE hl
  go_region_held3 (fun w' => w'.cell? ⟨E, 2, none⟩ = some (.int .i64 n)) (first | assumption | go_keep)
    (first
      | (go_at_call 110; refine (CN.out _ HWD.out.2).mono ?_; rintro e w2 ⟨rfl, hb2⟩; have HW2 := Lib.hid (HWD.out.below hb2); have y2 := cell_under x2 (show Below w0.heap.size w0 w2 from below_seq (Below.refl w0.heap.size w0).drew hb2); have HBX2 := Lib.hid (((below_seq (Below.refl w0.heap.size w0).drew hb2).block E HEL.out).trans HBX.out); clear hb2)
      | (go_at_call 23; refine (wstr Q HW2.out (by have := HLE.out; omega) (by have := HLE.out; rw [HQS.out]; omega)).mono ?_; rintro e w3 ⟨rfl, h3, hf3⟩; have HW3 := Lib.hid h3; have y3 := fz_cell hf3 HBX2.out HNB.out; clear h3 hf3))
  rw [HQL.out] at HW3
  all_goals
    go_wp2_with fail
    go_end0
    exact ⟨rfl, HW3.out⟩
theorem value_str {W0 : World} {b : Nat} (hT : WT W0) (s : ByteArray) (p : Int) (w : World) (out : List UInt8) (hW : Wst W0 b out w) (hv : Lib.validD s.data.toList = true) (hs : s.size ≤ 1000000) (hl : out.length + (Js.quote s.data.toList).length ≤ 1000000000) :
    Calls Tryz.prog 79 #[.pointer (some ⟨b, 0, none⟩), .agg #[.int .i64 3, .bool false, .int .i64 0, .string s, .slice none 0 0, .slice none 0 0, .int .i64 p]] w fun e w' => e = .returned (.tuple #[]) ∧ Wst W0 b (out ++ Js.quote s.data.toList) w' := by
  have HWA := Lib.hid (hW.alloc (.cells #[.int .i64 3, .bool false, .int .i64 0, .string s, .slice none 0 0, .slice none 0 0, .int .i64 p] 98))
  obtain ⟨x0, x1, x2, x3, x4, x5, x6⟩ := cells7 (w := w) (x0 := .int .i64 3) (x1 := .bool false) (x2 := .int .i64 0) (x3 := .string s) (x4 := .slice none 0 0) (x5 := .slice none 0 0) (x6 := .int .i64 p) (t := 98)
  have CQ := Lib.hid (str_out s HWA.out hT.u8 hT.lt hv hs hl)
  clear hW hT hv hs hl
  go_enter Tryz.func79, Tryz.ntmps79
  go_wp2_with fail
  refine CQ.out.mono ?_
  rintro e w3 ⟨rfl, h3, -⟩
  have HW3 := Lib.hid h3
  clear h3 CQ
  go_wp2_with fail
  go_end0
  exact ⟨rfl, HW3.out⟩
theorem value_arr {W0 : World} {b : Nat} (l : List Jv.J) (a1 : Option Addr) (n1 c1 : Nat) (p : Int) (w : World) (out : List UInt8) (hW : Wst W0 b out w)
    (cJ : ∀ u, Wst W0 b out u → Calls Tryz.prog 112 #[.pointer (some ⟨b, 0, none⟩), .int .u8 91, .int .u8 93, .slice a1 n1 c1, .func (.func 79) #[.pointer (some ⟨b, 0, none⟩)] #[]] u fun e w' => e = .returned (.tuple #[]) ∧ Wst W0 b (out ++ Jv.enc (.arr l)) w') :
    Calls Tryz.prog 79 #[.pointer (some ⟨b, 0, none⟩), .agg #[.int .i64 4, .bool false, .int .i64 0, .string ⟨#[]⟩, .slice a1 n1 c1, .slice none 0 0, .int .i64 p]] w fun e w' => e = .returned (.tuple #[]) ∧ Wst W0 b (out ++ Jv.enc (.arr l)) w' := by
  have HWA := Lib.hid (hW.alloc (.cells #[.int .i64 4, .bool false, .int .i64 0, .string ⟨#[]⟩, .slice a1 n1 c1, .slice none 0 0, .int .i64 p] 98))
  obtain ⟨x0, x1, x2, x3, x4, x5, x6⟩ := cells7 (w := w) (x0 := .int .i64 4) (x1 := .bool false) (x2 := .int .i64 0) (x3 := .string ⟨#[]⟩) (x4 := .slice a1 n1 c1) (x5 := .slice none 0 0) (x6 := .int .i64 p) (t := 98)
  have CJ := Lib.hid (cJ _ HWA.out)
  clear hW cJ
  go_enter Tryz.func79, Tryz.ntmps79
  go_wp2_with fail
  refine CJ.out.mono ?_
  rintro e w3 ⟨rfl, h3⟩
  have HW3 := Lib.hid h3
  clear h3 CJ
  go_wp2_with fail
  go_end0
  exact ⟨rfl, HW3.out⟩
theorem value_obj {W0 : World} {b : Nat} (l : List (ByteArray × Jv.J)) (a1 : Option Addr) (n1 c1 : Nat) (p : Int) (w : World) (out : List UInt8) (hW : Wst W0 b out w)
    (cJ : ∀ u, Wst W0 b out u → Calls Tryz.prog 113 #[.pointer (some ⟨b, 0, none⟩), .int .u8 123, .int .u8 125, .slice a1 n1 c1, .func (.func 114) #[.pointer (some ⟨b, 0, none⟩)] #[]] u fun e w' => e = .returned (.tuple #[]) ∧ Wst W0 b (out ++ Jv.enc (.obj l)) w') :
    Calls Tryz.prog 79 #[.pointer (some ⟨b, 0, none⟩), .agg #[.int .i64 5, .bool false, .int .i64 0, .string ⟨#[]⟩, .slice none 0 0, .slice a1 n1 c1, .int .i64 p]] w fun e w' => e = .returned (.tuple #[]) ∧ Wst W0 b (out ++ Jv.enc (.obj l)) w' := by
  have HWA := Lib.hid (hW.alloc (.cells #[.int .i64 5, .bool false, .int .i64 0, .string ⟨#[]⟩, .slice none 0 0, .slice a1 n1 c1, .int .i64 p] 98))
  obtain ⟨x0, x1, x2, x3, x4, x5, x6⟩ := cells7 (w := w) (x0 := .int .i64 5) (x1 := .bool false) (x2 := .int .i64 0) (x3 := .string ⟨#[]⟩) (x4 := .slice none 0 0) (x5 := .slice a1 n1 c1) (x6 := .int .i64 p) (t := 98)
  have CJ := Lib.hid (cJ _ HWA.out)
  clear hW cJ
  go_enter Tryz.func79, Tryz.ntmps79
  go_wp2_with fail
  refine CJ.out.mono ?_
  rintro e w3 ⟨rfl, h3⟩
  have HW3 := Lib.hid h3
  clear h3 CJ
  go_wp2_with fail
  go_end0
  exact ⟨rfl, HW3.out⟩
theorem value_out {W0 : World} {b : Nat} (hT : WT W0) : ∀ (m d : Nat) (j : Jv.J) (cs : List Value) (w : World) (out : List UInt8), d + m = 101 → Jv.Ok d j → JB j → JS j → Jv W0 j cs → Wst W0 b out w → out.length + (Jv.enc j).length ≤ 1000000000 →
    Calls Tryz.prog 79 #[.pointer (some ⟨b, 0, none⟩), .agg cs.toArray] w fun e w' => e = .returned (.tuple #[]) ∧ Wst W0 b (out ++ Jv.enc j) w'
  | 0, d, j, cs, w, out, hm, ho, hb, hs, h, hW, hl => by
    exfalso
    cases j <;> simp only [Jv.Ok] at ho <;> omega
  | m + 1, d, j, cs, w, out, hm, ho, hb, hs, h, hW, hl => by
    cases j <;> unfold Jv at h
    · unfold JS at hs; exact hs.elim
    · unfold JS at hs; exact hs.elim
    · rename_i n
      obtain ⟨p, rfl⟩ := h
      unfold JB at hb
      have e : Jv.enc (.int n) = Jv.dig n := by simp only [Jv.enc]
      rw [e] at hl ⊢
      exact value_int hT n p hb.1 hb.2 w out hW hl
    · rename_i s
      obtain ⟨p, rfl⟩ := h
      simp only [Jv.Ok] at ho
      unfold JB at hb
      have e : Jv.enc (.str s) = Js.quote s.data.toList := by simp only [Jv.enc]
      rw [e] at hl ⊢
      exact value_str hT s p w out hW ho.2 hb hl
    · rename_i l
      obtain ⟨p, v, L, rfl, h1, h2⟩ := h
      simp only [Jv.Ok] at ho
      unfold JB at hb
      unfold JS at hs
      rw [Jv.OkL_iff] at ho
      rw [JBL_iff] at hb
      rw [JSL_iff] at hs
      obtain ⟨g, off, ad, cap, rfl, -, -⟩ := vals_at h1 (jl_all h2)
      have e : Jv.enc (.arr l) = 91 :: (Jv.joinC (Jv.encL l) ++ [93]) := by simp only [Jv.enc]
      refine value_arr l ad l.length cap p w out hW (fun u hu => ?_)
      rw [e] at hl ⊢
      refine joinV_is W0 b 91 93 l _ L u h1 (jl_all h2) hb.1 out hu (by simp at hl; omega) ?_
      intro j hj k b' n s a1 n1 c1 a2 n2 c2 p u o hu2 hl2 hj2
      exact value_out hT m (d + 1) l[j] _ u o (by omega) (ho.2 _ (List.getElem_mem hj)) (hb.2 _ (List.getElem_mem hj)) (hs _ (List.getElem_mem hj)) hj2 hu2 hl2
    · rename_i l
      obtain ⟨p, v, L, rfl, h1, h2⟩ := h
      simp only [Jv.Ok] at ho
      unfold JB at hb
      unfold JS at hs
      rw [Jv.OkM_iff] at ho
      rw [JBM_iff] at hb
      rw [JSM_iff] at hs
      obtain ⟨g, off, ad, cap, rfl, -, -⟩ := mems_at h1 (jm_all h2)
      have e : Jv.enc (.obj l) = 123 :: (Jv.joinC (Jv.encM l) ++ [125]) := by simp only [Jv.enc]
      refine value_obj l ad l.length cap p w out hW (fun u hu => ?_)
      rw [e] at hl ⊢
      refine joinM_is W0 b 123 125 l _ L u h1 (jm_all h2) hb.1 out hu (by simp at hl; omega) ?_
      intro j hj k b' n s a1 n1 c1 a2 n2 c2 p q u o hu2 hl2 hj2
      refine member_out hT l[j].1 l[j].2 k n b' s a1 n1 c1 a2 n2 c2 p q u o hu2 (ho.2.2 _ (List.getElem_mem hj)).1 (hb.2 _ (List.getElem_mem hj)).1 hl2 ?_
      intro u2 o2 hu3 hl3
      exact value_out hT m (d + 1) l[j].2 _ u2 o2 (by omega) (ho.2.2 _ (List.getElem_mem hj)).2 (hb.2 _ (List.getElem_mem hj)).2 (hs _ (List.getElem_mem hj)) hj2 hu3 hl3
end Go.Proofs.YtbodoncomeegpaaGreatDoor.Me
/- jsonwrite's Write at an array, walked. -/
namespace Go.Proofs.YtbodoncomeegpaaGreatDoor.Me
open Go Go.RowKit Go.Proofs.YtbodoncomeegpaaGreatDoor Go.Proofs.YtbodoncomeegpaaGreatDoor.Rw Go.Proofs.YtbodoncomeegpaaGreatDoor.Vf Go.Proofs.YtbodoncomeegpaaGreatDoor.Mw
set_option linter.unusedVariables false

set_option maxRecDepth 100000
set_option maxHeartbeats 16000000
theorem WT.below {w w' : World} (h : WT w) (hb : Below w.heap.size w w') : WT w' := ⟨Tx.u8_below h.u8 hb, h.lt.below hb, fun u hu => h.pow u (below_seq hb hu)⟩
theorem write_ok (l : List Jv.J) (a1 : Option Addr) (n1 c1 : Nat) (w : World) (ho : Jv.Ok 1 (.arr l)) (hb : JB (.arr l)) (hs : JS (.arr l)) (h : Jv w (.arr l) (vCells 4 false 0 ⟨#[]⟩ (.slice a1 n1 c1) nilV 0)) (hT : WT w) (hl : (Jv.enc (.arr l)).length ≤ 1000000) :
    Calls Tryz.prog 46 #[.agg #[.int .i64 4, .bool false, .int .i64 0, .string ⟨#[]⟩, .slice a1 n1 c1, .slice none 0 0, .int .i64 0]] w fun e w' => e = .returned (.tuple #[.string ⟨(Jv.enc (.arr l)).toArray⟩, .int .i64 0]) ∧ Below w.heap.size w w' := by
  have hba := (Below.refl w.heap.size w).alloc (Nat.le_refl _) (.cells #[.int .i64 4, .bool false, .int .i64 0, .string ⟨#[]⟩, .slice a1 n1 c1, .slice none 0 0, .int .i64 0] 98)
  have HB := Lib.hid hba
  obtain ⟨x0, x1, x2, x3, x4, x5, x6⟩ := cells7 (w := w) (x0 := .int .i64 4) (x1 := .bool false) (x2 := .int .i64 0) (x3 := .string ⟨#[]⟩) (x4 := .slice a1 n1 c1) (x5 := .slice none 0 0) (x6 := .int .i64 0) (t := 98)
  have CC := Lib.hid (check_ok 4 0 false ⟨#[]⟩ a1 n1 c1 none 0 0 0 (.arr l) _ ho hb (Jv.under hba _ _ h) (Tx.u8_below hT.u8 hba))
  have hne : Jv.enc (.arr l) ≠ [] := by simp [Jv.enc]
  have CV := Lib.hid (fun (W0 : World) (hw : Below w.heap.size w W0) (b : Nat) (u : World) (hu : Wst W0 b [] u) => value_out (hT.below hw) 100 1 (.arr l) _ u [] rfl ho hb hs (Jv.under hw _ _ h) hu (by simp; omega))
  obtain ⟨q, hq⟩ : ∃ q, Jv.enc (.arr l) = q := ⟨_, rfl⟩
  rw [hq] at CV hne hl ⊢
  have HNE := Lib.hid hne
  clear hba h hT ho hb hs hq hne
  go_enter Tryz.func46, Tryz.ntmps46
  go_wp2_with fail
  refine CC.out.mono ?_
  rintro e w1 ⟨rfl, hb1⟩
  have HB1 := Lib.hid (below_seq HB.out hb1)
  replace x0 := cell_under x0 hb1
  replace x1 := cell_under x1 hb1
  replace x2 := cell_under x2 hb1
  replace x3 := cell_under x3 hb1
  replace x4 := cell_under x4 hb1
  replace x5 := cell_under x5 hb1
  replace x6 := cell_under x6 hb1
  clear hb1 HB CC
  have hba := (Below.refl w1.heap.size w1).alloc (Nat.le_refl _) (.cells #[.pointer none, .slice none 0 0] 137)
  replace x0 := cell_under x0 hba
  replace x1 := cell_under x1 hba
  replace x2 := cell_under x2 hba
  replace x3 := cell_under x3 hba
  replace x4 := cell_under x4 hba
  replace x5 := cell_under x5 hba
  replace x6 := cell_under x6 hba
  have HWS := Lib.hid (show Wst w1 w1.heap.size [] (w1.alloc (.cells #[.pointer none, .slice none 0 0] 137)) from ⟨Lib.fresh_isBuilder Blw.TB Blw.TU w1, hba⟩)
  have CX := Lib.hid (CV.out w1 HB1.out w1.heap.size _ HWS.out)
  clear hba CV
  go_wp2_with fail
  refine CX.out.mono ?_
  rintro e w2 ⟨rfl, h2⟩
  rw [List.nil_append] at h2
  have CS := Lib.hid (Blw.string_is w1.heap.size w1.heap.size q w2 h2.1 HNE.out (by omega))
  have HB2 := Lib.hid (below_seq HB1.out h2.2)
  have HLE := Lib.hid (show w.heap.size ≤ w1.heap.size from HB1.out.size)
  clear h2 CX HWS x0 x1 x2 x3 x4 x5 x6
  go_wp2_with fail
  refine CS.out.mono ?_
  rintro e w3 ⟨rfl, hb3⟩
  have HB3 := Lib.hid (HB2.out.trans (hb3.mono HLE.out))
  clear hb3 CS
  go_wp2_with fail
  go_ret2
  exact ⟨rfl, HB3.out⟩
end Go.Proofs.YtbodoncomeegpaaGreatDoor.Me
