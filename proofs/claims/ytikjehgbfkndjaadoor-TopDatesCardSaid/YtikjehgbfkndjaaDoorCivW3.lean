import Derived.Test.YtikjehgbfkndjaaDoorProg
import Derived.Test.YtikjehgbfkndjaaDoorCivW2
import Derived.WalkKit
import Derived.Outline
import Derived.Below
import Derived.OneCell
import Derived.Lib.Hide
import Derived.RegionTactic
import Derived.BigQuiet
import Derived.Deep.QuietTactic
import Derived.ChangeAlike
namespace Go.Proofs.YtikjehgbfkndjaaDoor.Civ
open Go Go.RowKit Go.Proofs.YtikjehgbfkndjaaDoor

def cyc : Array Value := #[.int .i64 146097, .int .i64 400, .int .i64 25, .int .i64 36524, .int .i64 100, .int .i64 3, .int .i64 1461, .int .i64 4, .int .i64 24, .int .i64 365, .int .i64 1, .int .i64 3]
def St (n left y i : Int) : Prop :=
  (i = 0 ∧ left = n + 719162 ∧ y = 1) ∨ (i = 1 ∧ left = Cal.l1 n ∧ y = 1 + Cal.q0 n * 400) ∨ (i = 2 ∧ left = Cal.l2 n ∧ y = 1 + Cal.q0 n * 400 + Cal.q1 n * 100) ∨
  (i = 3 ∧ left = Cal.l3 n ∧ y = 1 + Cal.q0 n * 400 + Cal.q1 n * 100 + Cal.q2 n * 4) ∨ (i = 4 ∧ left = Cal.l4 n ∧ y = Cal.dY n)


theorem new_block (w : World) (o : Obj) : (w.alloc o).heap[w.heap.size]? = some o := by
  show (w.heap.push o)[w.heap.size]? = _
  rw [Array.getElem?_push, if_pos rfl]

theorem cyc_cell {wr : World} {B : Nat} (hc : wr.heap[B]? = some (.cells cyc 71 (0, 0))) (j : Nat) : wr.cell? ⟨B, j, none⟩ = cyc[j]? := by
  simp [World.cell?, hc]

set_option maxHeartbeats 1000000 in
theorem date_yes (n : Int) (w : World) (h1 : -719162 ≤ n) (h2 : n ≤ 2932896) :
    Calls Tryd.prog 20 #[.int .i64 n] w fun e w' => e = .returned (.tuple #[.int .i64 (Cal.dY n), .int .i64 (Cal.dM n), .int .i64 (Cal.dD n), .int .i64 0]) ∧ Below w.heap.size w w' := by
  obtain ⟨⟨p1, p2, p3, p4⟩, ⟨p5, p6, p7, p8⟩, ⟨p9, p10, p11, p12, _⟩, p13, p14, p15, p16⟩ := Cal.steps n h1 h2
  go_enter Tryd.func20, Tryd.ntmps20
  go_wp2
  go_loopw [6, 7, 26] (fun left y i wr => ∃ l k j : Int, left = .int .i64 l ∧ y = .int .i64 k ∧ i = .int .i64 j ∧ St n l k j ∧ Below w.heap.size w wr ∧ wr.heap[w.heap.size]? = some (.cells cyc 71 (0, 0))) (fun _ _ i _ => (4 - intOf i).toNat)
  case atStart => exact ⟨_, _, _, rfl, rfl, rfl, .inl ⟨rfl, rfl, rfl⟩, (Below.refl _ _).alloc (Nat.le_refl _) _, new_block _ _⟩
  case round =>
    obtain ⟨l, k, j, rfl, rfl, rfl, hst, hb, hc⟩ := hrel
    have HB := Lib.hid hb
    have HC := Lib.hid hc
    have hz : w.heap.size < wr.heap.size := lt_of_block hc
    rcases hst with ⟨rfl, hl, hk⟩ | ⟨rfl, hl, hk⟩ | ⟨rfl, hl, hk⟩ | ⟨rfl, hl, hk⟩ | ⟨rfl, hl, hk⟩
    · have c0 : wr.cell? ⟨w.heap.size, 0, none⟩ = some (.int .i64 146097) := cyc_cell hc 0
      have c1 : wr.cell? ⟨w.heap.size, 1, none⟩ = some (.int .i64 400) := cyc_cell hc 1
      have c2 : wr.cell? ⟨w.heap.size, 2, none⟩ = some (.int .i64 25) := cyc_cell hc 2
      have HL := Lib.hid hl
      have HK := Lib.hid hk
      have b1 : 0 ≤ l := by omega
      have b2 : l ≤ 3652058 := by omega
      have b3 : 1 ≤ k := by omega
      have b4 : k ≤ 1 := by omega
      clear hb hc hl hk p1 p2 p3 p4 p5 p6 p7 p8 p9 p10 p11 p12 p13 p14 p15 p16
      go_wp2
      go_region
      all_goals
        go_wp2
        go_roundw
        case rel =>
          have hl := HL.out
          have hk := HK.out
          exact ⟨_, _, _, rfl, rfl, rfl, .inr (.inl ⟨rfl, by rw [show Cal.l1 n = n + 719162 - Cal.q0 n * 146097 from rfl]; unfold Cal.q0; omega, by unfold Cal.q0; omega⟩), ((HB.out).alloc (by omega) _).drew, (Below.heap_alloc _ _ _ hz).trans HC.out⟩
        case measure => simp [intOf]
    · have c0 : wr.cell? ⟨w.heap.size, 3, none⟩ = some (.int .i64 36524) := cyc_cell hc 3
      have c1 : wr.cell? ⟨w.heap.size, 4, none⟩ = some (.int .i64 100) := cyc_cell hc 4
      have c2 : wr.cell? ⟨w.heap.size, 5, none⟩ = some (.int .i64 3) := cyc_cell hc 5
      have HL := Lib.hid hl
      have HK := Lib.hid hk
      have b1 : 0 ≤ l := by omega
      have b2 : l ≤ 146096 := by omega
      have b3 : 1 ≤ k := by omega
      have b4 : k ≤ 9601 := by omega
      clear hb hc hl hk p1 p2 p3 p4 p5 p6 p7 p8 p9 p10 p11 p12 p13 p14 p15 p16
      go_wp2
      go_region
      all_goals
        go_wp2
        go_roundw
        case rel =>
          have hl := HL.out
          have hk := HK.out
          exact ⟨_, _, _, rfl, rfl, rfl, .inr (.inr (.inl ⟨rfl, by rw [show Cal.l2 n = Cal.l1 n - Cal.q1 n * 36524 from rfl]; unfold Cal.q1; omega, by unfold Cal.q1; omega⟩)), ((HB.out).alloc (by omega) _).drew, (Below.heap_alloc _ _ _ hz).trans HC.out⟩
        case measure => simp [intOf]
    · have c0 : wr.cell? ⟨w.heap.size, 6, none⟩ = some (.int .i64 1461) := cyc_cell hc 6
      have c1 : wr.cell? ⟨w.heap.size, 7, none⟩ = some (.int .i64 4) := cyc_cell hc 7
      have c2 : wr.cell? ⟨w.heap.size, 8, none⟩ = some (.int .i64 24) := cyc_cell hc 8
      have HL := Lib.hid hl
      have HK := Lib.hid hk
      have b1 : 0 ≤ l := by omega
      have b2 : l ≤ 36524 := by omega
      have b3 : 1 ≤ k := by omega
      have b4 : k ≤ 9901 := by omega
      clear hb hc hl hk p1 p2 p3 p4 p5 p6 p7 p8 p9 p10 p11 p12 p13 p14 p15 p16
      go_wp2
      go_region
      all_goals
        go_wp2
        go_roundw
        case rel =>
          have hl := HL.out
          have hk := HK.out
          exact ⟨_, _, _, rfl, rfl, rfl, .inr (.inr (.inr (.inl ⟨rfl, by rw [show Cal.l3 n = Cal.l2 n - Cal.q2 n * 1461 from rfl]; unfold Cal.q2; omega, by unfold Cal.q2; omega⟩))), ((HB.out).alloc (by omega) _).drew, (Below.heap_alloc _ _ _ hz).trans HC.out⟩
        case measure => simp [intOf]
    · have c0 : wr.cell? ⟨w.heap.size, 9, none⟩ = some (.int .i64 365) := cyc_cell hc 9
      have c1 : wr.cell? ⟨w.heap.size, 10, none⟩ = some (.int .i64 1) := cyc_cell hc 10
      have c2 : wr.cell? ⟨w.heap.size, 11, none⟩ = some (.int .i64 3) := cyc_cell hc 11
      have HL := Lib.hid hl
      have HK := Lib.hid hk
      have b1 : 0 ≤ l := by omega
      have b2 : l ≤ 1460 := by omega
      have b3 : 1 ≤ k := by omega
      have b4 : k ≤ 9997 := by omega
      clear hb hc hl hk p1 p2 p3 p4 p5 p6 p7 p8 p9 p10 p11 p12 p13 p14 p15 p16
      go_wp2
      go_region
      all_goals
        go_wp2
        go_roundw
        case rel =>
          have hl := HL.out
          have hk := HK.out
          exact ⟨_, _, _, rfl, rfl, rfl, .inr (.inr (.inr (.inr ⟨rfl, by rw [show Cal.l4 n = Cal.l3 n - Cal.q3 n * 365 from rfl]; unfold Cal.q3; omega, by unfold Cal.dY; rw [show Cal.q3 n = min (Cal.l3 n / 365) 3 from rfl]; omega⟩))), ((HB.out).alloc (by omega) _).drew, (Below.heap_alloc _ _ _ hz).trans HC.out⟩
        case measure => simp [intOf]
    · obtain ⟨q1, q2, q3, q4, q5⟩ := Cal.dY_bd n h1 h2
      rw [← Cal.cum_13] at q5
      have Q3 := Lib.hid q3
      subst hl
      subst hk
      clear hb hc p1 p2 p3 p4 p5 p6 p7 p8 p9 p10 p11 p12 p13 p14 p15 p16 q3
      have q6 : Cal.l4 n ≤ 366 := by have := (Cal.cum_bd (Cal.dY n) 13 (by omega) (by omega)).2; omega
      go_wp2
      go_loop [6, 12] (fun left i => ∃ m : Int, 1 ≤ m ∧ m ≤ 12 ∧ i = .int .i64 m ∧ 0 ≤ Cal.l4 n - Cal.cum (Cal.dY n) m ∧ left = .int .i64 (Cal.l4 n - Cal.cum (Cal.dY n) m)) (fun _ i => (12 - intOf i).toNat)
      case atStart => exact ⟨1, by omega, by omega, rfl, by rw [Cal.cum_1]; omega, by rw [Cal.cum_1]; go_num⟩
      case round =>
        obtain ⟨m, m1, m2, rfl, m3, rfl⟩ := hrel
        have db := Cal.dim_bd (Cal.dY n) m
        have cb := Cal.cum_bd (Cal.dY n) m m1 (by omega)
        have CS := Lib.hid (Cal.cum_succ (Cal.dY n) m q1 q2 m1 m2)
        by_cases hd : Cal.dim (Cal.dY n) m ≤ Cal.l4 n - Cal.cum (Cal.dY n) m
        · have m4 : m < 12 := by
            by_cases e : m = 12
            · subst e
              have := CS.out
              rw [show (12 : Int) + 1 = 13 from rfl] at this
              omega
            · omega
          go_wp2_with (go_at_call 40; refine (dim_any _ _ _).mono ?_; rintro e w' ⟨rfl, rfl⟩)
          go_round
          case rel => exact ⟨m + 1, by omega, by omega, rfl, by rw [CS.out]; omega, by rw [CS.out]; go_num⟩
          case measure => simp [intOf]; omega
        · have hv : Cal.valid (Cal.dY n) m (Cal.l4 n - Cal.cum (Cal.dY n) m + 1) := ⟨q1, q2, m1, m2, by omega, by omega⟩
          have D := Lib.hid (Cal.date_of n _ _ _ hv (by have := Q3.out; unfold Cal.num; omega))
          clear hv
          go_wp2_with (go_at_call 40; refine (dim_any _ _ _).mono ?_; rintro e w' ⟨rfl, rfl⟩)
          refine bodyPost_ret (v := .tuple #[.int .i64 (Cal.dY n), .int .i64 m, .int .i64 (Cal.l4 n - Cal.cum (Cal.dY n) m + 1), .int .i64 0]) (by simp [results, Tryd.results20, go_sem]) rfl ⟨?_, HB.out⟩
          rw [D.out.2.2, ← D.out.2.1]

theorem date_no (n : Int) (w : World) (h : n < -719162 ∨ 2932896 < n) :
    Calls Tryd.prog 20 #[.int .i64 n] w fun e w' => e = .returned (.tuple #[.int .i64 0, .int .i64 0, .int .i64 0, .int .i64 3]) ∧ w = w' := by
  rcases h with h | h
  all_goals
    go_enter Tryd.func20, Tryd.ntmps20
    go_wp2
    exact bodyPost_ret (v := .tuple #[.int .i64 0, .int .i64 0, .int .i64 0, .int .i64 3]) (by simp [results, Tryd.results20, go_sem]) rfl ⟨rfl, rfl⟩
theorem rdate_no (n : Int) (w : World) (h : n < -719162 ∨ 2932896 < n) :
    Calls Tryd.prog 35 #[.int .i64 n] w fun e w' => e = .returned (.tuple #[.int .i64 0, .int .i64 0, .int .i64 0, .int .i64 3]) ∧ w = w' := by
  rcases h with h | h
  all_goals
    go_enter Tryd.func35, Tryd.ntmps35
    go_wp2
    exact bodyPost_ret (v := .tuple #[.int .i64 0, .int .i64 0, .int .i64 0, .int .i64 3]) (by simp [results, Tryd.results35, go_sem]) rfl ⟨rfl, rfl⟩
set_option maxHeartbeats 1000000 in
theorem rdate_yes (n : Int) (w : World) (h1 : -719162 ≤ n) (h2 : n ≤ 2932896) :
    Calls Tryd.prog 35 #[.int .i64 n] w fun e w' => e = .returned (.tuple #[.int .i64 (Cal.dY n), .int .i64 (Cal.dM n), .int .i64 (Cal.dD n), .int .i64 0]) ∧ w = w' := by
  obtain ⟨q1, q2, q3, q4, q5⟩ := Cal.dY_bd n h1 h2
  have Q5 := Lib.hid q5
  have Q3 := Lib.hid q3
  have q6 : Cal.l4 n ≤ 366 := by have := Cal.lp_01 (Cal.dY n); omega
  clear q3 q5
  go_enter Tryd.func35, Tryd.ntmps35
  go_wp2
  go_loop [6, 7] (fun left i => ∃ y : Int, 1 ≤ y ∧ y ≤ Cal.dY n ∧ i = .int .i64 y ∧ left = .int .i64 (n + 719162 - Cal.bef y)) (fun _ i => (9999 - intOf i).toNat)
  case atStart => exact ⟨1, by omega, by omega, rfl, by rw [Cal.bef_1]; go_num⟩
  case round =>
    obtain ⟨y, y1, y2, rfl, rfl⟩ := hrel
    have bb := Cal.bef_bd y y1 (by omega)
    have BS := Lib.hid (Cal.bef_succ y y1 (by omega))
    by_cases e : y = Cal.dY n
    · subst e
      have x1 : 0 ≤ n + 719162 - Cal.bef (Cal.dY n) := by have := Q3.out; omega
      have x2 : n + 719162 - Cal.bef (Cal.dY n) < 365 + Cal.lp (Cal.dY n) := by have := Q3.out; have := Q5.out; omega
      have R := Lib.hid (show n + 719162 - Cal.bef (Cal.dY n) = Cal.l4 n by have := Q3.out; omega)
      have Q7 := Lib.hid (show Cal.l4 n < Cal.cum (Cal.dY n) 13 by rw [Cal.cum_13]; exact Q5.out)
      rcases hl : Cal.leapB (Cal.dY n) with _ | _
      all_goals
        first | (rw [Cal.lp_false hl] at x2; simp only [Int.add_zero] at x2) | (rw [Cal.lp_true hl] at x2; simp only [show (365 : Int) + 1 = 366 from rfl] at x2)
        go_wp2_with (go_at_call 50; refine (rleap_any _ _).mono ?_; rintro e w' ⟨rfl, rfl⟩)
        go_loop [6, 9] (fun left i => ∃ m : Int, 1 ≤ m ∧ m ≤ 12 ∧ i = .int .i64 m ∧ 0 ≤ Cal.l4 n - Cal.cum (Cal.dY n) m ∧ left = .int .i64 (Cal.l4 n - Cal.cum (Cal.dY n) m)) (fun _ i => (12 - intOf i).toNat)
        case atStart => exact ⟨1, by omega, by omega, rfl, by rw [Cal.cum_1]; omega, by rw [Cal.cum_1, R.out]; go_num⟩
        case round =>
          obtain ⟨m, m1, m2, rfl, m3, rfl⟩ := hrel
          have db := Cal.dim_bd (Cal.dY n) m
          have cb := Cal.cum_bd (Cal.dY n) m m1 (by omega)
          have CS := Lib.hid (Cal.cum_succ (Cal.dY n) m q1 q2 m1 m2)
          by_cases hd : Cal.dim (Cal.dY n) m ≤ Cal.l4 n - Cal.cum (Cal.dY n) m
          · have m4 : m < 12 := by
              by_cases e : m = 12
              · subst e
                have := CS.out
                have q8 := Q7.out
                rw [show (12 : Int) + 1 = 13 from rfl] at this
                omega
              · omega
            go_wp2_with (go_at_call 51; refine (rdim_any _ _ _).mono ?_; rintro e w' ⟨rfl, rfl⟩)
            go_round
            case rel => exact ⟨m + 1, by omega, by omega, rfl, by rw [CS.out]; omega, by rw [CS.out]; go_num⟩
            case measure => simp [intOf]; omega
          · have hv : Cal.valid (Cal.dY n) m (Cal.l4 n - Cal.cum (Cal.dY n) m + 1) := ⟨q1, q2, m1, m2, by omega, by omega⟩
            have D := Lib.hid (Cal.date_of n _ _ _ hv (by have := Q3.out; unfold Cal.num; omega))
            clear hv
            go_wp2_with (go_at_call 51; refine (rdim_any _ _ _).mono ?_; rintro e w' ⟨rfl, rfl⟩)
            refine bodyPost_ret (v := .tuple #[.int .i64 (Cal.dY n), .int .i64 m, .int .i64 (Cal.l4 n - Cal.cum (Cal.dY n) m + 1), .int .i64 0]) (by simp [results, Tryd.results35, go_sem]) rfl ⟨?_, rfl⟩
            rw [D.out.2.2, ← D.out.2.1]
    · have bm := Cal.bef_mono (y + 1) (Cal.dY n) (by omega)
      have x0 : 0 ≤ n + 719162 - Cal.bef (y + 1) := by have := Q3.out; omega
      clear bm
      have x1 : 365 + Cal.lp y ≤ n + 719162 - Cal.bef y := by have := BS.out; omega
      rcases hl : Cal.leapB y with _ | _
      all_goals
        have BT := BS.out
        first | (rw [Cal.lp_false hl] at BT x1) | (rw [Cal.lp_true hl] at BT x1)
        have BU := Lib.hid BT
        clear BT
        go_wp2_with (go_at_call 50; refine (rleap_any _ _).mono ?_; rintro e w' ⟨rfl, rfl⟩)
        go_round
        case rel => exact ⟨y + 1, by omega, by omega, rfl, by rw [BU.out]; go_num⟩
        case measure => simp [intOf]; omega
end Go.Proofs.YtikjehgbfkndjaaDoor.Civ
