import Derived.Test.YtbodoncomeegpaaGreatDoorTxtW4
import Derived.Deep.RegionWith
import Derived.Deep.DeepCutAuto
namespace Go.Proofs.YtbodoncomeegpaaGreatDoor.Tx
open Go Go.RowKit Go.Proofs.YtbodoncomeegpaaGreatDoor

/-- The value of the reference's inner loop behind i rounds. -/
def rp (l : List UInt8) (n : Nat) : Nat → Nat
  | 0 => if n = 2 then (l.getD 0 0).toNat % 32 else if n = 3 then (l.getD 0 0).toNat % 16 else if n = 4 then (l.getD 0 0).toNat % 8 else (l.getD 0 0).toNat
  | i + 1 => rp l n i * 64 + (l.getD (i + 1) 0).toNat % 64
theorem rp_succ (l : List UInt8) (n i : Nat) : rp l n (i + 1) = rp l n i * 64 + (l.getD (i + 1) 0).toNat % 64 := rfl
theorem rp_bd (l : List UInt8) (n i : Nat) (h : i ≤ 3) : rp l n i ≤ 67108863 := by
  have h0 : rp l n 0 ≤ 255 := by
    have := Txt.nth_lt l 0
    unfold rp
    split
    · omega
    · split
      · omega
      · split <;> omega
  have h1 : rp l n 1 ≤ 16383 := by rw [rp_succ]; omega
  have h2 : rp l n 2 ≤ 1048575 := by rw [rp_succ]; omega
  have h3 : rp l n 3 ≤ 67108863 := by rw [rp_succ]; omega
  rcases (show i = 0 ∨ i = 1 ∨ i = 2 ∨ i = 3 by omega) with rfl | rfl | rfl | rfl <;> omega
theorem rp_val (l : List UInt8) (n : Nat) (h : 1 ≤ n) (h4 : n ≤ 4) : rp l n (n - 1) = Txt.rval l n := by
  rcases (show n = 1 ∨ n = 2 ∨ n = 3 ∨ n = 4 by omega) with rfl | rfl | rfl | rfl <;> simp [rp, Txt.rval]
theorem byte_drop (s : ByteArray) (k i : Nat) (h : k + i < s.size) : ((s.data.toList.drop k).getD i 0).toNat = (s[k + i]'h).toNat := by
  have h' : k + i < s.data.toList.length := by simpa using h
  rw [List.getD_eq_getElem?_getD, List.getElem?_drop, List.getElem?_eq_getElem h']
  rfl
theorem cmp_eq (s : ByteArray) (k n : Nat) (L : List UInt8) (hL : L = s.data.toList.drop k) (h1 : 1 ≤ n) (h4 : n ≤ 4) (hl : n ≤ L.length) :
    (Txt.enc ((rp L n (n - 1) : Nat) : Int) == (s.extract k (k + n)).toList) = decide ((Txt.dec L).2 = n) := by
  rw [Lib.toList_data, Lib.extract_data, ← hL, Nat.add_sub_cancel_left, rp_val L n h1 h4, Bool.eq_iff_iff]
  simp only [beq_iff_eq, decide_eq_true_eq]
  exact (Txt.search L n h1 h4 hl).1
theorem ret_two {k l : IntKind} {a b c d : Int} (h : a = b) (g : c = d) : Ending.returned (.tuple #[.int k a, .int l c]) = .returned (.tuple #[.int k b, .int l d]) := by rw [h, g]
theorem rdecode_out (s : ByteArray) (a : Int) (w : World) (h : a < 0 ∨ (s.size : Int) ≤ a) :
    Calls Tryz.prog 88 #[.string s, .int .i64 a] w fun e w' => e = .returned (.tuple #[.int .i64 0, .int .i64 0]) ∧ w = w' := by
  rcases h with h | h
  all_goals
    go_enter Tryz.func88, Tryz.ntmps88
    go_wp2
    go_ret2
    exact ⟨rfl, rfl⟩
set_option maxRecDepth 100000 in
set_option maxHeartbeats 2000000 in
theorem rdecode_in (s : ByteArray) (k : Nat) (w : World) (h : k < s.size) (hs : s.size ≤ 9223372036854775807) :
    Calls Tryz.prog 88 #[.string s, .int .i64 k] w fun e w' => e = .returned (.tuple #[.int .i64 (Txt.dec (s.data.toList.drop k)).1, .int .i64 (Txt.dec (s.data.toList.drop k)).2]) ∧ Below w.heap.size w w' := by
  obtain ⟨L, hL⟩ : ∃ L, L = s.data.toList.drop k := ⟨_, rfl⟩
  rw [← hL]
  have hlen : L.length = s.size - k := by rw [hL]; simp
  have HL := Lib.hid hL
  have HLEN := Lib.hid hlen
  clear hL hlen
  have g1 : decide ((k : Int) < 0) = false := by simp
  have g2 : decide (s.size ≤ k) = false := by simp; omega
  go_enter Tryz.func88, Tryz.ntmps88
  go_wp2
  go_loopw [6] (fun a wr => ∃ n : Int, 1 ≤ n ∧ n ≤ 5 ∧ n ≤ (s.size : Int) - k + 1 ∧ a = .int .i64 n ∧ Hid (∀ j : Nat, 1 ≤ j → (j : Int) < n → (Txt.dec L).2 ≠ j) ∧ Below w.heap.size w wr) (fun a _ => (5 - intOf a).toNat)
  case atStart => exact ⟨1, by omega, by omega, by omega, rfl, fun j h1 h2 => absurd h1 (by omega), Below.refl _ _⟩
  case round =>
    obtain ⟨n, hn1, hn5, hn6, rfl, hno, hb⟩ := hrel
    have HB := Lib.hid hb
    have hz := hb.size
    clear hb
    by_cases hc : n ≤ 4 ∧ n ≤ (s.size : Int) - k
    · obtain ⟨hc1, hc2⟩ := hc
      have B0 := UInt8.toNat_lt s[k]
      have HB0 := Lib.hid (show (L.getD 0 0).toNat = (s[k]).toNat by rw [HL.out]; exact byte_drop s k 0 h)
      have HBS := Lib.hid (show ∀ i, (hi : k + i < s.size) → (L.getD i 0).toNat = (s[k + i]'hi).toNat from fun i hi => by rw [HL.out]; exact byte_drop s k i hi)
      rcases (show n = 1 ∨ n = 2 ∨ n = 3 ∨ n = 4 by omega) with rfl | rfl | rfl | rfl
      · have HR0 := Lib.hid (show rp L 1 0 = (L.getD 0 0).toNat from rfl)
        have g3 : decide ((1 : Int) ≤ (s.size : Int) - k) = true := by simp; omega
        go_wp2
        go_loop [7, 8] (fun a b => ∃ i : Nat, i + 1 ≤ 1 ∧ b = .int .i64 ((i + 1 : Nat) : Int) ∧ a = .int .i64 (rp L 1 i : Nat)) (fun _ b => (1 - intOf b).toNat)
        case atStart => exact ⟨0, by omega, rfl, by (rw [HR0.out, HB0.out]) <;> go_num⟩
        case round =>
          obtain ⟨i, hi, rfl, rfl⟩ := hrel
          have hbd := rp_bd L 1 i (by omega)
          by_cases hlt : i + 1 < 1
          · exfalso; omega
          · obtain rfl : i = 0 := by omega
            have k2 : (k : Int) + 1 ≤ (s.size : Int) := by omega
            have k3 : IntKind.i64.wrap ((k : Int) + 1) = (k : Int) + 1 := IntWalk.i64_in _ (by omega)
            have k4 : 0 ≤ (k : Int) + 1 := by omega
            have k5 : ((k : Int) + 1).toNat = k + 1 := by omega
            have k6 : k + 1 ≤ s.size := by omega
            have k7 : (k : Int) ≤ (k : Int) + 1 := by omega
            go_upto_region 17 with fail
            have HC := Lib.hid (cmp_eq s k 1 L HL.out (by omega) (by omega) (by rw [HLEN.out]; omega))
            have HV := Lib.hid (show (Txt.dec L).2 = 1 → rp L 1 0 = (Txt.dec L).1 from fun e => by rw [(Txt.search L 1 (by omega) (by omega) (by rw [HLEN.out]; omega)).2 e, ← rp_val L 1 (by omega) (by omega)])
            go_cut [68] (fun c wx => ∃ b : Bool, c = .bool b ∧ Hid (b = decide ((Txt.dec L).2 = 1)) ∧ Hid (Below w.heap.size w wx))
            case first =>
              go_region_with (go_at_call 120; refine (encode_any _ _).mono ?_; rintro e w1 ⟨rfl, hb1⟩)
              go_wp2_with fail
              go_meet
              exact ⟨_, rfl, HC.out, HB.out.drew.trans (hb1.mono hz)⟩
            case rest =>
              obtain ⟨b, rfl, hbb, HB2⟩ := hcut
              clear k2 k3 k4 k5 k6 k7 B0
              rcases b with _ | _
              rotate_left
              · have HD := Lib.hid (of_decide_eq_true hbb.out.symm)
                go_wp2
                go_ret2
                exact ⟨ret_two (by rw [HV.out HD.out]) (by rw [HD.out]; rfl), HB2.out⟩
              · have HD := Lib.hid (of_decide_eq_false hbb.out.symm)
                go_wp2
                go_roundw
                case rel => exact ⟨2, by omega, by omega, by omega, rfl, fun j h1 h2 => by
                  by_cases e : j = 1
                  · subst e; exact HD.out
                  · exact hno.out j h1 (by omega), HB2.out⟩
                case measure => simp [intOf]
      · have HR0 := Lib.hid (show rp L 2 0 = (L.getD 0 0).toNat % 32 from rfl)
        have g3 : decide ((2 : Int) ≤ (s.size : Int) - k) = true := by simp; omega
        go_wp2
        go_loop [7, 8] (fun a b => ∃ i : Nat, i + 1 ≤ 2 ∧ b = .int .i64 ((i + 1 : Nat) : Int) ∧ a = .int .i64 (rp L 2 i : Nat)) (fun _ b => (2 - intOf b).toNat)
        case atStart => exact ⟨0, by omega, rfl, by (rw [HR0.out, HB0.out]) <;> go_num⟩
        case round =>
          obtain ⟨i, hi, rfl, rfl⟩ := hrel
          have hbd := rp_bd L 2 i (by omega)
          by_cases hlt : i + 1 < 2
          · have B1 := UInt8.toNat_lt (s[k + (i + 1)]'(by omega))
            have HS1 := Lib.hid (rp_succ L 2 i)
            have HI1 := Lib.hid (HBS.out (i + 1) (by omega))
            go_wp2
            go_round
            case rel => exact ⟨i + 1, by omega, by go_num, by rw [HS1.out, HI1.out]; go_num⟩
            case measure => simp [intOf]; omega
          · obtain rfl : i = 1 := by omega
            have k2 : (k : Int) + 2 ≤ (s.size : Int) := by omega
            have k3 : IntKind.i64.wrap ((k : Int) + 2) = (k : Int) + 2 := IntWalk.i64_in _ (by omega)
            have k4 : 0 ≤ (k : Int) + 2 := by omega
            have k5 : ((k : Int) + 2).toNat = k + 2 := by omega
            have k6 : k + 2 ≤ s.size := by omega
            have k7 : (k : Int) ≤ (k : Int) + 2 := by omega
            go_upto_region 17 with fail
            have HC := Lib.hid (cmp_eq s k 2 L HL.out (by omega) (by omega) (by rw [HLEN.out]; omega))
            have HV := Lib.hid (show (Txt.dec L).2 = 2 → rp L 2 1 = (Txt.dec L).1 from fun e => by rw [(Txt.search L 2 (by omega) (by omega) (by rw [HLEN.out]; omega)).2 e, ← rp_val L 2 (by omega) (by omega)])
            go_cut [68] (fun c wx => ∃ b : Bool, c = .bool b ∧ Hid (b = decide ((Txt.dec L).2 = 2)) ∧ Hid (Below w.heap.size w wx))
            case first =>
              go_region_with (go_at_call 120; refine (encode_any _ _).mono ?_; rintro e w1 ⟨rfl, hb1⟩)
              go_wp2_with fail
              go_meet
              exact ⟨_, rfl, HC.out, HB.out.drew.trans (hb1.mono hz)⟩
            case rest =>
              obtain ⟨b, rfl, hbb, HB2⟩ := hcut
              clear k2 k3 k4 k5 k6 k7 B0
              rcases b with _ | _
              rotate_left
              · have HD := Lib.hid (of_decide_eq_true hbb.out.symm)
                go_wp2
                go_ret2
                exact ⟨ret_two (by rw [HV.out HD.out]) (by rw [HD.out]; rfl), HB2.out⟩
              · have HD := Lib.hid (of_decide_eq_false hbb.out.symm)
                go_wp2
                go_roundw
                case rel => exact ⟨3, by omega, by omega, by omega, rfl, fun j h1 h2 => by
                  by_cases e : j = 2
                  · subst e; exact HD.out
                  · exact hno.out j h1 (by omega), HB2.out⟩
                case measure => simp [intOf]
      · have HR0 := Lib.hid (show rp L 3 0 = (L.getD 0 0).toNat % 16 from rfl)
        have g3 : decide ((3 : Int) ≤ (s.size : Int) - k) = true := by simp; omega
        go_wp2
        go_loop [7, 8] (fun a b => ∃ i : Nat, i + 1 ≤ 3 ∧ b = .int .i64 ((i + 1 : Nat) : Int) ∧ a = .int .i64 (rp L 3 i : Nat)) (fun _ b => (3 - intOf b).toNat)
        case atStart => exact ⟨0, by omega, rfl, by (rw [HR0.out, HB0.out]) <;> go_num⟩
        case round =>
          obtain ⟨i, hi, rfl, rfl⟩ := hrel
          have hbd := rp_bd L 3 i (by omega)
          by_cases hlt : i + 1 < 3
          · have B1 := UInt8.toNat_lt (s[k + (i + 1)]'(by omega))
            have HS1 := Lib.hid (rp_succ L 3 i)
            have HI1 := Lib.hid (HBS.out (i + 1) (by omega))
            go_wp2
            go_round
            case rel => exact ⟨i + 1, by omega, by go_num, by rw [HS1.out, HI1.out]; go_num⟩
            case measure => simp [intOf]; omega
          · obtain rfl : i = 2 := by omega
            have k2 : (k : Int) + 3 ≤ (s.size : Int) := by omega
            have k3 : IntKind.i64.wrap ((k : Int) + 3) = (k : Int) + 3 := IntWalk.i64_in _ (by omega)
            have k4 : 0 ≤ (k : Int) + 3 := by omega
            have k5 : ((k : Int) + 3).toNat = k + 3 := by omega
            have k6 : k + 3 ≤ s.size := by omega
            have k7 : (k : Int) ≤ (k : Int) + 3 := by omega
            go_upto_region 17 with fail
            have HC := Lib.hid (cmp_eq s k 3 L HL.out (by omega) (by omega) (by rw [HLEN.out]; omega))
            have HV := Lib.hid (show (Txt.dec L).2 = 3 → rp L 3 2 = (Txt.dec L).1 from fun e => by rw [(Txt.search L 3 (by omega) (by omega) (by rw [HLEN.out]; omega)).2 e, ← rp_val L 3 (by omega) (by omega)])
            go_cut [68] (fun c wx => ∃ b : Bool, c = .bool b ∧ Hid (b = decide ((Txt.dec L).2 = 3)) ∧ Hid (Below w.heap.size w wx))
            case first =>
              go_region_with (go_at_call 120; refine (encode_any _ _).mono ?_; rintro e w1 ⟨rfl, hb1⟩)
              go_wp2_with fail
              go_meet
              exact ⟨_, rfl, HC.out, HB.out.drew.trans (hb1.mono hz)⟩
            case rest =>
              obtain ⟨b, rfl, hbb, HB2⟩ := hcut
              clear k2 k3 k4 k5 k6 k7 B0
              rcases b with _ | _
              rotate_left
              · have HD := Lib.hid (of_decide_eq_true hbb.out.symm)
                go_wp2
                go_ret2
                exact ⟨ret_two (by rw [HV.out HD.out]) (by rw [HD.out]; rfl), HB2.out⟩
              · have HD := Lib.hid (of_decide_eq_false hbb.out.symm)
                go_wp2
                go_roundw
                case rel => exact ⟨4, by omega, by omega, by omega, rfl, fun j h1 h2 => by
                  by_cases e : j = 3
                  · subst e; exact HD.out
                  · exact hno.out j h1 (by omega), HB2.out⟩
                case measure => simp [intOf]
      · have HR0 := Lib.hid (show rp L 4 0 = (L.getD 0 0).toNat % 8 from rfl)
        have g3 : decide ((4 : Int) ≤ (s.size : Int) - k) = true := by simp; omega
        go_wp2
        go_loop [7, 8] (fun a b => ∃ i : Nat, i + 1 ≤ 4 ∧ b = .int .i64 ((i + 1 : Nat) : Int) ∧ a = .int .i64 (rp L 4 i : Nat)) (fun _ b => (4 - intOf b).toNat)
        case atStart => exact ⟨0, by omega, rfl, by (rw [HR0.out, HB0.out]) <;> go_num⟩
        case round =>
          obtain ⟨i, hi, rfl, rfl⟩ := hrel
          have hbd := rp_bd L 4 i (by omega)
          by_cases hlt : i + 1 < 4
          · have B1 := UInt8.toNat_lt (s[k + (i + 1)]'(by omega))
            have HS1 := Lib.hid (rp_succ L 4 i)
            have HI1 := Lib.hid (HBS.out (i + 1) (by omega))
            go_wp2
            go_round
            case rel => exact ⟨i + 1, by omega, by go_num, by rw [HS1.out, HI1.out]; go_num⟩
            case measure => simp [intOf]; omega
          · obtain rfl : i = 3 := by omega
            have k2 : (k : Int) + 4 ≤ (s.size : Int) := by omega
            have k3 : IntKind.i64.wrap ((k : Int) + 4) = (k : Int) + 4 := IntWalk.i64_in _ (by omega)
            have k4 : 0 ≤ (k : Int) + 4 := by omega
            have k5 : ((k : Int) + 4).toNat = k + 4 := by omega
            have k6 : k + 4 ≤ s.size := by omega
            have k7 : (k : Int) ≤ (k : Int) + 4 := by omega
            go_upto_region 17 with fail
            have HC := Lib.hid (cmp_eq s k 4 L HL.out (by omega) (by omega) (by rw [HLEN.out]; omega))
            have HV := Lib.hid (show (Txt.dec L).2 = 4 → rp L 4 3 = (Txt.dec L).1 from fun e => by rw [(Txt.search L 4 (by omega) (by omega) (by rw [HLEN.out]; omega)).2 e, ← rp_val L 4 (by omega) (by omega)])
            go_cut [68] (fun c wx => ∃ b : Bool, c = .bool b ∧ Hid (b = decide ((Txt.dec L).2 = 4)) ∧ Hid (Below w.heap.size w wx))
            case first =>
              go_region_with (go_at_call 120; refine (encode_any _ _).mono ?_; rintro e w1 ⟨rfl, hb1⟩)
              go_wp2_with fail
              go_meet
              exact ⟨_, rfl, HC.out, HB.out.drew.trans (hb1.mono hz)⟩
            case rest =>
              obtain ⟨b, rfl, hbb, HB2⟩ := hcut
              clear k2 k3 k4 k5 k6 k7 B0
              rcases b with _ | _
              rotate_left
              · have HD := Lib.hid (of_decide_eq_true hbb.out.symm)
                go_wp2
                go_ret2
                exact ⟨ret_two (by rw [HV.out HD.out]) (by rw [HD.out]; rfl), HB2.out⟩
              · have HD := Lib.hid (of_decide_eq_false hbb.out.symm)
                go_wp2
                go_roundw
                case rel => exact ⟨5, by omega, by omega, by omega, rfl, fun j h1 h2 => by
                  by_cases e : j = 4
                  · subst e; exact HD.out
                  · exact hno.out j h1 (by omega), HB2.out⟩
                case measure => simp [intOf]
    · have hz0 : (Txt.dec L).2 = 0 := by
        have a := Txt.dec_le L
        have b := Txt.dec_width L
        have c := HLEN.out
        rcases Nat.eq_zero_or_pos (Txt.dec L).2 with e | e
        · exact e
        · exact absurd rfl (hno.out (Txt.dec L).2 e (by omega))
      have HZ := Lib.hid (Txt.dec_zero hz0)
      clear hz0
      by_cases c4 : n = 5
      · subst c4
        clear hc
        go_wp2
        go_ret2
        exact ⟨by rw [HZ.out]; rfl, HB.out⟩
      · have g3 : decide (n ≤ (s.size : Int) - k) = false := by simp; omega
        have g4 : n ≤ 4 := by omega
        clear hc c4
        go_wp2
        go_ret2
        exact ⟨by rw [HZ.out]; rfl, HB.out⟩
end Go.Proofs.YtbodoncomeegpaaGreatDoor.Tx
