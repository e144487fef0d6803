import Derived.Test.YtnicedfakjmbcaaDoorJsW2
import Derived.StillTailTactics
namespace Go.Proofs.YtnicedfakjmbcaaDoor.Jw
open Go Go.RowKit Go.Proofs.YtnicedfakjmbcaaDoor Go.Proofs.YtnicedfakjmbcaaDoor.Tx

/-! ### the reference: letter, Valid, Quote -/
def lettN (c : UInt8) : UInt8 := if c = 34 ∨ c = 92 then c else if c = 8 then 98 else if c = 9 then 116 else if c = 10 then 110 else if c = 12 then 102 else if c = 13 then 114 else 0
set_option maxHeartbeats 1000000 in
theorem letter_any (c : UInt8) (w : World) :
    Calls Tryd.prog 50 #[.int .u8 c.toNat] w fun e w' => e = .returned (.int .u8 (lettN c).toNat) ∧ w' = w := by
  by_cases h : c = 34 ∨ c = 92 ∨ c = 8 ∨ c = 9 ∨ c = 10 ∨ c = 12 ∨ c = 13
  · rcases h with rfl | rfl | rfl | rfl | rfl | rfl | rfl
    all_goals
      go_enter Tryd.func50, Tryd.ntmps50
      go_wp2
      go_ret
      exact ⟨rfl, rfl⟩
  · have u : ∀ n : Nat, c ≠ UInt8.ofNat n → n < 256 → ((c.toNat : Int) == (n : Int)) = false := fun n hn hl => by
      rw [beq_eq_false_iff_ne]
      intro e
      apply hn
      apply UInt8.toNat_inj.1
      simp; omega
    have hE := Lib.hid (show lettN c = 0 by unfold lettN; simp only [not_or] at h; simp [h])
    simp only [not_or] at h
    have g1 : ((c.toNat : Int) == 34) = false := u 34 h.1 (by decide)
    have g2 : ((c.toNat : Int) == 92) = false := u 92 h.2.1 (by decide)
    have g3 : ((c.toNat : Int) == 8) = false := u 8 h.2.2.1 (by decide)
    have g4 : ((c.toNat : Int) == 9) = false := u 9 h.2.2.2.1 (by decide)
    have g5 : ((c.toNat : Int) == 10) = false := u 10 h.2.2.2.2.1 (by decide)
    have g6 : ((c.toNat : Int) == 12) = false := u 12 h.2.2.2.2.2.1 (by decide)
    have g7 : ((c.toNat : Int) == 13) = false := u 13 h.2.2.2.2.2.2 (by decide)
    clear h u
    go_enter Tryd.func50, Tryd.ntmps50
    go_wp2
    go_ret
    exact ⟨ret_int (by rw [hE.out]; rfl), rfl⟩
theorem letter_is (c d : UInt8) (w : World) (h : lettN c = d) :
    Calls Tryd.prog 50 #[.int .u8 c.toNat] w fun e w' => e = .returned (.int .u8 d.toNat) ∧ w' = w := by
  rw [← h]; exact letter_any c w
set_option maxHeartbeats 1000000 in
theorem rvalidT (s : ByteArray) (w : World) (hs : s.size ≤ 9223372036854775807) :
    Calls Tryd.prog 40 #[.string s] w fun e w' => e = .returned (.bool (Lib.validD s.data.toList)) ∧ Below w.heap.size w w' := by
  go_enter Tryd.func40, Tryd.ntmps40
  go_wp2
  go_loopw [3] (fun a wr => ∃ k : Nat, k ≤ s.size ∧ a = .int .i64 k ∧ Hid (Lib.validD s.data.toList = Lib.validD (s.data.toList.drop k)) ∧ Below w.heap.size w wr) (fun a _ => s.size - (intOf a).toNat)
  case atStart => exact ⟨0, Nat.zero_le _, rfl, by simp [Hid], Below.refl _ _⟩
  case round =>
    obtain ⟨k, hk, rfl, hch, hb⟩ := hrel
    have HB := Lib.hid hb
    have hz := hb.size
    clear hb
    by_cases hlt : k < s.size
    · by_cases hbad : (Txt.dec (s.data.toList.drop k)).2 = 0
      · have HE := Lib.hid (show Lib.validD s.data.toList = false by
          rw [hch.out]
          cases e : Lib.validD (s.data.toList.drop k)
          · rfl
          · exact absurd hbad (Txt.dec_valid (drop_ne hlt) e).1)
        have HD := Lib.hid hbad
        clear hbad
        go_wp2_with (go_at_call 18; refine (rdecode_bad s k _ hlt hs HD.out).mono ?_; rintro e w1 ⟨rfl, hb1⟩)
        go_ret
        exact ⟨ret_bool (by rw [HE.out]), below_trans HB.out (by assumption)⟩
      · have HE := Lib.hid (show Lib.validD s.data.toList = Lib.validD (s.data.toList.drop (k + (Txt.dec (s.data.toList.drop k)).2)) by rw [hch.out, Txt.valid_of_dec hbad, List.drop_drop])
        obtain ⟨Rn, M, hd⟩ : ∃ Rn M, Txt.dec (s.data.toList.drop k) = (Rn, M) := ⟨_, _, rfl⟩
        obtain ⟨q1, q2, q3⟩ := step_at s k Rn M hd hlt
        rw [hd] at HE hbad
        have q4 : 1 ≤ M := by simp at hbad; omega
        have HD := Lib.hid hd
        clear hd hbad
        go_wp2_with fail
        refine (rdecode_ok s k Rn M _ hlt hs HD.out).mono ?_
        rintro e w1 ⟨rfl, hb1⟩
        have HB1 := Lib.hid (below_trans HB.out hb1)
        clear hb1
        go_wp2_with fail
        go_roundw
        case rel => exact ⟨k + M, q1, by go_num, HE.out, HB1.out⟩
        case measure => simp [intOf]; omega
    · obtain rfl : k = s.size := by omega
      have HE := Lib.hid (show Lib.validD s.data.toList = true by
        have e : s.data.toList.drop s.size = [] := List.drop_of_length_le (Nat.le_of_eq (by simp))
        rw [hch.out, e]; rfl)
      go_wp2
      go_ret
      exact ⟨ret_bool (by rw [HE.out]), HB.out⟩
theorem rvalid_is (s : ByteArray) (b : Bool) (w : World) (hs : s.size ≤ 9223372036854775807) (h : Lib.validD s.data.toList = b) :
    Calls Tryd.prog 40 #[.string s] w fun e w' => e = .returned (.bool b) ∧ Below w.heap.size w w' := by
  rw [← h]; exact rvalidT s w hs

/-! ### what one byte adds -/
theorem all_u8 (P : UInt8 → Prop) [DecidablePred P] (h : ∀ n : Fin 256, P (UInt8.ofNat n.val)) (c : UInt8) : P c := by
  have := h ⟨c.toNat, UInt8.toNat_lt c⟩
  simpa using this
theorem q_a (c : UInt8) (h : lettN c ≠ 0) : Js.q c = [92, lettN c] :=
  all_u8 (fun c => lettN c ≠ 0 → Js.q c = [92, lettN c]) (by decide +kernel) c h
theorem q_b (c : UInt8) (h : lettN c = 0) (h2 : c.toNat < 32) : Js.q c = [92, 117, 48, 48, Js.hexd (c.toNat / 16), Js.hexd (c.toNat % 16)] :=
  all_u8 (fun c => lettN c = 0 → c.toNat < 32 → Js.q c = [92, 117, 48, 48, Js.hexd (c.toNat / 16), Js.hexd (c.toNat % 16)]) (by decide +kernel) c h h2
theorem q_c (c : UInt8) (h : lettN c = 0) (h2 : 32 ≤ c.toNat) : Js.q c = [c] :=
  all_u8 (fun c => lettN c = 0 → 32 ≤ c.toNat → Js.q c = [c]) (by decide +kernel) c h h2
theorem dig_at (n : Nat) (h : n < 16) : ∃ hb : n < digs.size, digs[n]'hb = Js.hexd n := by
  have : ∀ m : Fin 16, ∃ hb : m.val < digs.size, digs[m.val]'hb = Js.hexd m.val := by decide +kernel
  exact this ⟨n, h⟩
theorem body_snoc (s : ByteArray) (k : Nat) (h : k < s.size) : (34 :: Js.body (s.data.toList.take (k + 1)) : List UInt8) = (34 :: Js.body (s.data.toList.take k)) ++ Js.q s[k] := by
  rw [take_snoc s k h, Js.body_append, Js.body_cons, Js.body_nil]; simp
theorem own_one (w : World) (c : UInt8) : (w.alloc (.cells #[.int .u8 c.toNat] 5)).ownsRow w.heap.size 5 1 (.slice (some ⟨w.heap.size, 0, none⟩) 1 1) 1 (Lib.byteCells [c]) :=
  ⟨by simp [Lib.byteCells], .inr ⟨w.heap.size, 1, _, rfl, Nat.le_refl _, new_block w _, Nat.le_refl _, by unfold maxLen; omega, rfl, by simp [Lib.byteCells]⟩⟩
theorem new_cells (w : World) (xs : List Value) (j : Nat) (u : Value) (hj : xs[j]? = some u) : (w.alloc (.cells xs.toArray 5)).cell? ((⟨w.heap.size, 0, none⟩ : Addr).add j) = some u := by
  have h2 := new_block w (.cells xs.toArray 5)
  have e : ((⟨w.heap.size, 0, none⟩ : Addr).add j) = ⟨w.heap.size, j, none⟩ := by simp [Addr.add]; omega
  rw [e]
  unfold World.cell?
  simp only [h2]
  simpa using hj
end Go.Proofs.YtnicedfakjmbcaaDoor.Jw
