import Derived.Test.YtbodoncomeegpaaGreatDoorJs
import Derived.Test.YtbodoncomeegpaaGreatDoorTxtW9
import Derived.Deep.QuietTactic
import Derived.BigQuiet
namespace Go.Proofs.YtbodoncomeegpaaGreatDoor.Jw
open Go Go.RowKit Go.Proofs.YtbodoncomeegpaaGreatDoor Go.Proofs.YtbodoncomeegpaaGreatDoor.Tx

theorem below_drewN {B : Nat} {a w : World} (h : Below B a w) (n : Nat) : Below B a (w.drewN n) := ⟨h.os, h.tape, h.output, h.size, h.block⟩
theorem alloc_sz (w : World) (o : Obj) : (w.alloc o).heap.size = w.heap.size + 1 := by show (w.heap.push o).size = _; exact Array.size_push _
/-! ### the letters -/
def letTab : List Int := [98, 8, 102, 12, 110, 10, 114, 13, 116, 9]
def letArr : Array Value := (letTab.map fun z => Value.int .u8 z).toArray
def lC (i : Nat) : Int := letTab.getD (2 * i) 0
def lB (i : Nat) : Int := letTab.getD (2 * i + 1) 0
def LetTab (w : World) : Prop := ∃ t fr, w.heap[6]? = some (.cells letArr t fr)
theorem LetTab.below {w w' : World} (h : LetTab w) (hb : Below w.heap.size w w') : LetTab w' := by
  obtain ⟨t, fr, h1⟩ := h
  exact ⟨t, fr, heap_below hb h1⟩
theorem idx_let (i : Nat) (h : i < 5) (w : World) : (Instr.index 230 (.agg letArr) (.int .i64 i)).run Tryz.prog w = .ok (.agg #[.int .u8 (lC i), .int .u8 (lB i)]) w := by
  have e : i = 0 ∨ i = 1 ∨ i = 2 ∨ i = 3 ∨ i = 4 := by omega
  rcases e with rfl | rfl | rfl | rfl | rfl
  all_goals
    clear h
    change _ = _
    kernel_rfl
theorem esc_in (c : UInt8) (i : Nat) (h : i < 5) (h1 : lB i = c.toNat) : strOfNums [92, lC i] = ⟨(Js.esc c).toArray⟩ := by
  have e : i = 0 ∨ i = 1 ∨ i = 2 ∨ i = 3 ∨ i = 4 := by omega
  have u : ∀ n : Nat, (n : Int) = (c.toNat : Int) → n < 256 → c = UInt8.ofNat n := fun n hn _ => by
    apply UInt8.toNat_inj.1
    simp; omega
  rcases e with rfl | rfl | rfl | rfl | rfl
  · rw [u 8 h1 (by decide)]; rfl
  · rw [u 12 h1 (by decide)]; rfl
  · rw [u 10 h1 (by decide)]; rfl
  · rw [u 13 h1 (by decide)]; rfl
  · rw [u 9 h1 (by decide)]; rfl
def NoL (r : Int) (k : Nat) : Prop := ∀ i, i < k → lB i ≠ r
def lowS (n : Nat) : ByteArray := ⟨#[92, 117, 48, 48, Js.hexd (n / 16), Js.hexd (n % 16)]⟩
theorem esc_out (c : UInt8) (h : c.toNat < 32) (hn : NoL c.toNat 5) : (lowS c.toNat) = ⟨(Js.esc c).toArray⟩ := by
  have u : ∀ n : Nat, c = UInt8.ofNat n → n < 256 → (n : Int) = (c.toNat : Int) := fun n hn _ => by
    subst hn; simp; omega
  unfold Js.esc lowS
  have a8 : c ≠ 8 := fun e => hn 0 (by decide) (u 8 e (by decide))
  have a12 : c ≠ 12 := fun e => hn 1 (by decide) (u 12 e (by decide))
  have a10 : c ≠ 10 := fun e => hn 2 (by decide) (u 10 e (by decide))
  have a13 : c ≠ 13 := fun e => hn 3 (by decide) (u 13 e (by decide))
  have a9 : c ≠ 9 := fun e => hn 4 (by decide) (u 9 e (by decide))
  have a34 : c ≠ 34 := fun e => by subst e; revert h; decide
  have a92 : c ≠ 92 := fun e => by subst e; revert h; decide
  rw [if_neg (by simp [a34, a92]), if_neg (by omega), if_neg a8, if_neg a12, if_neg a10, if_neg a13, if_neg a9]
def digs : ByteArray := ⟨#[48, 49, 50, 51, 52, 53, 54, 55, 56, 57, 97, 98, 99, 100, 101, 102]⟩
theorem low_cat (n : Nat) (h : n < 32) : (⟨#[92, 117, 48, 48]⟩ : ByteArray) ++ digs.extract (n / 16) (n / 16 + 1) ++ digs.extract (n % 16) (n % 16 + 1) = lowS n := by
  have : ∀ m : Fin 32, (⟨#[92, 117, 48, 48]⟩ : ByteArray) ++ digs.extract (m.val / 16) (m.val / 16 + 1) ++ digs.extract (m.val % 16) (m.val % 16 + 1) = lowS m.val := by decide +kernel
  exact this ⟨n, h⟩

set_option maxRecDepth 100000 in
set_option maxHeartbeats 1000000 in
theorem escape_any (c : UInt8) (w : World) (hL : LetTab w) :
    Calls Tryz.prog 153 #[.int .u8 c.toNat] w fun e w' => e = .returned (.string ⟨(Js.esc c).toArray⟩) ∧ Below w.heap.size w w' := by
  have B0 := UInt8.toNat_lt c
  by_cases h1 : c.toNat = 34 ∨ c.toNat = 92
  · have HE := Lib.hid (show strOfNums [92, (c.toNat : Int)] = ⟨(Js.esc c).toArray⟩ by
      have : c = 34 ∨ c = 92 := h1.imp (fun e => UInt8.toNat_inj.1 e) (fun e => UInt8.toNat_inj.1 e)
      rcases this with rfl | rfl <;> rfl)
    have hcv : (convert 36 9 (.slice (some ⟨w.heap.size, 0, none⟩) 2 2)).run Tryz.prog (w.alloc (.cells #[.int .u8 92, .int .u8 (c.toNat : Int)] 5)) = _ := conv_new w [92, c.toNat] 2 rfl
    obtain ⟨x, hx⟩ : ∃ x : Int, x = (c.toNat : Int) := ⟨_, rfl⟩
    rw [← hx] at hcv HE ⊢
    have h1' : x = 34 ∨ x = 92 := by omega
    clear h1
    rcases h1' with e | e
    all_goals
      rw [e] at hcv HE ⊢
      clear e hx B0
      go_enter Tryz.func153, Tryz.ntmps153
      go_wp2
      go_ret
      exact ⟨ret_str HE.out, (Below.refl _ _).alloc (Nat.le_refl _) _⟩
  · by_cases h2 : 32 ≤ c.toNat
    · have HE := Lib.hid (show Js.esc c = [] by
        unfold Js.esc
        rw [if_neg (by rintro (e | e) <;> subst e <;> simp at h1), if_pos h2])
      obtain ⟨x, hx⟩ : ∃ x : Int, x = (c.toNat : Int) := ⟨_, rfl⟩
      rw [← hx]
      have g1 : (x == 34) = false := by simp; omega
      have g2 : (x == 92) = false := by simp; omega
      have g3 : decide ((32 : Int) ≤ x) = true := by simp; omega
      clear h1 h2 hx
      go_enter Tryz.func153, Tryz.ntmps153
      go_wp2
      go_ret
      exact ⟨ret_str (by rw [HE.out]), Below.refl _ _⟩
    · obtain ⟨t, fr, hst⟩ := hL
      have HIN := Lib.hid (esc_in c)
      have HOUT := Lib.hid (esc_out c (by omega))
      have HCAT := Lib.hid (low_cat c.toNat (by omega))
      obtain ⟨n, hn⟩ : ∃ n : Nat, n = c.toNat := ⟨_, rfl⟩
      rw [← hn] at HIN HOUT HCAT h1 h2 ⊢
      have hN : n < 32 := by omega
      have g1 : ((n : Int) == 34) = false := by simp; omega
      have g2 : ((n : Int) == 92) = false := by simp; omega
      have g3 : decide ((32 : Int) ≤ (n : Int)) = false := by simp; omega
      clear h1 h2 hn B0
      go_enter Tryz.func153, Tryz.ntmps153
      go_wp2_with (refine wpList_load_row rfl 230 _ rfl 6 rfl t letArr fr _ hst Tryz.underlying230 rfl (by kernel_rfl) ?_)
      clear hst g1 g2 g3
      go_loopw [17] (fun i wr => ∃ k : Nat, k ≤ 5 ∧ i = .int .i64 k ∧ NoL n k ∧ Below w.heap.size w wr) (fun i _ => (5 - intOf i).toNat)
      case atStart => exact ⟨0, by omega, rfl, fun i hi => absurd hi (by omega), Below.refl _ _⟩
      case round =>
        obtain ⟨k, hk, rfl, hno, hb⟩ := hrel
        have HN := Lib.hid hno
        have HB := Lib.hid hb
        have hz := hb.size
        clear hno hb
        by_cases hlt : k < 5
        · have hix := idx_let k hlt
          by_cases c1 : lB k = n
          · have H := Lib.hid (HIN.out k hlt c1)
            have HC1 := Lib.hid c1
            have g1 : (lB k == (n : Int)) = true := by simp [c1]
            clear c1
            have hcv : (convert 36 9 (.slice (some ⟨wr.heap.size + 1, 0, none⟩) 2 2)).run Tryz.prog ((wr.alloc (.cells #[.int .u8 (lC k), .int .u8 (lB k)] 229)).alloc (.cells #[.int .u8 92, .int .u8 (lC k)] 5)) = .ok (.string (strOfNums [92, lC k])) ((wr.alloc (.cells #[.int .u8 (lC k), .int .u8 (lB k)] 229)).alloc (.cells #[.int .u8 92, .int .u8 (lC k)] 5)) := by
              rw [← alloc_sz wr (.cells #[.int .u8 (lC k), .int .u8 (lB k)] 229)]
              exact conv_new _ [92, lC k] 2 rfl
            go_wp2
            go_ret
            exact ⟨ret_str H.out, (HB.out.alloc hz _).alloc (by rw [alloc_sz]; omega) _⟩
          · have g1 : (lB k == (n : Int)) = false := by simp [c1]
            have HC1 := Lib.hid c1
            clear c1
            go_wp2
            go_roundw
            case rel => exact ⟨k + 1, by omega, by go_num, fun i hi => by
              by_cases e : i = k
              · subst e; exact HC1.out
              · exact HN.out i (by omega), (HB.out).alloc hz _⟩
            case measure => simp [intOf]; omega
        · obtain rfl : k = 5 := by omega
          have H := Lib.hid (HOUT.out HN.out)
          go_wp2_with fail
          go_quiet (fail)
          go_wp2
          go_ret
          exact ⟨ret_str (HCAT.out.trans H.out), below_drewN HB.out nq⟩
end Go.Proofs.YtbodoncomeegpaaGreatDoor.Jw
