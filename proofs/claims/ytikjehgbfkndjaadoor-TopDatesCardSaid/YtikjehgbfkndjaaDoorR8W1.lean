/- Walks of rfc822: title, lower, number. -/
import Derived.Test.YtikjehgbfkndjaaDoorBs
import Derived.Test.YtikjehgbfkndjaaDoorR8
import Derived.Test.YtikjehgbfkndjaaDoorShelf2
import Derived.StillTailTactics
import Derived.Lib.ConvBytes
namespace Go.Proofs.YtikjehgbfkndjaaDoor.R8
open Go Go.RowKit Go.Proofs.YtikjehgbfkndjaaDoor Go.Proofs.YtikjehgbfkndjaaDoor.Bs
set_option linter.unusedVariables false

/-! ### title -/
set_option maxRecDepth 100000 in
set_option maxHeartbeats 4000000 in
theorem title_is (P T : ByteArray) (x y z : UInt8) (W : World) (hP : P.data.toList = [x, y, z]) (hx : 97 ≤ x.toNat) (hx2 : (x - 32).toNat = x.toNat - 32) (hT : [x - 32, y, z] = T.data.toList) :
    Calls Tryd.prog 23 #[.string P] W fun e w' => e = .returned (.string T) ∧ Below W.heap.size W w' := by
  have hs : P.size = 3 := by have := congrArg List.length hP; simpa using this
  have h0 : 0 < P.size := by omega
  have h1 : 1 < P.size := by omega
  have h2 : 2 < P.size := by omega
  have i1 : (1:Int) < P.size := by omega
  have i2 : (2:Int) < P.size := by omega
  have e0 : (P[0].toNat : Int) = (x.toNat : Int) := by have := getD_at P 0 h0; rw [hP] at this; rw [← this]; rfl
  have e1 : (P[1].toNat : Int) = (y.toNat : Int) := by have := getD_at P 1 h1; rw [hP] at this; rw [← this]; rfl
  have e2 : (P[2].toNat : Int) = (z.toNat : Int) := by have := getD_at P 2 h2; rw [hP] at this; rw [← this]; rfl
  have hT2 : strOfNums [(x.toNat : Int) - 32, (y.toNat : Int), (z.toNat : Int)] = T := by
    apply ba_eq
    rw [nums_list, ← hT]
    have e : UInt8.ofNat ((x.toNat : Int) - 32).toNat = x - 32 := by
      apply UInt8.toNat_inj.1
      rw [hx2]
      have := UInt8.toNat_lt x
      simp; omega
    simp [e]
  have hcv : (convert 43 9 (.slice (some ⟨W.drew.heap.size, 0, none⟩) 3 3)).run Tryd.prog (W.drew.alloc (.cells #[.int .u8 ((x.toNat : Int) - 32), .int .u8 (y.toNat : Int), .int .u8 (z.toNat : Int)] 5)) = .ok (.string T) (W.drew.alloc (.cells #[.int .u8 ((x.toNat : Int) - 32), .int .u8 (y.toNat : Int), .int .u8 (z.toNat : Int)] 5)) := by
    rw [← hT2]; exact conv_new W.drew [(x.toNat : Int) - 32, (y.toNat : Int), (z.toNat : Int)] 3 rfl
  have HB := Lib.hid (show Below W.heap.size W (W.drew.alloc (.cells #[.int .u8 ((x.toNat : Int) - 32), .int .u8 (y.toNat : Int), .int .u8 (z.toNat : Int)] 5)) from (Below.refl W.heap.size W).drew.alloc (Nat.le_refl _) _)
  have B0 := UInt8.toNat_lt x
  clear hP hx2 hT hT2 hs
  go_enter Tryd.func23, Tryd.ntmps23
  go_wp2_with fail
  go_still_tail 7, (by kernel_rfl)
  change wpList _ _ _ _ _ W.drew
  clear e0 e1 e2 h0 h1 h2 i1 i2
  generalize W.drew = w0 at hcv HB
  go_wp2_with fail
  go_ret
  exact ⟨rfl, HB.out⟩

/-! ### number -/
theorem world_below (w : World) (e : TypeId) (s : ByteArray) : Below w.heap.size w (Lib.bytesWorld w e s) :=
  ⟨rfl, rfl, rfl, by rw [Lib.bytesWorld_size]; omega, fun k hk => Lib.bytesWorld_at_old w e s k hk⟩
theorem atoi_is (P : ByteArray) (n : Int) (W : World) (hl : P.size ≤ 18) (h : Lib.atoi P.data.toList = some n) :
    Calls Tryd.prog 42 #[.string P] W fun e w' => e = .returned (.tuple #[.int .i64 n, .nilIface]) ∧ Below W.heap.size W w' :=
  (Tryd.strconv_Atoi P n hl h W).mono fun _ _ ⟨h1, t, h2⟩ => ⟨h1, by rw [h2]; exact world_below _ _ _⟩
set_option maxRecDepth 100000 in
set_option maxHeartbeats 4000000 in
theorem number_is (P : ByteArray) (w n lo hi : Nat) (a b : Int) (ha : a = lo) (hb : b = hi) (W : World) (hw : 1 ≤ w) (hw4 : w ≤ 4) (hlo : lo ≤ w) (hhi : w ≤ hi) (hhi4 : hi ≤ 4) (hn : n < 10 ^ w) (hP : Rf.dig w n = P.data.toList) :
    Calls Tryd.prog 22 #[.string P, .int .i64 a, .int .i64 b] W fun e w' => e = .returned (.tuple #[.int .i64 n, .bool true]) ∧ Below W.heap.size W w' := by
  subst ha hb
  have hs : P.size = w := by have := congrArg List.length hP; rw [Rf.dig_len] at this; simpa using this.symm
  have HA := Lib.hid (show Lib.atoi P.data.toList = some (n : Int) by rw [← hP]; exact atoi_dig w n hw hn)
  have HD := Lib.hid (show ∀ j, j < P.size → Rf.isD (P.data.toList.getD j 0) = true by rw [← hP, hs]; exact fun j hj => dig_isD w n j hn hj)
  have g1 : decide (P.size < lo) = false := by simp; omega
  have g2 : decide (hi < P.size) = false := by simp; omega
  have z4 : P.size ≤ 4 := by omega
  have hcv := Lib.run_convert_string_bytes (P := Tryd.prog) W 9 43 5 P (u := .string) Tryd.underlying9 Tryd.underlying43 Tryd.underlying5
  have hb0 := world_below W 5 P
  have hcb : ∀ j, j < P.size → (Lib.bytesWorld W 5 P).cell? ⟨W.heap.size, j, none⟩ = some (.int .u8 (P.data.toList.getD j 0).toNat) := by
    intro j hj
    rw [Lib.bytesWorld_cell W _ _ j hj]
  generalize Lib.bytesWorld W 5 P = W1 at hcv hb0 hcb
  generalize grownCap W P.size 0 5 = cap1 at hcv
  have HB := Lib.hid hb0
  have HC := Lib.hid hcb
  clear hb0 hcb hP hn hs hlo hhi hw
  go_enter Tryd.func22, Tryd.ntmps22
  go_wp2_with fail
  clear hcv g1 g2
  go_loop [25] (fun c => ∃ j : Nat, j ≤ P.size ∧ c = .int .i64 j) (fun c => P.size - (intOf c).toNat)
  case atStart => exact ⟨0, Nat.zero_le _, rfl⟩
  case round =>
    obtain ⟨j, hj, rfl⟩ := hrel
    by_cases hlt : j < P.size
    · have hd := HD.out j hlt
      have hcl := HC.out j hlt
      obtain ⟨c, hc⟩ : ∃ c, P.data.toList.getD j 0 = c := ⟨_, rfl⟩
      rw [hc] at hd hcl
      obtain ⟨d1, d2⟩ := Rf.isD_iff.1 hd
      clear hd hc
      go_wp2_with fail
      go_round
      case rel => exact ⟨j + 1, by omega, by go_num⟩
      case measure => simp [intOf]; omega
    · go_wp2_with fail
      refine (atoi_is P n _ (by omega) HA.out).mono ?_
      rintro e w2 ⟨rfl, hb⟩
      have HB2 := Lib.hid (below_trans HB.out hb)
      clear hb
      go_wp2_with fail
      go_quiet (fail)
      go_wp2_with fail
      go_ret2
      exact ⟨rfl, below_drewN HB2.out nq⟩

/-! ### lower -/
theorem low_getD (l : List UInt8) (j : Nat) : (low l).getD j 0 = lowC (l.getD j 0) := by
  unfold low
  simp only [List.getD_eq_getElem?_getD, List.getElem?_map]
  cases l[j]? <;> rfl
theorem lowC_num (c : UInt8) : ((lowC c).toNat : Int) = if 65 ≤ c.toNat ∧ c.toNat ≤ 90 then (c.toNat : Int) + 32 else c.toNat :=
  all_u8 (fun c => ((lowC c).toNat : Int) = if 65 ≤ c.toNat ∧ c.toNat ≤ 90 then (c.toNat : Int) + 32 else c.toNat) (by decide +kernel) c
theorem bytes_free (w : World) (e : TypeId) (s : ByteArray) (j : Nat) (hj : j < s.size) : (Lib.bytesWorld w e s).frozen? ⟨w.heap.size, j, none⟩ = false := by
  have h := Lib.bytesWorld_at_new w e s
  have hc := Lib.bytesWorld_cell w e s j hj
  have hlt : j < (Lib.bytesCells w e s).size := by
    unfold World.cell? at hc
    simp only [h] at hc
    rcases Nat.lt_or_ge j (Lib.bytesCells w e s).size with h1 | h1
    · exact h1
    · simp [Array.getElem?_eq_none h1] at hc
  unfold World.frozen?
  simp only [h]
  simp; omega
def lowAt (l : List UInt8) (k j : Nat) : UInt8 := if j < k then lowC (l.getD j 0) else l.getD j 0
theorem lowAt_step (l : List UInt8) (k j : Nat) (h : j ≠ k) : lowAt l (k + 1) j = lowAt l k j := by
  unfold lowAt
  by_cases h1 : j < k
  · rw [if_pos h1, if_pos (by omega)]
  · rw [if_neg h1, if_neg (by omega)]
theorem lowAt_self (l : List UInt8) (k : Nat) : lowAt l k k = l.getD k 0 ∧ lowAt l (k + 1) k = lowC (l.getD k 0) := by
  unfold lowAt
  exact ⟨if_neg (by omega), if_pos (by omega)⟩
set_option maxRecDepth 100000 in
set_option maxHeartbeats 4000000 in
theorem lower_is (P T : ByteArray) (W : World) (hs : P.size ≤ 1000) (hT : low P.data.toList = T.data.toList) :
    Calls Tryd.prog 49 #[.string P] W fun e w' => e = .returned (.string T) ∧ Below W.heap.size W w' := by
  have hcv := Lib.run_convert_string_bytes (P := Tryd.prog) W 9 43 5 P (u := .string) Tryd.underlying9 Tryd.underlying43 Tryd.underlying5
  have hb0 := world_below W 5 P
  have hcb : ∀ j, j < P.size → (Lib.bytesWorld W 5 P).cell? ⟨W.heap.size, j, none⟩ = some (.int .u8 (lowAt P.data.toList 0 j).toNat) := by
    intro j hj
    rw [Lib.bytesWorld_cell W _ _ j hj]; rfl
  have hfz : ∀ j, j < P.size → (Lib.bytesWorld W 5 P).frozen? ⟨W.heap.size, j, none⟩ = false := fun j hj => bytes_free W _ P j hj
  have hz0 : W.heap.size < (Lib.bytesWorld W 5 P).heap.size := by rw [Lib.bytesWorld_size]; omega
  generalize Lib.bytesWorld W 5 P = W1 at hcv hb0 hcb hfz hz0
  generalize grownCap W P.size 0 5 = cap1 at hcv
  have HB := Lib.hid hb0
  have HC := Lib.hid hcb
  have HF := Lib.hid hfz
  have HT := Lib.hid hT
  obtain ⟨B, hB⟩ : ∃ B : Nat, W.heap.size = B := ⟨_, rfl⟩
  have HBS := Lib.hid hB
  rw [hB] at hcv HC HF hz0
  clear hb0 hcb hfz hT hB
  go_enter Tryd.func49, Tryd.ntmps49
  go_wp2_with fail
  clear hcv
  go_loopw [10] (fun c wr => ∃ k : Nat, k ≤ P.size ∧ c = .int .i64 k ∧ B < wr.heap.size ∧ Hid (∀ j, j < P.size → wr.cell? ⟨B, j, none⟩ = some (.int .u8 (lowAt P.data.toList k j).toNat)) ∧ Hid (∀ j, j < P.size → wr.frozen? ⟨B, j, none⟩ = false) ∧ Hid (Below W.heap.size W wr)) (fun c _ => P.size - (intOf c).toNat)
  case atStart => exact ⟨0, Nat.zero_le _, rfl, hz0, HC.out, HF.out, HB.out⟩
  case round =>
    obtain ⟨k, hk, rfl, hz, HC1, HF1, HB1⟩ := hrel
    by_cases hlt : k < P.size
    · have hcl := HC1.out k hlt
      have hfr := HF1.out k hlt
      obtain ⟨c, hc⟩ : ∃ c, P.data.toList.getD k 0 = c := ⟨_, rfl⟩
      rw [(lowAt_self P.data.toList k).1, hc] at hcl
      have B0 := UInt8.toNat_lt c
      have LC := lowC_num c
      by_cases hu : 65 ≤ c.toNat ∧ c.toNat ≤ 90
      · rw [if_pos hu] at LC
        have HN := Lib.hid (fun j hj => by
          by_cases hjk : j = k
          · subst hjk
            rw [World.cell?_setCell_same _ _ _ hcl, (lowAt_self P.data.toList j).2, hc, LC]
          · rw [World.cell?_setCell_other _ _ _ _ (by intro e; exact hjk (by injection e with _ e2 _; exact e2.symm)), lowAt_step _ _ _ hjk]
            exact HC1.out j hj : ∀ j, j < P.size → (wr.setCell ⟨B, k, none⟩ (.int .u8 ((c.toNat : Int) + 32))).cell? ⟨B, j, none⟩ = some (.int .u8 (lowAt P.data.toList (k + 1) j).toNat))
        have HFN := Lib.hid (fun j hj => by rw [World.frozen?_setCell]; exact HF1.out j hj : ∀ j, j < P.size → (wr.setCell ⟨B, k, none⟩ (.int .u8 ((c.toNat : Int) + 32))).frozen? ⟨B, j, none⟩ = false)
        have HBN := Lib.hid (HB1.out.setCell (p := ⟨B, k, none⟩) (by have := HBS.out; show W.heap.size ≤ B; omega) (.int .u8 ((c.toNat : Int) + 32)))
        have HZN := Lib.hid (show B < (wr.setCell ⟨B, k, none⟩ (.int .u8 ((c.toNat : Int) + 32))).heap.size by have := HBN.out.size; have := HBS.out; simp; omega)
        obtain ⟨u1, u2⟩ := hu
        clear hc LC
        go_wp2_with fail
        go_roundw
        case rel => exact ⟨k + 1, by omega, by go_num, HZN.out, HN.out, HFN.out, HBN.out⟩
        case measure => simp [intOf]; omega
      · rw [if_neg hu] at LC
        have HN := Lib.hid (fun j hj => by
          by_cases hjk : j = k
          · subst hjk
            rw [HC1.out j hj, (lowAt_self P.data.toList j).1, (lowAt_self P.data.toList j).2, hc, LC]
          · rw [lowAt_step _ _ _ hjk]; exact HC1.out j hj : ∀ j, j < P.size → wr.cell? ⟨B, j, none⟩ = some (.int .u8 (lowAt P.data.toList (k + 1) j).toNat))
        have hu2 : c.toNat < 65 ∨ (65 ≤ c.toNat ∧ 90 < c.toNat) := by omega
        clear hu hc LC
        rcases hu2 with u1 | ⟨u1, u2⟩
        all_goals
          go_wp2_with fail
          go_roundw
          case rel => exact ⟨k + 1, by omega, by go_num, hz, HN.out, HF1.out, HB1.out⟩
          case measure => simp [intOf]; omega
    · obtain rfl : k = P.size := by omega
      have hcv2 : (convert 43 9 (.slice (some ⟨B, 0, none⟩) P.size cap1)).run Tryd.prog wr = .ok (.string T) wr := by
        have h := run_convert_bytes_arg (P := Tryd.prog) wr 43 5 Tryd.underlying43 Tryd.underlying5 B 0 P.size cap1 ((low P.data.toList).map fun c => (c.toNat : Int)) (by rw [List.length_map, low_len]; simp) (fun i hi => by
          rw [Nat.zero_add, HC1.out i hi]
          congr 2
          rw [List.getD_eq_getElem?_getD, List.getElem?_map]
          have e := low_getD P.data.toList i
          have hl : i < (low P.data.toList).length := by rw [low_len]; simpa using hi
          rw [List.getD_eq_getElem?_getD, List.getElem?_eq_getElem hl] at e
          rw [List.getElem?_eq_getElem hl]
          simp only [Option.map_some, Option.getD_some] at e ⊢
          rw [e]
          unfold lowAt
          rw [if_pos hi]) 9 Tryd.underlying9
        rw [h]
        congr 2
        apply ba_eq
        rw [nums_list, ← HT.out, List.map_map]
        conv => rhs; rw [← List.map_id (low P.data.toList)]
        apply List.map_congr_left
        intro c _
        simp
      go_wp2_with fail
      go_ret
      exact ⟨rfl, HB1.out⟩
end Go.Proofs.YtikjehgbfkndjaaDoor.R8
