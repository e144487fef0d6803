/- Parts of this proof, joined: R2W2, R2W3, R2W4. -/
import Derived.Test.YtjaojenalodolaaGreatDoorR2W1
import Derived.Test.YtjaojenalodolaaGreatDoorKE
import Derived.Test.YtjaojenalodolaaGreatDoorKJ
import Derived.Test.YtjaojenalodolaaGreatDoorKW
/- The reference's Depth, walked. -/
namespace Go.Proofs.YtjaojenalodolaaGreatDoor.R2
open Go Go.RowKit Go.Proofs.YtjaojenalodolaaGreatDoor Go.Proofs.YtjaojenalodolaaGreatDoor.Rw Go.Proofs.YtjaojenalodolaaGreatDoor.Vf Go.Proofs.YtjaojenalodolaaGreatDoor.Mw Go.Proofs.YtjaojenalodolaaGreatDoor.Me
set_option linter.unusedVariables false
set_option maxRecDepth 100000
set_option maxHeartbeats 16000000
def DC (m : Nat) (c : List Value) (u : World) : Prop := Calls Tryz.prog 99 #[.agg c.toArray] u fun e w' => (∃ k : Nat, e = .returned (.int .i64 k) ∧ k ≤ m) ∧ Below u.heap.size u w'
theorem depth_gen (m : Nat) (hm : m ≤ 100) (k n : Int) (b : Bool) (s : ByteArray) (l : List Jv.J) (mem : List (ByteArray × Jv.J)) (vi vm : Value) (p : Int) (W : World)
    (L M : List (List Value)) (hR : Rw W vi 7 L) (hL : All Jv W l L) (hl : l.length ≤ 1000000) (hRm : Rw W vm 9 M) (hM : All JvP W mem M) (hml : mem.length ≤ 1000000) (hk4 : k ≠ 4 → l = []) (hk5 : k ≠ 5 → mem = [])
    (cV : ∀ j (hj : j < l.length) c u, Below W.heap.size W u → Jv W l[j] c → DC m c u)
    (cM : ∀ j (hj : j < mem.length) c u, Below W.heap.size W u → Jv W mem[j].2 c → DC m c u) :
    Calls Tryz.prog 99 #[.agg #[.int .i64 k, .bool b, .int .i64 n, .string s, vi, vm, .int .i64 p]] W fun e w' => (∃ k : Nat, e = .returned (.int .i64 k) ∧ k ≤ m + 1) ∧ Below W.heap.size W w' := by
  obtain ⟨g, off, ad, cap, rfl, had, hcl⟩ := vals_at hR hL
  obtain ⟨mg, mo, ma, mc, rfl, hma, hcm⟩ := mems_at hRm hM
  obtain ⟨ln, hln⟩ : ∃ n, l.length = n := ⟨_, rfl⟩
  obtain ⟨mn, hmn⟩ : ∃ n, mem.length = n := ⟨_, rfl⟩
  have HK4 := Lib.hid (show k ≠ 4 → ln = 0 from fun h => by rw [← hln, hk4 h]; rfl)
  have HK5 := Lib.hid (show k ≠ 5 → mn = 0 from fun h => by rw [← hmn, hk5 h]; rfl)
  rw [hln] at had hl ⊢
  rw [hmn] at hma hml ⊢
  have HLn := Lib.hid hln
  have HMn := Lib.hid hmn
  have HAD := Lib.hid had
  have HMA := Lib.hid hma
  have HCL := Lib.hid hcl
  have HCM := Lib.hid hcm
  have HLL := Lib.hid hL.1
  have HJA := Lib.hid hL.2
  have CV := Lib.hid cV
  have CM := Lib.hid cM
  have HB0 := Lib.hid ((Below.refl W.heap.size W).alloc (Nat.le_refl _) (.cells #[.int .i64 k, .bool b, .int .i64 n, .string s, .slice ad ln cap, .slice ma mn mc, .int .i64 p] 82))
  have HX := cells7 (w := W) (x0 := .int .i64 k) (x1 := .bool b) (x2 := .int .i64 n) (x3 := .string s) (x4 := .slice ad ln cap) (x5 := .slice ma mn mc) (x6 := .int .i64 p) (t := 82)
  clear hR hL hRm hM had hma hcl hcm hln hmn cV cM hk4 hk5
  go_enter Tryz.func99, Tryz.ntmps99
  obtain ⟨x0, x1, x2, x3, x4, x5, x6⟩ := HX
  go_wp2_with fail
  generalize W.alloc (.cells #[.int .i64 k, .bool b, .int .i64 n, .string s, .slice ad ln cap, .slice ma mn mc, .int .i64 p] 82) = w0 at HB0 x0 x1 x2 x3 x4 x5 x6 ⊢
  go_loopw [3, 4] (fun x y wr => ∃ (q i : Nat), q ≤ m ∧ i ≤ ln ∧ x = .int .i64 q ∧ y = .int .i64 i ∧ Hid (Below w0.heap.size w0 wr)) (fun x y _ => ln - (intOf y).toNat)
  case atStart => exact ⟨0, 0, Nat.zero_le _, Nat.zero_le _, rfl, rfl, Lib.hid (Below.refl _ _)⟩
  case round =>
    obtain ⟨q, i, hq, hi, rfl, rfl, hb⟩ := hrel
    have z0 := cell_under x0 hb.out
    have z4 := cell_under x4 hb.out
    have z5 := cell_under x5 hb.out
    by_cases hlt : i < ln
    · obtain rfl := HAD.out (by omega)
      obtain rfl : k = 4 := by
        rcases Decidable.em (k = 4) with h | h
        · exact h
        · have := HK4.out h; omega
      have hil : i < l.length := by rw [HLn.out]; exact hlt
      have hiL : i < L.length := by rw [HLL.out]; exact hil
      obtain ⟨vk, vb, vn, vs, a1, n1, c1, a2, n2, c2, vp, eL, y0, y1, y2, y3, y4, y5, y6⟩ := HCL.out i hil hiL
      have hJ := HJA.out i hil hiL
      rw [eL] at hJ
      have hbw := below_seq HB0.out hb.out
      replace y0 := cell_under y0 hbw
      replace y1 := cell_under y1 hbw
      replace y2 := cell_under y2 hbw
      replace y3 := cell_under y3 hbw
      replace y4 := cell_under y4 hbw
      replace y5 := cell_under y5 hbw
      replace y6 := cell_under y6 hbw
      have i1 : (i : Int) < (ln : Int) := by omega
      have i0 : (0 : Int) ≤ (i : Int) := by omega
      have CC := Lib.hid (CV.out i hil _ _ hbw hJ)
      clear eL hJ hbw
      unfold DC at CC
      go_wp2_with fail
      refine CC.out.mono ?_
      rintro e w3 ⟨⟨q2, rfl, hq2⟩, hb3⟩
      have HB3 := Lib.hid (below_seq hb.out hb3)
      clear hb3 CC y0 y1 y2 y3 y4 y5 y6 z0 z4 z5
      have hmx : max (q : Int) (q2 : Int) = ((max q q2 : Nat) : Int) := by omega
      have HQ3 := Lib.hid (show max q q2 ≤ m by omega)
      go_wp2_with fail
      go_roundw
      case rel => exact ⟨max q q2, i + 1, HQ3.out, by omega, by go_num, by go_num, HB3⟩
      case measure => simp [intOf]; omega
    · have gl : decide ((i : Int) < (ln : Int)) = false := decide_eq_false (by omega)
      have HB1 := Lib.hid (below_seq HB0.out hb.out)
      clear x0 x1 x2 x3 x4 x5 x6
      go_wp2_with fail
      go_loopw [3, 5] (fun x y wq => ∃ (q i : Nat), q ≤ m ∧ i ≤ mn ∧ x = .int .i64 q ∧ y = .int .i64 i ∧ Hid (Below wr.heap.size wr wq)) (fun x y _ => mn - (intOf y).toNat)
      case atStart => exact ⟨q, 0, hq, Nat.zero_le _, rfl, rfl, Lib.hid (Below.refl _ _)⟩
      case round =>
        obtain ⟨q, i, hq, hi, rfl, rfl, hb⟩ := hrel
        rename_i wq _
        have t0 := cell_under z0 hb.out
        have t4 := cell_under z4 hb.out
        have t5 := cell_under z5 hb.out
        by_cases hlt : i < mn
        · obtain rfl := HMA.out (by omega)
          obtain rfl : k = 5 := by
            rcases Decidable.em (k = 5) with h | h
            · exact h
            · have := HK5.out h; omega
          have hil : i < mem.length := by rw [HMn.out]; exact hlt
          obtain ⟨vk, vb, vn, vs, a1, n1, c1, a2, n2, c2, vp, vq, hJ, y0, y1, y2, y3, y4, y5, y6, y7, y8⟩ := HCM.out i hil
          have hbw := below_seq HB1.out hb.out
          replace y1 := cell_under y1 hbw
          replace y2 := cell_under y2 hbw
          replace y3 := cell_under y3 hbw
          replace y4 := cell_under y4 hbw
          replace y5 := cell_under y5 hbw
          replace y6 := cell_under y6 hbw
          replace y7 := cell_under y7 hbw
          have i1 : (i : Int) < (mn : Int) := by omega
          have i0 : (0 : Int) ≤ (i : Int) := by omega
          have CC := Lib.hid (CM.out i hil _ _ hbw hJ)
          clear hJ hbw y0 y8
          unfold DC at CC
          go_wp2_with fail
          refine CC.out.mono ?_
          rintro e w3 ⟨⟨q2, rfl, hq2⟩, hb3⟩
          have HB3 := Lib.hid (below_seq hb.out hb3)
          clear hb3 CC y1 y2 y3 y4 y5 y6 y7 t0 t4 t5
          have hmx : max (q : Int) (q2 : Int) = ((max q q2 : Nat) : Int) := by omega
          have HQ3 := Lib.hid (show max q q2 ≤ m by omega)
          go_wp2_with fail
          go_roundw
          case rel => exact ⟨max q q2, i + 1, HQ3.out, by omega, by go_num, by go_num, HB3⟩
          case measure => simp [intOf]; omega
        · have gm : decide ((i : Int) < (mn : Int)) = false := decide_eq_false (by omega)
          go_wp2_with fail
          go_ret
          exact ⟨⟨q + 1, by go_num, by omega⟩, below_seq HB1.out hb.out⟩
theorem depth_ok : ∀ (m d : Nat) (j : Jv.J) (cs : List Value) (w : World), d + m = 101 → Jv.Ok d j → JB j → Jv w j cs → DC m cs w
  | 0, d, j, cs, w, hm, ho, hb, h => by
    exfalso
    cases j <;> simp only [Jv.Ok] at ho <;> omega
  | m + 1, d, j, cs, w, hm, ho, hb, h => by
    unfold DC
    cases j <;> unfold Jv at h
    · obtain ⟨p, rfl⟩ := h
      exact depth_gen m (by omega) 0 0 false ⟨#[]⟩ [] [] nilV nilV p w [] [] (Rw.nil _ _) (jl_nil _) (by simp) (Rw.nil _ _) (jm_nil _) (by simp) (fun _ => rfl) (fun _ => rfl) (fun j hj => absurd hj (by simp)) (fun j hj => absurd hj (by simp))
    · rename_i b
      obtain ⟨p, rfl⟩ := h
      exact depth_gen m (by omega) 1 0 b ⟨#[]⟩ [] [] nilV nilV p w [] [] (Rw.nil _ _) (jl_nil _) (by simp) (Rw.nil _ _) (jm_nil _) (by simp) (fun _ => rfl) (fun _ => rfl) (fun j hj => absurd hj (by simp)) (fun j hj => absurd hj (by simp))
    · rename_i n
      obtain ⟨p, rfl⟩ := h
      exact depth_gen m (by omega) 2 n false ⟨#[]⟩ [] [] nilV nilV p w [] [] (Rw.nil _ _) (jl_nil _) (by simp) (Rw.nil _ _) (jm_nil _) (by simp) (fun _ => rfl) (fun _ => rfl) (fun j hj => absurd hj (by simp)) (fun j hj => absurd hj (by simp))
    · rename_i s
      obtain ⟨p, rfl⟩ := h
      exact depth_gen m (by omega) 3 0 false s [] [] nilV nilV p w [] [] (Rw.nil _ _) (jl_nil _) (by simp) (Rw.nil _ _) (jm_nil _) (by simp) (fun _ => rfl) (fun _ => rfl) (fun j hj => absurd hj (by simp)) (fun j hj => absurd hj (by simp))
    · rename_i l
      obtain ⟨p, v, L, rfl, h1, h2⟩ := h
      simp only [Jv.Ok] at ho
      unfold JB at hb
      rw [Jv.OkL_iff] at ho
      rw [JBL_iff] at hb
      refine depth_gen m (by omega) 4 0 false ⟨#[]⟩ l [] v nilV p w L [] h1 (jl_all h2) hb.1 (Rw.nil _ _) (jm_nil _) (by simp) (fun h => absurd rfl h) (fun _ => rfl) (fun j hj c u hu hj2 => ?_) (fun j hj => absurd hj (by simp))
      exact depth_ok m (d + 1) l[j] _ u (by omega) (ho.2 _ (List.getElem_mem hj)) (hb.2 _ (List.getElem_mem hj)) (Jv.under hu _ _ hj2)
    · rename_i l
      obtain ⟨p, v, L, rfl, h1, h2⟩ := h
      simp only [Jv.Ok] at ho
      unfold JB at hb
      rw [Jv.OkM_iff] at ho
      rw [JBM_iff] at hb
      refine depth_gen m (by omega) 5 0 false ⟨#[]⟩ [] l nilV v p w [] L (Rw.nil _ _) (jl_nil _) (by simp) h1 (jm_all h2) hb.1 (fun _ => rfl) (fun h => absurd rfl h) (fun j hj => absurd hj (by simp)) (fun j hj c u hu hj2 => ?_)
      exact depth_ok m (d + 1) l[j].2 _ u (by omega) (ho.2.2 _ (List.getElem_mem hj)).2 (hb.2 _ (List.getElem_mem hj)).2 (Jv.under hu _ _ hj2)
end Go.Proofs.YtjaojenalodolaaGreatDoor.R2
/- The reference's valid, walked. Printed by genr23.py. -/
namespace Go.Proofs.YtjaojenalodolaaGreatDoor.R2
open Go Go.RowKit Go.Proofs.YtjaojenalodolaaGreatDoor Go.Proofs.YtjaojenalodolaaGreatDoor.Rw Go.Proofs.YtjaojenalodolaaGreatDoor.Vf Go.Proofs.YtjaojenalodolaaGreatDoor.Mw Go.Proofs.YtjaojenalodolaaGreatDoor.Me
set_option linter.unusedVariables false
set_option maxRecDepth 100000
set_option maxHeartbeats 16000000
def VC (c : List Value) (u : World) : Prop := Calls Tryz.prog 98 #[.agg c.toArray] u fun e w' => e = .returned (.bool true) ∧ Below u.heap.size u w'
theorem key_ne {mem : List (ByteArray × Jv.J)} (h : (mem.map (·.1)).Nodup) {i j : Nat} (hj : j < i) (hi : i < mem.length) : (mem[j].1.toList == mem[i].1.toList) = false := by
  have h1 := keys_fresh h hi
  rw [List.any_eq_false] at h1
  have h2 := h1 mem[j] (by rw [List.mem_take_iff_getElem]; exact ⟨j, by omega, rfl⟩)
  simpa [ByteArray.toList_eq] using h2
theorem rv_int (W : World) (p : Int) (n : Int) :
    VC [.int .i64 2, .bool false, .int .i64 n, .string ⟨#[]⟩, .slice none 0 0, .slice none 0 0, .int .i64 p] W := by
  unfold VC
  have hba := (Below.refl W.heap.size W).alloc (Nat.le_refl _) (.cells #[.int .i64 2, .bool false, .int .i64 n, .string ⟨#[]⟩, .slice none 0 0, .slice none 0 0, .int .i64 p] 82)
  have HX := cells7 (w := W) (x0 := .int .i64 2) (x1 := .bool false) (x2 := .int .i64 n) (x3 := .string ⟨#[]⟩) (x4 := .slice none 0 0) (x5 := .slice none 0 0) (x6 := .int .i64 p) (t := 82)
  have HB0 := Lib.hid hba
  have CS := Lib.hid (fun u => Jw.rvalid_is ⟨#[]⟩ true u (by decide) (rfl))
  clear hba
  go_enter Tryz.func98, Tryz.ntmps98
  obtain ⟨x0, x1, x2, x3, x4, x5, x6⟩ := HX
  go_wp2_with fail
  generalize W.alloc (.cells #[.int .i64 2, .bool false, .int .i64 n, .string ⟨#[]⟩, .slice none 0 0, .slice none 0 0, .int .i64 p] 82) = w0 at HB0 x0 x1 x2 x3 x4 x5 x6 ⊢
  refine (CS.out _).mono ?_
  rintro e w1 ⟨rfl, hb1⟩
  have HB1 := Lib.hid hb1
  clear hb1 CS
  go_wp2_with fail
  go_loopw [4] (fun x wr => x = .int .i64 0 ∧ Hid (Below w0.heap.size w0 wr)) (fun x _ => 0)
  case atStart => exact ⟨rfl, HB1⟩
  case round =>
    obtain ⟨rfl, hb⟩ := hrel
    have z4 := cell_under x4 hb.out
    have z5 := cell_under x5 hb.out
    have HB2 := Lib.hid (below_seq HB0.out hb.out)
    clear x0 x1 x2 x3 x4 x5 x6
    go_wp2_with fail
    go_loopw [5] (fun x wq => x = .int .i64 0 ∧ Hid (Below wr.heap.size wr wq)) (fun x _ => 0)
    case atStart => exact ⟨rfl, Lib.hid (Below.refl _ _)⟩
    case round =>
      obtain ⟨rfl, hb⟩ := hrel
      rename_i wq _
      have t4 := cell_under z4 hb.out
      have t5 := cell_under z5 hb.out
      go_wp2_with fail
      go_ret
      exact ⟨rfl, below_seq HB2.out hb.out⟩
theorem rv_str (W : World) (p : Int) (s : ByteArray) (hs : s.size ≤ 9223372036854775807) (hv : Lib.validD s.data.toList = true) :
    VC [.int .i64 3, .bool false, .int .i64 0, .string s, .slice none 0 0, .slice none 0 0, .int .i64 p] W := by
  unfold VC
  have hba := (Below.refl W.heap.size W).alloc (Nat.le_refl _) (.cells #[.int .i64 3, .bool false, .int .i64 0, .string s, .slice none 0 0, .slice none 0 0, .int .i64 p] 82)
  have HX := cells7 (w := W) (x0 := .int .i64 3) (x1 := .bool false) (x2 := .int .i64 0) (x3 := .string s) (x4 := .slice none 0 0) (x5 := .slice none 0 0) (x6 := .int .i64 p) (t := 82)
  have HB0 := Lib.hid hba
  have CS := Lib.hid (fun u => Jw.rvalid_is s true u (hs) (hv))
  clear hba hs hv
  go_enter Tryz.func98, Tryz.ntmps98
  obtain ⟨x0, x1, x2, x3, x4, x5, x6⟩ := HX
  go_wp2_with fail
  generalize W.alloc (.cells #[.int .i64 3, .bool false, .int .i64 0, .string s, .slice none 0 0, .slice none 0 0, .int .i64 p] 82) = w0 at HB0 x0 x1 x2 x3 x4 x5 x6 ⊢
  refine (CS.out _).mono ?_
  rintro e w1 ⟨rfl, hb1⟩
  have HB1 := Lib.hid hb1
  clear hb1 CS
  go_wp2_with fail
  go_loopw [4] (fun x wr => x = .int .i64 0 ∧ Hid (Below w0.heap.size w0 wr)) (fun x _ => 0)
  case atStart => exact ⟨rfl, HB1⟩
  case round =>
    obtain ⟨rfl, hb⟩ := hrel
    have z4 := cell_under x4 hb.out
    have z5 := cell_under x5 hb.out
    have HB2 := Lib.hid (below_seq HB0.out hb.out)
    clear x0 x1 x2 x3 x4 x5 x6
    go_wp2_with fail
    go_loopw [5] (fun x wq => x = .int .i64 0 ∧ Hid (Below wr.heap.size wr wq)) (fun x _ => 0)
    case atStart => exact ⟨rfl, Lib.hid (Below.refl _ _)⟩
    case round =>
      obtain ⟨rfl, hb⟩ := hrel
      rename_i wq _
      have t4 := cell_under z4 hb.out
      have t5 := cell_under z5 hb.out
      go_wp2_with fail
      go_ret
      exact ⟨rfl, below_seq HB2.out hb.out⟩
theorem rv_arr (W : World) (p : Int) (l : List Jv.J) (vi : Value) (L : List (List Value)) (hR : Rw W vi 7 L) (hL : All Jv W l L) (hl : l.length ≤ 1000000) (cV : ∀ j (hj : j < l.length) c u, Below W.heap.size W u → Jv W l[j] c → VC c u) :
    VC [.int .i64 4, .bool false, .int .i64 0, .string ⟨#[]⟩, vi, .slice none 0 0, .int .i64 p] W := by
  unfold VC
  obtain ⟨g, off, ad, cap, rfl, had, hcl⟩ := vals_at hR hL
  obtain ⟨ln, hln⟩ : ∃ n, l.length = n := ⟨_, rfl⟩
  rw [hln] at had hl ⊢
  have HLn := Lib.hid hln
  have HAD := Lib.hid had
  have HCL := Lib.hid hcl
  have HLL := Lib.hid hL.1
  have HJA := Lib.hid hL.2
  have CV := Lib.hid cV
  clear hR hL had hcl hln cV
  have hba := (Below.refl W.heap.size W).alloc (Nat.le_refl _) (.cells #[.int .i64 4, .bool false, .int .i64 0, .string ⟨#[]⟩, .slice ad ln cap, .slice none 0 0, .int .i64 p] 82)
  have HX := cells7 (w := W) (x0 := .int .i64 4) (x1 := .bool false) (x2 := .int .i64 0) (x3 := .string ⟨#[]⟩) (x4 := .slice ad ln cap) (x5 := .slice none 0 0) (x6 := .int .i64 p) (t := 82)
  have HB0 := Lib.hid hba
  have CS := Lib.hid (fun u => Jw.rvalid_is ⟨#[]⟩ true u (by decide) (rfl))
  clear hba
  go_enter Tryz.func98, Tryz.ntmps98
  obtain ⟨x0, x1, x2, x3, x4, x5, x6⟩ := HX
  go_wp2_with fail
  generalize W.alloc (.cells #[.int .i64 4, .bool false, .int .i64 0, .string ⟨#[]⟩, .slice ad ln cap, .slice none 0 0, .int .i64 p] 82) = w0 at HB0 x0 x1 x2 x3 x4 x5 x6 ⊢
  refine (CS.out _).mono ?_
  rintro e w1 ⟨rfl, hb1⟩
  have HB1 := Lib.hid hb1
  clear hb1 CS
  go_wp2_with fail
  go_loopw [4] (fun x wr => ∃ (i : Nat), i ≤ ln ∧ x = .int .i64 i ∧ Hid (Below w0.heap.size w0 wr)) (fun x _ => ln - (intOf x).toNat)
  case atStart => exact ⟨0, Nat.zero_le _, rfl, HB1⟩
  case round =>
    obtain ⟨i, hi, rfl, hb⟩ := hrel
    have z4 := cell_under x4 hb.out
    have z5 := cell_under x5 hb.out
    by_cases hlt : i < ln
    · obtain rfl := HAD.out (by omega)
      have hil : i < l.length := by rw [HLn.out]; exact hlt
      have hiL : i < L.length := by rw [HLL.out]; exact hil
      obtain ⟨vk, vb, vn, vs, a1, n1, c1, a2, n2, c2, vp, eL, y0, y1, y2, y3, y4, y5, y6⟩ := HCL.out i hil hiL
      have hJ := HJA.out i hil hiL
      rw [eL] at hJ
      have hbw := below_seq HB0.out hb.out
      replace y0 := cell_under y0 hbw
      replace y1 := cell_under y1 hbw
      replace y2 := cell_under y2 hbw
      replace y3 := cell_under y3 hbw
      replace y4 := cell_under y4 hbw
      replace y5 := cell_under y5 hbw
      replace y6 := cell_under y6 hbw
      have i1 : (i : Int) < (ln : Int) := by omega
      have i0 : (0 : Int) ≤ (i : Int) := by omega
      have CC := Lib.hid (CV.out i hil _ _ hbw hJ)
      clear eL hJ hbw
      unfold VC at CC
      go_wp2_with fail
      refine CC.out.mono ?_
      rintro e w3 ⟨rfl, hb3⟩
      have HB3 := Lib.hid (below_seq hb.out hb3)
      clear hb3 CC y0 y1 y2 y3 y4 y5 y6 z4 z5
      go_wp2_with fail
      go_roundw
      case rel => exact ⟨i + 1, by omega, by go_num, HB3⟩
      case measure => simp [intOf]; omega
    · have gl : decide ((i : Int) < (ln : Int)) = false := decide_eq_false (by omega)
      have HB2 := Lib.hid (below_seq HB0.out hb.out)
      clear x0 x1 x2 x3 x4 x5 x6
      go_wp2_with fail
      go_loopw [5] (fun x wq => x = .int .i64 0 ∧ Hid (Below wr.heap.size wr wq)) (fun x _ => 0)
      case atStart => exact ⟨rfl, Lib.hid (Below.refl _ _)⟩
      case round =>
        obtain ⟨rfl, hb⟩ := hrel
        rename_i wq _
        have t4 := cell_under z4 hb.out
        have t5 := cell_under z5 hb.out
        go_wp2_with fail
        go_ret
        exact ⟨rfl, below_seq HB2.out hb.out⟩
theorem rv_obj (W : World) (p : Int) (mem : List (ByteArray × Jv.J)) (vm : Value) (M : List (List Value)) (hRm : Rw W vm 9 M) (hM : All JvP W mem M) (hml : mem.length ≤ 1000000) (hnd : (mem.map (·.1)).Nodup) (hks : ∀ q ∈ mem, Lib.validD q.1.data.toList = true ∧ q.1.size ≤ 1000000) (cM : ∀ j (hj : j < mem.length) c u, Below W.heap.size W u → Jv W mem[j].2 c → VC c u) :
    VC [.int .i64 5, .bool false, .int .i64 0, .string ⟨#[]⟩, .slice none 0 0, vm, .int .i64 p] W := by
  unfold VC
  obtain ⟨mg, mo, ma, mc, rfl, hma, hcm⟩ := mems_at hRm hM
  obtain ⟨mn, hmn⟩ : ∃ n, mem.length = n := ⟨_, rfl⟩
  rw [hmn] at hma hml ⊢
  have HMn := Lib.hid hmn
  have HMA := Lib.hid hma
  have HCM := Lib.hid hcm
  have HND := Lib.hid hnd
  have HKS := Lib.hid hks
  have CM := Lib.hid cM
  clear hRm hM hma hcm hmn cM hnd hks
  have hba := (Below.refl W.heap.size W).alloc (Nat.le_refl _) (.cells #[.int .i64 5, .bool false, .int .i64 0, .string ⟨#[]⟩, .slice none 0 0, .slice ma mn mc, .int .i64 p] 82)
  have HX := cells7 (w := W) (x0 := .int .i64 5) (x1 := .bool false) (x2 := .int .i64 0) (x3 := .string ⟨#[]⟩) (x4 := .slice none 0 0) (x5 := .slice ma mn mc) (x6 := .int .i64 p) (t := 82)
  have HB0 := Lib.hid hba
  have CS := Lib.hid (fun u => Jw.rvalid_is ⟨#[]⟩ true u (by decide) (rfl))
  clear hba
  go_enter Tryz.func98, Tryz.ntmps98
  obtain ⟨x0, x1, x2, x3, x4, x5, x6⟩ := HX
  go_wp2_with fail
  generalize W.alloc (.cells #[.int .i64 5, .bool false, .int .i64 0, .string ⟨#[]⟩, .slice none 0 0, .slice ma mn mc, .int .i64 p] 82) = w0 at HB0 x0 x1 x2 x3 x4 x5 x6 ⊢
  refine (CS.out _).mono ?_
  rintro e w1 ⟨rfl, hb1⟩
  have HB1 := Lib.hid hb1
  clear hb1 CS
  go_wp2_with fail
  go_loopw [4] (fun x wr => x = .int .i64 0 ∧ Hid (Below w0.heap.size w0 wr)) (fun x _ => 0)
  case atStart => exact ⟨rfl, HB1⟩
  case round =>
    obtain ⟨rfl, hb⟩ := hrel
    have z4 := cell_under x4 hb.out
    have z5 := cell_under x5 hb.out
    have HB2 := Lib.hid (below_seq HB0.out hb.out)
    clear x0 x1 x2 x3 x4 x5 x6
    go_wp2_with fail
    go_loopw [5] (fun x wq => ∃ (i : Nat), i ≤ mn ∧ x = .int .i64 i ∧ Hid (Below wr.heap.size wr wq)) (fun x _ => mn - (intOf x).toNat)
    case atStart => exact ⟨0, Nat.zero_le _, rfl, Lib.hid (Below.refl _ _)⟩
    case round =>
      obtain ⟨i, hi, rfl, hb⟩ := hrel
      rename_i wq _
      have t4 := cell_under z4 hb.out
      have t5 := cell_under z5 hb.out
      by_cases hlt : i < mn
      · obtain rfl := HMA.out (by omega)
        have hil : i < mem.length := by rw [HMn.out]; exact hlt
        obtain ⟨vk, vb, vn, vs, a1, n1, c1, a2, n2, c2, vp, vq, hJ, y0, y1, y2, y3, y4, y5, y6, y7, y8⟩ := HCM.out i hil
        have hbw := below_seq HB2.out hb.out
        replace y0 := cell_under y0 hbw
        replace y1 := cell_under y1 hbw
        replace y2 := cell_under y2 hbw
        replace y3 := cell_under y3 hbw
        replace y4 := cell_under y4 hbw
        replace y5 := cell_under y5 hbw
        replace y6 := cell_under y6 hbw
        replace y7 := cell_under y7 hbw
        have i1 : (i : Int) < (mn : Int) := by omega
        have i0 : (0 : Int) ≤ (i : Int) := by omega
        have CC := Lib.hid (CM.out i hil _ _ hbw hJ)
        have CK := Lib.hid (fun u => Jw.rvalid_is mem[i].1 true u (by have := (HKS.out _ (List.getElem_mem hil)).2; omega) (HKS.out _ (List.getElem_mem hil)).1)
        have HNE := Lib.hid (fun j (hj : j < i) => key_ne HND.out hj hil)
        clear hJ hbw y8
        generalize mem[i].1 = key at y0 CK HNE
        unfold VC at CC
        go_wp2_with fail
        refine CC.out.mono ?_
        rintro e w3 ⟨rfl, hb3⟩
        have HB3 := Lib.hid (below_seq hb.out hb3)
        replace y0 := cell_under y0 hb3
        replace t5 := cell_under t5 hb3
        clear hb3 CC y1 y2 y3 y4 y5 y6 y7 t4
        go_wp2_with fail
        refine (CK.out _).mono ?_
        rintro e w4 ⟨rfl, hb4⟩
        have HB4 := Lib.hid (below_seq HB3.out hb4)
        replace y0 := cell_under y0 hb4
        replace t5 := cell_under t5 hb4
        clear hb4 CK HB3
        go_wp2_with fail
        go_loopw [6] (fun x wp => ∃ (j : Nat), j ≤ i ∧ x = .int .i64 j ∧ Hid (Below w4.heap.size w4 wp)) (fun x _ => i - (intOf x).toNat)
        case atStart => exact ⟨0, Nat.zero_le _, rfl, Lib.hid (Below.refl _ _)⟩
        case round =>
          obtain ⟨j, hj, rfl, hbp⟩ := hrel
          rename_i wp _
          by_cases hji : j < i
          · have s0 := cell_under y0 hbp.out
            have s5 := cell_under t5 hbp.out
            have HB5 := Lib.hid (below_seq HB4.out hbp.out)
            have hjl : j < mem.length := by omega
            obtain ⟨vk', vb', vn', vs', a1', n1', c1', a2', n2', c2', vp', vq', hJ', y0', -⟩ := HCM.out j hjl
            replace y0' := cell_under y0' (below_seq HB2.out HB5.out)
            have hne := HNE.out j hji
            generalize mem[j].1 = key' at y0' hne
            have j1 : (j : Int) < (i : Int) := by omega
            have j2 : (j : Int) < (mn : Int) := by omega
            have j0 : (0 : Int) ≤ (j : Int) := by omega
            clear hJ'
            go_wp2_with fail
            go_quiet (fail)
            go_wp2_with fail
            go_roundw
            case rel => exact ⟨j + 1, by omega, by go_num, Lib.hid (Rw.below_drewN hbp.out _)⟩
            case measure => simp [intOf]; omega
          · have gj : decide ((j : Int) < (i : Int)) = false := decide_eq_false (by omega)
            have HB5 := Lib.hid (below_seq HB4.out hbp.out)
            clear y0 t5
            go_wp2_with fail
            go_roundw
            case rel => exact ⟨i + 1, by omega, by go_num, HB5⟩
            case measure => simp [intOf]; omega
      · have gm : decide ((i : Int) < (mn : Int)) = false := decide_eq_false (by omega)
        go_wp2_with fail
        go_ret
        exact ⟨rfl, below_seq HB2.out hb.out⟩
theorem rv_ok : ∀ (m d : Nat) (j : Jv.J) (cs : List Value) (w : World), d + m = 101 → Jv.Ok d j → JB j → JS j → Jv w j cs → VC cs w
  | 0, d, j, cs, w, hm, ho, hb, hs, h => by
    exfalso
    cases j <;> simp only [Jv.Ok] at ho <;> omega
  | m + 1, d, j, cs, w, hm, ho, hb, hs, h => by
    cases j <;> unfold Jv at h
    · unfold JS at hs; exact hs.elim
    · unfold JS at hs; exact hs.elim
    · rename_i n
      obtain ⟨p, rfl⟩ := h
      exact rv_int w p n
    · rename_i s
      obtain ⟨p, rfl⟩ := h
      simp only [Jv.Ok] at ho
      unfold JB at hb
      exact rv_str w p s (by omega) ho.2
    · rename_i l
      obtain ⟨p, v, L, rfl, h1, h2⟩ := h
      simp only [Jv.Ok] at ho
      unfold JB at hb
      unfold JS at hs
      rw [Jv.OkL_iff] at ho
      rw [JBL_iff] at hb
      rw [JSL_iff] at hs
      refine rv_arr w p l v L h1 (jl_all h2) hb.1 (fun j hj c u hu hj2 => ?_)
      exact rv_ok m (d + 1) l[j] _ u (by omega) (ho.2 _ (List.getElem_mem hj)) (hb.2 _ (List.getElem_mem hj)) (hs _ (List.getElem_mem hj)) (Jv.under hu _ _ hj2)
    · rename_i l
      obtain ⟨p, v, L, rfl, h1, h2⟩ := h
      simp only [Jv.Ok] at ho
      unfold JB at hb
      unfold JS at hs
      rw [Jv.OkM_iff] at ho
      rw [JBM_iff] at hb
      rw [JSM_iff] at hs
      refine rv_obj w p l v L h1 (jm_all h2) hb.1 ho.2.1 (fun q hq => ⟨(ho.2.2 q hq).1, (hb.2 q hq).1⟩) (fun j hj c u hu hj2 => ?_)
      exact rv_ok m (d + 1) l[j].2 _ u (by omega) (ho.2.2 _ (List.getElem_mem hj)).2 (hb.2 _ (List.getElem_mem hj)).2 (hs _ (List.getElem_mem hj)) (Jv.under hu _ _ hj2)
theorem rcheckV_ok (k n : Int) (b : Bool) (s : ByteArray) (a1 : Option Addr) (n1 c1 : Nat) (a2 : Option Addr) (n2 c2 : Nat) (p : Int) (j : Jv.J) (w : World) (ho : Jv.Ok 1 j) (hb : JB j) (hs : JS j) (h : Jv w j (vCells k b n s (.slice a1 n1 c1) (.slice a2 n2 c2) p)) :
    Calls Tryz.prog 59 #[.agg #[.int .i64 k, .bool b, .int .i64 n, .string s, .slice a1 n1 c1, .slice a2 n2 c2, .int .i64 p]] w fun e w' => e = .returned (.int .i64 0) ∧ Below w.heap.size w w' := by
  have hba := (Below.refl w.heap.size w).alloc (Nat.le_refl _) (.cells #[.int .i64 k, .bool b, .int .i64 n, .string s, .slice a1 n1 c1, .slice a2 n2 c2, .int .i64 p] 82)
  have CV := Lib.hid (rv_ok 100 1 j _ _ rfl ho hb hs (Jv.under hba _ _ h))
  have CD := Lib.hid (fun u (hu : Below w.heap.size w u) => depth_ok 100 1 j _ u rfl ho hb (Jv.under hu _ _ h))
  have HB := Lib.hid hba
  have HX := cells7 (w := w) (x0 := .int .i64 k) (x1 := .bool b) (x2 := .int .i64 n) (x3 := .string s) (x4 := .slice a1 n1 c1) (x5 := .slice a2 n2 c2) (x6 := .int .i64 p) (t := 82)
  clear hba h ho hb hs
  unfold VC at CV
  unfold DC at CD
  go_enter Tryz.func59, Tryz.ntmps59
  obtain ⟨x0, x1, x2, x3, x4, x5, x6⟩ := HX
  go_wp2_with fail
  refine CV.out.mono ?_
  rintro e w1 ⟨rfl, hb1⟩
  have HB1 := Lib.hid (below_seq HB.out hb1)
  replace x0 := cell_under x0 hb1
  replace x1 := cell_under x1 hb1
  replace x2 := cell_under x2 hb1
  replace x3 := cell_under x3 hb1
  replace x4 := cell_under x4 hb1
  replace x5 := cell_under x5 hb1
  replace x6 := cell_under x6 hb1
  clear hb1 CV HB
  go_wp2_with fail
  refine (CD.out _ HB1.out).mono ?_
  rintro e w2 ⟨⟨q, rfl, hq⟩, hb2⟩
  have HB2 := Lib.hid (below_seq HB1.out hb2)
  have gq : decide ((100 : Int) < (q : Int)) = false := decide_eq_false (by omega)
  clear hb2 CD
  go_wp2_with fail
  go_ret
  exact ⟨rfl, HB2.out⟩
end Go.Proofs.YtjaojenalodolaaGreatDoor.R2
/- The reference's text, walked. Printed by genr24.py. -/
namespace Go.Proofs.YtjaojenalodolaaGreatDoor.R2
open Go Go.RowKit Go.Proofs.YtjaojenalodolaaGreatDoor Go.Proofs.YtjaojenalodolaaGreatDoor.Rw Go.Proofs.YtjaojenalodolaaGreatDoor.Vf Go.Proofs.YtjaojenalodolaaGreatDoor.Mw Go.Proofs.YtjaojenalodolaaGreatDoor.Me
set_option linter.unusedVariables false
set_option maxRecDepth 100000
set_option maxHeartbeats 16000000
def TC (l : List UInt8) (c : List Value) (u : World) : Prop := Calls Tryz.prog 60 #[.agg c.toArray] u fun e w' => e = .returned (.string ⟨l.toArray⟩) ∧ Below u.heap.size u w'
theorem bsz (t : ByteArray) : t.data.toList.length = t.size := by simp
theorem mk_list (l : List UInt8) : (⟨l.toArray⟩ : ByteArray).data.toList = l := by simp
theorem app_list (a b : ByteArray) : (a ++ b).data.toList = a.data.toList ++ b.data.toList := by simp
theorem tx_int (W : World) (p n : Int) (h0 : -9223372036854775808 ≤ n) (h1 : n ≤ 9223372036854775807) :
    TC (Jv.dig n) [.int .i64 2, .bool false, .int .i64 n, .string ⟨#[]⟩, .slice none 0 0, .slice none 0 0, .int .i64 p] W := by
  unfold TC
  have hba := (Below.refl W.heap.size W).alloc (Nat.le_refl _) (.cells #[.int .i64 2, .bool false, .int .i64 n, .string ⟨#[]⟩, .slice none 0 0, .slice none 0 0, .int .i64 p] 82)
  have HX := cells7 (w := W) (x0 := .int .i64 2) (x1 := .bool false) (x2 := .int .i64 n) (x3 := .string ⟨#[]⟩) (x4 := .slice none 0 0) (x5 := .slice none 0 0) (x6 := .int .i64 p) (t := 82)
  have HB0 := Lib.hid hba
  clear hba
  have CD := Lib.hid (fun u => decimal_is n h0 h1 u)
  clear h0 h1
  go_enter Tryz.func60, Tryz.ntmps60
  obtain ⟨x0, x1, x2, x3, x4, x5, x6⟩ := HX
  go_wp2_with fail
  refine (CD.out _).mono ?_
  rintro e w1 ⟨rfl, hb1⟩
  have HB1 := Lib.hid (below_seq HB0.out hb1)
  clear hb1 CD
  go_wp2_with fail
  go_ret
  exact ⟨rfl, HB1.out⟩
theorem tx_str (W : World) (p : Int) (s : ByteArray) (hs : s.size ≤ 1000000000) (hv : Lib.validD s.data.toList = true) :
    TC (Js.quote s.data.toList) [.int .i64 3, .bool false, .int .i64 0, .string s, .slice none 0 0, .slice none 0 0, .int .i64 p] W := by
  unfold TC
  have hba := (Below.refl W.heap.size W).alloc (Nat.le_refl _) (.cells #[.int .i64 3, .bool false, .int .i64 0, .string s, .slice none 0 0, .slice none 0 0, .int .i64 p] 82)
  have HX := cells7 (w := W) (x0 := .int .i64 3) (x1 := .bool false) (x2 := .int .i64 0) (x3 := .string s) (x4 := .slice none 0 0) (x5 := .slice none 0 0) (x6 := .int .i64 p) (t := 82)
  have HB0 := Lib.hid hba
  clear hba
  have CD := Lib.hid (fun u => Jw.rquote_any s u hs hv)
  clear hs hv
  go_enter Tryz.func60, Tryz.ntmps60
  obtain ⟨x0, x1, x2, x3, x4, x5, x6⟩ := HX
  go_wp2_with fail
  refine (CD.out _).mono ?_
  rintro e w1 ⟨rfl, hb1⟩
  have HB1 := Lib.hid (below_seq HB0.out hb1)
  clear hb1 CD
  go_wp2_with fail
  go_ret
  exact ⟨rfl, HB1.out⟩
theorem tx_arr (W : World) (p : Int) (l : List Jv.J) (vi : Value) (L : List (List Value)) (hR : Rw W vi 7 L) (hL : All Jv W l L) (hl : l.length ≤ 1000000) (hlen : (Jv.joinC (Jv.encL l)).length + 2 ≤ 1000000000) (cV : ∀ j (hj : j < l.length) c u, Below W.heap.size W u → Jv W l[j] c → TC (Jv.enc l[j]) c u) :
    TC (91 :: (Jv.joinC (Jv.encL l) ++ [93])) [.int .i64 4, .bool false, .int .i64 0, .string ⟨#[]⟩, vi, .slice none 0 0, .int .i64 p] W := by
  unfold TC
  have HQ : Hid ((Jv.encL l).length = l.length ∧ ∀ j (hj : j < l.length) (h2 : j < (Jv.encL l).length), (Jv.encL l)[j] = Jv.enc l[j]) := Lib.hid ⟨by rw [Jv.encL_map]; simp, fun j hj h2 => by simp only [Jv.encL_map, List.getElem_map]⟩
  obtain ⟨S, hS⟩ : ∃ S, Jv.encL l = S := ⟨_, rfl⟩
  rw [hS] at hlen ⊢
  rw [hS] at HQ
  have HLE := Lib.hid hlen
  clear hS hlen
  obtain ⟨g, off, ad, cap, rfl, had, hcl⟩ := vals_at hR hL
  obtain ⟨ln, hln⟩ : ∃ n, l.length = n := ⟨_, rfl⟩
  rw [hln] at had hl ⊢
  have HLn := Lib.hid hln
  have HAD := Lib.hid had
  have HCL := Lib.hid hcl
  have HLL := Lib.hid hL.1
  have HJA := Lib.hid hL.2
  have CV := Lib.hid cV
  clear hR hL had hcl hln cV
  have hba := (Below.refl W.heap.size W).alloc (Nat.le_refl _) (.cells #[.int .i64 4, .bool false, .int .i64 0, .string ⟨#[]⟩, .slice ad ln cap, .slice none 0 0, .int .i64 p] 82)
  have HX := cells7 (w := W) (x0 := .int .i64 4) (x1 := .bool false) (x2 := .int .i64 0) (x3 := .string ⟨#[]⟩) (x4 := .slice ad ln cap) (x5 := .slice none 0 0) (x6 := .int .i64 p) (t := 82)
  have HB0 := Lib.hid hba
  clear hba
  go_enter Tryz.func60, Tryz.ntmps60
  obtain ⟨x0, x1, x2, x3, x4, x5, x6⟩ := HX
  go_wp2_with fail
  generalize W.alloc (.cells #[.int .i64 4, .bool false, .int .i64 0, .string ⟨#[]⟩, .slice ad ln cap, .slice none 0 0, .int .i64 p] 82) = w0 at HB0 x0 x1 x2 x3 x4 x5 x6 ⊢
  go_loopw [5, 6] (fun x y wr => ∃ (t : ByteArray) (i : Nat), i ≤ ln ∧ x = .string t ∧ y = .int .i64 i ∧ Hid (t.data.toList = Jv.joinC (S.take i)) ∧ Hid (Below w0.heap.size w0 wr)) (fun x y _ => ln - (intOf y).toNat)
  case atStart => exact ⟨_, 0, Nat.zero_le _, rfl, rfl, Lib.hid (by simp [Jv.joinC]), Lib.hid (Below.refl _ _)⟩
  case round =>
    obtain ⟨t, i, hi, rfl, rfl, hT, hb⟩ := hrel
    have z0 := cell_under x0 hb.out
    have z4 := cell_under x4 hb.out
    by_cases hlt : i < ln
    · obtain rfl := HAD.out (by omega)
      have hil : i < l.length := by rw [HLn.out]; exact hlt
      have hiL : i < L.length := by rw [HLL.out]; exact hil
      have hiS : i < S.length := by rw [HQ.out.1]; exact hil
      obtain ⟨vk, vb, vn, vs, a1, n1, c1, a2, n2, c2, vp, eL, y0, y1, y2, y3, y4, y5, y6⟩ := HCL.out i hil hiL
      have hJ := HJA.out i hil hiL
      rw [eL] at hJ
      have hbw := below_seq HB0.out hb.out
      replace y0 := cell_under y0 hbw
      replace y1 := cell_under y1 hbw
      replace y2 := cell_under y2 hbw
      replace y3 := cell_under y3 hbw
      replace y4 := cell_under y4 hbw
      replace y5 := cell_under y5 hbw
      replace y6 := cell_under y6 hbw
      have i1 : (i : Int) < (ln : Int) := by omega
      have i0 : (0 : Int) ≤ (i : Int) := by omega
      have CC := Lib.hid (CV.out i hil _ _ hbw hJ)
      rw [← HQ.out.2 i hil hiS] at CC
      have HTK := Lib.hid (Jv.joinC_take S i hiS)
      have HLT := Lib.hid (joinC_take_len S (i + 1))
      generalize S[i] = sj at CC HTK
      clear eL hJ hbw
      unfold TC at CC
      obtain ⟨Q, hQ⟩ : ∃ Q : ByteArray, (⟨sj.toArray⟩ : ByteArray) = Q := ⟨_, rfl⟩
      have HQL := Lib.hid (show Q.data.toList = sj by rw [← hQ, mk_list])
      rw [hQ] at CC
      clear hQ
      by_cases hi0 : i = 0
      · have gk3 : decide ((0 : Int) < (i : Int)) = false := decide_eq_false (by omega)
        have gk : ¬ (0 : Int) < (i : Int) := by omega
        have gk1 : ¬ 0 < i := by omega
        have HEQ : Hid ((t ++ Q).data.toList = Jv.joinC (S.take (i + 1))) := Lib.hid (by
          rw [app_list, hT.out, HQL.out, HTK.out, if_pos hi0, hi0]
          simp [Jv.joinC])
        have hsz : t.size + Q.size ≤ 1000000000 := by
          have e1 := congrArg List.length HEQ.out
          rw [app_list, List.length_append, bsz, bsz] at e1
          have := HLT.out; have := HLE.out; omega
        have hadd := fun w => run_string_add_sum (P := Tryz.prog) w t Q (by omega)
        generalize t ++ Q = t2 at HEQ hadd
        clear hi0 hsz
        go_wp2_with fail
        refine CC.out.mono ?_
        rintro e w3 ⟨rfl, hb3⟩
        have HB3 := Lib.hid (below_seq hb.out hb3)
        clear hb3 CC y0 y1 y2 y3 y4 y5 y6 z0 z4
        go_wp2_with fail
        go_roundw
        case rel => exact ⟨t2, i + 1, by omega, rfl, by go_num, HEQ, HB3⟩
        case measure => simp [intOf]; omega
      · have gk3 : decide ((0 : Int) < (i : Int)) = true := decide_eq_true (by omega)
        have gk4 : (0 : Int) < (i : Int) := by omega
        have gk1 : 0 < i := by omega
        have HEQ : Hid ((t ++ (⟨#[44]⟩ : ByteArray) ++ Q).data.toList = Jv.joinC (S.take (i + 1))) := Lib.hid (by
          rw [app_list, app_list, hT.out, HQL.out, HTK.out, if_neg hi0]
          simp)
        have hsz : t.size + 1 + Q.size ≤ 1000000000 := by
          have e1 := congrArg List.length HEQ.out
          rw [app_list, app_list, List.length_append, List.length_append, bsz, bsz, bsz] at e1
          have e2 : (⟨#[44]⟩ : ByteArray).size = 1 := rfl
          have := HLT.out; have := HLE.out; omega
        have hadd1 := fun w => run_string_add_sum (P := Tryz.prog) w t ⟨#[44]⟩ (by have e2 : (⟨#[44]⟩ : ByteArray).size = 1 := rfl; omega)
        have hadd2 := fun w => run_string_add_sum (P := Tryz.prog) w (t ++ ⟨#[44]⟩) Q (by rw [ByteArray.size_append]; have e2 : (⟨#[44]⟩ : ByteArray).size = 1 := rfl; omega)
        generalize t ++ (⟨#[44]⟩ : ByteArray) = t1 at HEQ hadd1 hadd2
        generalize t1 ++ Q = t2 at HEQ hadd2
        clear hi0 hsz
        go_wp2_with fail
        refine CC.out.mono ?_
        rintro e w3 ⟨rfl, hb3⟩
        have HB3 := Lib.hid (below_seq hb.out hb3)
        clear hb3 CC y0 y1 y2 y3 y4 y5 y6 z0 z4
        go_wp2_with fail
        go_roundw
        case rel => exact ⟨t2, i + 1, by omega, rfl, by go_num, HEQ, HB3⟩
        case measure => simp [intOf]; omega
    · have gl : decide ((i : Int) < (ln : Int)) = false := decide_eq_false (by omega)
      have HTS : Hid (S.take i = S) := Lib.hid (List.take_of_length_le (by rw [HQ.out.1, HLn.out]; omega))
      rw [HTS.out] at hT
      have HB2 := Lib.hid (below_seq HB0.out hb.out)
      have hsz : t.size + 2 ≤ 1000000000 := by
        have e1 := congrArg List.length hT.out
        rw [bsz] at e1
        have := HLE.out; omega
      have hadd1 := fun w => run_string_add_sum (P := Tryz.prog) w ⟨#[91]⟩ t (by have e2 : (⟨#[91]⟩ : ByteArray).size = 1 := rfl; omega)
      have hadd2 := fun w => run_string_add_sum (P := Tryz.prog) w (⟨#[91]⟩ ++ t) ⟨#[93]⟩ (by rw [ByteArray.size_append]; have e2 : (⟨#[91]⟩ : ByteArray).size = 1 := rfl; have e3 : (⟨#[93]⟩ : ByteArray).size = 1 := rfl; omega)
      have HEQ : Hid ((⟨#[91]⟩ : ByteArray) ++ t ++ ⟨#[93]⟩ = ⟨(91 :: (Jv.joinC S ++ [93])).toArray⟩) := Lib.hid (by
        apply Bs.ba_eq
        rw [app_list, app_list, hT.out, mk_list]
        simp)
      generalize (⟨#[91]⟩ : ByteArray) ++ t = t1 at HEQ hadd1 hadd2
      generalize t1 ++ (⟨#[93]⟩ : ByteArray) = t2 at HEQ hadd2
      clear hsz
      go_wp2_with fail
      go_ret
      exact ⟨by rw [← HEQ.out]; rfl, HB2.out⟩
theorem tx_obj (W : World) (p : Int) (mem : List (ByteArray × Jv.J)) (vm : Value) (M : List (List Value)) (hRm : Rw W vm 9 M) (hM : All JvP W mem M) (hml : mem.length ≤ 1000000) (hks : ∀ q ∈ mem, Lib.validD q.1.data.toList = true ∧ q.1.size ≤ 1000000) (hlen : (Jv.joinC (Jv.encM mem)).length + 2 ≤ 1000000000) (cM : ∀ j (hj : j < mem.length) c u, Below W.heap.size W u → Jv W mem[j].2 c → TC (Jv.enc mem[j].2) c u) :
    TC (123 :: (Jv.joinC (Jv.encM mem) ++ [125])) [.int .i64 5, .bool false, .int .i64 0, .string ⟨#[]⟩, .slice none 0 0, vm, .int .i64 p] W := by
  unfold TC
  have HQ : Hid ((Jv.encM mem).length = mem.length ∧ ∀ j (hj : j < mem.length) (h2 : j < (Jv.encM mem).length), (Jv.encM mem)[j] = Js.quote mem[j].1.data.toList ++ 58 :: Jv.enc mem[j].2) := Lib.hid ⟨by rw [Jv.encM_map]; simp, fun j hj h2 => by simp only [Jv.encM_map, List.getElem_map]⟩
  obtain ⟨S, hS⟩ : ∃ S, Jv.encM mem = S := ⟨_, rfl⟩
  rw [hS] at hlen ⊢
  rw [hS] at HQ
  have HLE := Lib.hid hlen
  clear hS hlen
  obtain ⟨mg, mo, ma, mc, rfl, hma, hcm⟩ := mems_at hRm hM
  obtain ⟨mn, hmn⟩ : ∃ n, mem.length = n := ⟨_, rfl⟩
  rw [hmn] at hma hml ⊢
  have HMn := Lib.hid hmn
  have HMA := Lib.hid hma
  have HCM := Lib.hid hcm
  have HKS := Lib.hid hks
  have CM := Lib.hid cM
  clear hRm hM hma hcm hmn cM hks
  have hba := (Below.refl W.heap.size W).alloc (Nat.le_refl _) (.cells #[.int .i64 5, .bool false, .int .i64 0, .string ⟨#[]⟩, .slice none 0 0, .slice ma mn mc, .int .i64 p] 82)
  have HX := cells7 (w := W) (x0 := .int .i64 5) (x1 := .bool false) (x2 := .int .i64 0) (x3 := .string ⟨#[]⟩) (x4 := .slice none 0 0) (x5 := .slice ma mn mc) (x6 := .int .i64 p) (t := 82)
  have HB0 := Lib.hid hba
  clear hba
  go_enter Tryz.func60, Tryz.ntmps60
  obtain ⟨x0, x1, x2, x3, x4, x5, x6⟩ := HX
  go_wp2_with fail
  generalize W.alloc (.cells #[.int .i64 5, .bool false, .int .i64 0, .string ⟨#[]⟩, .slice none 0 0, .slice ma mn mc, .int .i64 p] 82) = w0 at HB0 x0 x1 x2 x3 x4 x5 x6 ⊢
  go_loopw [5, 6] (fun x y wr => x = .string ⟨#[]⟩ ∧ y = .int .i64 0 ∧ Hid (Below w0.heap.size w0 wr)) (fun x y _ => 0)
  case atStart => exact ⟨rfl, rfl, Lib.hid (Below.refl _ _)⟩
  case round =>
    obtain ⟨rfl, rfl, hb0⟩ := hrel
    replace HB0 := Lib.hid (below_seq HB0.out hb0.out)
    replace x0 := cell_under x0 hb0.out
    replace x4 := cell_under x4 hb0.out
    replace x5 := cell_under x5 hb0.out
    clear hb0 x1 x2 x3 x6
    go_wp2_with fail
    go_loopw [5, 7] (fun x y wq => ∃ (t : ByteArray) (i : Nat), i ≤ mn ∧ x = .string t ∧ y = .int .i64 i ∧ Hid (t.data.toList = Jv.joinC (S.take i)) ∧ Hid (Below wr.heap.size wr wq)) (fun x y _ => mn - (intOf y).toNat)
    case atStart => exact ⟨_, 0, Nat.zero_le _, rfl, rfl, Lib.hid (by simp [Jv.joinC]), Lib.hid (Below.refl _ _)⟩
    case round =>
      obtain ⟨t, i, hi, rfl, rfl, hT, hb⟩ := hrel
      have z5 := cell_under x5 hb.out
      by_cases hlt : i < mn
      · obtain rfl := HMA.out (by omega)
        have hil : i < mem.length := by rw [HMn.out]; exact hlt
        have hiS : i < S.length := by rw [HQ.out.1]; exact hil
        obtain ⟨vk, vb, vn, vs, a1, n1, c1, a2, n2, c2, vp, vq, hJ, y0, y1, y2, y3, y4, y5, y6, y7, y8⟩ := HCM.out i hil
        have hbw := below_seq HB0.out hb.out
        replace y0 := cell_under y0 hbw
        replace y1 := cell_under y1 hbw
        replace y2 := cell_under y2 hbw
        replace y3 := cell_under y3 hbw
        replace y4 := cell_under y4 hbw
        replace y5 := cell_under y5 hbw
        replace y6 := cell_under y6 hbw
        replace y7 := cell_under y7 hbw
        have i1 : (i : Int) < (mn : Int) := by omega
        have i0 : (0 : Int) ≤ (i : Int) := by omega
        have CC := Lib.hid (fun u (hu : Below W.heap.size W u) => CM.out i hil _ u hu hJ)
        have CK := Lib.hid (fun u => Jw.rquote_any mem[i].1 u (by have := (HKS.out _ (List.getElem_mem hil)).2; omega) (HKS.out _ (List.getElem_mem hil)).1)
        have HSE := Lib.hid (HQ.out.2 i hil hiS)
        have HTK := Lib.hid (Jv.joinC_take S i hiS)
        have HLT := Lib.hid (joinC_take_len S (i + 1))
        generalize S[i] = sj at HSE HTK
        generalize Jv.enc mem[i].2 = ev at CC HSE
        generalize mem[i].1 = key at y0 CK HSE
        clear hJ hbw y8
        unfold TC at CC
        obtain ⟨Q, hQ⟩ : ∃ Q : ByteArray, (⟨ev.toArray⟩ : ByteArray) = Q := ⟨_, rfl⟩
        have HQL := Lib.hid (show Q.data.toList = ev by rw [← hQ, mk_list])
        rw [hQ] at CC
        obtain ⟨K, hK⟩ : ∃ K : ByteArray, (⟨(Js.quote key.data.toList).toArray⟩ : ByteArray) = K := ⟨_, rfl⟩
        have HKL := Lib.hid (show K.data.toList = Js.quote key.data.toList by rw [← hK, mk_list])
        rw [hK] at CK
        clear hQ hK
        have e58 : (⟨#[58]⟩ : ByteArray).size = 1 := rfl
        have e44 : (⟨#[44]⟩ : ByteArray).size = 1 := rfl
        have HSJ : Hid ((K ++ (⟨#[58]⟩ : ByteArray) ++ Q).data.toList = sj) := Lib.hid (by
          rw [app_list, app_list, HKL.out, HQL.out, HSE.out]
          simp)
        have HSL : Hid (sj.length = K.size + 1 + Q.size) := Lib.hid (by
          rw [← HSJ.out, bsz, ByteArray.size_append, ByteArray.size_append, e58])
        by_cases hi0 : i = 0
        · have gk3 : decide ((0 : Int) < (i : Int)) = false := decide_eq_false (by omega)
          have gk : ¬ (0 : Int) < (i : Int) := by omega
          have gk1 : ¬ 0 < i := by omega
          have HEQ : Hid ((t ++ (K ++ (⟨#[58]⟩ : ByteArray) ++ Q)).data.toList = Jv.joinC (S.take (i + 1))) := Lib.hid (by
            rw [app_list, hT.out, HSJ.out, HTK.out, if_pos hi0, hi0]
            simp [Jv.joinC])
          have hsz : t.size + (K.size + 1 + Q.size) ≤ 1000000000 := by
            have e1 := congrArg List.length HEQ.out
            rw [app_list, List.length_append, bsz, HSJ.out, HSL.out] at e1
            have := HLT.out; have := HLE.out; omega
          have hadd1 := fun w => run_string_add_sum (P := Tryz.prog) w K ⟨#[58]⟩ (by rw [e58]; omega)
          have hadd2 := fun w => run_string_add_sum (P := Tryz.prog) w (K ++ ⟨#[58]⟩) Q (by rw [ByteArray.size_append, e58]; omega)
          have hadd3 := fun w => run_string_add_sum (P := Tryz.prog) w t (K ++ ⟨#[58]⟩ ++ Q) (by rw [ByteArray.size_append, ByteArray.size_append, e58]; omega)
          generalize K ++ (⟨#[58]⟩ : ByteArray) = K1 at HEQ hadd1 hadd2 hadd3 HSJ
          generalize K1 ++ Q = K2 at HEQ hadd2 hadd3 HSJ
          generalize t ++ K2 = t2 at HEQ hadd3
          clear hi0 hsz e58 e44
          go_wp2_with fail
          refine (CK.out _).mono ?_
          rintro e w3 ⟨rfl, hb3⟩
          have HB3 := Lib.hid (below_seq hb.out hb3)
          replace y1 := cell_under y1 hb3
          replace y2 := cell_under y2 hb3
          replace y3 := cell_under y3 hb3
          replace y4 := cell_under y4 hb3
          replace y5 := cell_under y5 hb3
          replace y6 := cell_under y6 hb3
          replace y7 := cell_under y7 hb3
          replace z5 := cell_under z5 hb3
          clear hb3 CK y0
          go_wp2_with fail
          refine (CC.out _ (below_seq HB0.out HB3.out)).mono ?_
          rintro e w4 ⟨rfl, hb4⟩
          have HB4 := Lib.hid (below_seq HB3.out hb4)
          clear hb4 CC y1 y2 y3 y4 y5 y6 y7 z5
          go_wp2_with fail
          go_roundw
          case rel => exact ⟨t2, i + 1, by omega, rfl, by go_num, HEQ, HB4⟩
          case measure => simp [intOf]; omega
        · have gk3 : decide ((0 : Int) < (i : Int)) = true := decide_eq_true (by omega)
          have gk4 : (0 : Int) < (i : Int) := by omega
          have gk1 : 0 < i := by omega
          have HEQ : Hid ((t ++ (⟨#[44]⟩ : ByteArray) ++ (K ++ (⟨#[58]⟩ : ByteArray) ++ Q)).data.toList = Jv.joinC (S.take (i + 1))) := Lib.hid (by
            rw [app_list, app_list, hT.out, HSJ.out, HTK.out, if_neg hi0]
            simp)
          have hsz : t.size + 1 + (K.size + 1 + Q.size) ≤ 1000000000 := by
            have e1 := congrArg List.length HEQ.out
            rw [app_list, app_list, List.length_append, List.length_append, bsz, bsz, HSJ.out, HSL.out, e44] at e1
            have := HLT.out; have := HLE.out; omega
          have hadd1 := fun w => run_string_add_sum (P := Tryz.prog) w K ⟨#[58]⟩ (by rw [e58]; omega)
          have hadd2 := fun w => run_string_add_sum (P := Tryz.prog) w (K ++ ⟨#[58]⟩) Q (by rw [ByteArray.size_append, e58]; omega)
          have hadd4 := fun w => run_string_add_sum (P := Tryz.prog) w t ⟨#[44]⟩ (by rw [e44]; omega)
          have hadd3 := fun w => run_string_add_sum (P := Tryz.prog) w (t ++ ⟨#[44]⟩) (K ++ ⟨#[58]⟩ ++ Q) (by rw [ByteArray.size_append, ByteArray.size_append, ByteArray.size_append, e58, e44]; omega)
          generalize K ++ (⟨#[58]⟩ : ByteArray) = K1 at HEQ hadd1 hadd2 hadd3 HSJ
          generalize K1 ++ Q = K2 at HEQ hadd2 hadd3 HSJ
          generalize t ++ (⟨#[44]⟩ : ByteArray) = t1 at HEQ hadd3 hadd4
          generalize t1 ++ K2 = t2 at HEQ hadd3
          clear hi0 hsz e58 e44
          go_wp2_with fail
          refine (CK.out _).mono ?_
          rintro e w3 ⟨rfl, hb3⟩
          have HB3 := Lib.hid (below_seq hb.out hb3)
          replace y1 := cell_under y1 hb3
          replace y2 := cell_under y2 hb3
          replace y3 := cell_under y3 hb3
          replace y4 := cell_under y4 hb3
          replace y5 := cell_under y5 hb3
          replace y6 := cell_under y6 hb3
          replace y7 := cell_under y7 hb3
          replace z5 := cell_under z5 hb3
          clear hb3 CK y0
          go_wp2_with fail
          refine (CC.out _ (below_seq HB0.out HB3.out)).mono ?_
          rintro e w4 ⟨rfl, hb4⟩
          have HB4 := Lib.hid (below_seq HB3.out hb4)
          clear hb4 CC y1 y2 y3 y4 y5 y6 y7 z5
          go_wp2_with fail
          go_roundw
          case rel => exact ⟨t2, i + 1, by omega, rfl, by go_num, HEQ, HB4⟩
          case measure => simp [intOf]; omega
      · have gl : decide ((i : Int) < (mn : Int)) = false := decide_eq_false (by omega)
        have HTS : Hid (S.take i = S) := Lib.hid (List.take_of_length_le (by rw [HQ.out.1, HMn.out]; omega))
        rw [HTS.out] at hT
        have HB2 := Lib.hid (below_seq HB0.out hb.out)
        have hsz : t.size + 2 ≤ 1000000000 := by
          have e1 := congrArg List.length hT.out
          rw [bsz] at e1
          have := HLE.out; omega
        have hadd1 := fun w => run_string_add_sum (P := Tryz.prog) w ⟨#[123]⟩ t (by have e2 : (⟨#[123]⟩ : ByteArray).size = 1 := rfl; omega)
        have hadd2 := fun w => run_string_add_sum (P := Tryz.prog) w (⟨#[123]⟩ ++ t) ⟨#[125]⟩ (by rw [ByteArray.size_append]; have e2 : (⟨#[123]⟩ : ByteArray).size = 1 := rfl; have e3 : (⟨#[125]⟩ : ByteArray).size = 1 := rfl; omega)
        have HEQ : Hid ((⟨#[123]⟩ : ByteArray) ++ t ++ ⟨#[125]⟩ = ⟨(123 :: (Jv.joinC S ++ [125])).toArray⟩) := Lib.hid (by
          apply Bs.ba_eq
          rw [app_list, app_list, hT.out, mk_list]
          simp)
        generalize (⟨#[123]⟩ : ByteArray) ++ t = t1 at HEQ hadd1 hadd2
        generalize t1 ++ (⟨#[125]⟩ : ByteArray) = t2 at HEQ hadd2
        clear hsz
        go_wp2_with fail
        go_ret
        exact ⟨by rw [← HEQ.out]; rfl, HB2.out⟩
theorem join_mem_len : ∀ (l : List (List UInt8)) (x : List UInt8), x ∈ l → x.length ≤ (Jv.joinC l).length
  | [], x, h => absurd h (by simp)
  | [a], x, h => by rcases List.mem_singleton.1 h with rfl; simp [Jv.joinC]
  | a :: b :: r, x, h => by
    simp only [Jv.joinC, List.length_append, List.length_cons]
    rcases List.mem_cons.1 h with rfl | h
    · omega
    · have := join_mem_len (b :: r) x h
      omega
theorem tx_ok : ∀ (m d : Nat) (j : Jv.J) (cs : List Value) (w : World), d + m = 101 → Jv.Ok d j → JB j → JS j → (Jv.enc j).length ≤ 1000000000 → Jv w j cs → TC (Jv.enc j) cs w
  | 0, d, j, cs, w, hm, ho, hb, hs, hl, h => by
    exfalso
    cases j <;> simp only [Jv.Ok] at ho <;> omega
  | m + 1, d, j, cs, w, hm, ho, hb, hs, hl, h => by
    cases j <;> unfold Jv at h
    · unfold JS at hs; exact hs.elim
    · unfold JS at hs; exact hs.elim
    · rename_i n
      obtain ⟨p, rfl⟩ := h
      unfold JB at hb
      simp only [Jv.enc]
      exact tx_int w p n hb.1 hb.2
    · rename_i s
      obtain ⟨p, rfl⟩ := h
      simp only [Jv.Ok] at ho
      unfold JB at hb
      simp only [Jv.enc]
      exact tx_str w p s (by omega) ho.2
    · rename_i l
      obtain ⟨p, v, L, rfl, h1, h2⟩ := h
      simp only [Jv.Ok] at ho
      unfold JB at hb
      unfold JS at hs
      rw [Jv.OkL_iff] at ho
      rw [JBL_iff] at hb
      rw [JSL_iff] at hs
      simp only [Jv.enc, List.length_cons, List.length_append, List.length_nil] at hl ⊢
      refine tx_arr w p l v L h1 (jl_all h2) hb.1 (by omega) (fun j hj c u hu hj2 => ?_)
      refine tx_ok m (d + 1) l[j] _ u (by omega) (ho.2 _ (List.getElem_mem hj)) (hb.2 _ (List.getElem_mem hj)) (hs _ (List.getElem_mem hj)) ?_ (Jv.under hu _ _ hj2)
      have := join_mem_len (Jv.encL l) (Jv.enc l[j]) (by rw [Jv.encL_map]; exact List.mem_map.2 ⟨_, List.getElem_mem hj, rfl⟩)
      omega
    · rename_i l
      obtain ⟨p, v, L, rfl, h1, h2⟩ := h
      simp only [Jv.Ok] at ho
      unfold JB at hb
      unfold JS at hs
      rw [Jv.OkM_iff] at ho
      rw [JBM_iff] at hb
      rw [JSM_iff] at hs
      simp only [Jv.enc, List.length_cons, List.length_append, List.length_nil] at hl ⊢
      refine tx_obj w p l v L h1 (jm_all h2) hb.1 (fun q hq => ⟨(ho.2.2 q hq).1, (hb.2 q hq).1⟩) (by omega) (fun j hj c u hu hj2 => ?_)
      refine tx_ok m (d + 1) l[j].2 _ u (by omega) (ho.2.2 _ (List.getElem_mem hj)).2 (hb.2 _ (List.getElem_mem hj)).2 (hs _ (List.getElem_mem hj)) ?_ (Jv.under hu _ _ hj2)
      have := join_mem_len (Jv.encM l) (Js.quote l[j].1.data.toList ++ 58 :: Jv.enc l[j].2) (by rw [Jv.encM_map]; exact List.mem_map.2 ⟨_, List.getElem_mem hj, rfl⟩)
      rw [List.length_append, List.length_cons] at this
      omega
theorem rwrite_ok (k n : Int) (b : Bool) (s : ByteArray) (a1 : Option Addr) (n1 c1 : Nat) (a2 : Option Addr) (n2 c2 : Nat) (p : Int) (j : Jv.J) (w : World) (ho : Jv.Ok 1 j) (hb : JB j) (hs : JS j) (hl : (Jv.enc j).length ≤ 1000000000) (h : Jv w j (vCells k b n s (.slice a1 n1 c1) (.slice a2 n2 c2) p)) :
    Calls Tryz.prog 27 #[.agg #[.int .i64 k, .bool b, .int .i64 n, .string s, .slice a1 n1 c1, .slice a2 n2 c2, .int .i64 p]] w fun e w' => e = .returned (.tuple #[.string ⟨(Jv.enc j).toArray⟩, .int .i64 0]) ∧ Below w.heap.size w w' := by
  have hba := (Below.refl w.heap.size w).alloc (Nat.le_refl _) (.cells #[.int .i64 k, .bool b, .int .i64 n, .string s, .slice a1 n1 c1, .slice a2 n2 c2, .int .i64 p] 82)
  have CC := Lib.hid (rcheckV_ok k n b s a1 n1 c1 a2 n2 c2 p j _ ho hb hs (Jv.under hba _ _ h))
  have CT := Lib.hid (fun u (hu : Below w.heap.size w u) => tx_ok 100 1 j _ u rfl ho hb hs hl (Jv.under hu _ _ h))
  have HB := Lib.hid hba
  have HX := cells7 (w := w) (x0 := .int .i64 k) (x1 := .bool b) (x2 := .int .i64 n) (x3 := .string s) (x4 := .slice a1 n1 c1) (x5 := .slice a2 n2 c2) (x6 := .int .i64 p) (t := 82)
  clear hba h ho hb hs hl
  unfold TC at CT
  generalize (⟨(Jv.enc j).toArray⟩ : ByteArray) = Q at CT ⊢
  go_enter Tryz.func27, Tryz.ntmps27
  obtain ⟨x0, x1, x2, x3, x4, x5, x6⟩ := HX
  go_wp2_with fail
  refine CC.out.mono ?_
  rintro e w1 ⟨rfl, hb1⟩
  have HB1 := Lib.hid (below_seq HB.out hb1)
  replace x0 := cell_under x0 hb1
  replace x1 := cell_under x1 hb1
  replace x2 := cell_under x2 hb1
  replace x3 := cell_under x3 hb1
  replace x4 := cell_under x4 hb1
  replace x5 := cell_under x5 hb1
  replace x6 := cell_under x6 hb1
  clear hb1 CC HB
  go_wp2_with fail
  refine (CT.out _ HB1.out).mono ?_
  rintro e w2 ⟨rfl, hb2⟩
  have HB2 := Lib.hid (below_seq HB1.out hb2)
  clear hb2 CT
  go_wp2_with fail
  go_ret2
  exact ⟨rfl, HB2.out⟩
end Go.Proofs.YtjaojenalodolaaGreatDoor.R2
