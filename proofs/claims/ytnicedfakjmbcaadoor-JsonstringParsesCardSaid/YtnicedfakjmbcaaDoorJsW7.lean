import Derived.Test.YtnicedfakjmbcaaDoorJsW6
import Derived.Lib.ConvBytes
import Derived.Laws.BitsLemmas
namespace Go.Proofs.YtnicedfakjmbcaaDoor.Jw
open Go Go.RowKit Go.Proofs.YtnicedfakjmbcaaDoor Go.Proofs.YtnicedfakjmbcaaDoor.Tx

/-! ### the program's unit -/
theorem i32_or4 (x y : Int) (hx₀ : 0 ≤ x) (hx : x % 16 = 0) (hx₁ : x < 2147483648) (h₀ : 0 ≤ y) (h₁ : y < 16) : bits .or .i32 x y = x + y :=
  bits_join .i32 31 (by decide) wraps_i32 4 x y hx₀ hx hx₁ h₀ h₁ (by omega)
def lowC (c : UInt8) : Int := if 65 ≤ c.toNat ∧ c.toNat ≤ 70 then (c.toNat : Int) + 32 else c.toNat
theorem idx_hex (c : UInt8) : Lib.indexByte digs.data.toList (lowC c).toNat.toUInt8 = hz (Js.hexv c.toNat) :=
  all_u8 (fun c => Lib.indexByte digs.data.toList (lowC c).toNat.toUInt8 = hz (Js.hexv c.toNat)) (by decide +kernel) c
theorem index_is (x : Int) (c : UInt8) (hx : x = lowC c) (z : Int) (h : hz (Js.hexv c.toNat) = z) (w : World) :
    Calls Tryd.prog 61 #[.string digs, .int .u8 x] w fun e w' => e = .returned (.int .i64 z) ∧ w' = w := by
  subst hx
  have := Tryd.strings_IndexByte digs (lowC c) w
  rw [idx_hex, h] at this
  exact this
def uz (o : Option Nat) : Int := match o with | none => 0 | some n => n
theorem world_below (w : World) (e : TypeId) (s : ByteArray) : Below w.heap.size w (Lib.bytesWorld w e s) :=
  ⟨rfl, rfl, rfl, by rw [Lib.bytesWorld_size]; omega, fun k hk => Lib.bytesWorld_at_old w e s k hk⟩
theorem ret_intb {k : IntKind} {a b : Int} {c d : Bool} (h : a = b) (g : c = d) : Ending.returned (.tuple #[.int k a, .bool c]) = .returned (.tuple #[.int k b, .bool d]) := by rw [h, g]
set_option maxRecDepth 100000 in
set_option maxHeartbeats 4000000 in
theorem iunit_any (t : ByteArray) (w : World) (hs : t.size ≤ 1000000000) :
    Calls Tryd.prog 57 #[.string t] w fun e w' => e = .returned (.tuple #[.int .i32 (uz (Js.unitV t.data.toList)), .bool (Js.unitV t.data.toList).isSome]) ∧ Below w.heap.size w w' := by
  by_cases h6 : t.size < 6
  · have HE := Lib.hid (show Js.unitV t.data.toList = none from Js.unit_short (by simpa using h6))
    go_enter Tryd.func57, Tryd.ntmps57
    go_wp2
    go_ret2
    exact ⟨ret_intb (by rw [HE.out]; rfl) (by rw [HE.out]; rfl), Below.refl _ _⟩
  · have h6' : 6 ≤ t.size := by omega
    clear h6
    obtain ⟨p, hp⟩ : ∃ p, t.extract 0 2 = p := ⟨_, rfl⟩
    have hp2 : p.toList = [t[0], t[1]] := by
      rw [← hp, Lib.toList_data, ByteArray.data_extract, Array.toList_extract, List.extract_eq_take_drop]
      rw [List.drop_zero, List.take_succ_eq_append_getElem (by simp; omega), List.take_succ_eq_append_getElem (by simp; omega), List.take_zero]
      rfl
    have e0 := drop_at t 0 0 (by omega)
    have e1 := drop_at t 0 1 (by omega)
    rw [List.drop_zero] at e0 e1
    simp only [Nat.zero_add] at e0 e1
    have HLEN := Lib.hid (show ¬ (t.data.toList.length < 6) by simpa using h6')
    by_cases hu : t[0] = 92 ∧ t[1] = 117
    · have HE := Lib.hid (show Js.unitV t.data.toList = Js.hx t.data.toList 4 by
        unfold Js.unitV
        rw [if_neg]
        rintro (h | h | h)
        · exact HLEN.out h
        · exact h (e0.trans hu.1)
        · exact h (e1.trans hu.2))
      have gp : (p.toList == [92, 117]) = true := by rw [hp2, hu.1, hu.2]; rfl
      have hsz : (t.extract 2 6).size = 4 := by simp; omega
      have hcv := Lib.run_convert_string_bytes (P := Tryd.prog) w 9 40 5 (t.extract 2 6) (u := .string) Tryd.underlying9 Tryd.underlying40 Tryd.underlying5
      have hb0 := world_below w 5 (t.extract 2 6)
      have hcell : ∀ j, j < 4 → (Lib.bytesWorld w 5 (t.extract 2 6)).cell? ⟨w.heap.size, j, none⟩ = some (.int .u8 (t.data.toList.getD (2 + j) 0).toNat) := by
        intro j hj
        rw [Lib.bytesWorld_cell w _ _ j (by omega)]
        congr 3
        rw [ByteArray.data_extract, Array.toList_extract, List.extract_eq_take_drop, List.getD_eq_getElem?_getD, List.getD_eq_getElem?_getD, List.getElem?_take_of_lt (by omega), List.getElem?_drop]
      generalize Lib.bytesWorld w 5 (t.extract 2 6) = W1 at hcv hb0 hcell
      rw [hsz] at hcv
      generalize grownCap w 4 0 5 = cap at hcv
      have HB := Lib.hid hb0
      have HC := Lib.hid hcell
      obtain ⟨L, hL⟩ : ∃ L, L = t.data.toList := ⟨_, rfl⟩
      rw [← hL] at HE HC ⊢
      clear hb0 hcell e0 e1 hp2 hu hsz hL HLEN
      go_enter Tryd.func57, Tryd.ntmps57
      go_wp2
      clear hcv gp hp
      go_loop [4, 20] (fun v c => ∃ i n : Nat, i ≤ 4 ∧ c = .int .i64 i ∧ v = .int .i32 n ∧ Hid (Js.hx L i = some n)) (fun _ c => (4 - intOf c).toNat)
      case atStart => exact ⟨0, 0, by omega, rfl, rfl, rfl⟩
      case round =>
        obtain ⟨i, n, hi, rfl, rfl, HX⟩ := hrel
        by_cases hlt : i < 4
        · have hn := pow_bd (Js.hx_bd L i n HX.out) (by omega)
          obtain ⟨c, hc⟩ : ∃ c, L.getD (2 + i) 0 = c := ⟨_, rfl⟩
          have hcl := HC.out i hlt
          rw [hc] at hcl
          have HS := Lib.hid (hx_succ L i n _ (by rw [hc]) HX.out)
          have B0 := UInt8.toNat_lt c
          clear hc
          rcases hh : Js.hexv c.toNat with _ | d
          · have HN := Lib.hid (show Js.hx L 4 = none from hx_none L (i + 1) (by rw [HS.out, hh]; rfl) 4 (by omega))
            have HZ := Lib.hid (show hz (Js.hexv c.toNat) = -1 by rw [hh]; rfl)
            clear hh
            by_cases hup : 65 ≤ c.toNat ∧ c.toNat ≤ 70
            · have HLC := Lib.hid (show lowC c = (c.toNat : Int) + 32 by unfold lowC; rw [if_pos hup])
              obtain ⟨hu1, hu2⟩ := hup
              go_wp2_with fail
              refine (index_is _ c HLC.out.symm (-1) HZ.out _).mono ?_
              rintro e w' ⟨rfl, rfl⟩
              go_wp2_with fail
              go_ret2
              exact ⟨ret_intb (by rw [HE.out, HN.out]; rfl) (by rw [HE.out, HN.out]; rfl), HB.out⟩
            · have HLC := Lib.hid (show lowC c = (c.toNat : Int) by unfold lowC; rw [if_neg hup])
              have hup2 : c.toNat < 65 ∨ (65 ≤ c.toNat ∧ 70 < c.toNat) := by omega
              clear hup
              rcases hup2 with hu1 | ⟨hu1, hu2⟩
              · go_wp2_with fail
                refine (index_is _ c HLC.out.symm (-1) HZ.out _).mono ?_
                rintro e w' ⟨rfl, rfl⟩
                go_wp2_with fail
                go_ret2
                exact ⟨ret_intb (by rw [HE.out, HN.out]; rfl) (by rw [HE.out, HN.out]; rfl), HB.out⟩
              · go_wp2_with fail
                refine (index_is _ c HLC.out.symm (-1) HZ.out _).mono ?_
                rintro e w' ⟨rfl, rfl⟩
                go_wp2_with fail
                go_ret2
                exact ⟨ret_intb (by rw [HE.out, HN.out]; rfl) (by rw [HE.out, HN.out]; rfl), HB.out⟩
          · have hd16 := Js.hexv_bd hh
            have HN := Lib.hid (show Js.hx L (i + 1) = some (n * 16 + d) by rw [HS.out, hh]; rfl)
            have HZ := Lib.hid (show hz (Js.hexv c.toNat) = d by rw [hh]; rfl)
            have hor := i32_or4 ((n : Int) * 16) d (by omega) (by omega) (by omega) (by omega) (by omega)
            clear hh
            by_cases hup : 65 ≤ c.toNat ∧ c.toNat ≤ 70
            · have HLC := Lib.hid (show lowC c = (c.toNat : Int) + 32 by unfold lowC; rw [if_pos hup])
              obtain ⟨hu1, hu2⟩ := hup
              go_wp2_with fail
              refine (index_is _ c HLC.out.symm d HZ.out _).mono ?_
              rintro e w' ⟨rfl, rfl⟩
              go_wp2_with fail
              go_round
              case rel => exact ⟨i + 1, n * 16 + d, by omega, by go_num, by go_num, HN.out⟩
              case measure => simp [intOf]; omega
            · have HLC := Lib.hid (show lowC c = (c.toNat : Int) by unfold lowC; rw [if_neg hup])
              have hup2 : c.toNat < 65 ∨ (65 ≤ c.toNat ∧ 70 < c.toNat) := by omega
              clear hup
              rcases hup2 with hu1 | ⟨hu1, hu2⟩
              · go_wp2_with fail
                refine (index_is _ c HLC.out.symm d HZ.out _).mono ?_
                rintro e w' ⟨rfl, rfl⟩
                go_wp2_with fail
                go_round
                case rel => exact ⟨i + 1, n * 16 + d, by omega, by go_num, by go_num, HN.out⟩
                case measure => simp [intOf]; omega
              · go_wp2_with fail
                refine (index_is _ c HLC.out.symm d HZ.out _).mono ?_
                rintro e w' ⟨rfl, rfl⟩
                go_wp2_with fail
                go_round
                case rel => exact ⟨i + 1, n * 16 + d, by omega, by go_num, by go_num, HN.out⟩
                case measure => simp [intOf]; omega
        · obtain rfl : i = 4 := by omega
          go_wp2
          go_ret2
          exact ⟨ret_intb (by rw [HE.out, HX.out]; rfl) (by rw [HE.out, HX.out]; rfl), HB.out⟩
    · have HE := Lib.hid (show Js.unitV t.data.toList = none by
        unfold Js.unitV
        rw [if_pos]
        right
        by_cases h0 : t[0] = 92
        · right; rw [e1]; exact fun h => hu ⟨h0, h⟩
        · left; rw [e0]; exact h0)
      have gp : (p.toList == [92, 117]) = false := by
        rw [hp2, beq_eq_false_iff_ne]
        intro e
        simp only [List.cons.injEq, and_true] at e
        exact hu e
      clear e0 e1 hp2 hu HLEN
      go_enter Tryd.func57, Tryd.ntmps57
      go_wp2
      go_ret2
      exact ⟨ret_intb (by rw [HE.out]; rfl) (by rw [HE.out]; rfl), Below.refl _ _⟩
end Go.Proofs.YtnicedfakjmbcaaDoor.Jw
