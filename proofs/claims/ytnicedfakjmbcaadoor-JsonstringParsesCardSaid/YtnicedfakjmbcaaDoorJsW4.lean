import Derived.Test.YtnicedfakjmbcaaDoorJsW3
import Derived.Deep.AppendLies
import Derived.Deep.RegionLaw
namespace Go.Proofs.YtnicedfakjmbcaaDoor.Jw
open Go Go.RowKit Go.Proofs.YtnicedfakjmbcaaDoor Go.Proofs.YtnicedfakjmbcaaDoor.Tx

theorem six_one (a b c d e f : Int) : ∀ u ∈ [Value.int .u8 a, .int .u8 b, .int .u8 c, .int .u8 d, .int .u8 e, .int .u8 f], u.oneCell' = true := by
  intro u hu
  simp only [List.mem_cons, List.not_mem_nil, or_false] at hu
  rcases hu with h | h | h | h | h | h <;> subst h <;> rfl
theorem wrap_u8 (x : Int) (h : 0 ≤ x) (h' : x < 256) : IntKind.u8.wrap x = x := by rw [IntKind.wrap_u8]; omega
theorem dig_is (n : Nat) (h : n < 16) : ∀ hb, (⟨#[48, 49, 50, 51, 52, 53, 54, 55, 56, 57, 97, 98, 99, 100, 101, 102]⟩ : ByteArray)[n]'hb = Js.hexd n := by
  intro hb
  obtain ⟨h1, h2⟩ := dig_at n h
  exact h2
theorem one_two (x y : Int) : ∀ u ∈ [Value.int .u8 x, .int .u8 y], u.oneCell' = true := by
  intro u hu
  rcases List.mem_cons.1 hu with h | h
  · subst h; rfl
  · rcases List.mem_cons.1 h with h | h
    · subst h; rfl
    · cases h
set_option maxHeartbeats 1000000 in
theorem rquote_bad (s : ByteArray) (w : World) (hs : s.size ≤ 1000000000) (hv : Lib.validD s.data.toList = false) :
    Calls Tryd.prog 37 #[.string s] w fun e w' => e = .returned (.tuple #[.string ⟨#[]⟩, .int .i64 5]) ∧ Below w.heap.size w w' := by
  have HV := Lib.hid hv
  clear hv
  go_enter Tryd.func37, Tryd.ntmps37
  go_wp2_with fail
  refine (rvalid_is s false _ (by omega) HV.out).mono ?_
  rintro e w1 ⟨rfl, hb⟩
  have HB := Lib.hid hb
  clear hb
  go_wp2_with fail
  go_ret2
  exact ⟨rfl, HB.out⟩
set_option maxRecDepth 100000 in
set_option maxHeartbeats 4000000 in
theorem rquote_any (s : ByteArray) (w : World) (hs : s.size ≤ 1000000000) (hv : Lib.validD s.data.toList = true) :
    Calls Tryd.prog 37 #[.string s] w fun e w' => e = .returned (.tuple #[.string ⟨(Js.quote s.data.toList).toArray⟩, .int .i64 0]) ∧ Below w.heap.size w w' := by
  have HV := Lib.hid hv
  clear hv
  obtain ⟨i0, hi, hz0, hz1, hz2⟩ := info_parts infoU'
  have II := Lib.hid (And.intro hi (And.intro hz0 (And.intro hz1 hz2)))
  clear hi hz0 hz1 hz2
  go_enter Tryd.func37, Tryd.ntmps37
  go_wp2_with fail
  refine (rvalid_is s true _ (by omega) HV.out).mono ?_
  rintro e w0 ⟨rfl, hb⟩
  have HB0 := Lib.hid hb
  have hz0 := hb.size
  clear hb
  have HO0 := Lib.hid (own_one w0 34)
  go_wp2_with fail
  go_loopw [4, 5] (fun v i wr => ∃ (k : Nat) (o : List UInt8) (a : Option Addr) (cap : Nat), k ≤ s.size ∧ i = .int .i64 k ∧ v = .slice a o.length cap ∧ Hid ((34 :: Js.body (s.data.toList.take k) : List UInt8) = o) ∧ Hid (wr.ownsRow w0.heap.size 5 1 (.slice a o.length cap) o.length (Lib.byteCells o)) ∧ Hid (Below w0.heap.size w0 wr)) (fun _ i _ => s.size - (intOf i).toNat)
  case atStart => exact ⟨0, [34], _, 1, Nat.zero_le _, rfl, rfl, rfl, HO0.out, (Below.refl _ _).alloc (Nat.le_refl _) _⟩
  case round =>
    obtain ⟨k, o, a, cap, hk, rfl, rfl, HF, HO, HB⟩ := hrel
    have hz := HB.out.size
    have hle : o.length ≤ 6 * k + 1 := by
      have := (Js.body_len (s.data.toList.take k)).2
      have h2 : (s.data.toList.take k).length ≤ k := List.length_take_le _ _
      rw [← HF.out, List.length_cons]; omega
    by_cases hlt : k < s.size
    · have B0 := UInt8.toNat_lt s[k]
      have HS := Lib.hid (body_snoc s k hlt)
      by_cases hq : lettN s[k] = 0
      · have HLT := Lib.hid hq
        by_cases h32 : s[k].toNat < 32
        · have HE := Lib.hid (show (34 :: Js.body (s.data.toList.take (k + 1)) : List UInt8) = o ++ [92, 117, 48, 48, Js.hexd (s[k].toNat / 16), Js.hexd (s[k].toNat % 16)] by rw [HS.out, HF.out, q_b _ hq h32])
          obtain ⟨x, hx⟩ : ∃ x : Nat, x = s[k].toNat := ⟨_, rfl⟩
          have hA : IntKind.u8.wrap ((x : Int) / 16) = ((x / 16 : Nat) : Int) := by
            rw [wrap_u8 _ (by omega) (by omega)]; rfl
          have hB : (x : Int).tmod 16 = ((x % 16 : Nat) : Int) := rfl
          have d1 := dig_is (x / 16) (by omega)
          have d2 := dig_is (x % 16) (by omega)
          obtain ⟨A, hA'⟩ : ∃ A, A = x / 16 := ⟨_, rfl⟩
          obtain ⟨C, hC'⟩ : ∃ C, C = x % 16 := ⟨_, rfl⟩
          have lA : (A : Int) < 16 := by omega
          have lC : (C : Int) < 16 := by omega
          rw [← hx, ← hA', ← hC'] at HE
          rw [← hA'] at hA d1
          rw [← hC'] at hB d2
          rw [hx] at hA hB
          clear hq hx hA' hC'
          go_wp2_with fail
          refine (letter_is _ 0 _ HLT.out).mono ?_
          rintro e w' ⟨rfl, rfl⟩
          go_wp2_with fail
          go_region_law (refine step_append_lies _ rfl (.tmp 36) (.tmp 43) 40 rfl w0.heap.size 5 i0 (.int .u8 0) 1 1 Tryd.underlying40 II.out.1 II.out.2.1 II.out.2.2.1 II.out.2.2.2 rfl (by decide) _ _ _ (by simp [Act.eval]) (HO.out.drew.alloc _) ⟨w'.heap.size, 0, none⟩ 6 6 [.int .u8 92, .int .u8 117, .int .u8 48, .int .u8 48, .int .u8 (Js.hexd A).toNat, .int .u8 (Js.hexd C).toNat] (by simp [Act.eval]) rfl (new_cells w'.drew _) (six_one _ _ _ _ _ _) (by decide) (by unfold maxLen; omega) (by omega) (by show _ ≤ (World.alloc _ _).heap.size; rw [alloc_sz]; omega) _ rfl ?_; intro g1 cap1 w1 hown1 hgrow1 _ _)
          all_goals
            rename_i g1 cap1 w1 hown1 hgrow1 _ _
            have HO1 := Lib.hid (show w1.ownsRow w0.heap.size 5 1 (.slice (some ⟨g1, 0, none⟩) (o ++ [92, 117, 48, 48, Js.hexd A, Js.hexd C]).length cap1) (o ++ [92, 117, 48, 48, Js.hexd A, Js.hexd C]).length (Lib.byteCells (o ++ [92, 117, 48, 48, Js.hexd A, Js.hexd C])) by simpa [Lib.byteCells] using hown1)
            have HB1 := Lib.hid ((HB.out.drew.alloc hz _).grown hgrow1 (by show _ ≤ (World.alloc _ _).heap.size; rw [alloc_sz]; show _ ≤ w'.heap.size + 1; omega) (fun k hk => (HO.out.lt k hk).1))
            clear hown1 hgrow1 hA hB d1 d2
            go_wp2_with fail
            go_roundw
            case rel => exact ⟨k + 1, o ++ [92, 117, 48, 48, Js.hexd A, Js.hexd C], some ⟨g1, 0, none⟩, cap1, by omega, by go_num, by simp, HE.out, HO1.out, HB1.out⟩
            case measure => simp [intOf]; omega
        · have HE := Lib.hid (show (34 :: Js.body (s.data.toList.take (k + 1)) : List UInt8) = o ++ [s[k]] by rw [HS.out, HF.out, q_c _ hq (by omega)])
          obtain ⟨d, hd⟩ : ∃ d, s[k] = d := ⟨_, rfl⟩
          have g2 : decide ((s[k].toNat : Int) < 32) = false := by simp; omega
          rw [hd] at HE HLT B0 g2
          clear hq h32
          go_wp2_with fail
          refine (letter_is _ 0 _ HLT.out).mono ?_
          rintro e w' ⟨rfl, rfl⟩
          go_wp2_with (at_builtin; refine wpList_append_own _ rfl _ _ 40 rfl w0.heap.size 5 i0 (.int .u8 0) 1 1 Tryd.underlying40 II.out.1 II.out.2.1 II.out.2.2.1 II.out.2.2.2 rfl (by decide) _ _ _ rfl (HO.out.alloc _) ⟨w'.heap.size, 0, none⟩ 1 1 [.int .u8 (d.toNat)] rfl rfl (one_new w' _) (fun u hu => by simp at hu; subst hu; rfl) ?a3 ?a4 ?a5 ?_)
          case a3 => unfold maxLen; omega
          case a4 => omega
          case a5 => rw [alloc_sz]; omega
          intro v1 w1 hown1 hgrow1 _
          obtain ⟨a1, cap1, hv1⟩ := own_slice hown1
          subst hv1
          have HO1 := Lib.hid (show w1.ownsRow w0.heap.size 5 1 (.slice a1 (o ++ [d]).length cap1) (o ++ [d]).length (Lib.byteCells (o ++ [d])) by rw [← cells_snoc]; simpa using hown1)
          have HB1 := Lib.hid ((HB.out.alloc hz _).grown hgrow1 (by rw [alloc_sz]; omega) (fun k hk => (HO.out.lt k hk).1))
          clear hown1 hgrow1 hd
          go_wp2_with fail
          go_roundw
          case rel => exact ⟨k + 1, o ++ [d], a1, cap1, by omega, by go_num, by simp, HE.out, HO1.out, HB1.out⟩
          case measure => simp [intOf]; omega
      · have HE := Lib.hid (show (34 :: Js.body (s.data.toList.take (k + 1)) : List UInt8) = o ++ [92, lettN s[k]] by rw [HS.out, HF.out, q_a _ hq])
        obtain ⟨d, hd⟩ : ∃ d, lettN s[k] = d := ⟨_, rfl⟩
        rw [hd] at HE hq
        have HLT := Lib.hid hd
        have g1 : ((d.toNat : Int) == 0) = false := by
          rw [beq_eq_false_iff_ne]
          intro e
          apply hq
          apply UInt8.toNat_inj.1
          simp; omega
        clear hq hd
        have B1 := UInt8.toNat_lt d
        go_wp2_with fail
        refine (letter_is _ d _ HLT.out).mono ?_
        rintro e w' ⟨rfl, rfl⟩
        go_wp2_with fail
        refine (letter_is _ d _ HLT.out).mono ?_
        rintro e w' ⟨rfl, rfl⟩
        go_wp2_with (at_builtin; refine wpList_append_own _ rfl _ _ 40 rfl w0.heap.size 5 i0 (.int .u8 0) 1 1 Tryd.underlying40 II.out.1 II.out.2.1 II.out.2.2.1 II.out.2.2.2 rfl (by decide) _ _ _ rfl (HO.out.alloc _) ⟨w'.heap.size, 0, none⟩ 2 2 [.int .u8 92, .int .u8 (d.toNat)] rfl rfl (new_cells w' _) (one_two _ _) ?a3 ?a4 ?a5 ?_)
        case a3 => unfold maxLen; omega
        case a4 => omega
        case a5 => rw [alloc_sz]; omega
        intro v1 w1 hown1 hgrow1 _
        obtain ⟨a1, cap1, hv1⟩ := own_slice hown1
        subst hv1
        have HO1 := Lib.hid (show w1.ownsRow w0.heap.size 5 1 (.slice a1 (o ++ [92, d]).length cap1) (o ++ [92, d]).length (Lib.byteCells (o ++ [92, d])) by simpa [Lib.byteCells] using hown1)
        have HB1 := Lib.hid ((HB.out.alloc hz _).grown hgrow1 (by rw [alloc_sz]; omega) (fun k hk => (HO.out.lt k hk).1))
        clear hown1 hgrow1
        go_wp2_with fail
        go_roundw
        case rel => exact ⟨k + 1, o ++ [92, d], a1, cap1, by omega, by go_num, by simp, HE.out, HO1.out, HB1.out⟩
        case measure => simp [intOf]; omega
    · obtain rfl : k = s.size := by omega
      have HE := Lib.hid (show Js.quote s.data.toList = o ++ [34] by
        have := HF.out
        rw [List.take_of_length_le (by simp)] at this
        rw [← this]; rfl)
      go_wp2_with (at_builtin; refine wpList_append_own _ rfl _ _ 40 rfl w0.heap.size 5 i0 (.int .u8 0) 1 1 Tryd.underlying40 II.out.1 II.out.2.1 II.out.2.2.1 II.out.2.2.2 rfl (by decide) _ _ _ rfl (HO.out.alloc _) ⟨wr.heap.size, 0, none⟩ 1 1 [.int .u8 (34)] rfl rfl (one_new wr _) (fun u hu => by simp at hu; subst hu; rfl) ?a3 ?a4 ?a5 ?_)
      case a3 => unfold maxLen; omega
      case a4 => omega
      case a5 => rw [alloc_sz]; omega
      intro v1 w1 hown1 hgrow1 _
      obtain ⟨a1, cap1, hv1⟩ := own_slice hown1
      subst hv1
      have HO1 := Lib.hid (show w1.ownsRow w0.heap.size 5 1 (.slice a1 (o.length + 1) cap1) (o ++ [34]).length (Lib.byteCells (o ++ [34])) by simpa [Lib.byteCells] using hown1)
      have HB1 := Lib.hid (below_trans HB0.out ((HB.out.alloc hz _).grown hgrow1 (by rw [alloc_sz]; omega) (fun k hk => (HO.out.lt k hk).1)))
      clear hown1 hgrow1
      have hcv := conv_own HO1.out
      go_wp2_with fail
      go_ret2
      exact ⟨ret_strerr (by rw [HE.out]) rfl, HB1.out⟩
end Go.Proofs.YtnicedfakjmbcaaDoor.Jw
