/- Walks of rfc3339: pad, Format. -/
import Derived.Test.YtikjehgbfkndjaaDoorBs
import Derived.Test.YtikjehgbfkndjaaDoorRf2
import Derived.Test.YtikjehgbfkndjaaDoorCivW3
import Derived.Test.YtikjehgbfkndjaaDoorShelf
import Derived.Lib.ItoaMem
import Derived.Lib.AppendIntMem
namespace Go.Proofs.YtikjehgbfkndjaaDoor.Rp
open Go Go.RowKit Go.Proofs.YtikjehgbfkndjaaDoor Go.Proofs.YtikjehgbfkndjaaDoor.Bs

def PowTab (w : World) : Prop := Lib.TabIs Tryd.prog w "internal/strconv.uint64pow10" .u64 Lib.pow10Tab
theorem itoa_is (n : Nat) (a : Int) (ha : a = n) (S : ByteArray) (w : World) (hn : n ≤ 9999) (hT : PowTab w) (hS : Lib.decDigits n = S.data.toList) :
    Calls Tryd.prog 41 #[.int .i64 a] w fun e w' => e = .returned (.string S) ∧ Below w.heap.size w w' := by
  subst ha
  refine (Tryd.strconv_Itoa n (by omega) (by omega) w hT).mono ?_
  rintro e w' ⟨rfl, k, os, rfl⟩
  exact ⟨by rw [Lib.itoa_nonneg, ba_of hS.symm], Lib.below_grow _ _ (Nat.le_refl _) _ _⟩
theorem cells_48 (o : List UInt8) (j : Nat) : Lib.byteCells (o ++ List.replicate j 48) ++ [.int .u8 48] = Lib.byteCells (o ++ List.replicate (j + 1) 48) := by
  rw [List.replicate_succ', ← List.append_assoc]; simp [Lib.byteCells]
set_option maxRecDepth 100000 in
set_option maxHeartbeats 4000000 in
theorem pad_any (B : Nat) (xs : List UInt8) (v : Value) (n wd : Nat) (a b : Int) (ha : a = n) (hb : b = wd) (W : World) (hT : PowTab W) (hw1 : 1 ≤ wd) (hw : wd ≤ 4) (h : n < 10 ^ wd) (hx : xs.length ≤ 100) (hB : B ≤ W.heap.size)
    (hown : W.ownsRow B 5 1 v xs.length (Lib.byteCells xs)) :
    Calls Tryd.prog 21 #[v, .int .i64 a, .int .i64 b] W fun e w' => ∃ v' : Value, e = .returned v' ∧ (w'.ownsRow B 5 1 v' (xs ++ Rf.dig wd n).length (Lib.byteCells (xs ++ Rf.dig wd n)) ∧ Below B W w') := by
  subst ha hb
  obtain ⟨i0, hi, hz0, hz1, hz2⟩ := info_parts infoU
  have II := Lib.hid (And.intro hi (And.intro hz0 (And.intro hz1 hz2)))
  have h4 : 10 ^ wd ≤ 10 ^ 4 := Nat.pow_le_pow_right (by decide) hw
  obtain ⟨d1, d2⟩ := Rf.dig_dec wd n hw1 h
  obtain ⟨S, hS, hS2⟩ := ba_ex (Lib.decDigits n)
  rw [← hS2] at d1 d2
  have HS := Lib.hid hS
  have HD := Lib.hid d2
  have HT := Lib.hid hT
  obtain ⟨a0, c0, hv⟩ := own_slice hown
  subst hv
  have HO := Lib.hid hown
  have hn9 : n ≤ 9999 := by omega
  clear hi hz0 hz1 hz2 h h4 hS d2 hT hown hS2
  go_enter Tryd.func21, Tryd.ntmps21
  go_wp2_with fail
  refine (itoa_is n _ rfl S _ hn9 HT.out HS.out).mono ?_
  rintro e w1 ⟨rfl, hb1⟩
  have HB1 := Lib.hid hb1
  have hz1 := hb1.size
  have HO1 := Lib.hid (own_below HO.out hb1)
  clear hb1
  go_wp2_with fail
  go_loopw [0, 14] (fun v i wr => ∃ (k : Nat) (o : List UInt8) (a : Option Addr) (cap : Nat), k + S.size ≤ wd ∧ i = .int .i64 k ∧ v = .slice a o.length cap ∧ o.length ≤ 104 ∧ w1.heap.size ≤ wr.heap.size ∧ Hid (xs ++ List.replicate k 48 = o) ∧ Hid (wr.ownsRow B 5 1 (.slice a o.length cap) o.length (Lib.byteCells o)) ∧ Hid (Below B W wr)) (fun _ i _ => wd - (intOf i).toNat)
  case atStart => exact ⟨0, xs, a0, c0, by omega, rfl, rfl, by omega, Nat.le_refl _, List.append_nil _, HO1.out, (HB1.out).mono hB⟩
  case round =>
    obtain ⟨k, o, a, cap, hk, rfl, rfl, ho, hz, HF, HO2, HB2⟩ := hrel
    by_cases hlt : k + S.size < wd
    · have HE := Lib.hid (show xs ++ List.replicate (k + 1) 48 = o ++ [48] by rw [List.replicate_succ', ← List.append_assoc, HF.out])
      have HL := Lib.hid (show (o ++ [48]).length ≤ 104 by rw [← HE.out]; simp; omega)
      go_wp2_with (at_builtin; refine wpList_append_own _ rfl _ _ 43 rfl B 5 i0 (.int .u8 0) 1 1 Tryd.underlying43 II.out.1 II.out.2.1 II.out.2.2.1 II.out.2.2.2 rfl (by decide) _ _ _ rfl (HO2.out.alloc _) ⟨wr.heap.size, 0, none⟩ 1 1 [.int .u8 48] rfl rfl (one_new wr _) (fun u hu => by simp at hu; subst hu; rfl) ?a3 ?a4 ?a5 ?_)
      case a3 => unfold maxLen; omega
      case a4 => omega
      case a5 => rw [alloc_sz]; omega
      intro v1 w2 hown1 hgrow1 _
      obtain ⟨a1, cap1, hv1⟩ := own_slice hown1
      subst hv1
      have HO3 := Lib.hid (show w2.ownsRow B 5 1 (.slice a1 (o ++ [48]).length cap1) (o ++ [48]).length (Lib.byteCells (o ++ [48])) by rw [← cells_snoc]; simpa using hown1)
      have HB3 := Lib.hid ((HB2.out.alloc (by omega) _).grown hgrow1 (by rw [alloc_sz]; omega) (fun k hk => (HO2.out.lt k hk).1))
      have hz3 : w1.heap.size ≤ w2.heap.size := by have := hgrow1.size; rw [alloc_sz] at this; omega
      clear hown1 hgrow1
      go_wp2_with fail
      go_roundw
      case rel => exact ⟨k + 1, o ++ [48], a1, cap1, by omega, by go_num, by simp, HL.out, hz3, HE.out, HO3.out, HB3.out⟩
      case measure => simp [intOf]; omega
    · have HE := Lib.hid (show xs ++ Rf.dig wd n = o ++ S.data.toList by rw [HD.out, HS.out, ← List.append_assoc, show wd - S.size = k by omega, HF.out])
      go_wp2_with (at_builtin; refine Lib.wpList_append_own_string _ rfl _ _ 43 9 rfl B 5 i0 Tryd.underlying43 Tryd.underlying9 II.out.1 II.out.2.1 II.out.2.2.1 II.out.2.2.2 _ _ _ rfl HO2.out S rfl ?c3 ?c4 ?c5 ?_)
      case c3 => unfold maxLen; omega
      case c4 => omega
      case c5 => omega
      intro v' w2 hown' hgrow _
      have HO3 := Lib.hid (show w2.ownsRow B 5 1 v' (xs ++ Rf.dig wd n).length (Lib.byteCells (xs ++ Rf.dig wd n)) by
        rw [HE.out, List.length_append, show S.data.toList.length = S.size by simp]
        have e : Lib.byteCells (o ++ S.data.toList) = Lib.byteCells o ++ Lib.strCells S := by simp [Lib.byteCells, Lib.strCells]
        rw [e]; exact hown')
      have HB3 := Lib.hid (HB2.out.grown hgrow (by omega) (fun k hk => (HO2.out.lt k hk).1))
      clear hown' hgrow
      go_wp2_with fail
      go_ret
      exact ⟨v', rfl, HO3.out, HB3.out⟩
end Go.Proofs.YtikjehgbfkndjaaDoor.Rp
