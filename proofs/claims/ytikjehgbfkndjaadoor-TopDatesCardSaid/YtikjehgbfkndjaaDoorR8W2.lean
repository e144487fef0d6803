/- Walks of rfc822: weekday, month, year, zone; strings.Split at one byte. -/
import Derived.Test.YtikjehgbfkndjaaDoorR8W1
import Derived.Lib.SplitLaws
import Derived.Lib.CountLaws
namespace Go.Proofs.YtikjehgbfkndjaaDoor.R8
open Go Go.RowKit Go.Proofs.YtikjehgbfkndjaaDoor Go.Proofs.YtikjehgbfkndjaaDoor.Bs
set_option linter.unusedVariables false

/-! ### the tables of names -/
def str (l : List UInt8) : ByteArray := ⟨l.toArray⟩
theorem str_list (l : List UInt8) : (str l).data.toList = l := rfl
def dayArr : Array Value := (dayL.map fun l => Value.string (str l)).toArray
def monArr : Array Value := (monL.map fun l => Value.string (str l)).toArray
def DayTab (w : World) : Prop := ∃ t fr, w.heap[0]? = some (.cells dayArr t fr)
def MonTab (w : World) : Prop := ∃ t fr, w.heap[1]? = some (.cells monArr t fr)
theorem DayTab.below {w w' : World} (h : DayTab w) (hb : Below w.heap.size w w') : DayTab w' := by
  obtain ⟨t, fr, h1⟩ := h
  exact ⟨t, fr, heap_below hb h1⟩
theorem MonTab.below {w w' : World} (h : MonTab w) (hb : Below w.heap.size w w') : MonTab w' := by
  obtain ⟨t, fr, h1⟩ := h
  exact ⟨t, fr, heap_below hb h1⟩
theorem idx_day (i : Nat) (h : i < 7) (w : World) : (Instr.index 30 (.agg dayArr) (.int .i64 i)).run Tryd.prog w = .ok (.string (str (dayL.getD i []))) w := by
  have e : i = 0 ∨ i = 1 ∨ i = 2 ∨ i = 3 ∨ i = 4 ∨ i = 5 ∨ i = 6 := by omega
  rcases e with rfl | rfl | rfl | rfl | rfl | rfl | rfl
  all_goals
    change _ = _
    kernel_rfl
theorem idx_mon (i : Nat) (h : i < 12) (w : World) : (Instr.index 50 (.agg monArr) (.int .i64 i)).run Tryd.prog w = .ok (.string (str (monL.getD i []))) w := by
  have e : i = 0 ∨ i = 1 ∨ i = 2 ∨ i = 3 ∨ i = 4 ∨ i = 5 ∨ i = 6 ∨ i = 7 ∨ i = 8 ∨ i = 9 ∨ i = 10 ∨ i = 11 := by omega
  rcases e with rfl | rfl | rfl | rfl | rfl | rfl | rfl | rfl | rfl | rfl | rfl | rfl
  all_goals
    change _ = _
    kernel_rfl
set_option maxRecDepth 100000 in
set_option maxHeartbeats 4000000 in
theorem weekday_is (P : ByteArray) (d : Nat) (W : World) (hd : d < 7) (hD : DayTab W) (hP : up (dayL.getD d []) ++ [44] = P.data.toList) :
    Calls Tryd.prog 30 #[.string P] W fun e w' => e = .returned (.bool true) ∧ Below W.heap.size W w' := by
  obtain ⟨tt, fr, hst⟩ := hD
  obtain ⟨T, hT⟩ : ∃ T, T = str (dayL.getD d [] ++ [44]) := ⟨_, rfl⟩
  have HLW := Lib.hid (show low P.data.toList = T.data.toList by rw [← hP, day_word d hd, hT, str_list])
  have hps : P.size ≤ 1000 := by
    obtain ⟨x, y, z, _, _, h, _⟩ := day_three d hd
    have := congrArg List.length hP
    rw [h] at this
    simp at this
    omega
  have HTL := Lib.hid (show T.toList = dayL.getD d [] ++ [44] by rw [Lib.toList_data, hT, str_list])
  clear hP hT
  go_enter Tryd.func30, Tryd.ntmps30
  go_wp2_with (refine wpList_load_row rfl 30 _ rfl 0 rfl tt dayArr fr _ hst Tryd.underlying30 rfl (by kernel_rfl) ?_)
  clear hst
  go_loopw [6] (fun c wr => ∃ i : Nat, i ≤ d ∧ c = .int .i64 i ∧ Hid (Below W.heap.size W wr)) (fun c _ => (7 - intOf c).toNat)
  case atStart => exact ⟨0, Nat.zero_le _, rfl, Below.refl _ _⟩
  case round =>
    obtain ⟨i, hi, rfl, HB⟩ := hrel
    have hi7 : i < 7 := by omega
    have hix := idx_day i hi7
    obtain ⟨D, hDD⟩ : ∃ D, str (dayL.getD i []) = D := ⟨_, rfl⟩
    rw [hDD] at hix
    have hDs : D.size ≤ 3 := by
      obtain ⟨x, y, z, h, _⟩ := day_three i hi7
      rw [← hDD, h]; exact Nat.le_refl 3
    have hDl : (D ++ (⟨#[44]⟩ : ByteArray)).toList = dayL.getD i [] ++ [44] := by
      rw [Lib.toList_data, toList_append, ← hDD, str_list]
    by_cases hid : i = d
    · subst hid
      have geq : (T.toList == (D ++ (⟨#[44]⟩ : ByteArray)).toList) = true := by rw [HTL.out, hDl]; simp
      clear hDD hDl
      go_wp2_with fail
      refine (lower_is P T _ hps HLW.out).mono ?_
      rintro e w2 ⟨rfl, hb⟩
      have HB2 := Lib.hid (below_trans HB.out hb)
      clear hb
      go_wp2_with fail
      go_ret
      exact ⟨rfl, HB2.out⟩
    · have geq : (T.toList == (D ++ (⟨#[44]⟩ : ByteArray)).toList) = false := by rw [HTL.out, hDl]; exact day_ne d i hd (by omega)
      clear hDD hDl
      go_wp2_with fail
      refine (lower_is P T _ hps HLW.out).mono ?_
      rintro e w2 ⟨rfl, hb⟩
      have HB2 := Lib.hid (below_trans HB.out hb)
      clear hb
      go_wp2_with fail
      go_roundw
      case rel => exact ⟨i + 1, by omega, by go_num, HB2.out⟩
      case measure => simp [intOf]; omega
set_option maxRecDepth 100000 in
set_option maxHeartbeats 4000000 in
theorem month_is (P : ByteArray) (d : Nat) (W : World) (hd : d < 12) (hD : MonTab W) (hP : up (monL.getD d []) = P.data.toList) :
    Calls Tryd.prog 31 #[.string P] W fun e w' => e = .returned (.tuple #[.int .i64 ((d : Int) + 1), .bool true]) ∧ Below W.heap.size W w' := by
  obtain ⟨tt, fr, hst⟩ := hD
  obtain ⟨T, hT⟩ : ∃ T, T = str (monL.getD d []) := ⟨_, rfl⟩
  have HLW := Lib.hid (show low P.data.toList = T.data.toList by rw [← hP, mon_word d hd, hT, str_list])
  have hps : P.size ≤ 1000 := by
    obtain ⟨x, y, z, _, _, h, _⟩ := mon_three d hd
    have := congrArg List.length hP
    rw [h] at this
    simp at this
    omega
  have HTL := Lib.hid (show T.toList = monL.getD d [] by rw [Lib.toList_data, hT, str_list])
  clear hP hT
  go_enter Tryd.func31, Tryd.ntmps31
  go_wp2_with (refine wpList_load_row rfl 50 _ rfl 1 rfl tt monArr fr _ hst Tryd.underlying50 rfl (by kernel_rfl) ?_)
  clear hst
  go_loopw [7] (fun c wr => ∃ i : Nat, i ≤ d ∧ c = .int .i64 i ∧ Hid (Below W.heap.size W wr)) (fun c _ => (12 - intOf c).toNat)
  case atStart => exact ⟨0, Nat.zero_le _, rfl, Below.refl _ _⟩
  case round =>
    obtain ⟨i, hi, rfl, HB⟩ := hrel
    have hi7 : i < 12 := by omega
    have hix := idx_mon i hi7
    obtain ⟨D, hDD⟩ : ∃ D, str (monL.getD i []) = D := ⟨_, rfl⟩
    rw [hDD] at hix
    have hDl : D.toList = monL.getD i [] := by rw [Lib.toList_data, ← hDD, str_list]
    by_cases hid : i = d
    · subst hid
      have geq : (T.toList == D.toList) = true := by rw [HTL.out, hDl]; simp
      clear hDD hDl
      go_wp2_with fail
      refine (lower_is P T _ hps HLW.out).mono ?_
      rintro e w2 ⟨rfl, hb⟩
      have HB2 := Lib.hid (below_trans HB.out hb)
      clear hb
      go_wp2_with fail
      go_ret2
      exact ⟨rfl, HB2.out⟩
    · have geq : (T.toList == D.toList) = false := by rw [HTL.out, hDl]; exact mon_ne d i hd (by omega)
      clear hDD hDl
      go_wp2_with fail
      refine (lower_is P T _ hps HLW.out).mono ?_
      rintro e w2 ⟨rfl, hb⟩
      have HB2 := Lib.hid (below_trans HB.out hb)
      clear hb
      go_wp2_with fail
      go_roundw
      case rel => exact ⟨i + 1, by omega, by go_num, HB2.out⟩
      case measure => simp [intOf]; omega
set_option maxRecDepth 100000 in
set_option maxHeartbeats 4000000 in
theorem year_is (P : ByteArray) (y : Nat) (W : World) (hy : y ≤ 9999) (hP : Rf.dig 4 y = P.data.toList) :
    Calls Tryd.prog 32 #[.string P] W fun e w' => e = .returned (.tuple #[.int .i64 y, .bool true]) ∧ Below W.heap.size W w' := by
  have hs : P.size = 4 := by have := congrArg List.length hP; rw [Rf.dig_len] at this; simpa using this.symm
  have g3 : ((P.size : Int) == 3) = false := by rw [hs]; rfl
  have g4 : ((P.size : Int) == 4) = true := by rw [hs]; rfl
  have HP := Lib.hid hP
  clear hP hs
  go_enter Tryd.func32, Tryd.ntmps32
  go_wp2_with fail
  refine (number_is P 4 y 2 4 _ _ rfl rfl _ (by decide) (by decide) (by decide) (by decide) (by decide) (by omega) HP.out).mono ?_
  rintro e w1 ⟨rfl, hb⟩
  have HB := Lib.hid hb
  clear hb
  go_wp2_with fail
  go_ret2
  exact ⟨rfl, HB.out⟩

/-! ### strings.Split at one byte -/
theorem index_at : ∀ (p r : List UInt8) (c : UInt8), (∀ x ∈ p, x ≠ c) → Lib.indexByte (p ++ c :: r) c = p.length
  | [], r, c, _ => by simp [Lib.indexByte]
  | a :: p, r, c, h => by
    have ih := index_at p r c (fun x hx => h x (by simp [hx]))
    have ha : a ≠ c := h a (by simp)
    simp only [List.cons_append, Lib.indexByte, ih]
    simp [ha]
theorem index_miss : ∀ (p : List UInt8) (c : UInt8), (∀ x ∈ p, x ≠ c) → Lib.indexByte p c = -1
  | [], c, _ => rfl
  | a :: p, c, h => by
    have ih := index_miss p c (fun x hx => h x (by simp [hx]))
    have ha : a ≠ c := h a (by simp)
    simp only [Lib.indexByte, ih]
    simp [ha]
theorem split_one (c : UInt8) (p r : List UInt8) (s P R : ByteArray) (k : Nat) (hs : s.data.toList = p ++ c :: r) (hp : ∀ x ∈ p, x ≠ c) (hP : p = P.data.toList) (hR : r = R.data.toList) : Lib.splitB ⟨#[c]⟩ 0 (k + 1) s = P :: Lib.splitB ⟨#[c]⟩ 0 k R := by
  have hi : Lib.indexB s ⟨#[c]⟩ = p.length := by
    show Lib.index s.data.toList [c] = _
    rw [Lib.index_one, hs, index_at p r c hp]
  rw [Lib.splitB_hit _ _ _ _ _ hi]
  have e1 : s.extract 0 (p.length + 0) = P := by
    apply ba_eq
    rw [take_ext, hs, Nat.add_zero, List.take_left, hP]
  have e2 : s.extract (p.length + (⟨#[c]⟩ : ByteArray).size) s.size = R := by
    apply ba_eq
    rw [drop_ext, hs, ← hR]
    show List.drop (p.length + 1) _ = _
    rw [show p ++ c :: r = (p ++ [c]) ++ r by simp, show p.length + 1 = (p ++ [c]).length by simp, List.drop_left]
  rw [e1, e2]
theorem split_last (c : UInt8) (P : ByteArray) (k : Nat) (hp : ∀ x ∈ P.data.toList, x ≠ c) : Lib.splitB ⟨#[c]⟩ 0 k P = [P] := by
  apply Lib.splitB_miss
  show Lib.index P.data.toList [c] = -1
  rw [Lib.index_one, index_miss _ c hp]
theorem countB_one (s : ByteArray) (c : UInt8) : Lib.countB s ⟨#[c]⟩ = s.data.toList.count c := by
  show Lib.count s.data.toList [c] = _
  exact Lib.count_one c _
theorem infoS : (Tryd.prog.info? 9).map (fun i => (i.zero, i.size, i.bytes)) = some (some (.string ByteArray.empty), 1, 16) := by kernel_rfl
end Go.Proofs.YtikjehgbfkndjaaDoor.R8
