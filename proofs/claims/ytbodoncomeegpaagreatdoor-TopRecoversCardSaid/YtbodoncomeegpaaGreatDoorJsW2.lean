import Derived.Test.YtbodoncomeegpaaGreatDoorJsW1
namespace Go.Proofs.YtbodoncomeegpaaGreatDoor.Jw
open Go Go.RowKit Go.Proofs.YtbodoncomeegpaaGreatDoor Go.Proofs.YtbodoncomeegpaaGreatDoor.Tx

theorem ret_strerr {a b : ByteArray} {k : IntKind} {x y : Int} (h : a = b) (g : x = y) : Ending.returned (.tuple #[.string a, .int k x]) = .returned (.tuple #[.string b, .int k y]) := by rw [h, g]
theorem escape_none (c : UInt8) (w : World) (hL : LetTab w) (h : Js.esc c = []) :
    Calls Tryz.prog 153 #[.int .u8 c.toNat] w fun e w' => e = .returned (.string ⟨#[]⟩) ∧ Below w.heap.size w w' := by
  have := escape_any c w hL
  rw [h] at this
  exact this
theorem escape_some (c : UInt8) (x : ByteArray) (w : World) (hL : LetTab w) (h : (⟨(Js.esc c).toArray⟩ : ByteArray) = x) :
    Calls Tryz.prog 153 #[.int .u8 c.toNat] w fun e w' => e = .returned (.string x) ∧ Below w.heap.size w w' := by
  have := escape_any c w hL
  rw [h] at this
  exact this
theorem valid_is (s : ByteArray) (b : Bool) (w : World) (hs : s.size ≤ 9223372036854775807) (hT : Lib.Utf8Tabs 2 3 w) (h : Lib.validD s.data.toList = b) :
    Calls Tryz.prog 131 #[.string s] w fun e w' => e = .returned (.bool b) ∧ Below w.heap.size w w' := by
  rw [← h]; exact Tryz.utf8_ValidString s w hs hT
/-- What is written so far, and what is still to be copied. -/
theorem body_plain (l m : List UInt8) (h : ∀ c ∈ m, Js.esc c = []) : Js.body (l ++ m) = Js.body l ++ m := by
  rw [Js.body_append]
  congr 1
  induction m with
  | nil => rfl
  | cons c m ih =>
    rw [Js.body_cons, ih (fun d hd => h d (by simp [hd]))]
    unfold Js.q
    rw [if_pos (h c (by simp))]; rfl
theorem list_ext_take (s : ByteArray) (f k : Nat) (h : f ≤ k) : s.data.toList.take k = s.data.toList.take f ++ (s.extract f k).data.toList := by
  have : (s.extract f k).data.toList = (s.data.toList.drop f).take (k - f) := by
    simp [ByteArray.data_extract, List.extract_eq_take_drop]
  rw [this]
  have e : k = f + (k - f) := by omega
  rw [e, List.take_add]
  congr 2
  omega
theorem body_step (s : ByteArray) (f k : Nat) (x : ByteArray) (h : f ≤ k) (hk : k < s.size) (hp : ∀ c ∈ (s.extract f k).data.toList, Js.esc c = []) (hx : (⟨(Js.esc s[k]).toArray⟩ : ByteArray) = x) (hne : Js.esc s[k] ≠ []) :
    Lib.byteCells (34 :: Js.body (s.data.toList.take f)) ++ Lib.strCells (s.extract f k ++ x) = Lib.byteCells (34 :: Js.body (s.data.toList.take (k + 1))) := by
  rw [take_snoc s k hk, list_ext_take s f k h, Js.body_append, body_plain _ _ hp, ← hx]
  have : Js.body [s[k]] = Js.esc s[k] := by
    rw [Js.body_cons, Js.body_nil]; unfold Js.q; rw [if_neg hne]; simp
  rw [this]
  simp [Lib.byteCells, Lib.strCells, ByteArray.data_append]
theorem body_end (s : ByteArray) (f : Nat) (h : f ≤ s.size) (hp : ∀ c ∈ (s.extract f s.size).data.toList, Js.esc c = []) :
    Lib.byteCells (34 :: Js.body (s.data.toList.take f)) ++ Lib.strCells (s.extract f s.size ++ ⟨#[34]⟩) = Lib.byteCells (Js.quote s.data.toList) := by
  have e : s.data.toList = s.data.toList.take f ++ (s.extract f s.size).data.toList := by
    have := list_ext_take s f s.size h
    rwa [List.take_of_length_le (by simp)] at this
  unfold Js.quote
  conv => rhs; rw [e, body_plain _ _ hp]
  simp [Lib.byteCells, Lib.strCells, ByteArray.data_append]
theorem plain_snoc (s : ByteArray) (f k : Nat) (h : f ≤ k) (hk : k < s.size) (hp : ∀ c ∈ (s.extract f k).data.toList, Js.esc c = []) (he : Js.esc s[k] = []) : ∀ c ∈ (s.extract f (k + 1)).data.toList, Js.esc c = [] := by
  intro c hc
  have e : ∀ n, (s.extract f n).data.toList = (s.data.toList.drop f).take (n - f) := fun n => by simp [ByteArray.data_extract, List.extract_eq_take_drop]
  rw [e] at hc hp
  rw [show k + 1 - f = (k - f) + 1 by omega, List.take_succ_eq_append_getElem (by simp; omega), List.mem_append] at hc
  rcases hc with hc | hc
  · exact hp c hc
  · simp only [List.mem_singleton, List.getElem_drop] at hc
    have : c = s[k] := by
      rw [hc]
      have : f + (k - f) = k := by omega
      simp only [this]; rfl
    rw [this]; exact he

set_option maxHeartbeats 1000000 in
theorem quote_bad (s : ByteArray) (w : World) (hs : s.size ≤ 1000000000) (hT : Lib.Utf8Tabs 2 3 w) (hv : Lib.validD s.data.toList = false) :
    Calls Tryz.prog 134 #[.string s] w fun e w' => e = .returned (.tuple #[.string ⟨#[]⟩, .int .i64 5]) ∧ Below w.heap.size w w' := by
  have HT := Lib.hid hT
  have HV := Lib.hid hv
  clear hT hv
  go_enter Tryz.func134, Tryz.ntmps134
  go_wp2_with fail
  refine (valid_is s false _ (by omega) HT.out HV.out).mono ?_
  rintro e w1 ⟨rfl, hb⟩
  have HB := Lib.hid hb
  clear hb
  go_wp2_with fail
  go_ret2
  exact ⟨rfl, HB.out⟩
set_option maxRecDepth 100000 in
set_option maxHeartbeats 4000000 in
theorem quote_any (s : ByteArray) (w : World) (hs : s.size ≤ 1000000000) (hT : Lib.Utf8Tabs 2 3 w) (hL : LetTab w) (hv : Lib.validD s.data.toList = true) :
    Calls Tryz.prog 134 #[.string s] w fun e w' => e = .returned (.tuple #[.string ⟨(Js.quote s.data.toList).toArray⟩, .int .i64 0]) ∧ Below w.heap.size w w' := by
  have HT := Lib.hid hT
  have HL := Lib.hid hL
  have HV := Lib.hid hv
  clear hT hL hv
  go_enter Tryz.func134, Tryz.ntmps134
  go_wp2_with fail
  refine (valid_is s true _ (by omega) HT.out HV.out).mono ?_
  rintro e w0 ⟨rfl, hb⟩
  have HB0 := Lib.hid hb
  have hz0 := hb.size
  clear hb
  go_wp2_with fail
  refine (Bld.writeByte w0.heap.size w0.heap.size [] 34 _ (Lib.fresh_isBuilder Bld.TB Bld.TU w0) (by simp) (by rw [alloc_sz]; omega)).mono ?_
  rintro e w1 ⟨rfl, hI1, hb1⟩
  have HI1 := Lib.hid (show Lib.IsBuilder Bld.TB Bld.TU w0.heap.size w0.heap.size (Lib.byteCells (34 :: Js.body (s.data.toList.take 0))) w1 from hI1)
  have HB1 := Lib.hid (((Below.refl w0.heap.size w0).alloc (Nat.le_refl _) _).trans hb1)
  clear hI1 hb1
  go_wp2_with fail
  go_loopw [5, 14] (fun g i wr => ∃ k f : Nat, k ≤ s.size ∧ f ≤ k ∧ i = .int .i64 k ∧ g = .int .i64 f ∧ Hid (∀ c ∈ (s.extract f k).data.toList, Js.esc c = []) ∧ Hid (Lib.IsBuilder Bld.TB Bld.TU w0.heap.size w0.heap.size (Lib.byteCells (34 :: Js.body (s.data.toList.take f))) wr) ∧ Hid (Below w0.heap.size w0 wr)) (fun _ i _ => s.size - (intOf i).toNat)
  case atStart => exact ⟨0, 0, Nat.zero_le _, Nat.le_refl _, rfl, rfl, by intro c hc; simp at hc, HI1.out, HB1.out⟩
  case round =>
    obtain ⟨k, f, hk, hf, rfl, rfl, HP, HI, HB⟩ := hrel
    have hz := HB.out.size
    have HLEN := Lib.hid (show (Lib.byteCells (34 :: Js.body (s.data.toList.take f))).length ≤ 6 * f + 1 by
      have := (Js.body_len (s.data.toList.take f)).2
      have h2 : (s.data.toList.take f).length ≤ f := List.length_take_le _ _
      rw [Lib.byteCells_length, List.length_cons]; omega)
    have HBW := Lib.hid (below_trans HB0.out HB.out)
    by_cases hlt : k < s.size
    · have B0 := UInt8.toNat_lt s[k]
      by_cases he : Js.esc s[k] = []
      · have HN := Lib.hid (plain_snoc s f k hf hlt HP.out he)
        have HE := Lib.hid he
        clear he
        go_wp2_with fail
        refine (escape_none _ _ (HL.out.below HBW.out) HE.out).mono ?_
        rintro e w2 ⟨rfl, hb⟩
        have HB2 := Lib.hid (below_trans HB.out hb)
        have HI2 := Lib.hid (Bld.is_below HI.out hb)
        clear hb
        go_wp2_with fail
        go_roundw
        case rel => exact ⟨k + 1, f, by omega, by omega, by go_num, rfl, HN.out, HI2.out, HB2.out⟩
        case measure => simp [intOf]; omega
      · obtain ⟨x, hx⟩ : ∃ x : ByteArray, (⟨(Js.esc s[k]).toArray⟩ : ByteArray) = x := ⟨_, rfl⟩
        have hx1 : x.size ≤ 6 := by rw [← hx]; exact Js.esc_len _
        have hx2 : x.toList.isEmpty = false := by
          rw [Lib.toList_data, ← hx]
          simpa using he
        have HN := Lib.hid (body_step s f k x hf hlt HP.out hx he)
        have HX := Lib.hid hx
        clear he hx
        go_wp2_with fail
        refine (escape_some _ x _ (HL.out.below HBW.out) HX.out).mono ?_
        rintro e w2 ⟨rfl, hb⟩
        have HB2 := Lib.hid (below_trans HB.out hb)
        have HI2 := Lib.hid (Bld.is_below HI.out hb)
        have hz2 := HB2.out.size
        clear hb
        have hes : (s.extract f k).size ≤ s.size := by simp; omega
        go_wp2_with fail
        refine (Bld.writeString w0.heap.size w0.heap.size (Lib.byteCells (34 :: Js.body (s.data.toList.take f))) _ _ HI2.out (by have := HLEN.out; rw [ByteArray.size_append]; omega) hz2).mono ?_
        rintro e w3 ⟨rfl, hI3, hb3⟩
        rw [HN.out] at hI3
        have HI3 := Lib.hid hI3
        have HB3 := Lib.hid (HB2.out.trans hb3)
        clear hI3 hb3
        go_wp2_with fail
        go_roundw
        case rel => exact ⟨k + 1, k + 1, by omega, by omega, by go_num, by go_num, by intro c hc; simp at hc, HI3.out, HB3.out⟩
        case measure => simp [intOf]; omega
    · obtain rfl : k = s.size := by omega
      have HN := Lib.hid (body_end s f hf HP.out)
      have hes : (s.extract f s.size).size ≤ s.size := by simp
      go_wp2_with fail
      refine (Bld.writeString w0.heap.size w0.heap.size (Lib.byteCells (34 :: Js.body (s.data.toList.take f))) _ _ HI.out (by have := HLEN.out; rw [ByteArray.size_append]; have : (⟨#[34]⟩ : ByteArray).size = 1 := rfl; omega) hz).mono ?_
      rintro e w3 ⟨rfl, hI3, hb3⟩
      rw [HN.out] at hI3
      have HI3 := Lib.hid hI3
      have HB3 := Lib.hid (HB.out.trans hb3)
      have hz3 := HB3.out.size
      clear hI3 hb3
      go_wp2_with fail
      refine (Tryz.Builder_String_any w0.heap.size w0.heap.size (Js.quote s.data.toList) _ HI3.out hz3).mono ?_
      rintro e w4 ⟨rfl, hb4⟩
      have HB4 := Lib.hid (below_trans HB0.out (HB3.out.trans hb4))
      clear hb4
      go_wp2_with fail
      go_ret2
      exact ⟨rfl, HB4.out⟩
end Go.Proofs.YtbodoncomeegpaaGreatDoor.Jw
