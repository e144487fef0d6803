/- text.Collapse over this program; words with a byte between: cut and collapsed. -/
import Derived.Test.YtikjehgbfkndjaaDoorR8W3
import Derived.Test.YtikjehgbfkndjaaDoorTxt2
import Derived.Test.YtikjehgbfkndjaaDoorBld
import Derived.Lib.BufferRead
namespace Go.Proofs.YtikjehgbfkndjaaDoor.Tx
open Go Go.RowKit Go.Proofs.YtikjehgbfkndjaaDoor
set_option linter.unusedVariables false
theorem ret_bool {a b : Bool} (h : a = b) : Ending.returned (.bool a) = .returned (.bool b) := by rw [h]
theorem ret_str {a b : ByteArray} (h : a = b) : Ending.returned (.string a) = .returned (.string b) := by rw [h]
theorem spB_t {c : Int} (h : c = 32 ∨ c = 9 ∨ c = 10 ∨ c = 13) : Txt.spB c = true := decide_eq_true h
theorem spB_f {c : Int} (h : ¬ (c = 32 ∨ c = 9 ∨ c = 10 ∨ c = 13)) : Txt.spB c = false := decide_eq_false h
theorem space_any (c : Int) (w : World) :
    Calls Tryd.prog 45 #[.int .u8 c] w fun e w' => e = .returned (.bool (Txt.spB c)) ∧ w = w' := by
  rcases h1 : (c == 32) with _ | _ <;> rcases h2 : (c == 9) with _ | _ <;> rcases h3 : (c == 10) with _ | _ <;> rcases h4 : (c == 13) with _ | _
  all_goals
    have g1 := h1
    have g2 := h2
    have g3 := h3
    have g4 := h4
    simp at g1 g2 g3 g4
  all_goals try (exfalso; omega)
  all_goals
    first | (have H := Lib.hid (spB_t (c := c) (by omega))) | (have H := Lib.hid (spB_f (c := c) (by omega)))
    clear g1 g2 g3 g4
    go_enter Tryd.func45, Tryd.ntmps45
    go_wp2
    go_ret
    first | exact ⟨ret_bool H.out.symm, rfl⟩ | exact ⟨ret_bool (by rw [H.out]; simp; omega), rfl⟩
theorem take_snoc (s : ByteArray) (k : Nat) (h : k < s.size) : s.data.toList.take (k + 1) = s.data.toList.take k ++ [s[k]] := by
  rw [List.take_succ_eq_append_getElem (by simpa using h)]; rfl
theorem cells_snoc (o : List UInt8) (c : UInt8) : Lib.byteCells o ++ [.int .u8 c.toNat] = Lib.byteCells (o ++ [c]) := by simp [Lib.byteCells]
theorem cells_32 (o : List UInt8) : Lib.byteCells o ++ [.int .u8 32] = Lib.byteCells (o ++ [32]) := by simp [Lib.byteCells]
theorem sp_eq (c : UInt8) : Txt.spB (c.toNat : Int) = Txt.sp c := rfl
theorem gap_len (o : List UInt8) : decide (0 < (Lib.byteCells o).length) = !o.isEmpty := by
  cases o <;> simp [Lib.byteCells]
theorem fold_take_le (s : ByteArray) (k : Nat) : (Txt.cfold (s.data.toList.take k)).1.length ≤ k ∧ ((Txt.cfold (s.data.toList.take k)).2 = true → (Txt.cfold (s.data.toList.take k)).1.length < k) := by
  obtain ⟨_, b, c⟩ := Txt.cfold_length (s.data.toList.take k)
  have : (s.data.toList.take k).length ≤ k := List.length_take_le _ _
  exact ⟨by omega, fun h => by have := b h; omega⟩

set_option maxRecDepth 100000 in
set_option maxHeartbeats 2000000 in
theorem collapse_any (s : ByteArray) (w : World) (hs : s.size ≤ 140737488355327) :
    Calls Tryd.prog 29 #[.string s] w fun e w' => e = .returned (.string ⟨(Txt.collapse s.data.toList).toArray⟩) ∧ Below w.heap.size w w' := by
  go_enter Tryd.func29, Tryd.ntmps29
  go_wp2
  go_loopw [4, 8] (fun g i wr => ∃ (k : Nat) (gb : Bool) (o : List UInt8), k ≤ s.size ∧ i = .int .i64 k ∧ g = .bool gb ∧ Hid (Txt.cfold (s.data.toList.take k) = (o, gb)) ∧ Hid (Lib.IsBuilder Bld.TB Bld.TU w.heap.size w.heap.size (Lib.byteCells o) wr) ∧ Hid (Below w.heap.size w wr)) (fun _ i _ => s.size - (intOf i).toNat)
  case atStart => exact ⟨0, false, [], Nat.zero_le _, rfl, rfl, rfl, Lib.fresh_isBuilder Bld.TB Bld.TU w, (Below.refl _ _).alloc (Nat.le_refl _) _⟩
  case round =>
    obtain ⟨k, gb, o, hk, rfl, rfl, HF, HI, HB⟩ := hrel
    have hz := HB.out.size
    have hle := fold_take_le s k
    rw [HF.out] at hle
    obtain ⟨hl1, hl2⟩ := hle
    simp only at hl1 hl2
    have hcl : (Lib.byteCells o).length = o.length := Lib.byteCells_length o
    have HCL := Lib.hid hcl
    clear hcl
    by_cases hlt : k < s.size
    · have B0 := UInt8.toNat_lt s[k]
      have HS := Lib.hid (take_snoc s k hlt)
      rcases hc : Txt.sp s[k] with _ | _
      · have hcb : Txt.spB (s[k].toNat : Int) = false := hc
        cases gb with
        | false =>
          have HE := Lib.hid (show Txt.cfold (s.data.toList.take (k + 1)) = (o ++ [s[k]], false) by rw [HS.out, Txt.cfold_snoc, HF.out, Txt.cst_no hc]; rfl)
          clear hl2 hc
          go_wp2_with fail
          refine (space_any _ _).mono ?_
          rintro e w' ⟨rfl, rfl⟩
          go_wp2_with fail
          refine (Bld.writeByte w.heap.size w.heap.size (Lib.byteCells o) _ _ HI.out (by rw [HCL.out]; omega) hz).mono ?_
          rintro e w1 ⟨rfl, hI1, hb1⟩
          have HI1 := Lib.hid (show Lib.IsBuilder Bld.TB Bld.TU w.heap.size w.heap.size (Lib.byteCells (o ++ [s[k]])) w1 by rw [← cells_snoc]; exact hI1)
          have HB1 := Lib.hid (HB.out.trans hb1)
          clear hI1 hb1
          go_wp2_with fail
          go_roundw
          case rel => exact ⟨k + 1, false, o ++ [s[k]], by omega, by go_num, rfl, HE.out, HI1.out, HB1.out⟩
          case measure => simp [intOf]; omega
        | true =>
          have hl3 := hl2 rfl
          have HE := Lib.hid (show Txt.cfold (s.data.toList.take (k + 1)) = (o ++ [32] ++ [s[k]], false) by rw [HS.out, Txt.cfold_snoc, HF.out, Txt.cst_no hc]; rfl)
          clear hl2 hc
          go_wp2_with fail
          refine (space_any _ _).mono ?_
          rintro e w' ⟨rfl, rfl⟩
          go_wp2_with fail
          refine (Bld.writeByte w.heap.size w.heap.size (Lib.byteCells o) _ _ HI.out (by rw [HCL.out]; omega) hz).mono ?_
          rintro e w1 ⟨rfl, hI1, hb1⟩
          have HI1 := Lib.hid (show Lib.IsBuilder Bld.TB Bld.TU w.heap.size w.heap.size (Lib.byteCells (o ++ [32])) w1 by rw [← cells_32]; exact hI1)
          have HB1 := Lib.hid (HB.out.trans hb1)
          have hz1 := HB1.out.size
          clear hI1 hb1
          go_wp2_with fail
          refine (Bld.writeByte w.heap.size w.heap.size (Lib.byteCells (o ++ [32])) _ _ HI1.out (by rw [Lib.byteCells_length]; simp; omega) hz1).mono ?_
          rintro e w2 ⟨rfl, hI2, hb2⟩
          have HI2 := Lib.hid (show Lib.IsBuilder Bld.TB Bld.TU w.heap.size w.heap.size (Lib.byteCells (o ++ [32] ++ [s[k]])) w2 by rw [← cells_snoc]; exact hI2)
          have HB2 := Lib.hid (HB1.out.trans hb2)
          clear hI2 hb2
          go_wp2_with fail
          go_roundw
          case rel => exact ⟨k + 1, false, o ++ [32] ++ [s[k]], by omega, by go_num, rfl, HE.out, HI2.out, HB2.out⟩
          case measure => simp [intOf]; omega
      · have hcb : Txt.spB (s[k].toNat : Int) = true := hc
        have HE := Lib.hid (show Txt.cfold (s.data.toList.take (k + 1)) = (o, !o.isEmpty) by rw [HS.out, Txt.cfold_snoc, HF.out, Txt.cst_sp hc])
        have HG := Lib.hid (gap_len o)
        clear hl2 hc
        go_wp2_with fail
        refine (space_any _ _).mono ?_
        rintro e w' ⟨rfl, rfl⟩
        go_wp2_with fail
        refine (Tryd.Builder_Len w.heap.size w.heap.size (Lib.byteCells o) _ HI.out).mono ?_
        rintro e w' ⟨rfl, rfl⟩
        go_wp2_with fail
        go_roundw
        case rel => exact ⟨k + 1, !o.isEmpty, o, by omega, by go_num, by first | rw [← HG.out] | (rw [← HG.out]; simp), HE.out, HI.out, HB.out⟩
        case measure => simp [intOf]; omega
    · obtain rfl : k = s.size := by omega
      have HE := Lib.hid (show o = Txt.collapse s.data.toList by
        have := HF.out
        rw [List.take_of_length_le (by simp)] at this
        unfold Txt.collapse; rw [this])
      clear hl2
      go_wp2_with fail
      refine (Tryd.Builder_String_any w.heap.size w.heap.size o _ HI.out hz).mono ?_
      rintro e w1 ⟨rfl, hb1⟩
      have HB1 := Lib.hid (HB.out.trans hb1)
      clear hb1
      go_wp2_with fail
      go_ret
      exact ⟨ret_str (by rw [HE.out]), HB1.out⟩

end Go.Proofs.YtikjehgbfkndjaaDoor.Tx
namespace Go.Proofs.YtikjehgbfkndjaaDoor.R8
open Go Go.RowKit Go.Proofs.YtikjehgbfkndjaaDoor Go.Proofs.YtikjehgbfkndjaaDoor.Bs
set_option linter.unusedVariables false

/-! ### words with a byte between -/
def joinC (c : UInt8) : List (List UInt8) → List UInt8
  | [] => []
  | [w] => w
  | w :: v :: r => w ++ c :: joinC c (v :: r)
theorem join_split (c : UInt8) : ∀ (ws : List (List UInt8)) (s : ByteArray), ws ≠ [] → (∀ w ∈ ws, ∀ x ∈ w, x ≠ c) → joinC c ws = s.data.toList → Lib.splitB ⟨#[c]⟩ 0 (ws.length - 1) s = ws.map str
  | [], _, h, _, _ => absurd rfl h
  | [w], s, _, hn, hs => by
    have e : s = str w := ba_eq hs.symm
    subst e
    exact split_last c (str w) 0 (hn w (by simp))
  | w :: v :: r, s, _, hn, hs => by
    have e : (w :: v :: r).length - 1 = ((v :: r).length - 1) + 1 := by simp
    rw [e, split_one c w (joinC c (v :: r)) s (str w) (str (joinC c (v :: r))) _ hs.symm (hn w (by simp)) rfl rfl]
    rw [join_split c (v :: r) (str (joinC c (v :: r))) (by simp) (fun w' h => hn w' (by simp at h ⊢; right; exact h)) rfl]
    rfl
theorem join_count (c : UInt8) : ∀ (ws : List (List UInt8)), ws ≠ [] → (∀ w ∈ ws, ∀ x ∈ w, x ≠ c) → (joinC c ws).count c = ws.length - 1
  | [], h, _ => absurd rfl h
  | [w], _, hn => cnt_no w c (hn w (by simp))
  | w :: v :: r, _, hn => by
    have ih := join_count c (v :: r) (by simp) (fun w' h => hn w' (by simp at h ⊢; right; exact h))
    simp only [joinC, List.count_append, List.count_cons, cnt_no w c (hn w (by simp)), ih]
    simp
theorem fold_word : ∀ (w : List UInt8) (o : List UInt8), (∀ x ∈ w, Txt.sp x = false) → w.foldl Txt.cst (o, false) = (o ++ w, false)
  | [], o, _ => by simp
  | x :: w, o, h => by
    rw [List.foldl_cons, Txt.cst_no (h x (by simp))]
    simp only [Bool.false_eq_true, if_false]
    rw [fold_word w (o ++ [x]) (fun y hy => h y (by simp [hy]))]
    simp
theorem fold_gap (w o : List UInt8) (hw : w ≠ []) (h : ∀ x ∈ w, Txt.sp x = false) : w.foldl Txt.cst (o, true) = (o ++ 32 :: w, false) := by
  cases w with
  | nil => exact absurd rfl hw
  | cons x w =>
    rw [List.foldl_cons, Txt.cst_no (h x (by simp))]
    simp only [if_true]
    rw [fold_word w _ (fun y hy => h y (by simp [hy]))]
    simp
theorem fold_join : ∀ (ws : List (List UInt8)) (o : List UInt8), (o = [] → False) → (∀ w ∈ ws, w ≠ [] ∧ ∀ x ∈ w, Txt.sp x = false) → ws ≠ [] → (32 :: joinC 32 ws).foldl Txt.cst (o, false) = (o ++ 32 :: joinC 32 ws, false)
  | [], _, _, _, h => absurd rfl h
  | [w], o, ho, hn, _ => by
    rw [List.foldl_cons, Txt.cst_sp (by decide)]
    have e : (!o.isEmpty) = true := by cases o with | nil => exact (ho rfl).elim | cons _ _ => rfl
    rw [e]
    exact fold_gap w o (hn w (by simp)).1 (hn w (by simp)).2
  | w :: v :: r, o, ho, hn, _ => by
    rw [List.foldl_cons, Txt.cst_sp (by decide)]
    have e : (!o.isEmpty) = true := by cases o with | nil => exact (ho rfl).elim | cons _ _ => rfl
    rw [e]
    show (w ++ 32 :: joinC 32 (v :: r)).foldl Txt.cst (o, true) = _
    rw [List.foldl_append, fold_gap w o (hn w (by simp)).1 (hn w (by simp)).2, fold_join (v :: r) (o ++ 32 :: w) (by simp) (fun w' h => hn w' (by simp at h ⊢; right; exact h)) (by simp)]
    simp [joinC]
theorem collapse_join (ws : List (List UInt8)) (hn : ∀ w ∈ ws, w ≠ [] ∧ ∀ x ∈ w, Txt.sp x = false) (h : ws ≠ []) : Txt.collapse (joinC 32 ws) = joinC 32 ws := by
  unfold Txt.collapse Txt.cfold
  match ws, h, hn with
  | [w], _, hn => show (w.foldl Txt.cst ([], false)).1 = w; rw [fold_word w [] (hn w (by simp)).2]; simp
  | w :: v :: r, _, hn =>
    show ((w ++ 32 :: joinC 32 (v :: r)).foldl Txt.cst ([], false)).1 = _
    rw [List.foldl_append, fold_word w [] (hn w (by simp)).2, fold_join (v :: r) _ (by have := (hn w (by simp)).1; simpa using this) (fun w' h => hn w' (by simp at h ⊢; right; exact h)) (by simp)]
    simp [joinC]

/-! ### the words of a date -/
def words (w y m d h mi s : Nat) : List (List UInt8) := [up (dayL.getD w []) ++ [44], Rf.dig 2 d, up (monL.getD (m - 1) []), Rf.dig 4 y, clk h mi s, [71, 77, 84]]
theorem text_words (w y m d h mi s : Nat) : text w y m d h mi s = joinC 32 (words w y m d h mi s) := by
  simp [text, words, joinC]
theorem sp_dig {c : UInt8} (h : Rf.isD c = true) : Txt.sp c = false ∧ c ≠ 32 := by
  have := Rf.isD_iff.1 h
  constructor
  · unfold Txt.sp Txt.spB
    simp
    omega
  · intro e; subst e; exact absurd this.1 (by decide)
theorem dig_mem (w n : Nat) (h : n < 10 ^ w) : ∀ x ∈ Rf.dig w n, Rf.isD x = true := by
  intro x hx
  obtain ⟨j, hj, hj2⟩ := List.getElem_of_mem hx
  have hl := Rf.dig_len w n
  have h1 := dig_isD w n j h (by omega)
  rw [List.getD_eq_getElem?_getD, List.getElem?_eq_getElem hj, Option.getD_some, hj2] at h1
  exact h1
theorem day_clean (w : Nat) (h : w < 7) : ∀ x ∈ up (dayL.getD w []) ++ [44], Txt.sp x = false ∧ x ≠ 32 := by
  have : ∀ i : Fin 7, ∀ x ∈ up (dayL.getD i.val []) ++ [44], Txt.sp x = false ∧ x ≠ 32 := by decide
  exact this ⟨w, h⟩
theorem mon_clean (w : Nat) (h : w < 12) : up (monL.getD w []) ≠ [] ∧ ∀ x ∈ up (monL.getD w []), Txt.sp x = false ∧ x ≠ 32 := by
  have : ∀ i : Fin 12, up (monL.getD i.val []) ≠ [] ∧ ∀ x ∈ up (monL.getD i.val []), Txt.sp x = false ∧ x ≠ 32 := by decide
  exact this ⟨w, h⟩
theorem clk_clean (h mi s : Nat) (hh : h < 100) (hm : mi < 100) (hs : s < 100) : ∀ x ∈ clk h mi s, Txt.sp x = false ∧ x ≠ 32 := by
  intro x hx
  simp only [clk, List.mem_append, List.mem_cons] at hx
  rcases hx with hx | hx | hx | hx | hx
  · exact sp_dig (dig_mem 2 h hh x hx)
  · subst hx; decide
  · exact sp_dig (dig_mem 2 mi hm x hx)
  · subst hx; decide
  · exact sp_dig (dig_mem 2 s hs x hx)
theorem words_clean (w y m d h mi s : Nat) (hw : w < 7) (hy : y ≤ 9999) (hm : 1 ≤ m) (hm2 : m ≤ 12) (hd : d < 100) (hh : h < 100) (hmi : mi < 100) (hs : s < 100) :
    ∀ v ∈ words w y m d h mi s, v ≠ [] ∧ ∀ x ∈ v, Txt.sp x = false ∧ x ≠ 32 := by
  intro v hv
  simp only [words, List.mem_cons, List.not_mem_nil, or_false] at hv
  rcases hv with rfl | rfl | rfl | rfl | rfl | rfl
  · exact ⟨by simp, day_clean w hw⟩
  · exact ⟨(fun e => by have := congrArg List.length e; rw [Rf.dig_len] at this; exact absurd this (by decide)), fun x hx => sp_dig (dig_mem 2 d hd x hx)⟩
  · exact mon_clean (m - 1) (by omega)
  · exact ⟨(fun e => by have := congrArg List.length e; rw [Rf.dig_len] at this; exact absurd this (by decide)), fun x hx => sp_dig (dig_mem 4 y (by omega) x hx)⟩
  · exact ⟨by simp [clk], clk_clean h mi s hh hmi hs⟩
  · exact ⟨by simp, by decide⟩
end Go.Proofs.YtikjehgbfkndjaaDoor.R8
