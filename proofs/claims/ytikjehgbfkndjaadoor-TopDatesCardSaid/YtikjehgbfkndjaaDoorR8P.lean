/- rfc822.Parse over the text that Format writes. -/
import Derived.Test.YtikjehgbfkndjaaDoorR8C
import Derived.Test.YtikjehgbfkndjaaDoorRfW7
namespace Go.Proofs.YtikjehgbfkndjaaDoor.R8
open Go Go.RowKit Go.Proofs.YtikjehgbfkndjaaDoor Go.Proofs.YtikjehgbfkndjaaDoor.Bs
set_option linter.unusedVariables false

def wArr (ws : List ByteArray) : Array Value := (ws.map Value.string).toArray
theorem wCell (w : World) (S : Nat) (A B C D E F : ByteArray) (h : w.heap[S]? = some (.cells #[.string A, .string B, .string C, .string D, .string E, .string F] 9 (0, 0))) :
    w.cell? ⟨S, 0, none⟩ = some (.string A) ∧ w.cell? ⟨S, 1, none⟩ = some (.string B) ∧ w.cell? ⟨S, 2, none⟩ = some (.string C) ∧ w.cell? ⟨S, 3, none⟩ = some (.string D) ∧ w.cell? ⟨S, 4, none⟩ = some (.string E) ∧ w.cell? ⟨S, 5, none⟩ = some (.string F) := by
  unfold World.cell?
  simp only [h]
  exact ⟨rfl, rfl, rfl, rfl, rfl, rfl⟩
set_option maxRecDepth 100000 in
set_option maxHeartbeats 8000000 in
theorem parse8_is (P : ByteArray) (w y m d h mi s : Nat) (T : Int) (W : World) (hw : w < 7) (hy : y ≤ 9999) (hm : 1 ≤ m) (hm2 : m ≤ 12) (hd : d < 100) (hh : h < 100) (hmi : mi < 100) (hs : s < 100)
    (hD : DayTab W) (hM : MonTab W) (hL : MaxLen W) (hP : text w y m d h mi s = P.data.toList) (hT : Rf.secV y m d h mi s = (T, 0)) (t1 : -62135596800 ≤ T) (t2 : T ≤ 253402300799) :
    Calls Tryd.prog 14 #[.string P] W fun e w' => e = .returned (.tuple #[.int .i64 T, .int .i64 0]) ∧ Below W.heap.size W w' := by
  have hcl := words_clean w y m d h mi s hw hy hm hm2 hd hh hmi hs
  have hj := text_words w y m d h mi s
  have HCO := Lib.hid (show (⟨(Txt.collapse P.data.toList).toArray⟩ : ByteArray) = P by
    rw [← hP, hj, collapse_join _ (fun v hv => ⟨(hcl v hv).1, fun x hx => ((hcl v hv).2 x hx).1⟩) (by simp [words]), ← hj, hP])
  have HSP := Lib.hid (show Lib.splitB ⟨#[32]⟩ 0 5 P = (words w y m d h mi s).map str from join_split 32 (words w y m d h mi s) P (by simp [words]) (fun v hv x hx => ((hcl v hv).2 x hx).2) (by rw [← hj, hP]))
  have HCN := Lib.hid (show Lib.countB P ⟨#[32]⟩ = 5 by
    rw [countB_one, ← hP, hj, join_count 32 _ (by simp [words]) (fun v hv x hx => ((hcl v hv).2 x hx).2)]; rfl)
  have hps : P.size ≤ 1000 := by
    obtain ⟨x1, y1, z1, _, _, e1, _⟩ := day_three w hw
    obtain ⟨x2, y2, z2, _, _, e2, _⟩ := mon_three (m - 1) (by omega)
    have := congrArg List.length hP
    simp only [text, e1, e2, clk, List.length_append, List.length_cons, List.length_nil, Rf.dig_len] at this
    have h2 : P.data.toList.length = P.size := by simp
    omega
  clear hcl hj hP
  obtain ⟨A, hA⟩ : ∃ A, str (up (dayL.getD w []) ++ [44]) = A := ⟨_, rfl⟩
  obtain ⟨B, hB⟩ : ∃ A, str (Rf.dig 2 d) = A := ⟨_, rfl⟩
  obtain ⟨C, hC⟩ : ∃ A, str (up (monL.getD (m - 1) [])) = A := ⟨_, rfl⟩
  obtain ⟨D, hDD⟩ : ∃ A, str (Rf.dig 4 y) = A := ⟨_, rfl⟩
  obtain ⟨E, hE⟩ : ∃ A, str (clk h mi s) = A := ⟨_, rfl⟩
  obtain ⟨F, hF⟩ : ∃ A, str [71, 77, 84] = A := ⟨_, rfl⟩
  have hSP2 := HSP.out
  simp only [words, List.map_cons, List.map_nil, hA, hB, hC, hDD, hE, hF] at hSP2
  have HSP2 := Lib.hid hSP2
  have XA := Lib.hid (congrArg (fun (x : ByteArray) => x.data.toList) hA)
  have XB := Lib.hid (congrArg (fun (x : ByteArray) => x.data.toList) hB)
  have XC := Lib.hid (congrArg (fun (x : ByteArray) => x.data.toList) hC)
  have XD := Lib.hid (congrArg (fun (x : ByteArray) => x.data.toList) hDD)
  have XE := Lib.hid (congrArg (fun (x : ByteArray) => x.data.toList) hE)
  have XF := Lib.hid (show F = ⟨#[71, 77, 84]⟩ from hF.symm)
  have HT := Lib.hid (show Rf.secV y (((m - 1 : Nat) : Int) + 1) d h mi s = (T, 0) by rw [show ((m - 1 : Nat) : Int) + 1 = m by omega]; exact hT)
  clear hSP2 hA hB hC hDD hE hF HSP hT
  have HD := Lib.hid hD
  have HM := Lib.hid hM
  have HL := Lib.hid hL
  clear hD hM hL
  go_enter Tryd.func14, Tryd.ntmps14
  go_wp2_with fail
  refine (Tx.collapse_any P _ (by omega)).mono ?_
  rintro e w1 ⟨rfl, hb⟩
  rw [HCO.out]
  have HB1 := Lib.hid hb
  obtain ⟨mx, hml⟩ := HL.out.below hb
  clear hb
  go_wp2_with fail
  refine (Tryd.strings_Split P ⟨#[32]⟩ mx w1 (by omega) hml (by decide)).mono ?_
  rintro e w2 ⟨rfl, hw2⟩
  rw [HCN.out, HSP2.out] at hw2
  have hS := heap_alloc_new w1 (.cells #[.string A, .string B, .string C, .string D, .string E, .string F] 9 (0, 0))
  have HS2 := Lib.hid (show w2.heap[w1.heap.size]? = some (.cells #[.string A, .string B, .string C, .string D, .string E, .string F] 9 (0, 0)) by rw [hw2]; exact hS)
  have HB2 := Lib.hid (show Below W.heap.size W w2 by rw [hw2]; exact HB1.out.alloc HB1.out.size _)
  rw [HCN.out]
  generalize w1.heap.size = S at HS2 ⊢
  clear hw2 hS hml
  obtain ⟨c0, -, -, -, -, -⟩ := wCell w2 S _ _ _ _ _ _ HS2.out
  go_wp2_with fail
  refine (weekday_is A w _ hw (HD.out.below HB2.out) XA.out).mono ?_
  rintro e w3 ⟨rfl, hb⟩
  have HB3 := Lib.hid (below_trans HB2.out hb)
  have HS3 := Lib.hid (heap_below hb HS2.out)
  clear hb c0
  obtain ⟨-, c1, -, -, -, -⟩ := wCell w3 S _ _ _ _ _ _ HS3.out
  go_wp2_with fail
  refine (number_is B 2 d 1 2 _ _ rfl rfl _ (by decide) (by decide) (by decide) (by decide) (by decide) hd XB.out).mono ?_
  rintro e w4 ⟨rfl, hb⟩
  have HB4 := Lib.hid (below_trans HB3.out hb)
  have HS4 := Lib.hid (heap_below hb HS3.out)
  clear hb c1
  obtain ⟨-, -, c2, -, -, -⟩ := wCell w4 S _ _ _ _ _ _ HS4.out
  go_wp2_with fail
  refine (month_is C (m - 1) _ (by omega) (HM.out.below HB4.out) XC.out).mono ?_
  rintro e w5 ⟨rfl, hb⟩
  have HB5 := Lib.hid (below_trans HB4.out hb)
  have HS5 := Lib.hid (heap_below hb HS4.out)
  clear hb c2
  obtain ⟨-, -, -, c3, -, -⟩ := wCell w5 S _ _ _ _ _ _ HS5.out
  go_wp2_with fail
  refine (year_is D y _ hy XD.out).mono ?_
  rintro e w6 ⟨rfl, hb⟩
  have HB6 := Lib.hid (below_trans HB5.out hb)
  have HS6 := Lib.hid (heap_below hb HS5.out)
  clear hb c3
  obtain ⟨-, -, -, -, c4, -⟩ := wCell w6 S _ _ _ _ _ _ HS6.out
  go_wp2_with fail
  refine (clock_is E h mi s _ hh hmi hs (HL.out.below HB6.out) XE.out).mono ?_
  rintro e w7 ⟨rfl, hb⟩
  have HB7 := Lib.hid (below_trans HB6.out hb)
  have HS7 := Lib.hid (heap_below hb HS6.out)
  clear hb c4
  have HB8 := Lib.hid (HB7.out.alloc HB7.out.size (.cells #[.int .i64 h, .int .i64 mi, .int .i64 s] 62 (0, 0)))
  have HS8 := Lib.hid (show (w7.alloc (.cells #[.int .i64 h, .int .i64 mi, .int .i64 s] 62 (0, 0))).heap[S]? = some (.cells #[.string A, .string B, .string C, .string D, .string E, .string F] 9 (0, 0)) by rw [old_block _ _ _ (lt_of_heap HS7.out)]; exact HS7.out)
  have HC8 := Lib.hid (heap_alloc_new w7 (.cells #[.int .i64 h, .int .i64 mi, .int .i64 s] 62 (0, 0)))
  obtain ⟨-, -, -, -, -, c5⟩ := wCell _ S _ _ _ _ _ _ HS8.out
  go_wp2_with fail
  refine (zone_is F _ XF.out).mono ?_
  rintro e w9 ⟨rfl, hb⟩
  have HB9 := Lib.hid (below_trans HB8.out hb)
  have HC9 := Lib.hid (heap_below hb HC8.out)
  clear hb c5 HC8 HS8 HB8
  generalize w7.heap.size = G at HC9 ⊢
  have k0 : w9.cell? ⟨G, 0, none⟩ = some (.int .i64 h) := by unfold World.cell?; simp only [HC9.out]; rfl
  have k1 : w9.cell? ⟨G, 1, none⟩ = some (.int .i64 mi) := by unfold World.cell?; simp only [HC9.out]; rfl
  have k2 : w9.cell? ⟨G, 2, none⟩ = some (.int .i64 s) := by unfold World.cell?; simp only [HC9.out]; rfl
  go_wp2_with fail
  refine (Rp.sec_is _ _ _ _ _ _ _ _ _ HT.out).mono ?_
  rintro e w10 ⟨rfl, rfl⟩
  clear k0 k1 k2
  go_wp2_with fail
  go_ret2
  exact ⟨rfl, HB9.out⟩
end Go.Proofs.YtikjehgbfkndjaaDoor.R8
