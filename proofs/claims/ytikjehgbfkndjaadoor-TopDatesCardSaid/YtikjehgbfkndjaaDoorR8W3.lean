/- Walks of rfc822: clock, zone. -/
import Derived.Test.YtikjehgbfkndjaaDoorR8W2
import Derived.Laws.Rows
import Derived.Laws.Tables
import Derived.Maps.Own
import Derived.Maps.OwnSet
namespace Go.Proofs.YtikjehgbfkndjaaDoor.R8
open Go Go.RowKit Go.Proofs.YtikjehgbfkndjaaDoor Go.Proofs.YtikjehgbfkndjaaDoor.Bs
set_option linter.unusedVariables false

theorem dig_no (w n : Nat) (c : UInt8) (h : n < 10 ^ w) (hc : Rf.isD c = false) : ∀ x ∈ Rf.dig w n, x ≠ c := by
  intro x hx e
  subst e
  obtain ⟨j, hj, hj2⟩ := List.getElem_of_mem hx
  have hl := Rf.dig_len w n
  have h1 := dig_isD w n j h (by omega)
  rw [List.getD_eq_getElem?_getD, List.getElem?_eq_getElem hj, Option.getD_some, hj2, hc] at h1
  cases h1
theorem cnt_no (l : List UInt8) (c : UInt8) (h : ∀ x ∈ l, x ≠ c) : l.count c = 0 := List.count_eq_zero.2 fun hm => h c hm rfl
theorem clk_count (h mi s : Nat) (hh : h < 100) (hm : mi < 100) (hs : s < 100) : (clk h mi s).count 58 = 2 := by
  unfold clk
  simp only [List.count_append, List.count_cons, cnt_no _ 58 (dig_no 2 h 58 hh rfl), cnt_no _ 58 (dig_no 2 mi 58 hm rfl), cnt_no _ 58 (dig_no 2 s 58 hs rfl)]
  rfl
theorem clk_split (P : ByteArray) (h mi s : Nat) (hh : h < 100) (hm : mi < 100) (hs : s < 100) (hP : clk h mi s = P.data.toList) :
    Lib.splitB P.data.toList.toByteArray 0 0 P = Lib.splitB P.data.toList.toByteArray 0 0 P ∧ Lib.splitB ⟨#[58]⟩ 0 2 P = [str (Rf.dig 2 h), str (Rf.dig 2 mi), str (Rf.dig 2 s)] := by
  refine ⟨rfl, ?_⟩
  rw [split_one 58 (Rf.dig 2 h) (Rf.dig 2 mi ++ (58 :: Rf.dig 2 s)) P (str (Rf.dig 2 h)) (str (Rf.dig 2 mi ++ (58 :: Rf.dig 2 s))) 1 hP.symm (dig_no 2 h 58 hh rfl) rfl rfl]
  rw [split_one 58 (Rf.dig 2 mi) (Rf.dig 2 s) _ (str (Rf.dig 2 mi)) (str (Rf.dig 2 s)) 0 rfl (dig_no 2 mi 58 hm rfl) rfl rfl]
  rw [split_last 58 _ 0 (dig_no 2 s 58 hs rfl)]

/-! ### the clock -/
def MaxLen (w : World) : Prop := ∃ m, w.cell? ⟨4, 0, none⟩ = some (.int .i64 m)
theorem MaxLen.below {w w' : World} (h : MaxLen w) (hb : Below w.heap.size w w') : MaxLen w' := by
  obtain ⟨m, h1⟩ := h
  refine ⟨m, ?_⟩
  have hlt := block_lt_of_cell h1
  unfold World.cell? at h1 ⊢
  rw [hb.block _ hlt]
  exact h1
def clkArr (h mi s k : Nat) : Array Value := #[.int .i64 ((if 0 < k then h else 0 : Nat) : Int), .int .i64 ((if 1 < k then mi else 0 : Nat) : Int), .int .i64 ((if 2 < k then s else 0 : Nat) : Int)]
theorem results_cell_slot {P : Program} {fn : Func} {p q : Tmp} {ty : TypeId} (h : fn.results = #[.cell p ty, .tmp q]) (tmps : Array Value) (w : World) (g : Nat) (t : TypeId) (cs : Array Value) (fr : Nat × Nat) (d : TypeDesc)
    (hp : tmps.getD p undef = .pointer (some ⟨g, 0, none⟩)) (hg : w.heap[g]? = some (.cells cs t fr))
    (hu : P.underlying ty = some d) (hd : (match d with | .struct _ | .array _ _ => true | _ => false) = true) (hi : (P.info? ty).map (·.size) = some cs.size) :
    (results fn tmps).run P w = .ok (.tuple #[.agg cs, tmps.getD q undef]) w := by
  have hp' : tmps[p]?.getD undef = .pointer (some ⟨g, 0, none⟩) := by simpa using hp
  simp [results, h, hp', asAddr, run_loadVar_row w g t ty cs fr d hg hu hd hi]
theorem clk_cell (h mi s k A : Nat) (hk : k < 3) (w : World) (hA : w.heap[A]? = some (.cells (clkArr h mi s k) 62 (0, 0))) : w.cell? ⟨A, k, none⟩ = some (.int .i64 0) ∧ w.frozen? ⟨A, k, none⟩ = false := by
  unfold World.cell? World.frozen?
  simp only [hA]
  have e : k = 0 ∨ k = 1 ∨ k = 2 := by omega
  rcases e with rfl | rfl | rfl
  all_goals exact ⟨rfl, rfl⟩
theorem clk_part (h mi s k S : Nat) (hk : k < 3) (hh : h < 100) (hm : mi < 100) (hs : s < 100) (X0 X1 X2 : ByteArray) (hN : Rf.dig 2 h = X0.data.toList ∧ Rf.dig 2 mi = X1.data.toList ∧ Rf.dig 2 s = X2.data.toList) (w : World) (hS : w.heap[S]? = some (.cells #[.string X0, .string X1, .string X2] 9 (0, 0))) :
    ∃ (X : ByteArray) (v : Nat), Rf.dig 2 v = X.data.toList ∧ v < 100 ∧ w.cell? ⟨S, k, none⟩ = some (.string X) ∧ (clkArr h mi s k).setIfInBounds k (.int .i64 v) = clkArr h mi s (k + 1) := by
  unfold World.cell?
  simp only [hS]
  have e : k = 0 ∨ k = 1 ∨ k = 2 := by omega
  rcases e with rfl | rfl | rfl
  · exact ⟨X0, h, hN.1, hh, rfl, rfl⟩
  · exact ⟨X1, mi, hN.2.1, hm, rfl, rfl⟩
  · exact ⟨X2, s, hN.2.2, hs, rfl, rfl⟩
theorem setRow_same (w : World) (g : Nat) (cs : Array Value) (t : TypeId) (fr : Nat × Nat) (hg : w.heap[g]? = some (.cells cs t fr)) : w.setRow g cs = w := by
  have e : (w.setRow g cs).heap = w.heap := by
    apply Array.ext_getElem?
    intro i
    by_cases h : i = g
    · subst h; rw [setRow_heap w i cs cs t fr hg, hg]
    · exact setRow_other w g i cs h
  have e2 : w.setRow g cs = { w with heap := (w.setRow g cs).heap } := rfl
  rw [e2, e]
theorem store_same (w : World) (g : Nat) (cs : Array Value) (t : TypeId) (hg : w.heap[g]? = some (.cells cs t (0, 0))) (h1 : ∀ x ∈ cs.toList, x.oneCell' = true) : (storeCells ⟨g, 0, none⟩ cs.toList 0).run Tryd.prog w = .ok () w := by
  rw [run_storeCells_from g t cs.toList 0 cs w hg (by simp) h1]
  congr 1
  have : (cs.toList.take 0 ++ cs.toList).toArray = cs := by simp
  rw [this]
  exact setRow_same w g cs t _ hg
set_option maxRecDepth 100000 in
set_option maxHeartbeats 4000000 in
theorem clock_is (P : ByteArray) (h mi s : Nat) (W : World) (hh : h < 100) (hm : mi < 100) (hs : s < 100) (hML : MaxLen W) (hP : clk h mi s = P.data.toList) :
    Calls Tryd.prog 33 #[.string P] W fun e w' => e = .returned (.tuple #[.agg #[.int .i64 h, .int .i64 mi, .int .i64 s], .bool true]) ∧ Below W.heap.size W w' := by
  have hps : P.size = 8 := by
    have := congrArg List.length hP
    simp only [clk, List.length_append, List.length_cons, Rf.dig_len] at this
    simpa using this.symm
  have HS := Lib.hid (clk_split P h mi s hh hm hs hP).2
  have HCN := Lib.hid (show Lib.countB P ⟨#[58]⟩ = 2 by rw [countB_one, ← hP]; exact clk_count h mi s hh hm hs)
  obtain ⟨m, hml⟩ := hML
  obtain ⟨X0, hX0⟩ : ∃ X, str (Rf.dig 2 h) = X := ⟨_, rfl⟩
  obtain ⟨X1, hX1⟩ : ∃ X, str (Rf.dig 2 mi) = X := ⟨_, rfl⟩
  obtain ⟨X2, hX2⟩ : ∃ X, str (Rf.dig 2 s) = X := ⟨_, rfl⟩
  rw [hX0, hX1, hX2] at HS
  have HN := Lib.hid (And.intro (congrArg (fun (x : ByteArray) => x.data.toList) hX0) (And.intro (congrArg (fun (x : ByteArray) => x.data.toList) hX1) (congrArg (fun (x : ByteArray) => x.data.toList) hX2)))
  clear hP hX0 hX1 hX2
  go_enter Tryd.func33, Tryd.ntmps33
  go_wp2_with fail
  have hml0 : (W.alloc (.cells #[.int .i64 0, .int .i64 0, .int .i64 0] 62)).cell? ⟨4, 0, none⟩ = some (.int .i64 m) := by
    have hlt := block_lt_of_cell hml
    unfold World.cell? at hml ⊢
    rw [old_block _ _ _ hlt]
    exact hml
  have hA0 := heap_alloc_new W (.cells (clkArr h mi s 0) 62 (0, 0))
  have HB0 := Lib.hid ((Below.refl W.heap.size W).alloc (Nat.le_refl _) (.cells (clkArr h mi s 0) 62 (0, 0)))
  change Calls _ _ _ (W.alloc (.cells (clkArr h mi s 0) 62 (0, 0))) _
  change (W.alloc (.cells (clkArr h mi s 0) 62 (0, 0))).cell? _ = _ at hml0
  have hsz : (W.alloc (.cells (clkArr h mi s 0) 62 (0, 0))).heap.size = W.heap.size + 1 := by show (W.heap.push _).size = _; simp
  obtain ⟨A, hAe⟩ : ∃ A, W.heap.size = A := ⟨_, rfl⟩
  have HAE := Lib.hid hAe
  generalize W.alloc (.cells (clkArr h mi s 0) 62 (0, 0)) = w0 at hml0 hA0 HB0 hsz ⊢
  clear hml
  rw [hAe] at hA0 hsz
  refine (Tryd.strings_Split P ⟨#[58]⟩ m w0 (by omega) hml0 (by decide)).mono ?_
  rintro e w1 ⟨rfl, hw1⟩
  rw [HCN.out, HS.out] at hw1
  have hS1 : w1.heap[A + 1]? = some (.cells #[.string X0, .string X1, .string X2] 9 (0, 0)) := by rw [hw1, ← hsz]; exact heap_alloc_new _ _
  have hA1 : w1.heap[A]? = some (.cells (clkArr h mi s 0) 62 (0, 0)) := by rw [hw1, old_block _ _ _ (by omega)]; exact hA0
  have HB1 := Lib.hid (show Below W.heap.size W w1 by rw [hw1]; exact HB0.out.alloc (by have := HAE.out; omega) _)
  rw [HCN.out, hsz]
  try rw [hAe]
  clear hw1 hml0 hA0 HB0 hsz HS HCN hAe
  go_wp2_with fail
  go_loopw [20] (fun c wr => ∃ k : Nat, k ≤ 3 ∧ c = .int .i64 k ∧ Hid (wr.heap[A]? = some (.cells (clkArr h mi s k) 62 (0, 0))) ∧ Hid (wr.heap[A + 1]? = some (.cells #[.string X0, .string X1, .string X2] 9 (0, 0))) ∧ Hid (Below W.heap.size W wr)) (fun c _ => (3 - intOf c).toNat)
  case atStart => exact ⟨0, by omega, rfl, hA1, hS1, HB1.out⟩
  case round =>
    obtain ⟨k, hk, rfl, HA, HSS, HB⟩ := hrel
    by_cases hlt : k < 3
    · obtain ⟨X, v, hv, hv1, hcell, hset⟩ := clk_part h mi s k (A + 1) hlt hh hm hs X0 X1 X2 HN.out wr HSS.out
      have HV := Lib.hid hv
      have HSET := Lib.hid hset
      clear hv hset
      go_wp2_with fail
      refine (number_is X 2 v 2 2 _ _ rfl rfl _ (by decide) (by decide) (by decide) (by decide) (by decide) (by omega) HV.out).mono ?_
      rintro e w2 ⟨rfl, hb⟩
      have HB2 := Lib.hid (below_trans HB.out hb)
      have HA2 := Lib.hid (heap_below hb HA.out)
      have HS2 := Lib.hid (heap_below hb HSS.out)
      clear hb
      obtain ⟨hc, hf⟩ := clk_cell h mi s k A hlt w2 HA2.out
      go_wp2_with fail
      go_roundw
      case rel => exact ⟨k + 1, by omega, by go_num, (by rw [heap_setCell_same _ _ _ _ _ _ HA2.out, HSET.out]; exact rfl), (by rw [heap_setCell_other _ _ _ _ (by show A + 1 ≠ A; omega)]; exact HS2.out), (HB2.out.setCell (by have := HAE.out; show _ ≤ A; omega) _)⟩
      case measure => simp [intOf]; omega
    · obtain rfl : k = 3 := by omega
      have hA3 := HA.out
      have hst := store_same wr A _ _ hA3 (by intro x hx; simp [clkArr] at hx; rcases hx with rfl | rfl | rfl <;> rfl)
      go_wp2_with (refine wpList_load_row rfl 62 _ rfl A rfl _ (clkArr h mi s 3) (0, 0) _ hA3 Tryd.underlying62 rfl (by kernel_rfl) ?_)
      try simp only [Exit.inBlock, Exit.then]
      refine bodyPost_ret (results_cell_slot rfl _ _ A _ (clkArr h mi s 3) _ _ rfl hA3 Tryd.underlying62 rfl (by kernel_rfl)) rfl ?_
      exact ⟨rfl, HB.out⟩

/-! ### the zone GMT -/
open Go.Maps in
theorem upd (W w : World) (b n : Nat) (D : DataW Nat) (l : List UInt8) (hl : l.length ≤ 8) (v : Int) (hv : (Lit.int .i64 v).wf = true) (hb : W.heap.size = b) (hB : Below W.heap.size W w) (hn : n < 20) (h : w.ownsMap Tryd.prog 9 (plainElem Tryd.prog 3) b n D) :
    ∃ w', (Instr.mapUpdate 87 (.map (some b)) (.string (str l)) (.int .i64 v)).run Tryd.prog w = .ok () w' ∧ Below W.heap.size W w' ∧ w'.ownsMap Tryd.prog 9 (plainElem Tryd.prog 3) b (n + 1) (D.put (.string l) (.lit (.int .i64 v))) := by
  have hm : maxLen = maxLen := rfl
  obtain ⟨w', h1, h2, h3⟩ := h.update (t := 87) (string_keyed Tryd.underlying9) Tryd.underlying87 (by unfold maxLen; omega) (Go.WideMaps.keyOf_string_mk Tryd.underlying9 (s := str l) (by show l.toArray.size ≤ maxLen; unfold maxLen; simp; omega)) (plainElem_int Tryd.underlying3 hv)
  refine ⟨w', h1, ?_, h2⟩
  exact ⟨h3.os.trans hB.os, h3.tape.trans hB.tape, h3.output.trans hB.output, Nat.le_trans hB.size h3.size, fun k hk => (h3.block k (Nat.lt_of_lt_of_le hk hB.size) (fun e => by injection e with e; omega)).trans (hB.block k hk)⟩

open Go.Maps in
set_option maxRecDepth 100000 in
set_option maxHeartbeats 4000000 in
theorem zone_is (P : ByteArray) (W : World) (hP : P = ⟨#[71, 77, 84]⟩) :
    Calls Tryd.prog 34 #[.string P] W fun e w' => e = .returned (.tuple #[.int .i64 0, .bool true]) ∧ Below W.heap.size W w' := by
  have hl : P.size ≤ 1000 := by rw [hP]; decide
  have HL := Lib.hid (show low P.data.toList = (⟨#[103, 109, 116]⟩ : ByteArray).data.toList by rw [hP]; decide)
  clear hP
  have hmm := @run_makeMap Tryd.prog
  have HB0 := Lib.hid ((Below.refl W.heap.size W).alloc (Nat.le_refl _) (.map #[] 0))
  have HO0 := Lib.hid (World.ownsMap_made (H := Nat) W Tryd.prog 9 (plainElem Tryd.prog 3))
  obtain ⟨w0, hw0⟩ : ∃ w0, W.alloc (.map #[] 0) = w0 := ⟨_, rfl⟩
  rw [hw0] at HB0 HO0
  obtain ⟨b, hb⟩ : ∃ b, W.heap.size = b := ⟨_, rfl⟩
  have HBE := Lib.hid hb
  rw [hb] at HO0
  have hmk : (Instr.makeMap 87 none).run Tryd.prog W = .ok (.map (some b)) w0 := by rw [hmm, hw0, hb]
  clear hmm hw0 hb
  obtain ⟨w1, r1, hb1, o1⟩ := upd W w0 b 0 _ [117, 116] (by decide) 0 (by decide) HBE.out HB0.out (by omega) HO0.out
  change (Instr.mapUpdate 87 (.map (some b)) (.string ⟨#[117, 116]⟩) (.int .i64 0)).run Tryd.prog w0 = _ at r1
  have HB1 := Lib.hid hb1
  have HO1 := Lib.hid o1
  clear hb1 o1 HB0 HO0
  obtain ⟨w2, r2, hb2, o2⟩ := upd W w1 b 1 _ [117, 116, 99] (by decide) 0 (by decide) HBE.out HB1.out (by omega) HO1.out
  change (Instr.mapUpdate 87 (.map (some b)) (.string ⟨#[117, 116, 99]⟩) (.int .i64 0)).run Tryd.prog w1 = _ at r2
  have HB2 := Lib.hid hb2
  have HO2 := Lib.hid o2
  clear hb2 o2 HB1 HO1
  obtain ⟨w3, r3, hb3, o3⟩ := upd W w2 b 2 _ [103, 109, 116] (by decide) 0 (by decide) HBE.out HB2.out (by omega) HO2.out
  change (Instr.mapUpdate 87 (.map (some b)) (.string ⟨#[103, 109, 116]⟩) (.int .i64 0)).run Tryd.prog w2 = _ at r3
  have HB3 := Lib.hid hb3
  have HO3 := Lib.hid o3
  clear hb3 o3 HB2 HO2
  obtain ⟨w4, r4, hb4, o4⟩ := upd W w3 b 3 _ [122] (by decide) 0 (by decide) HBE.out HB3.out (by omega) HO3.out
  change (Instr.mapUpdate 87 (.map (some b)) (.string ⟨#[122]⟩) (.int .i64 0)).run Tryd.prog w3 = _ at r4
  have HB4 := Lib.hid hb4
  have HO4 := Lib.hid o4
  clear hb4 o4 HB3 HO3
  obtain ⟨w5, r5, hb5, o5⟩ := upd W w4 b 4 _ [101, 115, 116] (by decide) (-5) (by decide) HBE.out HB4.out (by omega) HO4.out
  change (Instr.mapUpdate 87 (.map (some b)) (.string ⟨#[101, 115, 116]⟩) (.int .i64 (-5))).run Tryd.prog w4 = _ at r5
  have HB5 := Lib.hid hb5
  have HO5 := Lib.hid o5
  clear hb5 o5 HB4 HO4
  obtain ⟨w6, r6, hb6, o6⟩ := upd W w5 b 5 _ [101, 100, 116] (by decide) (-4) (by decide) HBE.out HB5.out (by omega) HO5.out
  change (Instr.mapUpdate 87 (.map (some b)) (.string ⟨#[101, 100, 116]⟩) (.int .i64 (-4))).run Tryd.prog w5 = _ at r6
  have HB6 := Lib.hid hb6
  have HO6 := Lib.hid o6
  clear hb6 o6 HB5 HO5
  obtain ⟨w7, r7, hb7, o7⟩ := upd W w6 b 6 _ [99, 115, 116] (by decide) (-6) (by decide) HBE.out HB6.out (by omega) HO6.out
  change (Instr.mapUpdate 87 (.map (some b)) (.string ⟨#[99, 115, 116]⟩) (.int .i64 (-6))).run Tryd.prog w6 = _ at r7
  have HB7 := Lib.hid hb7
  have HO7 := Lib.hid o7
  clear hb7 o7 HB6 HO6
  obtain ⟨w8, r8, hb8, o8⟩ := upd W w7 b 7 _ [99, 100, 116] (by decide) (-5) (by decide) HBE.out HB7.out (by omega) HO7.out
  change (Instr.mapUpdate 87 (.map (some b)) (.string ⟨#[99, 100, 116]⟩) (.int .i64 (-5))).run Tryd.prog w7 = _ at r8
  have HB8 := Lib.hid hb8
  have HO8 := Lib.hid o8
  clear hb8 o8 HB7 HO7
  obtain ⟨w9, r9, hb9, o9⟩ := upd W w8 b 8 _ [109, 115, 116] (by decide) (-7) (by decide) HBE.out HB8.out (by omega) HO8.out
  change (Instr.mapUpdate 87 (.map (some b)) (.string ⟨#[109, 115, 116]⟩) (.int .i64 (-7))).run Tryd.prog w8 = _ at r9
  have HB9 := Lib.hid hb9
  have HO9 := Lib.hid o9
  clear hb9 o9 HB8 HO8
  obtain ⟨w10, r10, hb10, o10⟩ := upd W w9 b 9 _ [109, 100, 116] (by decide) (-6) (by decide) HBE.out HB9.out (by omega) HO9.out
  change (Instr.mapUpdate 87 (.map (some b)) (.string ⟨#[109, 100, 116]⟩) (.int .i64 (-6))).run Tryd.prog w9 = _ at r10
  have HB10 := Lib.hid hb10
  have HO10 := Lib.hid o10
  clear hb10 o10 HB9 HO9
  obtain ⟨w11, r11, hb11, o11⟩ := upd W w10 b 10 _ [112, 115, 116] (by decide) (-8) (by decide) HBE.out HB10.out (by omega) HO10.out
  change (Instr.mapUpdate 87 (.map (some b)) (.string ⟨#[112, 115, 116]⟩) (.int .i64 (-8))).run Tryd.prog w10 = _ at r11
  have HB11 := Lib.hid hb11
  have HO11 := Lib.hid o11
  clear hb11 o11 HB10 HO10
  obtain ⟨w12, r12, hb12, o12⟩ := upd W w11 b 11 _ [112, 100, 116] (by decide) (-7) (by decide) HBE.out HB11.out (by omega) HO11.out
  change (Instr.mapUpdate 87 (.map (some b)) (.string ⟨#[112, 100, 116]⟩) (.int .i64 (-7))).run Tryd.prog w11 = _ at r12
  have HB12 := Lib.hid hb12
  have HO12 := Lib.hid o12
  clear hb12 o12 HB11 HO11
  go_enter Tryd.func34, Tryd.ntmps34
  go_wp2_with fail
  refine (lower_is P ⟨#[103, 109, 116]⟩ _ hl HL.out).mono ?_
  rintro e w13 ⟨rfl, hb⟩
  have HB13 := Lib.hid (below_trans HB12.out hb)
  obtain ⟨es, ck, ho, F⟩ := HO12.out
  have HO13 : w13.ownsMap Tryd.prog 9 (plainElem Tryd.prog 3) b 12 _ := ⟨es, ck, heap_below hb ho, F⟩
  obtain ⟨v, ps, hrun, hv⟩ := HO13.look_ok (t := 87) (string_keyed Tryd.underlying9) Tryd.underlying87 (z := .int .i64 0) (by kernel_rfl) (plainElem_int Tryd.underlying3 (by decide)) (Go.WideMaps.keyOf_string_mk Tryd.underlying9 (s := ⟨#[103, 109, 116]⟩) (by unfold maxLen; decide))
  obtain ⟨c, rfl, hc, _⟩ := plainElem_int_inv Tryd.underlying3 hv
  obtain rfl : c = 0 := by
    have h1 := congrArg Prod.fst hc
    have h2 : (DataW.lit (.int .i64 0) : DataW Nat) = .lit (.int .i64 c) := Eq.trans (by kernel_rfl) h1
    injection h2 with h2; injection h2 with _ h2; exact h2.symm
  have hhas : ∀ x y : Value, x = y → (Result.ok x w13 : Result Value) = .ok y w13 := fun _ _ e => by rw [e]
  replace hrun := hrun.trans (hhas _ (Value.tuple #[.int .i64 0, .bool true]) (by kernel_rfl))
  clear hv hc hb ho HO13 F r1 r2 r3 r4 r5 r6 r7 r8 r9 r10 r11 r12 hmk
  go_wp2_with fail
  go_ret2
  exact ⟨rfl, HB13.out⟩
end Go.Proofs.YtikjehgbfkndjaaDoor.R8
