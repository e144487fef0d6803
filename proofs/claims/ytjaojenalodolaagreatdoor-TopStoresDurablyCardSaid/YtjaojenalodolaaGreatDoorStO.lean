/- How TopRecovers' arguments are opened: archives and rows of strings in memory. -/
import Derived.Test.YtjaojenalodolaaGreatDoorMoW1
import Derived.WalkKit
import Derived.ProofKit
import Derived.OpenShut
import Derived.ShutString
import Derived.ChangeOld
import Derived.Below
import Derived.SizedLaws
import Derived.ChangeSlices
import Derived.Deep.Grids
import Derived.Laws.IdiomArrays
import Derived.Lib.SmallJoins
namespace Go.Proofs.YtjaojenalodolaaGreatDoor.StO
open Go Go.ChangeShapes Go.WideShapes Go.ChangeAt Go.RowKit Go.Proofs.YtjaojenalodolaaGreatDoor Go.Proofs.YtjaojenalodolaaGreatDoor.Rw
set_option linter.unusedVariables false
theorem spot_none {w : World} {a : Addr} {v : Value} (h : w.cell? a = some v) : a = ⟨a.block, a.off, none⟩ := by
  obtain ⟨g, off, spot⟩ := a
  cases spot with
  | none => rfl
  | some s =>
    unfold World.cell? at h
    cases hb : w.heap[g]? with
    | none => rw [hb] at h; simp at h
    | some o => rw [hb] at h; cases o <;> simp at h
theorem add_at {a : Addr} (h : a = ⟨a.block, a.off, none⟩) (i : Nat) : a.add i = ⟨a.block, a.off + i, none⟩ := by
  unfold Addr.add
  split
  · rename_i h0; rw [h0]; exact h
  · rfl
theorem weights_all {H : Type} {P : Program} {e : TypeId} : ∀ {l : List (DataW H)} {d : DataW H}, d ∈ l → ∀ n ∈ d.weights P e, n ∈ DataW.weightsAll P e l
  | a :: r, d, h, n, hn => by
    simp only [DataW.weightsAll, List.mem_append]
    rcases List.mem_cons.1 h with rfl | h
    · exact .inl hn
    · exact .inr (weights_all h n hn)
theorem slice_at {P : Program} {w : World} {r : Reach} {base : Nat} {t e : TypeId} {v : Value} (ht : P.underlying t = some (.slice e)) (h : Value.okWide P w r base t v) : v = .slice none 0 0 ∨ ∃ g off len cap, v = .slice (some ⟨g, off, none⟩) len cap ∧ g < w.heap.size := by
  simp only [Value.okWide, ht, Cell.okWide] at h
  cases v with
  | slice a len cap =>
    cases a with
    | none =>
      left
      simp only [Cell.ok, ht] at h
      split at h <;> simp_all
    | some a =>
      right
      simp only [Cell.ok, ht] at h
      obtain ⟨-, -, -, h2, row, cells, h3, -⟩ := h
      obtain ⟨g, off, spot⟩ := a
      simp only at h2
      subst h2
      refine ⟨g, off, len, cap, rfl, ?_⟩
      unfold World.shape? at h3
      cases hb : w.heap[g]? with
      | none => simp [hb] at h3
      | some o => exact Rw.lt_of_heap hb
  | _ => simp_all [Cell.ok]
section
variable {H : Type} {enc : TypeId × Value → H} {W : World}
set_option maxRecDepth 100000 in
theorem row_of {T E : TypeId} {sz : Nat} (hT : Tryz.prog.underlying T = some (.slice E)) (hc : Tryz.prog.cellsOf E = sz) (h0 : 0 < sz) {fuel : Nat} {cs : List Value} {x : DataW H × List MemPlace} (h : DataW.trod enc Tryz.prog W 0 (fun _ => true) true fuel T cs = some x) (hw : ∀ n ∈ x.1.weights Tryz.prog T, n ≤ reachBytes) :
    ∃ v L, cs = [v] ∧ Rw W v sz L ∧ (∀ c ∈ L, c.length = sz ∧ ∃ m x', DataW.trod enc Tryz.prog W 0 (fun _ => true) true m E c = some x' ∧ ∀ n ∈ x'.1.weights Tryz.prog E, n ≤ reachBytes) ∧ L.length * Tryz.prog.bytesOf E ≤ reachBytes := by
  rcases DataW.trod_slice hT h with ⟨hcs, hx⟩ | ⟨a, len, cap, elems, rest, m, -, hcs, hx, -, hl, hm, hel, he, -, -⟩
  · exact ⟨_, [], hcs, Rw.nil W sz, fun c hc => absurd hc (by simp), by simp⟩
  · obtain ⟨d, pl⟩ := x
    simp only [Prod.mk.injEq] at hx
    obtain ⟨rfl, -⟩ := hx
    have each : ∀ i (hi : i < len), ∃ c : List Value, c.length = sz ∧ (∀ k, k < sz → W.cell? ((a.add (i * sz)).add k) = c[k]?) ∧ ∃ m x', DataW.trod enc Tryz.prog W 0 (fun _ => true) true m E c = some x' ∧ ∀ n ∈ x'.1.weights Tryz.prog E, n ≤ reachBytes := by
      intro i hi
      have h1 := he i hi
      rw [hc, List.getElem?_eq_getElem (by omega)] at h1
      obtain ⟨c, hcc, ht⟩ := Option.bind_eq_some_iff.1 h1
      obtain ⟨-, h2, hcell⟩ := World.cells?_some hcc
      refine ⟨c, h2, hcell, m, _, ht, fun n hn => hw n ?_⟩
      simp only [DataW.weights, hT]
      exact List.mem_cons_of_mem _ (List.mem_append.2 (.inl (weights_all (List.mem_map_of_mem (List.getElem_mem (by omega : i < elems.length))) n hn)))
    have hall : ∃ L : List (List Value), L.length = len ∧ ∀ i (hi : i < L.length), L[i].length = sz ∧ (∀ k, k < sz → W.cell? ((a.add (i * sz)).add k) = L[i][k]?) ∧ ∃ m x', DataW.trod enc Tryz.prog W 0 (fun _ => true) true m E L[i] = some x' ∧ ∀ n ∈ x'.1.weights Tryz.prog E, n ≤ reachBytes := by
      refine ⟨(List.range len).attach.map fun i => Classical.choose (each i.1 (List.mem_range.1 i.2)), by simp, fun i hi => ?_⟩
      have hi2 : i < len := by simpa using hi
      have := Classical.choose_spec (each i hi2)
      simpa using this
    obtain ⟨L, hLn, hL⟩ := hall
    have ha : 0 < L.length → a = ⟨a.block, a.off, none⟩ := fun hp => by
      obtain ⟨h1, h2, -⟩ := hL 0 hp
      have h3 := h2 0 h0
      rw [List.getElem?_eq_getElem (by omega)] at h3
      have h5 : ((a.add (0 * sz)).add 0) = a := by rw [Nat.zero_mul]; unfold Addr.add; simp
      rw [h5] at h3
      exact spot_none h3
    refine ⟨_, L, hcs, ⟨a.block, a.off, some a, cap, by rw [hLn], fun hp => by rw [← ha hp], fun j hj k hk => ?_⟩, fun c hcL => ?_, ?_⟩
    · obtain ⟨h1, h2, -⟩ := hL j hj
      have h3 := h2 k hk
      have hk2 : k < L[j].length := by omega
      refine ⟨L[j][k], List.getElem?_eq_getElem hk2, ?_⟩
      rw [List.getElem?_eq_getElem hk2, add_at (ha (by omega)), add_at rfl] at h3
      exact h3
    · obtain ⟨i, hi, rfl⟩ := List.getElem_of_mem hcL
      exact ⟨(hL i hi).1, (hL i hi).2.2⟩
    · have h3 := hw _ (by simp only [DataW.weights, hT]; exact List.mem_cons_self ..)
      rw [hLn]
      refine Nat.le_trans (Nat.mul_le_mul_right _ ?_) h3
      simp only [List.length_map, hel]
      omega
theorem hreach : reachBytes = 140737488351232 := by kernel_rfl
theorem sCell_of {c : List Value} {m : Nat} {x : DataW H × List MemPlace} (h : DataW.trod enc Tryz.prog W 0 (fun _ => true) true m 9 c = some x) (hw : ∀ n ∈ x.1.weights Tryz.prog 9, n ≤ reachBytes) : ∃ s : ByteArray, c = sCell s ∧ s.size ≤ 140737488355327 := by
  obtain ⟨s, e, g, -⟩ := DataW.trod_string Tryz.underlying9 h
  have h1 := sized_string (P := Tryz.prog) (ts := [9]) (ds := [x.1]) (by rw [List.all_eq_true]; intro n hn; simp only [DataW.weightsEach, List.append_nil] at hn; exact decide_eq_true (hw n hn)) (j := 0) (t := 9) rfl (show _ = some (DataW.lit (.string s.data.toList)) by rw [g]; rfl)
  have h2 := hreach
  have h3 : s.data.toList.length = s.size := by simp
  exact ⟨s, e, by omega⟩
theorem i64_in {n : Int} (h : (Lit.int .i64 n).wf = true) : -9223372036854775808 ≤ n ∧ n ≤ 9223372036854775807 := by
  simp only [Lit.wf, IntKind.min, IntKind.max, IntKind.signed, IntKind.bits, Bool.and_eq_true, decide_eq_true_eq, if_true] at h
  omega
theorem strs_of {fuel : Nat} {cs : List Value} {x : DataW H × List MemPlace} (h : DataW.trod enc Tryz.prog W 0 (fun _ => true) true fuel 46 cs = some x) (hw : ∀ n ∈ x.1.weights Tryz.prog 46, n ≤ reachBytes) :
    ∃ (v : Value) (l : List ByteArray), cs = [v] ∧ Rw W v 1 (l.map sCell) ∧ (∀ s ∈ l, s.size ≤ 140737488355327) ∧ l.length ≤ 8796093022208 := by
  obtain ⟨v, L, hcs, hR, hE, hl⟩ := row_of Tryz.underlying46 (sz := 1) (by kernel_rfl) (by omega) h hw
  have hall : ∃ l : List ByteArray, L = l.map sCell ∧ ∀ s ∈ l, s.size ≤ 140737488355327 := by
    clear hR hl hcs h hw
    induction L with
    | nil => exact ⟨[], rfl, fun s hs => absurd hs (by simp)⟩
    | cons c r ih =>
      obtain ⟨l, e, hs⟩ := ih (fun c hc => hE c (List.mem_cons_of_mem _ hc))
      obtain ⟨-, m, x', h1, h2⟩ := hE c (List.mem_cons_self ..)
      obtain ⟨s, e2, h3⟩ := sCell_of h1 h2
      exact ⟨s :: l, by rw [e, e2]; rfl, fun t ht => by rcases List.mem_cons.1 ht with rfl | ht; exact h3; exact hs t ht⟩
  obtain ⟨l, rfl, hs⟩ := hall
  have hby : Tryz.prog.bytesOf 9 = 16 := by kernel_rfl
  have h2 := hreach
  rw [hby, List.length_map] at hl
  exact ⟨v, l, hcs, hR, hs, by omega⟩
theorem list5 {α : Type} {l : List α} (h : l.length = 5) : ∃ a b c d e, l = [a, b, c, d, e] := by
  match l, h with
  | [a, b, c, d, e], _ => exact ⟨a, b, c, d, e, rfl⟩
theorem list6 {α : Type} {l : List α} (h : l.length = 6) : ∃ a b c d e f, l = [a, b, c, d, e, f] := by
  match l, h with
  | [a, b, c, d, e, f], _ => exact ⟨a, b, c, d, e, f, rfl⟩
theorem list1 {α : Type} {l : List α} (h : l.length = 1) : ∃ a, l = [a] := by
  match l, h with
  | [a], _ => exact ⟨a, rfl⟩
set_option maxRecDepth 100000 in
theorem entry_of {m : Nat} {c : List Value} {x : DataW H × List MemPlace} (h : DataW.trod enc Tryz.prog W 0 (fun _ => true) true m 51 c = some x) (hsz : ∀ n ∈ x.1.weights Tryz.prog 51, n ≤ reachBytes) : ∃ e : Mo.En, c = eCells e ∧ Mw.EnB e := by
  obtain ⟨xs, m, -, rfl, hlen, hxs, hf⟩ := DataW.trod_struct Tryz.underlying51 h
  have c1 : Tryz.prog.cellsOf 2 = 1 := by kernel_rfl
  have c2 : Tryz.prog.cellsOf 9 = 1 := by kernel_rfl
  have c8 : Tryz.prog.cellsOf 51 = 5 := by kernel_rfl
  rw [c8] at hlen
  have hxs5 : xs.length = 5 := hxs
  obtain ⟨a0, a1, a2, a3, a4, rfl⟩ := list5 hlen
  obtain ⟨y0, y1, y2, y3, y4, rfl⟩ := list5 hxs5
  have f0 : DataW.trod enc Tryz.prog W 0 (fun _ => true) true m 9 (List.take (Tryz.prog.cellsOf 9) [a0, a1, a2, a3, a4]) = some y0 := hf 0 _ rfl
  rw [c2] at f0
  replace f0 : DataW.trod enc Tryz.prog W 0 (fun _ => true) true m 9 [a0] = some y0 := f0
  have f1 : DataW.trod enc Tryz.prog W 0 (fun _ => true) true m 9 (List.take (Tryz.prog.cellsOf 9) [a1, a2, a3, a4]) = some y1 := hf 1 _ rfl
  rw [c2] at f1
  replace f1 : DataW.trod enc Tryz.prog W 0 (fun _ => true) true m 9 [a1] = some y1 := f1
  have f2 : DataW.trod enc Tryz.prog W 0 (fun _ => true) true m 9 (List.take (Tryz.prog.cellsOf 9) [a2, a3, a4]) = some y2 := hf 2 _ rfl
  rw [c2] at f2
  replace f2 : DataW.trod enc Tryz.prog W 0 (fun _ => true) true m 9 [a2] = some y2 := f2
  have f3 : DataW.trod enc Tryz.prog W 0 (fun _ => true) true m 9 (List.take (Tryz.prog.cellsOf 9) [a3, a4]) = some y3 := hf 3 _ rfl
  rw [c2] at f3
  replace f3 : DataW.trod enc Tryz.prog W 0 (fun _ => true) true m 9 [a3] = some y3 := f3
  have f4 : DataW.trod enc Tryz.prog W 0 (fun _ => true) true m 2 (List.take (Tryz.prog.cellsOf 2) [a4]) = some y4 := hf 4 _ rfl
  rw [c1] at f4
  replace f4 : DataW.trod enc Tryz.prog W 0 (fun _ => true) true m 2 [a4] = some y4 := f4
  have hw : ∀ n ∈ DataW.weightsEach Tryz.prog [9, 9, 9, 9, 2] [y0.1, y1.1, y2.1, y3.1, y4.1], n ≤ reachBytes := fun n hn => by
    refine hsz n ?_
    rw [show (DataW.weights Tryz.prog 51 (DataW.agg (List.map (fun x => x.1) [y0, y1, y2, y3, y4]) : DataW H)) = DataW.weightsEach Tryz.prog [9, 9, 9, 9, 2] [y0.1, y1.1, y2.1, y3.1, y4.1] by simp only [DataW.weights, Tryz.underlying51]; rfl]
    exact hn
  obtain ⟨s0, e0, z0⟩ := sCell_of f0 (fun n hn => hw n (DataW.weights_mem_each (j := 0) rfl rfl n hn))
  obtain ⟨s1, e1, z1⟩ := sCell_of f1 (fun n hn => hw n (DataW.weights_mem_each (j := 1) rfl rfl n hn))
  obtain ⟨s2, e2, z2⟩ := sCell_of f2 (fun n hn => hw n (DataW.weights_mem_each (j := 2) rfl rfl n hn))
  obtain ⟨s3, e3, z3⟩ := sCell_of f3 (fun n hn => hw n (DataW.weights_mem_each (j := 3) rfl rfl n hn))
  obtain ⟨n4, e4, -, w4⟩ := DataW.trod_int Tryz.underlying2 f4
  simp only [sCell, List.cons.injEq, and_true] at e0 e1 e2 e3 e4
  subst e0 e1 e2 e3 e4
  exact ⟨⟨s0, s1, s2, s3, n4⟩, rfl, z0, z1, z2, z3, i64_in w4⟩
theorem ents_of {fuel : Nat} {cs : List Value} {x : DataW H × List MemPlace} (h : DataW.trod enc Tryz.prog W 0 (fun _ => true) true fuel 47 cs = some x) (hw : ∀ n ∈ x.1.weights Tryz.prog 47, n ≤ reachBytes) :
    ∃ (v : Value) (l : List Mo.En), cs = [v] ∧ Rw W v 5 (l.map eCells) ∧ (∀ e ∈ l, Mw.EnB e) ∧ l.length ≤ 8796093022208 := by
  obtain ⟨v, L, hcs, hR, hE, hl⟩ := row_of Tryz.underlying47 (sz := 5) (by kernel_rfl) (by omega) h hw
  have hall : ∃ l : List Mo.En, L = l.map eCells ∧ ∀ e ∈ l, Mw.EnB e := by
    clear hR hl hcs h hw
    induction L with
    | nil => exact ⟨[], rfl, fun s hs => absurd hs (by simp)⟩
    | cons c r ih =>
      obtain ⟨l, e, hs⟩ := ih (fun c hc => hE c (List.mem_cons_of_mem _ hc))
      obtain ⟨-, m, x', h1, h2⟩ := hE c (List.mem_cons_self ..)
      obtain ⟨s, e2, h3⟩ := entry_of h1 h2
      exact ⟨s :: l, by rw [e, e2]; rfl, fun t ht => by rcases List.mem_cons.1 ht with rfl | ht; exact h3; exact hs t ht⟩
  obtain ⟨l, rfl, hs⟩ := hall
  have hby : Tryz.prog.bytesOf 51 = 72 := by kernel_rfl
  have h2 := hreach
  rw [hby, List.length_map] at hl
  exact ⟨v, l, hcs, hR, hs, by omega⟩
set_option maxRecDepth 100000 in
theorem feed_of {m : Nat} {c : List Value} {x : DataW H × List MemPlace} (h : DataW.trod enc Tryz.prog W 0 (fun _ => true) true m 49 c = some x) (hsz : ∀ n ∈ x.1.weights Tryz.prog 49, n ≤ reachBytes) : ∃ f : Mo.Fd, FdIs W f c ∧ Mw.FdB f := by
  obtain ⟨xs, m, -, rfl, hlen, hxs, hf⟩ := DataW.trod_struct Tryz.underlying49 h
  have c1 : Tryz.prog.cellsOf 2 = 1 := by kernel_rfl
  have c2 : Tryz.prog.cellsOf 9 = 1 := by kernel_rfl
  have c3 : Tryz.prog.cellsOf 46 = 1 := by kernel_rfl
  have c4 : Tryz.prog.cellsOf 47 = 1 := by kernel_rfl
  have c8 : Tryz.prog.cellsOf 49 = 6 := by kernel_rfl
  rw [c8] at hlen
  have hxs6 : xs.length = 6 := hxs
  obtain ⟨a0, a1, a2, a3, a4, a5, rfl⟩ := list6 hlen
  obtain ⟨y0, y1, y2, y3, y4, y5, rfl⟩ := list6 hxs6
  have f0 : DataW.trod enc Tryz.prog W 0 (fun _ => true) true m 46 (List.take (Tryz.prog.cellsOf 46) [a0, a1, a2, a3, a4, a5]) = some y0 := hf 0 _ rfl
  rw [c3] at f0
  replace f0 : DataW.trod enc Tryz.prog W 0 (fun _ => true) true m 46 [a0] = some y0 := f0
  have f1 : DataW.trod enc Tryz.prog W 0 (fun _ => true) true m 9 (List.take (Tryz.prog.cellsOf 9) [a1, a2, a3, a4, a5]) = some y1 := hf 1 _ rfl
  rw [c2] at f1
  replace f1 : DataW.trod enc Tryz.prog W 0 (fun _ => true) true m 9 [a1] = some y1 := f1
  have f2 : DataW.trod enc Tryz.prog W 0 (fun _ => true) true m 9 (List.take (Tryz.prog.cellsOf 9) [a2, a3, a4, a5]) = some y2 := hf 2 _ rfl
  rw [c2] at f2
  replace f2 : DataW.trod enc Tryz.prog W 0 (fun _ => true) true m 9 [a2] = some y2 := f2
  have f3 : DataW.trod enc Tryz.prog W 0 (fun _ => true) true m 9 (List.take (Tryz.prog.cellsOf 9) [a3, a4, a5]) = some y3 := hf 3 _ rfl
  rw [c2] at f3
  replace f3 : DataW.trod enc Tryz.prog W 0 (fun _ => true) true m 9 [a3] = some y3 := f3
  have f4 : DataW.trod enc Tryz.prog W 0 (fun _ => true) true m 2 (List.take (Tryz.prog.cellsOf 2) [a4, a5]) = some y4 := hf 4 _ rfl
  rw [c1] at f4
  replace f4 : DataW.trod enc Tryz.prog W 0 (fun _ => true) true m 2 [a4] = some y4 := f4
  have f5 : DataW.trod enc Tryz.prog W 0 (fun _ => true) true m 47 (List.take (Tryz.prog.cellsOf 47) [a5]) = some y5 := hf 5 _ rfl
  rw [c4] at f5
  replace f5 : DataW.trod enc Tryz.prog W 0 (fun _ => true) true m 47 [a5] = some y5 := f5
  have hw : ∀ n ∈ DataW.weightsEach Tryz.prog [46, 9, 9, 9, 2, 47] [y0.1, y1.1, y2.1, y3.1, y4.1, y5.1], n ≤ reachBytes := fun n hn => by
    refine hsz n ?_
    rw [show (DataW.weights Tryz.prog 49 (DataW.agg (List.map (fun x => x.1) [y0, y1, y2, y3, y4, y5]) : DataW H)) = DataW.weightsEach Tryz.prog [46, 9, 9, 9, 2, 47] [y0.1, y1.1, y2.1, y3.1, y4.1, y5.1] by simp only [DataW.weights, Tryz.underlying49]; rfl]
    exact hn
  obtain ⟨v0, l0, e0, r0, b0, n0⟩ := strs_of f0 (fun n hn => hw n (DataW.weights_mem_each (j := 0) rfl rfl n hn))
  obtain ⟨s1, e1, z1⟩ := sCell_of f1 (fun n hn => hw n (DataW.weights_mem_each (j := 1) rfl rfl n hn))
  obtain ⟨s2, e2, z2⟩ := sCell_of f2 (fun n hn => hw n (DataW.weights_mem_each (j := 2) rfl rfl n hn))
  obtain ⟨s3, e3, z3⟩ := sCell_of f3 (fun n hn => hw n (DataW.weights_mem_each (j := 3) rfl rfl n hn))
  obtain ⟨n4, e4, -, w4⟩ := DataW.trod_int Tryz.underlying2 f4
  obtain ⟨v5, l5, e5, r5, b5, n5⟩ := ents_of f5 (fun n hn => hw n (DataW.weights_mem_each (j := 5) rfl rfl n hn))
  simp only [sCell, List.cons.injEq, and_true] at e0 e1 e2 e3 e4 e5
  subst e0 e1 e2 e3 e4 e5
  exact ⟨⟨l0, s1, s2, s3, n4, l5⟩, ⟨_, _, rfl, r0, r5⟩, ⟨z1, z2, z3, n0, b0, n5, b5, i64_in w4⟩⟩
theorem arch_of {fuel : Nat} {cs : List Value} {x : DataW H × List MemPlace} (h : DataW.trod enc Tryz.prog W 0 (fun _ => true) true fuel 24 cs = some x) (hsz : ∀ n ∈ x.1.weights Tryz.prog 24, n ≤ reachBytes) :
    ∃ (v : Value) (a : List Mo.Fd), cs = [v] ∧ ArIs W v a ∧ Mw.ArB a := by
  obtain ⟨xs, m, -, rfl, hlen, hxs, hf⟩ := DataW.trod_struct Tryz.underlying24 h
  have c1 : Tryz.prog.cellsOf 22 = 1 := by kernel_rfl
  have c8 : Tryz.prog.cellsOf 24 = 1 := by kernel_rfl
  rw [c8] at hlen
  have hxs1 : xs.length = 1 := hxs
  obtain ⟨a0, rfl⟩ := list1 hlen
  obtain ⟨y0, rfl⟩ := list1 hxs1
  have f0 : DataW.trod enc Tryz.prog W 0 (fun _ => true) true m 22 (List.take (Tryz.prog.cellsOf 22) [a0]) = some y0 := hf 0 _ rfl
  rw [c1] at f0
  replace f0 : DataW.trod enc Tryz.prog W 0 (fun _ => true) true m 22 [a0] = some y0 := f0
  have hw : ∀ n ∈ DataW.weightsEach Tryz.prog [22] [y0.1], n ≤ reachBytes := fun n hn => by
    refine hsz n ?_
    rw [show (DataW.weights Tryz.prog 24 (DataW.agg (List.map (fun x => x.1) [y0]) : DataW H)) = DataW.weightsEach Tryz.prog [22] [y0.1] by simp only [DataW.weights, Tryz.underlying24]; rfl]
    exact hn
  obtain ⟨v, L, hcs, hR, hE, hl⟩ := row_of Tryz.underlying22 (sz := 6) (by kernel_rfl) (by omega) f0 (fun n hn => hw n (DataW.weights_mem_each (j := 0) rfl rfl n hn))
  have hall : ∃ l : List Mo.Fd, L.length = l.length ∧ (∀ j (hj : j < l.length) (hL : j < L.length), FdIs W l[j] L[j]) ∧ ∀ f ∈ l, Mw.FdB f := by
    clear hR hl hcs h hw f0 hf hlen hsz
    induction L with
    | nil => exact ⟨[], rfl, fun j hj => absurd hj (by simp), fun s hs => absurd hs (by simp)⟩
    | cons c r ih =>
      obtain ⟨l, e, hs, hb⟩ := ih (fun c hc => hE c (List.mem_cons_of_mem _ hc))
      obtain ⟨-, m, x', h1, h2⟩ := hE c (List.mem_cons_self ..)
      obtain ⟨f, h3, h4⟩ := feed_of h1 h2
      refine ⟨f :: l, by simp [e], fun j hj hL => ?_, fun t ht => by rcases List.mem_cons.1 ht with rfl | ht; exact h4; exact hb t ht⟩
      cases j with
      | zero => exact h3
      | succ j => exact hs j (by simpa using hj) (by simpa using hL)
  obtain ⟨l, h1, h2, h3⟩ := hall
  have hby : Tryz.prog.bytesOf 49 = 104 := by kernel_rfl
  have h5 := hreach
  rw [hby, h1] at hl
  exact ⟨v, l, hcs, ⟨L, h1, hR, h2⟩, ⟨by omega, h3⟩⟩
set_option maxRecDepth 100000 in
theorem arch_at {v : Value} {d : DataW H} {p : List MemPlace} {base : Nat} (hv : Value.okWide Tryz.prog W .any base 24 v) (h : DataW.Trod enc Tryz.prog W 0 (fun _ => true) true 24 v d p) {ts : List TypeId} {ds : List (DataW H)} {j : Nat} (hj : ts[j]? = some 24) (hd : ds[j]? = some d) (hsz : (DataW.weightsEach Tryz.prog ts ds).all (· ≤ reachBytes) = true) :
    ∃ (x : Value) (a : List Mo.Fd), v = .agg #[x] ∧ ArIs W x a ∧ Mw.ArB a := by
  obtain ⟨fuel, hf⟩ := h
  have hw : ∀ n ∈ d.weights Tryz.prog 24, n ≤ reachBytes := fun n hn => by simpa using List.all_eq_true.1 hsz n (DataW.weights_mem_each hj hd n hn)
  obtain ⟨cs, rfl, -⟩ : ∃ cs, v = .agg cs ∧ True := by
    unfold Value.okWide at hv
    rw [Tryz.underlying24] at hv
    obtain ⟨cs, h1, -⟩ := hv
    exact ⟨cs, h1, trivial⟩
  obtain ⟨x, a, hcs, h1, h2⟩ := arch_of hf hw
  refine ⟨x, a, ?_, h1, h2⟩
  have : cs.toList = (#[x] : Array Value).toList := by simpa [Value.cells] using hcs
  rw [Array.toList_inj.1 this]
end
end Go.Proofs.YtjaojenalodolaaGreatDoor.StO
