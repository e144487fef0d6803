/- Walks of rfc3339: offset, Parse. Printed by wip/genrf7.py. -/
import Derived.Test.YtikjehgbfkndjaaDoorRfW5
import Derived.Test.YtikjehgbfkndjaaDoorRfW6
namespace Go.Proofs.YtikjehgbfkndjaaDoor.Rp
open Go Go.RowKit Go.Proofs.YtikjehgbfkndjaaDoor Go.Proofs.YtikjehgbfkndjaaDoor.Bs
set_option linter.unusedVariables false

/-! ### what an offset's groups say -/
theorem off_none {l : List UInt8} (h : l.getD 0 0 = 43 ∨ l.getD 0 0 = 45) (hg : Rf.grp [58] 0 [2, 2] (l.drop 1) = none) : Rf.offs l = none := by
  rw [Rf.grp_two] at hg
  apply Rw.offs_none
  · rw [Rw.isB_not]
    rcases h with h | h <;> rw [h] <;> decide
  · rintro ⟨_, ⟨a1, a2⟩, b, ⟨c1, c2⟩, d⟩
    have e3 : Rf.isB (l.drop 1) 2 58 58 = Rf.isB l 3 58 58 := Rw.isB_drop l 1 2 58 58
    rw [e3, b, List.drop_drop, List.drop_drop] at hg
    have s1 : ∀ q : List UInt8, 0 ≤ Rf.numZ q 2 → ∃ n, Rf.val q 2 = some n := fun q hq => by
      cases e : Rf.val q 2 with
      | none => rw [Rf.numZ_none e] at hq; omega
      | some n => exact ⟨n, rfl⟩
    obtain ⟨x, hx⟩ := s1 _ a1
    obtain ⟨y, hy⟩ := s1 _ c1
    have hy' : Rf.val (l.drop (1 + 3)) 2 = some y := hy
    rw [hx, hy'] at hg
    simp at hg
theorem off_some {l : List UInt8} {p : List Nat × List UInt8} (h : l.getD 0 0 = 43 ∨ l.getD 0 0 = 45) (hg : Rf.grp [58] 0 [2, 2] (l.drop 1) = some p) : ∃ (x y : Nat) (rest : List UInt8), p = ([x, y], rest) ∧ x ≤ 99 ∧ y ≤ 99 ∧
    Rf.offs l = if rest = [] ∧ x ≤ 23 ∧ y ≤ 59 then some (if l.getD 0 0 = 45 then -((x : Int) * 3600 + (y : Int) * 60) else (x : Int) * 3600 + (y : Int) * 60) else none := by
  rw [Rf.grp_two] at hg
  have e3 : Rf.isB (l.drop 1) 2 58 58 = Rf.isB l 3 58 58 := Rw.isB_drop l 1 2 58 58
  rw [e3, List.drop_drop, List.drop_drop] at hg
  cases hx : Rf.val (l.drop 1) 2 with
  | none => rw [hx] at hg; simp at hg
  | some x =>
    cases hy : Rf.val (l.drop (1 + 3)) 2 with
    | none => rw [hx, hy] at hg; simp at hg
    | some y =>
      rw [hx, hy] at hg
      simp at hg
      obtain ⟨hb, rfl⟩ := hg
      have bx := Rf.val_bd _ _ _ hx
      have byy := Rf.val_bd _ _ _ hy
      have ln := Rf.val_len _ _ _ hy
      rw [List.length_drop] at ln
      have zx : Rf.numZ (l.drop 1) 2 = x := Rf.numZ_some hx
      have zy : Rf.numZ (l.drop 4) 2 = y := Rf.numZ_some hy
      refine ⟨x, y, _, rfl, by omega, by omega, ?_⟩
      have hz : Rf.isB l 0 90 122 = false := by
        rw [Rw.isB_not]
        rcases h with h | h <;> rw [h] <;> decide
      have hs : Rf.isB l 0 43 45 = true := Rw.isB_iff.2 h
      by_cases hc : l.drop 6 = [] ∧ x ≤ 23 ∧ y ≤ 59
      · obtain ⟨c1, c2, c3⟩ := hc
        have hl : l.length ≤ 6 := by
          have := congrArg List.length c1
          rw [List.length_drop, List.length_nil] at this
          omega
        rw [if_pos ⟨c1, c2, c3⟩]
        have := Rw.offs_some hz hs ⟨⟨by rw [zx]; omega, by rw [zx]; omega⟩, hb, ⟨by rw [zy]; omega, by rw [zy]; omega⟩, by omega⟩
        rw [zx, zy] at this
        exact this
      · rw [if_neg hc]
        apply Rw.offs_none hz
        rintro ⟨_, ⟨a1, a2⟩, _, ⟨b1, b2⟩, d⟩
        rw [zx] at a2
        rw [zy] at b2
        exact hc ⟨List.drop_of_length_le (by omega), by omega, by omega⟩
theorem off_bad {l : List UInt8} (h1 : l ≠ [90]) (h2 : l ≠ [122]) (h : l.getD 0 0 ≠ 43 ∧ l.getD 0 0 ≠ 45) : Rf.offs l = none := by
  unfold Rf.offs
  by_cases hz : l.getD 0 0 = 90 ∨ l.getD 0 0 = 122
  · rw [if_pos hz, if_neg]
    intro hl
    obtain ⟨x, hx⟩ : ∃ x, l = [x] := List.length_eq_one_iff.1 hl
    subst hx
    simp only [List.getD_cons_zero] at hz
    rcases hz with e | e
    · exact h1 (by rw [e])
    · exact h2 (by rw [e])
  · rw [if_neg hz, if_neg]
    rintro ⟨a, _⟩
    rcases a with a | a
    · exact h.1 a
    · exact h.2 a
theorem own_cells {w : World} {base n cap : Nat} {a : Option Addr} {xs : List Value} (h : w.ownsRow base 3 1 (.slice a n cap) n xs) (hn : 0 < n) : ∃ g, a = some ⟨g, 0, none⟩ ∧ g < w.heap.size ∧ ∀ (j : Nat) (x : Value), xs[j]? = some x → w.cell? ⟨g, j, none⟩ = some x := by
  rcases h.2 with ⟨_, h0⟩ | ⟨g, c, cur, hv, hb, hg, h1, h2, h3, h4⟩
  · omega
  · obtain ⟨rfl, _⟩ : a = some ⟨g, 0, none⟩ ∧ cap = c := by
      simp only [Value.slice.injEq] at hv
      exact ⟨hv.1, hv.2.2⟩
    refine ⟨g, rfl, lt_of_heap hg, fun j x hj => ?_⟩
    rw [← h4] at hj
    have hj2 : cur.toList[j]? = some x := by
      rw [List.getElem?_take] at hj
      split at hj
      · exact hj
      · cases hj
    unfold World.cell?
    simp only [hg]
    simpa using hj2
theorem two_cells (w : World) (x y : Value) (j : Nat) (u : Value) (hj : ([x, y] : List Value)[j]? = some u) : (w.alloc (.cells #[x, y] 3)).cell? ⟨w.heap.size, j, none⟩ = some u := by
  have h2 := new_block w (.cells #[x, y] 3)
  unfold World.cell?
  simp only [h2]
  simpa using hj
theorem six_cells (w : World) (xs : List Value) (j : Nat) (u : Value) (hj : xs[j]? = some u) : (w.alloc (.cells xs.toArray 3)).cell? ⟨w.heap.size, j, none⟩ = some u := by
  have h2 := new_block w (.cells xs.toArray 3)
  unfold World.cell?
  simp only [h2]
  simpa using hj
theorem two_at (j : Nat) (h : j < ([2, 2] : List Nat).length) : ([.int .i64 2, .int .i64 2] : List Value)[j]? = some (.int .i64 ((([2, 2] : List Nat).getD j 0 : Nat) : Int)) := by
  match j, h with
  | 0, _ => rfl
  | 1, _ => rfl
theorem six_at (j : Nat) (h : j < ([4, 2, 2, 2, 2, 2] : List Nat).length) : ([.int .i64 4, .int .i64 2, .int .i64 2, .int .i64 2, .int .i64 2, .int .i64 2] : List Value)[j]? = some (.int .i64 ((([4, 2, 2, 2, 2, 2] : List Nat).getD j 0 : Nat) : Int)) := by
  match j, h with
  | 0, _ => rfl
  | 1, _ => rfl
  | 2, _ => rfl
  | 3, _ => rfl
  | 4, _ => rfl
  | 5, _ => rfl
theorem groups_two (s : ByteArray) (W : World) (hs : s.size ≤ 1000000000) (r : Option (List Nat × List UInt8)) (hr : Rf.grp [58] 0 [2, 2] s.data.toList = r) :
    Calls Tryd.prog 24 #[.string s, .string ⟨#[58]⟩, .slice (some ⟨W.heap.size, 0, none⟩) 2 2] (W.alloc (.cells #[.int .i64 2, .int .i64 2] 3)) (GPost (W.alloc (.cells #[.int .i64 2, .int .i64 2] 3)) r) :=
  groups_any s ⟨#[58]⟩ [2, 2] W.heap.size 2 _ rfl hs (fun j hj => by match j, hj with | 0, _ => exact .inl rfl | 1, _ => exact .inl rfl) rfl (by decide) (fun j hj => by match j, hj with | 0, _ => decide) (by rw [alloc_sz]; omega)
    (fun j hj => six_cells W [.int .i64 2, .int .i64 2] j _ (two_at j hj)) r hr
theorem groups_six (s : ByteArray) (W : World) (hs : s.size ≤ 1000000000) (r : Option (List Nat × List UInt8)) (hr : Rf.grp [45, 45, 116, 58, 58] 0 [4, 2, 2, 2, 2, 2] s.data.toList = r) :
    Calls Tryd.prog 24 #[.string s, .string ⟨#[45, 45, 116, 58, 58]⟩, .slice (some ⟨W.heap.size, 0, none⟩) 6 6] (W.alloc (.cells #[.int .i64 4, .int .i64 2, .int .i64 2, .int .i64 2, .int .i64 2, .int .i64 2] 3)) (GPost (W.alloc (.cells #[.int .i64 4, .int .i64 2, .int .i64 2, .int .i64 2, .int .i64 2, .int .i64 2] 3)) r) :=
  groups_any s ⟨#[45, 45, 116, 58, 58]⟩ [4, 2, 2, 2, 2, 2] W.heap.size 6 _ rfl hs (fun j hj => by match j, hj with | 0, _ => exact .inr rfl | 1, _ => exact .inl rfl | 2, _ => exact .inl rfl | 3, _ => exact .inl rfl | 4, _ => exact .inl rfl | 5, _ => exact .inl rfl) rfl (by decide)
    (fun j hj => by match j, hj with | 0, _ => decide | 1, _ => decide | 2, _ => decide | 3, _ => decide | 4, _ => decide) (by rw [alloc_sz]; omega)
    (fun j hj => six_cells W [.int .i64 4, .int .i64 2, .int .i64 2, .int .i64 2, .int .i64 2, .int .i64 2] j _ (six_at j hj)) r hr
theorem groups_two_some (s : ByteArray) (W : World) (hs : s.size ≤ 1000000000) (x y : Nat) (rest : List UInt8) (R : ByteArray) (hr : Rf.grp [58] 0 [2, 2] s.data.toList = some ([x, y], rest)) (hR : rest = R.data.toList) :
    Calls Tryd.prog 24 #[.string s, .string ⟨#[58]⟩, .slice (some ⟨W.heap.size, 0, none⟩) 2 2] (W.alloc (.cells #[.int .i64 2, .int .i64 2] 3)) fun e w' => ∃ (g cap : Nat), e = .returned (.tuple #[.slice (some ⟨g, 0, none⟩) 2 cap, .string R, .bool true]) ∧
      (Below W.heap.size W w' ∧ w'.cell? ⟨g, 0, none⟩ = some (.int .i64 x) ∧ w'.cell? ⟨g, 1, none⟩ = some (.int .i64 y)) := by
  refine (groups_two s W hs _ hr).mono ?_
  rintro e w' ⟨a, cap, rfl, hb, ho⟩
  obtain ⟨g, rfl, hgl, hc⟩ := own_cells ho (by show 0 < 2; decide)
  refine ⟨g, cap, ?_, below_at ((Below.refl W.heap.size W).alloc (Nat.le_refl _) _) (by rw [alloc_sz]; omega) hb, hc 0 _ rfl, hc 1 _ rfl⟩
  subst hR
  rw [ba_of rfl]; rfl
theorem groups_six_some (s : ByteArray) (W : World) (hs : s.size ≤ 1000000000) (a b c d e f : Nat) (rest : List UInt8) (R : ByteArray) (hr : Rf.grp [45, 45, 116, 58, 58] 0 [4, 2, 2, 2, 2, 2] s.data.toList = some ([a, b, c, d, e, f], rest)) (hR : rest = R.data.toList) :
    Calls Tryd.prog 24 #[.string s, .string ⟨#[45, 45, 116, 58, 58]⟩, .slice (some ⟨W.heap.size, 0, none⟩) 6 6] (W.alloc (.cells #[.int .i64 4, .int .i64 2, .int .i64 2, .int .i64 2, .int .i64 2, .int .i64 2] 3)) fun ee w' => ∃ (g cap : Nat), ee = .returned (.tuple #[.slice (some ⟨g, 0, none⟩) 6 cap, .string R, .bool true]) ∧
      (Below W.heap.size W w' ∧ w'.cell? ⟨g, 0, none⟩ = some (.int .i64 a) ∧ w'.cell? ⟨g, 1, none⟩ = some (.int .i64 b) ∧ w'.cell? ⟨g, 2, none⟩ = some (.int .i64 c) ∧ w'.cell? ⟨g, 3, none⟩ = some (.int .i64 d) ∧ w'.cell? ⟨g, 4, none⟩ = some (.int .i64 e) ∧ w'.cell? ⟨g, 5, none⟩ = some (.int .i64 f)) := by
  refine (groups_six s W hs _ hr).mono ?_
  rintro ee w' ⟨a', cap, rfl, hb, ho⟩
  obtain ⟨g, rfl, hgl, hc⟩ := own_cells ho (by show 0 < 6; decide)
  refine ⟨g, cap, ?_, below_at ((Below.refl W.heap.size W).alloc (Nat.le_refl _) _) (by rw [alloc_sz]; omega) hb, hc 0 _ rfl, hc 1 _ rfl, hc 2 _ rfl, hc 3 _ rfl, hc 4 _ rfl, hc 5 _ rfl⟩
  subst hR
  rw [ba_of rfl]; rfl
theorem off_z {l : List UInt8} (h : l = [90] ∨ l = [122]) : Rf.offs l = some 0 := by rcases h with rfl | rfl <;> rfl
set_option maxRecDepth 100000 in
set_option maxHeartbeats 8000000 in
theorem offset_any (s : ByteArray) (W : World) (hs : s.size ≤ 1000000000) (o : Option Int) (ho : Rf.offs s.data.toList = o) :
    Calls Tryd.prog 27 #[.string s] W fun e w' => e = .returned (.tuple #[.int .i64 (Rw.oz o), .bool o.isSome]) ∧ Below W.heap.size W w' := by
  by_cases hz : s.data.toList = [90] ∨ s.data.toList = [122]
  · have HE := Lib.hid (show some 0 = o by rw [← ho]; exact (off_z hz).symm)
    clear ho
    rcases hz with hz | hz
    · have g1 : (s.toList == [90]) = true := by rw [Lib.toList_data, hz]; rfl
      clear hz
      go_enter Tryd.func27, Tryd.ntmps27
      go_wp2
      go_ret2
      exact ⟨ret_intb (by rw [← HE.out]; rfl) (by rw [← HE.out]; rfl), Below.refl _ _⟩
    · have g1 : (s.toList == [90]) = false := by rw [Lib.toList_data, hz]; rfl
      have g2 : (s.toList == [122]) = true := by rw [Lib.toList_data, hz]; rfl
      clear hz
      go_enter Tryd.func27, Tryd.ntmps27
      go_wp2
      go_ret2
      exact ⟨ret_intb (by rw [← HE.out]; rfl) (by rw [← HE.out]; rfl), Below.refl _ _⟩
  · have n1 : s.data.toList ≠ [90] := fun h => hz (.inl h)
    have n2 : s.data.toList ≠ [122] := fun h => hz (.inr h)
    have g1 : (s.toList == [90]) = false := by rw [Lib.toList_data, beq_eq_false_iff_ne]; exact n1
    have g2 : (s.toList == [122]) = false := by rw [Lib.toList_data, beq_eq_false_iff_ne]; exact n2
    clear hz
    by_cases h0 : s.size = 0
    · have HE := Lib.hid (show none = o by rw [← ho]; exact (off_bad n1 n2 (by rw [getD_out s 0 (by omega)]; decide)).symm)
      have g3 := empty_of h0
      clear ho h0 n1 n2
      go_enter Tryd.func27, Tryd.ntmps27
      go_wp2
      go_ret2
      exact ⟨ret_intb (by rw [← HE.out]; rfl) (by rw [← HE.out]; rfl), Below.refl _ _⟩
    · have hp : 0 < s.size := by omega
      have g3 := nonempty_of hp
      have hgt := getD_at s 0 hp
      by_cases hsg : s[0] = 43 ∨ s[0] = 45
      · have hsg' : s.data.toList.getD 0 0 = 43 ∨ s.data.toList.getD 0 0 = 45 := by rw [hgt]; exact hsg
        rcases hgr : Rf.grp [58] 0 [2, 2] (s.data.toList.drop 1) with _ | p
        · have HE := Lib.hid (show none = o by rw [← ho]; exact (off_none hsg' hgr).symm)
          have HG := Lib.hid (show Rf.grp [58] 0 [2, 2] (s.extract 1 s.size).data.toList = none by rw [drop_ext]; exact hgr)
          have HXS := Lib.hid (show (s.extract 1 s.size).size ≤ s.size by simp)
          rcases hsg with h | h
          all_goals
            have g4 : (s[0].toNat : Int) = _ := u8_eq (by decide) h
            clear ho n1 n2 hsg' hgr hgt h h0
            go_enter Tryd.func27, Tryd.ntmps27
            go_wp2_with fail
            refine (groups_two (s.extract 1 s.size) _ (by have := HXS.out; omega) none HG.out).mono ?_
            rintro e w1 ⟨rfl, hb⟩
            have HB := Lib.hid (below_trans ((Below.refl W.heap.size W).alloc (Nat.le_refl _) _) hb)
            clear hb
            go_wp2_with fail
            go_ret2
            exact ⟨ret_intb (by rw [← HE.out]; rfl) (by rw [← HE.out]; rfl), HB.out⟩
        · obtain ⟨x, y, rest, rfl, hx, hy, hof⟩ := off_some hsg' hgr
          rw [ho, hgt] at hof
          have HG := Lib.hid (show Rf.grp [58] 0 [2, 2] (s.extract 1 s.size).data.toList = some ([x, y], rest) by rw [drop_ext]; exact hgr)
          have HXS := Lib.hid (show (s.extract 1 s.size).size ≤ s.size by simp)
          obtain ⟨R, hR, hR2⟩ := ba_ex rest
          have HR := Lib.hid hR
          have HOF := Lib.hid hof
          clear ho n1 n2 hsg' hgr hgt h0 hof
          have g4 : ((s[0].toNat : Int) = 43) ∨ ((s[0].toNat : Int) = 45) := by rcases hsg with h | h <;> rw [h] <;> simp
          have sp : (rest ≠ [] ∨ (rest = [] ∧ 23 < x) ∨ (rest = [] ∧ x ≤ 23 ∧ 59 < y)) ∨ (rest = [] ∧ x ≤ 23 ∧ y ≤ 59) := by
            by_cases hre : rest = []
            · by_cases h1 : x ≤ 23
              · by_cases h2 : y ≤ 59
                · exact .inr ⟨hre, h1, h2⟩
                · exact .inl (.inr (.inr ⟨hre, h1, by omega⟩))
              · exact .inl (.inr (.inl ⟨hre, by omega⟩))
            · exact .inl (.inl hre)
          rcases sp with sp | ⟨s1, s2, s3⟩
          · have HE := Lib.hid (show none = o by
              rw [HOF.out, if_neg]
              rintro ⟨a1, a2, a3⟩
              rcases sp with h | ⟨_, h⟩ | ⟨_, _, h⟩
              · exact h a1
              · omega
              · omega)
            have sp2 : R.toList.isEmpty = false ∨ (R.toList.isEmpty = true ∧ 23 < x) ∨ (R.toList.isEmpty = true ∧ x ≤ 23 ∧ 59 < y) := by
              rw [Lib.toList_data, ← hR]
              rcases sp with h | ⟨h, h'⟩ | ⟨h, h', h2⟩
              · left; cases hl : rest with
                | nil => exact absurd hl h
                | cons _ _ => rfl
              · right; left; exact ⟨by rw [h]; rfl, h'⟩
              · right; right; exact ⟨by rw [h]; rfl, h', h2⟩
            clear sp hR hR2 hsg
            rcases g4 with g4 | g4
            all_goals
              rcases sp2 with k1 | ⟨k1, k2⟩ | ⟨k1, k2, k3⟩
              all_goals
                go_enter Tryd.func27, Tryd.ntmps27
                go_wp2_with fail
                refine (groups_two_some (s.extract 1 s.size) _ (by have := HXS.out; omega) x y rest R HG.out HR.out).mono ?_
                rintro e w1 ⟨g, cap, rfl, hb, hc0, hc1⟩
                have HB := Lib.hid hb
                clear hb
                go_wp2_with fail
                go_ret2
                exact ⟨ret_intb (by rw [← HE.out]; rfl) (by rw [← HE.out]; rfl), HB.out⟩
          · have HE := Lib.hid (show some (if s[0] = 45 then -((x : Int) * 3600 + (y : Int) * 60) else (x : Int) * 3600 + (y : Int) * 60) = o by have h := HOF.out; rw [if_pos ⟨s1, s2, s3⟩] at h; exact h.symm)
            have k1 : R.toList.isEmpty = true := by rw [Lib.toList_data, ← hR, s1]; rfl
            clear hR hR2 s1 g4
            rcases hsg with h | h
            · have HS := Lib.hid (show some ((x : Int) * 3600 + (y : Int) * 60) = o by rw [← HE.out, if_neg (by rw [h]; decide)])
              have g4 : (s[0].toNat : Int) = 43 := by rw [h]; rfl
              clear h
              go_enter Tryd.func27, Tryd.ntmps27
              go_wp2_with fail
              refine (groups_two_some (s.extract 1 s.size) _ (by have := HXS.out; omega) x y rest R HG.out HR.out).mono ?_
              rintro e w1 ⟨g, cap, rfl, hb, hc0, hc1⟩
              have HB := Lib.hid hb
              clear hb
              go_wp2_with fail
              go_quiet (fail)
              go_wp2_with fail
              go_ret2
              exact ⟨ret_intb (by rw [← HS.out]; rfl) (by rw [← HS.out]; rfl), below_drewN HB.out nq⟩
            · have HS := Lib.hid (show some (-((x : Int) * 3600 + (y : Int) * 60)) = o by rw [← HE.out, if_pos h])
              have g4 : (s[0].toNat : Int) = 45 := by rw [h]; rfl
              clear h
              go_enter Tryd.func27, Tryd.ntmps27
              go_wp2_with fail
              refine (groups_two_some (s.extract 1 s.size) _ (by have := HXS.out; omega) x y rest R HG.out HR.out).mono ?_
              rintro e w1 ⟨g, cap, rfl, hb, hc0, hc1⟩
              have HB := Lib.hid hb
              clear hb
              go_wp2_with fail
              go_quiet (fail)
              go_wp2_with fail
              go_ret2
              exact ⟨ret_intb (by rw [← HS.out]; rfl) (by rw [← HS.out]; rfl), below_drewN HB.out nq⟩
      · have HE := Lib.hid (show none = o by rw [← ho]; exact (off_bad n1 n2 (by rw [hgt]; exact ⟨fun h => hsg (.inl h), fun h => hsg (.inr h)⟩)).symm)
        have g4 : ((s[0].toNat : Int) != 43) = true := by
          have : ((s[0].toNat : Int) == ((43 : Nat) : Int)) = false := u8_ne (by decide) (fun h => hsg (.inl h))
          exact congrArg (!·) this
        have g5 : ((s[0].toNat : Int) != 45) = true := by
          have : ((s[0].toNat : Int) == ((45 : Nat) : Int)) = false := u8_ne (by decide) (fun h => hsg (.inr h))
          exact congrArg (!·) this
        clear ho n1 n2 hgt hsg h0
        go_enter Tryd.func27, Tryd.ntmps27
        go_wp2
        go_ret2
        exact ⟨ret_intb (by rw [← HE.out]; rfl) (by rw [← HE.out]; rfl), Below.refl _ _⟩

/-! ### Parse -/
theorem sec_ok (y m d h mi s : Int) (w : World) (ho : Rf.okS y m d h mi s = true) :
    Calls Tryd.prog 25 #[.int .i64 y, .int .i64 m, .int .i64 d, .int .i64 h, .int .i64 mi, .int .i64 s] w fun e w' => e = .returned (.tuple #[.int .i64 (Cal.num y m d * 86400 + (h * 3600 + mi * 60 + s)), .int .i64 0]) ∧ w' = w := by
  obtain ⟨⟨h1, h2⟩, a1, a2, a3, a4, a5, a6⟩ := Rw.okS_parts ho
  exact (Civ.sec_yes y m d h mi s w h1 h2 a1 a2 a3 a4 a5 a6).mono fun _ _ ⟨h1, h2⟩ => ⟨h1, h2.symm⟩
theorem sec_bad (y m d h mi s : Int) (w : World) (ho : Rf.okS y m d h mi s = false) :
    Calls Tryd.prog 25 #[.int .i64 y, .int .i64 m, .int .i64 d, .int .i64 h, .int .i64 mi, .int .i64 s] w fun e w' => e = .returned (.tuple #[.int .i64 0, .int .i64 3]) ∧ w' = w := by
  by_cases h1 : 1 ≤ d ∧ d ≤ Cal.dim y m
  · exact (Civ.sec_no y m d h mi s w h1.1 h1.2 (Rw.okS_not ho h1)).mono fun _ _ ⟨h1, h2⟩ => ⟨h1, h2.symm⟩
  · exact (Civ.sec_no_date y m d h mi s w h1).mono fun _ _ ⟨h1, h2⟩ => ⟨h1, h2.symm⟩
theorem sec_is (y m d h mi s : Int) (T x : Int) (w : World) (hv : Rf.secV y m d h mi s = (T, x)) :
    Calls Tryd.prog 25 #[.int .i64 y, .int .i64 m, .int .i64 d, .int .i64 h, .int .i64 mi, .int .i64 s] w fun e w' => e = .returned (.tuple #[.int .i64 T, .int .i64 x]) ∧ w' = w := by
  unfold Rf.secV at hv
  rcases ho : Rf.okS y m d h mi s with _ | _
  · rw [ho] at hv
    cases hv
    exact sec_bad y m d h mi s w ho
  · rw [ho, if_pos rfl] at hv
    cases hv
    exact sec_ok y m d h mi s w ho
theorem fraction_none (s : ByteArray) (W : World) (hs : s.size ≤ 1000000000) (hr : Rf.frac s.data.toList = none) :
    Calls Tryd.prog 26 #[.string s] W fun e w' => ∃ x : ByteArray, e = .returned (.tuple #[.string x, .bool false]) ∧ (x.size ≤ 1000000000 ∧ w' = W) :=
  (fraction_any s W hs none hr).mono fun _ _ ⟨⟨x, h1, h2⟩, h3⟩ => ⟨x, h1, h2, h3⟩
theorem fraction_some (s X : ByteArray) (W : World) (hs : s.size ≤ 1000000000) (hr : Rf.frac s.data.toList = some X.data.toList) :
    Calls Tryd.prog 26 #[.string s] W fun e w' => e = .returned (.tuple #[.string X, .bool true]) ∧ w' = W :=
  (fraction_any s W hs _ hr).mono fun _ _ ⟨h1, h2⟩ => ⟨by rw [h1, ba_of rfl], h2⟩
theorem offset_is (s : ByteArray) (z : Int) (b : Bool) (W : World) (hs : s.size ≤ 1000000000) (hz : Rw.oz (Rf.offs s.data.toList) = z) (hb : (Rf.offs s.data.toList).isSome = b) :
    Calls Tryd.prog 27 #[.string s] W fun e w' => e = .returned (.tuple #[.int .i64 z, .bool b]) ∧ Below W.heap.size W w' := by
  rw [← hz, ← hb]; exact offset_any s W hs _ rfl
theorem frac_size {l r : List UInt8} (h : Rf.frac l = some r) : r.length ≤ l.length := by
  unfold Rf.frac at h
  split at h
  · split at h
    · cases h
    · cases h; simp
  · cases h; exact Nat.le_refl _
set_option maxRecDepth 100000 in
set_option maxHeartbeats 8000000 in
theorem parse_none (s : ByteArray) (W : World) (hs : s.size ≤ 1000000000) (hg : Rf.grp [45, 45, 116, 58, 58] 0 [4, 2, 2, 2, 2, 2] s.data.toList = none) :
    Calls Tryd.prog 13 #[.string s] W fun e w' => e = .returned (.tuple #[.int .i64 0, .int .i64 20]) ∧ Below W.heap.size W w' := by
  have HG := Lib.hid hg
  clear hg
  go_enter Tryd.func13, Tryd.ntmps13
  go_wp2_with fail
  refine (groups_six s _ hs none HG.out).mono ?_
  rintro e w1 ⟨rfl, hb⟩
  have HB := Lib.hid (below_trans ((Below.refl W.heap.size W).alloc (Nat.le_refl _) _) hb)
  clear hb
  go_wp2_with fail
  go_ret2
  exact ⟨rfl, HB.out⟩
set_option maxRecDepth 100000 in
set_option maxHeartbeats 8000000 in
theorem parse_frac (s : ByteArray) (a b c d e f : Nat) (rest : List UInt8) (T x : Int) (W : World) (hs : s.size ≤ 1000000000) (hg : Rf.grp [45, 45, 116, 58, 58] 0 [4, 2, 2, 2, 2, 2] s.data.toList = some ([a, b, c, d, e, f], rest)) (hl : rest.length ≤ 1000000000) (hsv : Rf.secV a b c d e f = (T, x)) (hx : x = 0 ∨ x = 3) (hf : Rf.frac rest = none) :
    Calls Tryd.prog 13 #[.string s] W fun ee w' => ee = .returned (.tuple #[.int .i64 0, .int .i64 20]) ∧ Below W.heap.size W w' := by
  have HG := Lib.hid hg
  have HSV := Lib.hid hsv
  obtain ⟨R, hR, hRs⟩ := ba_ex rest
  have HR := Lib.hid hR
  have hr9 : R.size ≤ 1000000000 := by omega
  have HF := Lib.hid (show Rf.frac R.data.toList = none by rw [← hR]; exact hf)
  clear hg hsv hR hRs hf hl
  rcases hx with rfl | rfl
  all_goals
    go_enter Tryd.func13, Tryd.ntmps13
    go_wp2_with fail
    refine (groups_six_some s _ hs a b c d e f rest R HG.out HR.out).mono ?_
    rintro ee w1 ⟨g, cap, rfl, hb, hc0, hc1, hc2, hc3, hc4, hc5⟩
    have HB1 := Lib.hid hb
    have hz1 := hb.size
    clear hb
    go_wp2_with fail
    go_quiet ((go_at_call 25; exact Calls.quiet_of_same (sec_is _ _ _ _ _ _ _ _ _ HSV.out)))
    have HB2 := Lib.hid (below_drewN HB1.out nq)
    clear hc0 hc1 hc2 hc3 hc4 hc5
    generalize w1.drewN nq = w2 at HB2 ⊢
    go_wp2_with fail
    refine (fraction_none R _ hr9 HF.out).mono ?_
    rintro ee w' ⟨X, rfl, hX, rfl⟩
    obtain ⟨z, hz⟩ : ∃ z, Rw.oz (Rf.offs X.data.toList) = z := ⟨_, rfl⟩
    obtain ⟨bb, hbb⟩ : ∃ z, (Rf.offs X.data.toList).isSome = z := ⟨_, rfl⟩
    have HZ := Lib.hid hz
    have HBB := Lib.hid hbb
    clear hz hbb
    go_wp2_with fail
    refine (offset_is X z bb _ hX HZ.out HBB.out).mono ?_
    rintro ee w3 ⟨rfl, hb⟩
    have HB3 := Lib.hid (below_at HB2.out HB2.out.size hb)
    clear hb
    go_wp2_with fail
    go_ret2
    exact ⟨rfl, HB3.out⟩
set_option maxRecDepth 100000 in
set_option maxHeartbeats 8000000 in
theorem parse_off (s : ByteArray) (a b c d e f : Nat) (rest : List UInt8) (T x : Int) (W : World) (hs : s.size ≤ 1000000000) (hg : Rf.grp [45, 45, 116, 58, 58] 0 [4, 2, 2, 2, 2, 2] s.data.toList = some ([a, b, c, d, e, f], rest)) (hl : rest.length ≤ 1000000000) (hsv : Rf.secV a b c d e f = (T, x)) (X : ByteArray) (hf : Rf.frac rest = some X.data.toList) (hX : X.size ≤ 1000000000) (hx : x = 3 ∧ T = 0 ∨ x = 0 ∧ Rf.offs X.data.toList = none) :
    Calls Tryd.prog 13 #[.string s] W fun ee w' => ee = .returned (.tuple #[.int .i64 0, .int .i64 20]) ∧ Below W.heap.size W w' := by
  have HG := Lib.hid hg
  have HSV := Lib.hid hsv
  obtain ⟨R, hR, hRs⟩ := ba_ex rest
  have HR := Lib.hid hR
  have hr9 : R.size ≤ 1000000000 := by omega
  have HF := Lib.hid (show Rf.frac R.data.toList = some X.data.toList by rw [← hR]; exact hf)
  obtain ⟨z, hz⟩ : ∃ z, Rw.oz (Rf.offs X.data.toList) = z := ⟨_, rfl⟩
  obtain ⟨bb, hbb⟩ : ∃ z, (Rf.offs X.data.toList).isSome = z := ⟨_, rfl⟩
  have HZ := Lib.hid hz
  have HBB := Lib.hid hbb
  have hx2 : x = 3 ∨ (x = 0 ∧ bb = false) := by
    rcases hx with ⟨h, _⟩ | ⟨h, h2⟩
    · exact .inl h
    · exact .inr ⟨h, by rw [← hbb, h2]; rfl⟩
  clear hg hsv hR hRs hf hl hz hbb hx
  rcases hx2 with rfl | ⟨rfl, rfl⟩
  all_goals
    go_enter Tryd.func13, Tryd.ntmps13
    go_wp2_with fail
    refine (groups_six_some s _ hs a b c d e f rest R HG.out HR.out).mono ?_
    rintro ee w1 ⟨g, cap, rfl, hb, hc0, hc1, hc2, hc3, hc4, hc5⟩
    have HB1 := Lib.hid hb
    have hz1 := hb.size
    clear hb
    go_wp2_with fail
    go_quiet ((go_at_call 25; exact Calls.quiet_of_same (sec_is _ _ _ _ _ _ _ _ _ HSV.out)))
    have HB2 := Lib.hid (below_drewN HB1.out nq)
    clear hc0 hc1 hc2 hc3 hc4 hc5
    generalize w1.drewN nq = w2 at HB2 ⊢
    go_wp2_with fail
    refine (fraction_some R X _ hr9 HF.out).mono ?_
    rintro ee w' ⟨rfl, rfl⟩
    go_wp2_with fail
    refine (offset_is X z _ _ hX HZ.out HBB.out).mono ?_
    rintro ee w3 ⟨rfl, hb⟩
    have HB3 := Lib.hid (below_at HB2.out HB2.out.size hb)
    clear hb
    go_wp2_with fail
    go_ret2
    exact ⟨rfl, HB3.out⟩
set_option maxRecDepth 100000 in
set_option maxHeartbeats 8000000 in
theorem parse_in (s : ByteArray) (a b c d e f : Nat) (rest : List UInt8) (T x : Int) (W : World) (hs : s.size ≤ 1000000000) (hg : Rf.grp [45, 45, 116, 58, 58] 0 [4, 2, 2, 2, 2, 2] s.data.toList = some ([a, b, c, d, e, f], rest)) (hl : rest.length ≤ 1000000000) (hsv : Rf.secV a b c d e f = (T, x)) (X : ByteArray) (hf : Rf.frac rest = some X.data.toList) (hX : X.size ≤ 1000000000) (hx : x = 0) (n : Int) (ho : Rf.offs X.data.toList = some n) (t1 : -62135596800 ≤ T) (t2 : T ≤ 253402300799) :
    Calls Tryd.prog 13 #[.string s] W fun ee w' => ee = .returned (.tuple #[.int .i64 (Rf.rng (T - n)).1, .int .i64 (Rf.rng (T - n)).2]) ∧ Below W.heap.size W w' := by
  have HG := Lib.hid hg
  have HSV := Lib.hid hsv
  obtain ⟨R, hR, hRs⟩ := ba_ex rest
  have HR := Lib.hid hR
  have hr9 : R.size ≤ 1000000000 := by omega
  have HF := Lib.hid (show Rf.frac R.data.toList = some X.data.toList by rw [← hR]; exact hf)
  obtain ⟨nb1, nb2⟩ := Rf.offs_bd ho
  have HZ := Lib.hid (show Rw.oz (Rf.offs X.data.toList) = n by rw [ho]; rfl)
  have HBB := Lib.hid (show (Rf.offs X.data.toList).isSome = true by rw [ho]; rfl)
  subst hx
  clear hg hsv hR hRs hf hl ho
  have cs : (T - n < -62135596800 ∨ 253402300799 < T - n) ∨ (-62135596800 ≤ T - n ∧ T - n ≤ 253402300799) := by omega
  rcases cs with hc | ⟨hc, hc'⟩
  · have HV := Lib.hid (show (0, 3) = Rf.rng (T - n) by unfold Rf.rng; rw [if_pos hc])
    rcases hc with hc | hc
    all_goals
      go_enter Tryd.func13, Tryd.ntmps13
      go_wp2_with fail
      refine (groups_six_some s _ hs a b c d e f rest R HG.out HR.out).mono ?_
      rintro ee w1 ⟨g, cap, rfl, hb, hc0, hc1, hc2, hc3, hc4, hc5⟩
      have HB1 := Lib.hid hb
      have hz1 := hb.size
      clear hb
      go_wp2_with fail
      go_quiet ((go_at_call 25; exact Calls.quiet_of_same (sec_is _ _ _ _ _ _ _ _ _ HSV.out)))
      have HB2 := Lib.hid (below_drewN HB1.out nq)
      clear hc0 hc1 hc2 hc3 hc4 hc5
      generalize w1.drewN nq = w2 at HB2 ⊢
      go_wp2_with fail
      refine (fraction_some R X _ hr9 HF.out).mono ?_
      rintro ee w' ⟨rfl, rfl⟩
      go_wp2_with fail
      refine (offset_is X n true _ hX HZ.out HBB.out).mono ?_
      rintro ee w3 ⟨rfl, hb⟩
      have HB3 := Lib.hid (below_at HB2.out HB2.out.size hb)
      clear hb
      go_wp2_with fail
      go_ret2
      exact ⟨ret_two (congrArg Prod.fst HV.out) (congrArg Prod.snd HV.out), HB3.out⟩
  · have HV := Lib.hid (show (T - n, 0) = Rf.rng (T - n) by unfold Rf.rng; rw [if_neg (by omega)])
    go_enter Tryd.func13, Tryd.ntmps13
    go_wp2_with fail
    refine (groups_six_some s _ hs a b c d e f rest R HG.out HR.out).mono ?_
    rintro ee w1 ⟨g, cap, rfl, hb, hc0, hc1, hc2, hc3, hc4, hc5⟩
    have HB1 := Lib.hid hb
    have hz1 := hb.size
    clear hb
    go_wp2_with fail
    go_quiet ((go_at_call 25; exact Calls.quiet_of_same (sec_is _ _ _ _ _ _ _ _ _ HSV.out)))
    have HB2 := Lib.hid (below_drewN HB1.out nq)
    clear hc0 hc1 hc2 hc3 hc4 hc5
    generalize w1.drewN nq = w2 at HB2 ⊢
    go_wp2_with fail
    refine (fraction_some R X _ hr9 HF.out).mono ?_
    rintro ee w' ⟨rfl, rfl⟩
    go_wp2_with fail
    refine (offset_is X n true _ hX HZ.out HBB.out).mono ?_
    rintro ee w3 ⟨rfl, hb⟩
    have HB3 := Lib.hid (below_at HB2.out HB2.out.size hb)
    clear hb
    go_wp2_with fail
    go_ret2
    exact ⟨ret_two (congrArg Prod.fst HV.out) (congrArg Prod.snd HV.out), HB3.out⟩
theorem parse_any (s : ByteArray) (W : World) (hs : s.size ≤ 1000000000) (u z : Int) (hv : Rf.rp s.data.toList = (u, z)) :
    Calls Tryd.prog 13 #[.string s] W fun e w' => e = .returned (.tuple #[.int .i64 u, .int .i64 z]) ∧ Below W.heap.size W w' := by
  rcases hg : Rf.grp [45, 45, 116, 58, 58] 0 [4, 2, 2, 2, 2, 2] s.data.toList with _ | p
  · rw [Rf.six_none hg] at hv
    cases hv
    exact parse_none s W hs hg
  · obtain ⟨a, b, c, d, e, f, rfl, _, hl, hrp⟩ := Rf.six_some hg
    rw [hv] at hrp
    have hll : (s.data.toList.drop 19).length ≤ 1000000000 := by simp; omega
    obtain ⟨T, x, hsv⟩ : ∃ T x, Rf.secV a b c d e f = (T, x) := ⟨_, _, rfl⟩
    have hsv' := hsv
    unfold Rf.secV at hsv'
    rcases ho : Rf.okS a b c d e f with _ | _
    · rw [ho] at hrp hsv'
      cases hsv'
      simp only [Bool.false_eq_true, if_false] at hrp
      cases hrp
      cases hf : Rf.frac (s.data.toList.drop 19) with
      | none => exact parse_frac s a b c d e f _ 0 3 W hs hg hll hsv (.inr rfl) hf
      | some r =>
        obtain ⟨X, hX, hX2⟩ := ba_ex r
        rw [hX] at hf
        exact parse_off s a b c d e f _ 0 3 W hs hg hll hsv X hf (by have := frac_size hf; rw [← hX] at this; omega) (.inl ⟨rfl, rfl⟩)
    · rw [ho, if_pos rfl] at hrp hsv'
      cases hsv'
      obtain ⟨t1, t2⟩ := Rw.num_rng ho
      cases hf : Rf.frac (s.data.toList.drop 19) with
      | none =>
        rw [Rw.tl_none hf] at hrp
        cases hrp
        exact parse_frac s a b c d e f _ _ 0 W hs hg hll hsv (.inl rfl) hf
      | some r =>
        obtain ⟨X, hX, hX2⟩ := ba_ex r
        rw [hX] at hf
        have hX3 : X.size ≤ 1000000000 := by have := frac_size hf; rw [← hX] at this; omega
        cases hoo : Rf.offs X.data.toList with
        | none =>
          rw [Rw.tl_off hf hoo] at hrp
          cases hrp
          exact parse_off s a b c d e f _ _ 0 W hs hg hll hsv X hf hX3 (.inr ⟨rfl, hoo⟩)
        | some n =>
          rw [Rw.tl_some hf hoo] at hrp
          have := parse_in s a b c d e f _ _ 0 W hs hg hll hsv X hf hX3 rfl n hoo t1 t2
          rw [← hrp] at this
          exact this
end Go.Proofs.YtikjehgbfkndjaaDoor.Rp
