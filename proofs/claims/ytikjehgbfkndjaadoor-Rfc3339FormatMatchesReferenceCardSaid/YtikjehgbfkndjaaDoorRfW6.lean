/- Walks of rfc3339: fraction, groups. Printed by wip/genrf6.py. -/
import Derived.Test.YtikjehgbfkndjaaDoorBs
import Derived.Test.YtikjehgbfkndjaaDoorRfW3
import Derived.Lib.SlBytesConst
import Derived.Lib.ConvBytes
import Derived.Deep.AppendLies
import Derived.Deep.RegionLaw
namespace Go.Proofs.YtikjehgbfkndjaaDoor.Rp
open Go Go.RowKit Go.Proofs.YtikjehgbfkndjaaDoor Go.Proofs.YtikjehgbfkndjaaDoor.Bs
set_option linter.unusedVariables false

/-! ### fraction -/
theorem frac_0 {l : List UInt8} (h : l.getD 0 0 ≠ 46) : Rf.frac l = some l := by unfold Rf.frac; rw [if_neg h]
theorem frac_1 {l : List UInt8} (h : l.getD 0 0 = 46) (h1 : Rf.nd (l.drop 1) = 0) : Rf.frac l = none := by unfold Rf.frac; rw [if_pos h, if_pos h1]
theorem frac_2 {l : List UInt8} (h : l.getD 0 0 = 46) (h1 : Rf.nd (l.drop 1) ≠ 0) : Rf.frac l = some (l.drop (1 + Rf.nd (l.drop 1))) := by unfold Rf.frac; rw [if_pos h, if_neg h1]
def FPost (W : World) (r : Option (List UInt8)) (e : Ending) (w' : World) : Prop := match r with
  | none => (∃ x : ByteArray, e = .returned (.tuple #[.string x, .bool false]) ∧ x.size ≤ 1000000000) ∧ w' = W
  | some l => e = .returned (.tuple #[.string ⟨l.toArray⟩, .bool true]) ∧ w' = W
theorem fp_some {W : World} {s : ByteArray} {r : Option (List UInt8)} (h : some s.data.toList = r) : FPost W r (.returned (.tuple #[.string s, .bool true])) W := by
  rw [← h]
  exact ⟨by rw [ba_of rfl], rfl⟩
theorem empty_of {s : ByteArray} (h : s.size = 0) : s.toList.isEmpty = true := by
  rw [Lib.toList_data]
  have : s.data.toList.length = 0 := by simpa using h
  rw [List.isEmpty_iff_length_eq_zero]; exact this
theorem nonempty_of {s : ByteArray} (h : 0 < s.size) : s.toList.isEmpty = false := by
  rw [Lib.toList_data]
  have : 0 < s.data.toList.length := by simpa using h
  cases hl : s.data.toList with
  | nil => rw [hl] at this; simp at this
  | cons a b => rfl
set_option maxRecDepth 100000 in
set_option maxHeartbeats 8000000 in
theorem fraction_any (s : ByteArray) (W : World) (hs : s.size ≤ 1000000000) (r : Option (List UInt8)) (hr : Rf.frac s.data.toList = r) :
    Calls Tryd.prog 26 #[.string s] W (FPost W r) := by
  by_cases h0 : s.size = 0
  · have HR := Lib.hid (show some s.data.toList = r by rw [← hr]; exact (frac_0 (by rw [getD_out s 0 (by omega)]; decide)).symm)
    have g1 := empty_of h0
    have P := Lib.hid (fp_some (W := W) HR.out)
    clear hr h0
    go_enter Tryd.func26, Tryd.ntmps26
    go_wp2
    go_ret2
    exact P.out
  · have hp : 0 < s.size := by omega
    have g1 := nonempty_of hp
    have hg := getD_at s 0 hp
    by_cases h46 : s[0] = 46
    · have g2 : ((s[0].toNat : Int) != 46) = false := by rw [h46]; rfl
      rw [h46] at hg
      have HG := Lib.hid hg
      have HR := Lib.hid hr
      clear hr hg h46 h0
      go_enter Tryd.func26, Tryd.ntmps26
      go_wp2_with fail
      clear g1 g2
      go_loop [4] (fun c => ∃ k : Nat, 1 ≤ k ∧ k ≤ s.size ∧ c = .int .i64 k ∧ Hid (1 + Rf.nd (s.data.toList.drop 1) = k + Rf.nd (s.data.toList.drop k))) (fun c => s.size - (intOf c).toNat)
      case atStart => exact ⟨1, Nat.le_refl _, by omega, rfl, rfl⟩
      case round =>
        obtain ⟨k, hk1, hk2, rfl, HK⟩ := hrel
        rcases hd : Rf.isD (s.data.toList.getD k 0) with _ | _
        · have hnd := Rf.nd_stop _ _ hd
          have HN := Lib.hid (show 1 + Rf.nd (s.data.toList.drop 1) = k by rw [HK.out, hnd, Nat.add_zero])
          have HX := Lib.hid (drop_ext s k)
          have HXS := Lib.hid (show (s.extract k s.size).size ≤ s.size by simp)
          have post : ∀ (b : Bool), b = decide (1 < k) → FPost W r (.returned (.tuple #[.string (s.extract k s.size), .bool b])) W := by
            intro b hb
            subst hb
            by_cases k1 : k = 1
            · have e : r = none := by rw [← HR.out]; exact frac_1 HG.out (by have := HN.out; omega)
              subst k1
              rw [e]
              exact ⟨⟨_, rfl, by have := HXS.out; omega⟩, rfl⟩
            · have e : r = some (s.data.toList.drop k) := by rw [← HR.out, frac_2 HG.out (by have := HN.out; omega), HN.out]
              rw [e]
              refine ⟨?_, rfl⟩
              rw [decide_eq_true (by omega), ← HX.out, ba_of rfl]
          have P := Lib.hid post
          have cs : s.size ≤ k ∨ (∃ h : k < s.size, (s[k].toNat < 48 ∨ (48 ≤ s[k].toNat ∧ 57 < s[k].toNat))) := by
            by_cases hlt : k < s.size
            · right
              refine ⟨hlt, ?_⟩
              rw [getD_at s k hlt] at hd
              have : ¬ (48 ≤ s[k].toNat ∧ s[k].toNat ≤ 57) := fun h => by rw [Rf.isD_iff.2 h] at hd; cases hd
              omega
            · left; omega
          clear hd hnd post
          rcases cs with h | ⟨hlt, h | ⟨h, h'⟩⟩
          all_goals
            go_wp2
            refine bodyPost_ret (v := .tuple #[.string (s.extract k s.size), .bool (decide ((1 : Int) < (k : Int)))]) (by simp [results, Tryd.results26, go_sem]) rfl (P.out _ (by simp; omega))
        · have hlt := Rw.isD_lt hd
          have HN := Lib.hid (show 1 + Rf.nd (s.data.toList.drop 1) = (k + 1) + Rf.nd (s.data.toList.drop (k + 1)) by rw [HK.out, Rf.nd_step _ _ hd]; omega)
          rw [getD_at s k hlt] at hd
          obtain ⟨d1, d2⟩ := Rf.isD_iff.1 hd
          clear hd
          go_wp2
          go_round
          case rel => exact ⟨k + 1, by omega, by omega, by go_num, HN.out⟩
          case measure => simp [intOf]; omega
    · have g2 : ((s[0].toNat : Int) != 46) = true := by
        have := u8_ne (n := 46) (by decide) h46
        rw [bne, show (46 : Int) = ((46 : Nat) : Int) from rfl, this]; rfl
      have HR := Lib.hid (show some s.data.toList = r by rw [← hr]; exact (frac_0 (by rw [hg]; exact h46)).symm)
      have P := Lib.hid (fp_some (W := W) HR.out)
      clear hr h0 hg h46
      go_enter Tryd.func26, Tryd.ntmps26
      go_wp2
      go_ret2
      exact P.out

/-! ### groups -/
def GPost (W : World) (r : Option (List Nat × List UInt8)) (e : Ending) (w' : World) : Prop := match r with
  | none => e = .returned (.tuple #[.slice none 0 0, .string ⟨#[]⟩, .bool false]) ∧ Below W.heap.size W w'
  | some p => ∃ (a : Option Addr) (cap : Nat), e = .returned (.tuple #[.slice a p.1.length cap, .string ⟨p.2.toArray⟩, .bool true]) ∧ Below W.heap.size W w' ∧ w'.ownsRow W.heap.size 3 1 (.slice a p.1.length cap) p.1.length (p.1.map fun (n : Nat) => Value.int .i64 (n : Int))
def Core (r : Option (List Nat × List UInt8)) (bt : List UInt8) (ws : List Nat) (i : Nat) (ns : List Nat) (wd : Nat) (l : List UInt8) : Prop :=
  r = ((Rf.val l wd).bind fun n => (Rf.grp bt (i + 1) (ws.drop (i + 1)) (l.drop wd)).map fun p => (n :: p.1, p.2)).map fun p => (ns ++ p.1, p.2)
theorem core_none {r : Option (List Nat × List UInt8)} {bt : List UInt8} {ws : List Nat} {i : Nat} {ns : List Nat} {wd : Nat} {l : List UInt8} (h : Core r bt ws i ns wd l) (h1 : Rf.val l wd = none) : r = none := by
  unfold Core at h; rw [h, h1]; rfl
theorem core_some {r : Option (List Nat × List UInt8)} {bt : List UInt8} {ws : List Nat} {i : Nat} {ns : List Nat} {wd m : Nat} {l : List UInt8} (h : Core r bt ws i ns wd l) (h1 : Rf.val l wd = some m) :
    r = (Rf.grp bt (i + 1) (ws.drop (i + 1)) (l.drop wd)).map fun p => ((ns ++ [m]) ++ p.1, p.2) := by
  unfold Core at h; rw [h, h1]
  cases Rf.grp bt (i + 1) (ws.drop (i + 1)) (l.drop wd) <;> simp
theorem core_0 {r : Option (List Nat × List UInt8)} {bt : List UInt8} {ws : List Nat} {ns : List Nat} {l : List UInt8} (hi : 0 < ws.length) (h : r = (Rf.grp bt 0 (ws.drop 0) l).map fun p => (ns ++ p.1, p.2)) : Core r bt ws 0 ns (ws.getD 0 0) l := by
  obtain ⟨x, y, hxy⟩ : ∃ x y, ws = x :: y := by
    cases ws with
    | nil => simp at hi
    | cons x y => exact ⟨x, y, rfl⟩
  subst hxy
  rw [h]; rfl
theorem drop_head {ws : List Nat} {i : Nat} (hi : i < ws.length) : ws.drop i = ws.getD i 0 :: ws.drop (i + 1) := by
  rw [List.drop_eq_getElem_cons hi]
  simp [List.getD_eq_getElem?_getD, List.getElem?_eq_getElem hi]
theorem core_1 {r : Option (List Nat × List UInt8)} {bt : List UInt8} {ws : List Nat} {i : Nat} {ns : List Nat} {l : List UInt8} (hi : i + 1 < ws.length) (h : r = (Rf.grp bt (i + 1) (ws.drop (i + 1)) l).map fun p => (ns ++ p.1, p.2))
    (hs : Rf.sepOk (bt.getD i 0) (l.getD 0 0) = true) : Core r bt ws (i + 1) ns (ws.getD (i + 1) 0) (l.drop 1) := by
  rw [drop_head hi] at h
  rw [h]
  simp only [Rf.grp]
  rw [if_pos hs]
  unfold Core
  rfl
theorem core_x {r : Option (List Nat × List UInt8)} {bt : List UInt8} {ws : List Nat} {i : Nat} {ns : List Nat} {l : List UInt8} (hi : i + 1 < ws.length) (h : r = (Rf.grp bt (i + 1) (ws.drop (i + 1)) l).map fun p => (ns ++ p.1, p.2))
    (hs : Rf.sepOk (bt.getD i 0) (l.getD 0 0) = false) : r = none := by
  rw [drop_head hi] at h
  rw [h]
  simp only [Rf.grp]
  rw [hs]; rfl
theorem core_end {r : Option (List Nat × List UInt8)} {bt : List UInt8} {ws : List Nat} {i : Nat} {ns : List Nat} {l : List UInt8} (hi : i = ws.length) (h : r = (Rf.grp bt i (ws.drop i) l).map fun p => (ns ++ p.1, p.2)) : r = some (ns, l) := by
  rw [List.drop_of_length_le (by omega)] at h
  rw [h]; simp [Rf.grp]
theorem gp_none {W w' : World} {r : Option (List Nat × List UInt8)} (h : r = none) (hb : Below W.heap.size W w') : GPost W r (.returned (.tuple #[.slice none 0 0, .string ⟨#[]⟩, .bool false])) w' := by
  rw [h]; exact ⟨rfl, hb⟩
theorem gp_some {W w' : World} {r : Option (List Nat × List UInt8)} {ns : List Nat} {t : ByteArray} {a : Option Addr} {cap : Nat} (h : r = some (ns, t.data.toList)) (hb : Below W.heap.size W w')
    (ho : w'.ownsRow W.heap.size 3 1 (.slice a ns.length cap) ns.length (ns.map fun (n : Nat) => Value.int .i64 (n : Int))) : GPost W r (.returned (.tuple #[.slice a ns.length cap, .string t, .bool true])) w' := by
  rw [h]
  exact ⟨a, cap, by rw [ba_of rfl], hb, ho⟩
theorem infoI : (Tryd.prog.info? 3).map (fun i => (i.zero, i.size, i.bytes)) = some (some (.int .i64 0), 1, 8) := by kernel_rfl
theorem world_below (w : World) (e : TypeId) (s : ByteArray) : Below w.heap.size w (Lib.bytesWorld w e s) :=
  ⟨rfl, rfl, rfl, by rw [Lib.bytesWorld_size]; omega, fun k hk => Lib.bytesWorld_at_old w e s k hk⟩
theorem own_sliceI {w : World} {base : Nat} {v : Value} {n : Nat} {xs : List Value} (h : w.ownsRow base 3 1 v n xs) : ∃ a cap, v = .slice a n cap := by
  rcases h.2 with ⟨rfl, rfl⟩ | ⟨g, cap, cur, rfl, _⟩
  · exact ⟨_, _, rfl⟩
  · exact ⟨_, _, rfl⟩
theorem new_cellI (w : World) (x : Value) (j : Nat) (u : Value) (hj : ([x] : List Value)[j]? = some u) : (w.alloc (.cells #[x] 3)).cell? ((⟨w.heap.size, 0, none⟩ : Addr).add j) = some u := by
  match j, hj with
  | 0, hj => simp at hj; subst hj; simp [Addr.add]
set_option maxRecDepth 100000 in
set_option maxHeartbeats 8000000 in
theorem groups_any (s bt : ByteArray) (ws : List Nat) (b n : Nat) (W : World) (hn : n = ws.length) (hs : s.size ≤ 1000000000) (hws : ∀ j, j < ws.length → ws.getD j 0 = 2 ∨ ws.getD j 0 = 4) (hbt : bt.size + 1 = ws.length) (hl : ws.length ≤ 6) (hbn : ∀ j, j < bt.size → bt.data.toList.getD j 0 ≠ 0) (hb : b < W.heap.size)
    (hcell : ∀ j, j < ws.length → W.cell? ⟨b, j, none⟩ = some (.int .i64 ((ws.getD j 0 : Nat) : Int))) (r : Option (List Nat × List UInt8)) (hr : Rf.grp bt.data.toList 0 ws s.data.toList = r) :
    Calls Tryd.prog 24 #[.string s, .string bt, .slice (some ⟨b, 0, none⟩) n n] W (GPost W r) := by
  obtain ⟨i0, hi, hz0, hz1, hz2⟩ := info_parts infoI
  have II := Lib.hid (And.intro hi (And.intro hz0 (And.intro hz1 hz2)))
  have HR := Lib.hid hr
  have HWS := Lib.hid hws
  have HCELL := Lib.hid hcell
  have HN := Lib.hid hn
  have HBT := Lib.hid hbt
  have HBN := Lib.hid hbn
  have n6 : n ≤ 6 := by omega
  clear hi hz0 hz1 hz2 hr hws hcell hn hbt hl hbn
  go_enter Tryd.func24, Tryd.ntmps24
  go_wp2
  go_loopw [0, 9, 18] (fun sv lv iv wr => ∃ (i : Nat) (ns : List Nat) (t : ByteArray) (a : Option Addr) (cap : Nat), i ≤ n ∧ iv = .int .i64 i ∧ sv = .string t ∧ lv = .slice a ns.length cap ∧ t.size ≤ s.size ∧ ns.length ≤ i ∧ W.heap.size ≤ wr.heap.size ∧
    Hid (r = (Rf.grp bt.data.toList i (ws.drop i) t.data.toList).map fun p => (ns ++ p.1, p.2)) ∧ Hid (wr.ownsRow W.heap.size 3 1 (.slice a ns.length cap) ns.length (ns.map fun (n : Nat) => Value.int .i64 (n : Int))) ∧ Hid (Below W.heap.size W wr)) (fun _ _ iv _ => n - (intOf iv).toNat)
  case atStart => exact ⟨0, [], s, none, 0, by omega, rfl, rfl, rfl, Nat.le_refl _, by simp, Nat.le_refl _, Lib.hid (by rw [List.drop_zero, HR.out]; cases r <;> simp), ⟨rfl, .inl ⟨rfl, rfl⟩⟩, Below.refl _ _⟩
  case round =>
    obtain ⟨i, ns, t, a, cap, hin, rfl, rfl, rfl, hts, hns, hz, HF, HO, HB⟩ := hrel
    by_cases hlt : i < n
    · have hiw : i < ws.length := by have := HN.out; omega
      obtain ⟨wd, hwd⟩ : ∃ wd, ws.getD i 0 = wd := ⟨_, rfl⟩
      have hwdb := HWS.out i hiw
      have hcl := HCELL.out i hiw
      rw [← HB.out.cell hb] at hcl
      rw [hwd] at hwdb hcl
      have wd1 : 2 ≤ wd := by omega
      have wd2 : wd ≤ 4 := by omega
      cases i with
      | zero =>
        have HC0 := core_0 hiw HF.out
        rw [hwd] at HC0
        have HC := Lib.hid HC0
        obtain ⟨t1, ht1⟩ : ∃ t1, t1 = t := ⟨_, rfl⟩
        subst ht1
        clear HC0 hwd hwdb
        by_cases hshort : t1.size < wd
        · have HN := Lib.hid (core_none HC.out (Rf.val_short _ _ (by simpa using hshort)))
          skip
          go_wp2
          exact bodyPost_ret (v := .tuple #[.slice none 0 0, .string ⟨#[]⟩, .bool false]) (by simp [results, Tryd.results24, go_sem]) rfl (gp_none HN.out HB.out)
        · have hlong : wd ≤ t1.size := by omega
          have glong : decide (t1.size < wd) = false := by simp; omega
          have glong2 : decide ((t1.size : Int) < (wd : Int)) = false := by simp; omega
          have hcv := Lib.run_convert_string_bytes (P := Tryd.prog) wr 9 43 5 (t1.extract 0 wd) (u := .string) Tryd.underlying9 Tryd.underlying43 Tryd.underlying5
          have hsz : (t1.extract 0 wd).size = wd := by simp; omega
          have hb0 := world_below wr 5 (t1.extract 0 wd)
          have hcb : ∀ j, j < wd → (Lib.bytesWorld wr 5 (t1.extract 0 wd)).cell? ⟨wr.heap.size, j, none⟩ = some (.int .u8 (t1.data.toList.getD j 0).toNat) := by
            intro j hj
            rw [Lib.bytesWorld_cell wr _ _ j (by omega)]
            congr 3
            rw [take_ext, List.getD_eq_getElem?_getD, List.getD_eq_getElem?_getD, List.getElem?_take_of_lt (by omega)]
          generalize Lib.bytesWorld wr 5 (t1.extract 0 wd) = W1 at hcv hb0 hcb
          rw [hsz] at hcv
          generalize grownCap wr wd 0 5 = cap1 at hcv
          have HB1 := Lib.hid (below_at HB.out hz hb0)
          have hz1 : wr.heap.size ≤ W1.heap.size := hb0.size
          have HO1 := Lib.hid (own_below HO.out hb0)
          have HCB := Lib.hid hcb
          clear hb0 hcb hsz hshort
          go_wp2
          clear hcv
          obtain ⟨wo, hwo⟩ : ∃ wo : World, wo = W1 := ⟨_, rfl⟩
          subst hwo
          go_loop [13, 57] (fun v c => ∃ j m : Nat, j ≤ wd ∧ c = .int .i64 j ∧ v = .int .i64 m ∧ Hid (Rf.val t1.data.toList j = some m)) (fun _ c => wd - (intOf c).toNat)
          case atStart => exact ⟨0, 0, by omega, rfl, rfl, rfl⟩
          case round =>
            obtain ⟨j, m, hj, rfl, rfl, HV⟩ := hrel
            by_cases hjw : j < wd
            · have hm := Rw.pow_bd (Rf.val_bd _ j m HV.out) (by omega)
              obtain ⟨c, hc⟩ : ∃ c, t1.data.toList.getD j 0 = c := ⟨_, rfl⟩
              have hcl2 := HCB.out j hjw
              rw [hc] at hcl2
              have HD := Lib.hid (show (t1.data.toList.getD j 0).toNat = c.toNat by rw [hc])
              have B0 := UInt8.toNat_lt c
              clear hc
              by_cases c1 : 48 ≤ c.toNat ∧ c.toNat ≤ 57
              · obtain ⟨c1, c2⟩ := c1
                have HN := Lib.hid (Rw.val_next _ j m _ HD.out c1 c2 HV.out)
                go_wp2
                go_round
                case rel => exact ⟨_, _, _, .int .i64 ((m * 10 + (c.toNat - 48) : Nat) : Int), _, .int .i64 ((j + 1 : Nat) : Int), ⟨j + 1, by omega, rfl, _, rfl, HN.out⟩, rfl, rfl, rfl, val_int (by omega), rfl, by go_num⟩
                case measure => simp [intOf]; omega
              · have HN := Lib.hid (core_none HC.out (Rf.val_none _ (j + 1) (Rw.val_stop _ j _ HD.out c1) wd (by omega)))
                have c4 : c.toNat < 48 ∨ (48 ≤ c.toNat ∧ 57 < c.toNat) := by omega
                clear c1
                rcases c4 with c4 | ⟨c4, c5⟩
                all_goals
                  go_wp2
                  exact bodyPost_ret (v := .tuple #[.slice none 0 0, .string ⟨#[]⟩, .bool false]) (by simp [results, Tryd.results24, go_sem]) rfl (gp_none HN.out HB1.out)
            · obtain rfl : j = wd := by omega
              have HN := Lib.hid (core_some HC.out HV.out)
              go_wp2_with fail
              have hwx : decide ((0 : Int) ≤ (j : Int)) = true := by simp
              go_region_law (refine step_append_lies _ rfl (.tmp 74) (.tmp 76) 51 rfl W.heap.size 3 i0 (.int .i64 0) 1 8 Tryd.underlying51 II.out.1 II.out.2.1 II.out.2.2.1 II.out.2.2.2 rfl (by decide) _ _ _ (by simp [Act.eval]) (HO1.out.drew.alloc _) ⟨wo.heap.size, 0, none⟩ 1 1 [.int .i64 m] (by simp [Act.eval]) rfl (new_cellI wo.drew _) (fun u hu => by simp at hu; subst hu; rfl) (by decide) (by unfold maxLen; omega) (by omega) (by show _ ≤ (World.alloc _ _).heap.size; rw [alloc_sz]; show _ ≤ wo.heap.size + 1; omega) _ rfl ?_; intro g1 capg w1 hown1 hgrow1 _ _)
              all_goals
                rename_i g1 capg w1 hown1 hgrow1 _ _
                have HO2 := Lib.hid (show w1.ownsRow W.heap.size 3 1 (.slice (some ⟨g1, 0, none⟩) (ns ++ [m]).length capg) (ns ++ [m]).length ((ns ++ [m]).map fun (n : Nat) => Value.int .i64 (n : Int)) by simpa using hown1)
                have HB2 := Lib.hid ((HB1.out.drew.alloc (by show W.heap.size ≤ wo.heap.size; omega) _).grown hgrow1 (by show _ ≤ (World.alloc _ _).heap.size; rw [alloc_sz]; show _ ≤ wo.heap.size + 1; omega) (fun k hk => (HO1.out.lt k hk).1))
                have hz2 := HB2.out.size
                have HN2 := Lib.hid (show r = (Rf.grp bt.data.toList (0 + 1) (ws.drop (0 + 1)) (t1.extract j t1.size).data.toList).map fun p => ((ns ++ [m]) ++ p.1, p.2) by rw [drop_ext]; exact HN.out)
                have HX := Lib.hid (show (t1.extract j t1.size).size ≤ t1.size by simp)
                have HL := Lib.hid (show (ns ++ [m]).length ≤ 0 + 1 by rw [List.length_append]; simp only [List.length_cons, List.length_nil]; omega)
                clear hown1 hgrow1
                go_wp2_with fail
                go_roundw
                case rel => exact ⟨0 + 1, ns ++ [m], t1.extract j t1.size, some ⟨g1, 0, none⟩, capg, by omega, by go_num, rfl, by simp, by have := HX.out; omega, HL.out, hz2, HN2.out, HO2.out, HB2.out⟩
                case measure => simp [intOf]; omega

      | succ i =>
        have hib : i < bt.size := by have := HBT.out; omega
        have hgb := getD_at bt i hib
        have hcn := HBN.out i hib
        obtain ⟨c, hc⟩ : ∃ c, bt[i] = c := ⟨_, rfl⟩
        rw [hc] at hgb
        rw [hgb] at hcn
        have FAIL : Rf.sepOk c (t.data.toList.getD 0 0) = false → r = none := fun h => core_x hiw HF.out (by rw [hgb]; exact h)
        have GOOD : Rf.sepOk c (t.data.toList.getD 0 0) = true → Core r bt.data.toList ws (i + 1) ns wd (t.data.toList.drop 1) := fun h => by
          have := core_1 hiw HF.out (by rw [hgb]; exact h)
          rw [hwd] at this
          exact this
        have B1 := UInt8.toNat_lt c
        have hci : (bt[i].toNat : Int) = (c.toNat : Int) := by rw [hc]
        clear hwd hwdb hgb hc
        by_cases h0 : t.size = 0
        · have HN := Lib.hid (FAIL (by rw [getD_out t 0 (by omega)]; exact decide_eq_false (by rintro (h | ⟨_, h⟩); exact hcn h.symm; exact absurd h (by decide))))
          have g1 := empty_of h0
          clear h0 FAIL GOOD hcn
          go_wp2
          exact bodyPost_ret (v := .tuple #[.slice none 0 0, .string ⟨#[]⟩, .bool false]) (by simp [results, Tryd.results24, go_sem]) rfl (gp_none HN.out HB.out)
        · have hp : 0 < t.size := by omega
          have g1 := nonempty_of hp
          have hgt := getD_at t 0 hp
          obtain ⟨x, hx⟩ : ∃ x, t[0] = x := ⟨_, rfl⟩
          rw [hx] at hgt
          have hxi : (t[0].toNat : Int) = (x.toNat : Int) := by rw [hx]
          have B2 := UInt8.toNat_lt x
          rw [hgt] at FAIL GOOD
          have GOOD2 : Rf.sepOk c x = true → ∃ t1, t.extract 1 t.size = t1 ∧ t1.size ≤ t.size ∧ Core r bt.data.toList ws (i + 1) ns wd t1.data.toList := fun h => ⟨_, rfl, by simp, by rw [drop_ext]; exact GOOD h⟩
          clear hgt hx h0 GOOD
          have e1 : ((x.toNat : Int) != (c.toNat : Int)) = !decide (x = c) := by
            by_cases h : x = c
            · subst h; simp
            · have : ((x.toNat : Int) == (c.toNat : Int)) = false := by rw [beq_eq_false_iff_ne]; exact fun e => h (UInt8.toNat_inj.1 (by omega))
              rw [bne, this, decide_eq_false h]
          have e2 : ((c.toNat : Int) != 116) = !decide (c = 116) := by
            by_cases h : c = 116
            · subst h; rfl
            · have : ((c.toNat : Int) == ((116 : Nat) : Int)) = false := u8_ne (by decide) h
              rw [bne, decide_eq_false h]; exact congrArg (!·) this
          have e3 : ((x.toNat : Int) != 84) = !decide (x = 84) := by
            by_cases h : x = 84
            · subst h; rfl
            · have : ((x.toNat : Int) == ((84 : Nat) : Int)) = false := u8_ne (by decide) h
              rw [bne, decide_eq_false h]; exact congrArg (!·) this
          by_cases h1 : x = c
          · obtain ⟨t1, ht1, t1s, HC0⟩ := GOOD2 (decide_eq_true (.inl h1))
            have HC := Lib.hid HC0
            have g2 : ((x.toNat : Int) != (c.toNat : Int)) = false := by rw [e1, decide_eq_true h1]; rfl
            clear FAIL GOOD2 e1 e2 e3 h1 HC0 hcn
            by_cases hshort : t1.size < wd
            · have HN := Lib.hid (core_none HC.out (Rf.val_short _ _ (by simpa using hshort)))
              skip
              go_wp2
              exact bodyPost_ret (v := .tuple #[.slice none 0 0, .string ⟨#[]⟩, .bool false]) (by simp [results, Tryd.results24, go_sem]) rfl (gp_none HN.out HB.out)
            · have hlong : wd ≤ t1.size := by omega
              have glong : decide (t1.size < wd) = false := by simp; omega
              have glong2 : decide ((t1.size : Int) < (wd : Int)) = false := by simp; omega
              have hcv := Lib.run_convert_string_bytes (P := Tryd.prog) wr 9 43 5 (t1.extract 0 wd) (u := .string) Tryd.underlying9 Tryd.underlying43 Tryd.underlying5
              have hsz : (t1.extract 0 wd).size = wd := by simp; omega
              have hb0 := world_below wr 5 (t1.extract 0 wd)
              have hcb : ∀ j, j < wd → (Lib.bytesWorld wr 5 (t1.extract 0 wd)).cell? ⟨wr.heap.size, j, none⟩ = some (.int .u8 (t1.data.toList.getD j 0).toNat) := by
                intro j hj
                rw [Lib.bytesWorld_cell wr _ _ j (by omega)]
                congr 3
                rw [take_ext, List.getD_eq_getElem?_getD, List.getD_eq_getElem?_getD, List.getElem?_take_of_lt (by omega)]
              generalize Lib.bytesWorld wr 5 (t1.extract 0 wd) = W1 at hcv hb0 hcb
              rw [hsz] at hcv
              generalize grownCap wr wd 0 5 = cap1 at hcv
              have HB1 := Lib.hid (below_at HB.out hz hb0)
              have hz1 : wr.heap.size ≤ W1.heap.size := hb0.size
              have HO1 := Lib.hid (own_below HO.out hb0)
              have HCB := Lib.hid hcb
              clear hb0 hcb hsz hshort
              go_wp2
              clear hcv
              obtain ⟨wo, hwo⟩ : ∃ wo : World, wo = W1 := ⟨_, rfl⟩
              subst hwo
              go_loop [13, 57] (fun v c => ∃ j m : Nat, j ≤ wd ∧ c = .int .i64 j ∧ v = .int .i64 m ∧ Hid (Rf.val t1.data.toList j = some m)) (fun _ c => wd - (intOf c).toNat)
              case atStart => exact ⟨0, 0, by omega, rfl, rfl, rfl⟩
              case round =>
                obtain ⟨j, m, hj, rfl, rfl, HV⟩ := hrel
                by_cases hjw : j < wd
                · have hm := Rw.pow_bd (Rf.val_bd _ j m HV.out) (by omega)
                  obtain ⟨c, hc⟩ : ∃ c, t1.data.toList.getD j 0 = c := ⟨_, rfl⟩
                  have hcl2 := HCB.out j hjw
                  rw [hc] at hcl2
                  have HD := Lib.hid (show (t1.data.toList.getD j 0).toNat = c.toNat by rw [hc])
                  have B0 := UInt8.toNat_lt c
                  clear hc
                  by_cases c1 : 48 ≤ c.toNat ∧ c.toNat ≤ 57
                  · obtain ⟨c1, c2⟩ := c1
                    have HN := Lib.hid (Rw.val_next _ j m _ HD.out c1 c2 HV.out)
                    go_wp2
                    go_round
                    case rel => exact ⟨_, _, _, .int .i64 ((m * 10 + (c.toNat - 48) : Nat) : Int), _, .int .i64 ((j + 1 : Nat) : Int), ⟨j + 1, by omega, rfl, _, rfl, HN.out⟩, rfl, rfl, rfl, val_int (by omega), rfl, by go_num⟩
                    case measure => simp [intOf]; omega
                  · have HN := Lib.hid (core_none HC.out (Rf.val_none _ (j + 1) (Rw.val_stop _ j _ HD.out c1) wd (by omega)))
                    have c4 : c.toNat < 48 ∨ (48 ≤ c.toNat ∧ 57 < c.toNat) := by omega
                    clear c1
                    rcases c4 with c4 | ⟨c4, c5⟩
                    all_goals
                      go_wp2
                      exact bodyPost_ret (v := .tuple #[.slice none 0 0, .string ⟨#[]⟩, .bool false]) (by simp [results, Tryd.results24, go_sem]) rfl (gp_none HN.out HB1.out)
                · obtain rfl : j = wd := by omega
                  have HN := Lib.hid (core_some HC.out HV.out)
                  go_wp2_with fail
                  have hwx : decide ((0 : Int) ≤ (j : Int)) = true := by simp
                  go_region_law (refine step_append_lies _ rfl (.tmp 74) (.tmp 76) 51 rfl W.heap.size 3 i0 (.int .i64 0) 1 8 Tryd.underlying51 II.out.1 II.out.2.1 II.out.2.2.1 II.out.2.2.2 rfl (by decide) _ _ _ (by simp [Act.eval]) (HO1.out.drew.alloc _) ⟨wo.heap.size, 0, none⟩ 1 1 [.int .i64 m] (by simp [Act.eval]) rfl (new_cellI wo.drew _) (fun u hu => by simp at hu; subst hu; rfl) (by decide) (by unfold maxLen; omega) (by omega) (by show _ ≤ (World.alloc _ _).heap.size; rw [alloc_sz]; show _ ≤ wo.heap.size + 1; omega) _ rfl ?_; intro g1 capg w1 hown1 hgrow1 _ _)
                  all_goals
                    rename_i g1 capg w1 hown1 hgrow1 _ _
                    have HO2 := Lib.hid (show w1.ownsRow W.heap.size 3 1 (.slice (some ⟨g1, 0, none⟩) (ns ++ [m]).length capg) (ns ++ [m]).length ((ns ++ [m]).map fun (n : Nat) => Value.int .i64 (n : Int)) by simpa using hown1)
                    have HB2 := Lib.hid ((HB1.out.drew.alloc (by show W.heap.size ≤ wo.heap.size; omega) _).grown hgrow1 (by show _ ≤ (World.alloc _ _).heap.size; rw [alloc_sz]; show _ ≤ wo.heap.size + 1; omega) (fun k hk => (HO1.out.lt k hk).1))
                    have hz2 := HB2.out.size
                    have HN2 := Lib.hid (show r = (Rf.grp bt.data.toList ((i + 1) + 1) (ws.drop ((i + 1) + 1)) (t1.extract j t1.size).data.toList).map fun p => ((ns ++ [m]) ++ p.1, p.2) by rw [drop_ext]; exact HN.out)
                    have HX := Lib.hid (show (t1.extract j t1.size).size ≤ t1.size by simp)
                    have HL := Lib.hid (show (ns ++ [m]).length ≤ (i + 1) + 1 by rw [List.length_append]; simp only [List.length_cons, List.length_nil]; omega)
                    clear hown1 hgrow1
                    go_wp2_with fail
                    go_roundw
                    case rel => exact ⟨(i + 1) + 1, ns ++ [m], t1.extract j t1.size, some ⟨g1, 0, none⟩, capg, by omega, by go_num, rfl, by simp, by have := HX.out; omega, HL.out, hz2, HN2.out, HO2.out, HB2.out⟩
                    case measure => simp [intOf]; omega
          · have g2 : ((x.toNat : Int) != (c.toNat : Int)) = true := by rw [e1, decide_eq_false h1]; rfl
            by_cases h2 : c = 116
            · have g3 : ((c.toNat : Int) != 116) = false := by rw [e2, decide_eq_true h2]; rfl
              by_cases h3 : x = 84
              · obtain ⟨t1, ht1, t1s, HC0⟩ := GOOD2 (decide_eq_true (.inr ⟨h2, h3⟩))
                have HC := Lib.hid HC0
                have g4 : ((x.toNat : Int) != 84) = false := by rw [e3, decide_eq_true h3]; rfl
                clear FAIL GOOD2 e1 e2 e3 h1 h2 h3 HC0 hcn
                by_cases hshort : t1.size < wd
                · have HN := Lib.hid (core_none HC.out (Rf.val_short _ _ (by simpa using hshort)))
                  skip
                  go_wp2
                  exact bodyPost_ret (v := .tuple #[.slice none 0 0, .string ⟨#[]⟩, .bool false]) (by simp [results, Tryd.results24, go_sem]) rfl (gp_none HN.out HB.out)
                · have hlong : wd ≤ t1.size := by omega
                  have glong : decide (t1.size < wd) = false := by simp; omega
                  have glong2 : decide ((t1.size : Int) < (wd : Int)) = false := by simp; omega
                  have hcv := Lib.run_convert_string_bytes (P := Tryd.prog) wr 9 43 5 (t1.extract 0 wd) (u := .string) Tryd.underlying9 Tryd.underlying43 Tryd.underlying5
                  have hsz : (t1.extract 0 wd).size = wd := by simp; omega
                  have hb0 := world_below wr 5 (t1.extract 0 wd)
                  have hcb : ∀ j, j < wd → (Lib.bytesWorld wr 5 (t1.extract 0 wd)).cell? ⟨wr.heap.size, j, none⟩ = some (.int .u8 (t1.data.toList.getD j 0).toNat) := by
                    intro j hj
                    rw [Lib.bytesWorld_cell wr _ _ j (by omega)]
                    congr 3
                    rw [take_ext, List.getD_eq_getElem?_getD, List.getD_eq_getElem?_getD, List.getElem?_take_of_lt (by omega)]
                  generalize Lib.bytesWorld wr 5 (t1.extract 0 wd) = W1 at hcv hb0 hcb
                  rw [hsz] at hcv
                  generalize grownCap wr wd 0 5 = cap1 at hcv
                  have HB1 := Lib.hid (below_at HB.out hz hb0)
                  have hz1 : wr.heap.size ≤ W1.heap.size := hb0.size
                  have HO1 := Lib.hid (own_below HO.out hb0)
                  have HCB := Lib.hid hcb
                  clear hb0 hcb hsz hshort
                  go_wp2
                  clear hcv
                  obtain ⟨wo, hwo⟩ : ∃ wo : World, wo = W1 := ⟨_, rfl⟩
                  subst hwo
                  go_loop [13, 57] (fun v c => ∃ j m : Nat, j ≤ wd ∧ c = .int .i64 j ∧ v = .int .i64 m ∧ Hid (Rf.val t1.data.toList j = some m)) (fun _ c => wd - (intOf c).toNat)
                  case atStart => exact ⟨0, 0, by omega, rfl, rfl, rfl⟩
                  case round =>
                    obtain ⟨j, m, hj, rfl, rfl, HV⟩ := hrel
                    by_cases hjw : j < wd
                    · have hm := Rw.pow_bd (Rf.val_bd _ j m HV.out) (by omega)
                      obtain ⟨c, hc⟩ : ∃ c, t1.data.toList.getD j 0 = c := ⟨_, rfl⟩
                      have hcl2 := HCB.out j hjw
                      rw [hc] at hcl2
                      have HD := Lib.hid (show (t1.data.toList.getD j 0).toNat = c.toNat by rw [hc])
                      have B0 := UInt8.toNat_lt c
                      clear hc
                      by_cases c1 : 48 ≤ c.toNat ∧ c.toNat ≤ 57
                      · obtain ⟨c1, c2⟩ := c1
                        have HN := Lib.hid (Rw.val_next _ j m _ HD.out c1 c2 HV.out)
                        go_wp2
                        go_round
                        case rel => exact ⟨_, _, _, .int .i64 ((m * 10 + (c.toNat - 48) : Nat) : Int), _, .int .i64 ((j + 1 : Nat) : Int), ⟨j + 1, by omega, rfl, _, rfl, HN.out⟩, rfl, rfl, rfl, val_int (by omega), rfl, by go_num⟩
                        case measure => simp [intOf]; omega
                      · have HN := Lib.hid (core_none HC.out (Rf.val_none _ (j + 1) (Rw.val_stop _ j _ HD.out c1) wd (by omega)))
                        have c4 : c.toNat < 48 ∨ (48 ≤ c.toNat ∧ 57 < c.toNat) := by omega
                        clear c1
                        rcases c4 with c4 | ⟨c4, c5⟩
                        all_goals
                          go_wp2
                          exact bodyPost_ret (v := .tuple #[.slice none 0 0, .string ⟨#[]⟩, .bool false]) (by simp [results, Tryd.results24, go_sem]) rfl (gp_none HN.out HB1.out)
                    · obtain rfl : j = wd := by omega
                      have HN := Lib.hid (core_some HC.out HV.out)
                      go_wp2_with fail
                      have hwx : decide ((0 : Int) ≤ (j : Int)) = true := by simp
                      go_region_law (refine step_append_lies _ rfl (.tmp 74) (.tmp 76) 51 rfl W.heap.size 3 i0 (.int .i64 0) 1 8 Tryd.underlying51 II.out.1 II.out.2.1 II.out.2.2.1 II.out.2.2.2 rfl (by decide) _ _ _ (by simp [Act.eval]) (HO1.out.drew.alloc _) ⟨wo.heap.size, 0, none⟩ 1 1 [.int .i64 m] (by simp [Act.eval]) rfl (new_cellI wo.drew _) (fun u hu => by simp at hu; subst hu; rfl) (by decide) (by unfold maxLen; omega) (by omega) (by show _ ≤ (World.alloc _ _).heap.size; rw [alloc_sz]; show _ ≤ wo.heap.size + 1; omega) _ rfl ?_; intro g1 capg w1 hown1 hgrow1 _ _)
                      all_goals
                        rename_i g1 capg w1 hown1 hgrow1 _ _
                        have HO2 := Lib.hid (show w1.ownsRow W.heap.size 3 1 (.slice (some ⟨g1, 0, none⟩) (ns ++ [m]).length capg) (ns ++ [m]).length ((ns ++ [m]).map fun (n : Nat) => Value.int .i64 (n : Int)) by simpa using hown1)
                        have HB2 := Lib.hid ((HB1.out.drew.alloc (by show W.heap.size ≤ wo.heap.size; omega) _).grown hgrow1 (by show _ ≤ (World.alloc _ _).heap.size; rw [alloc_sz]; show _ ≤ wo.heap.size + 1; omega) (fun k hk => (HO1.out.lt k hk).1))
                        have hz2 := HB2.out.size
                        have HN2 := Lib.hid (show r = (Rf.grp bt.data.toList ((i + 1) + 1) (ws.drop ((i + 1) + 1)) (t1.extract j t1.size).data.toList).map fun p => ((ns ++ [m]) ++ p.1, p.2) by rw [drop_ext]; exact HN.out)
                        have HX := Lib.hid (show (t1.extract j t1.size).size ≤ t1.size by simp)
                        have HL := Lib.hid (show (ns ++ [m]).length ≤ (i + 1) + 1 by rw [List.length_append]; simp only [List.length_cons, List.length_nil]; omega)
                        clear hown1 hgrow1
                        go_wp2_with fail
                        go_roundw
                        case rel => exact ⟨(i + 1) + 1, ns ++ [m], t1.extract j t1.size, some ⟨g1, 0, none⟩, capg, by omega, by go_num, rfl, by simp, by have := HX.out; omega, HL.out, hz2, HN2.out, HO2.out, HB2.out⟩
                        case measure => simp [intOf]; omega
              · have HN := Lib.hid (FAIL (decide_eq_false (by rintro (h | ⟨_, h⟩); exact h1 h; exact h3 h)))
                have g4 : ((x.toNat : Int) != 84) = true := by rw [e3, decide_eq_false h3]; rfl
                clear FAIL GOOD2 e1 e2 e3 h1 h2 h3 hcn
                go_wp2
                exact bodyPost_ret (v := .tuple #[.slice none 0 0, .string ⟨#[]⟩, .bool false]) (by simp [results, Tryd.results24, go_sem]) rfl (gp_none HN.out HB.out)
            · have HN := Lib.hid (FAIL (decide_eq_false (by rintro (h | ⟨h, _⟩); exact h1 h; exact h2 h)))
              have g3 : ((c.toNat : Int) != 116) = true := by rw [e2, decide_eq_false h2]; rfl
              clear FAIL GOOD2 e1 e2 e3 h1 h2 hcn
              go_wp2
              exact bodyPost_ret (v := .tuple #[.slice none 0 0, .string ⟨#[]⟩, .bool false]) (by simp [results, Tryd.results24, go_sem]) rfl (gp_none HN.out HB.out)
    · obtain rfl : i = n := by omega
      have HE := Lib.hid (gp_some (W := W) (w' := wr) (core_end HN.out HF.out) HB.out HO.out)
      go_wp2
      exact bodyPost_ret (v := .tuple #[.slice a ns.length cap, .string t, .bool true]) (by simp [results, Tryd.results24, go_sem]) rfl HE.out
end Go.Proofs.YtikjehgbfkndjaaDoor.Rp
