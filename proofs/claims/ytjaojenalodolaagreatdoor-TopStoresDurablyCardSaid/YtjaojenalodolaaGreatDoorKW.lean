/- Parts of this proof, joined: JwW4, JwW5, JwW6, JwW7, JwW8. -/
import Derived.Test.YtjaojenalodolaaGreatDoorKE
import Derived.Test.YtjaojenalodolaaGreatDoorBlw
import Derived.Test.YtjaojenalodolaaGreatDoorKJ
import Derived.Deep.RegionHeld3
/- jsonwrite's writer: str, and what writing leaves. -/
namespace Go.Proofs.YtjaojenalodolaaGreatDoor.Me
open Go Go.RowKit Go.Proofs.YtjaojenalodolaaGreatDoor Go.Proofs.YtjaojenalodolaaGreatDoor.Rw Go.Proofs.YtjaojenalodolaaGreatDoor.Vf Go.Proofs.YtjaojenalodolaaGreatDoor.Mw
set_option linter.unusedVariables false
set_option maxRecDepth 100000
set_option maxHeartbeats 16000000
def Wst (W0 : World) (b : Nat) (out : List UInt8) (w : World) : Prop := Lib.IsBuilder Blw.TB Blw.TU W0.heap.size b (Lib.byteCells out) w ∧ Below W0.heap.size W0 w
theorem Wst.below {W0 w w' : World} {b : Nat} {out : List UInt8} (h : Wst W0 b out w) (hb : Below w.heap.size w w') : Wst W0 b out w' := ⟨Blw.is_below h.1 hb, below_seq h.2 hb⟩
theorem Wst.alloc {W0 w : World} {b : Nat} {out : List UInt8} (h : Wst W0 b out w) (o : Obj) : Wst W0 b out (w.alloc o) := h.below ((Below.refl w.heap.size w).alloc (Nat.le_refl _) o)
theorem wbyte {W0 w : World} {b : Nat} {out : List UInt8} (c : UInt8) (v : Int) (hv : v = c.toNat) (h : Wst W0 b out w) (hl : out.length ≤ 1000000000) :
    Calls Tryz.prog 168 #[.pointer (some ⟨b, 0, none⟩), .int .u8 v] w fun e w' => e = .returned .nilIface ∧ Wst W0 b (out ++ [c]) w' ∧ Blw.Fz b w w' := by
  subst hv
  refine (Blw.writeByte W0.heap.size b (Lib.byteCells out) c.toNat w h.1 (by rw [Lib.byteCells_length]; omega) h.2.size).mono ?_
  rintro e w' ⟨rfl, h1, h2, h3⟩
  refine ⟨rfl, ⟨?_, h.2.trans h2⟩, h3⟩
  rw [Lib.byteCells_append]
  exact h1
theorem wstr {W0 w : World} {b : Nat} {out : List UInt8} (s : ByteArray) (h : Wst W0 b out w) (hl : out.length ≤ 1000000000) (hs : s.size ≤ 1000000000) :
    Calls Tryz.prog 30 #[.pointer (some ⟨b, 0, none⟩), .string s] w fun e w' => e = .returned (.tuple #[.int .i64 s.size, .nilIface]) ∧ Wst W0 b (out ++ s.data.toList) w' ∧ Blw.Fz b w w' := by
  refine (Blw.writeString W0.heap.size b (Lib.byteCells out) s w h.1 (by rw [Lib.byteCells_length]; omega) h.2.size).mono ?_
  rintro e w' ⟨rfl, h1, h2, h3⟩
  refine ⟨rfl, ⟨?_, h.2.trans h2⟩, h3⟩
  rw [Lib.byteCells_append, ← Lib.strCells_eq]
  exact h1
theorem str_out {W0 w : World} {b : Nat} {out : List UInt8} (s : ByteArray) (h : Wst W0 b out w) (hT : U8 W0) (hL : Jw.LetTab W0) (hv : Lib.validD s.data.toList = true) (hs : s.size ≤ 1000000) (hl : out.length + (Js.quote s.data.toList).length ≤ 1000000000) :
    Calls Tryz.prog 128 #[.pointer (some ⟨b, 0, none⟩), .string s] w fun e w' => e = .returned (.tuple #[]) ∧ Wst W0 b (out ++ Js.quote s.data.toList) w' ∧ Blw.Fz b w w' := by
  have CQ := Lib.hid (Jw.quote_any s w (by omega) (Tx.u8_below hT h.2) (hL.below h.2) hv)
  have HW := Lib.hid h
  obtain ⟨q, hq⟩ : ∃ q, Js.quote s.data.toList = q := ⟨_, rfl⟩
  rw [hq] at CQ hl ⊢
  clear h hT hL hv hq
  have hqs : (⟨q.toArray⟩ : ByteArray).size = q.length := by simp [ByteArray.size]
  have HQS := Lib.hid hqs
  have HQL := Lib.hid (show (⟨q.toArray⟩ : ByteArray).data.toList = q by simp)
  generalize (⟨q.toArray⟩ : ByteArray) = Q at CQ HQS HQL
  clear hqs
  go_enter Tryz.func128, Tryz.ntmps128
  go_wp2_with fail
  refine CQ.out.mono ?_
  rintro e w1 ⟨rfl, hb1⟩
  have HW1 := Lib.hid (HW.out.below hb1)
  have HF1 := Lib.hid (Blw.Fz.of_below (b := b) hb1)
  clear hb1 HW CQ
  go_wp2_with fail
  refine (wstr Q HW1.out (by omega) (by rw [HQS.out]; omega)).mono ?_
  rintro e w2 ⟨rfl, h2, hf2⟩
  rw [HQL.out] at h2
  have HW2 := Lib.hid h2
  have HF2 := Lib.hid (HF1.out.trans hf2)
  clear h2 hf2
  go_wp2_with fail
  go_end0
  exact ⟨rfl, HW2.out, HF2.out⟩
theorem below_num (w : World) (k : Nat) (os : Array Obj) : Below w.heap.size w (Sort.grow (w.drewN k) os) :=
  ⟨rfl, rfl, rfl, by simp [Sort.grow, World.drewN], fun i hi => by simp [Sort.grow, World.drewN, Array.getElem?_append, hi]⟩
abbrev Pow (w : World) : Prop := Lib.TabIs Tryz.prog w "internal/strconv.uint64pow10" .u64 Lib.pow10Tab
theorem num_is (n : Int) (h0 : -9223372036854775808 ≤ n) (h1 : n ≤ 9223372036854775807) (w : World) (ht : Pow w) :
    Calls Tryz.prog 127 #[.int .i64 n, .int .i64 10] w fun e w' => e = .returned (.string ⟨(Jv.dig n).toArray⟩) ∧ Below w.heap.size w w' := by
  refine (Tryz.strconv_FormatInt_10 n h0 h1 w ht).mono ?_
  rintro e w' ⟨rfl, k, os, rfl⟩
  exact ⟨rfl, below_num w k os⟩
end Go.Proofs.YtjaojenalodolaaGreatDoor.Me
/- jsonwrite's join, walked, over the contract of what it calls. Printed by genjww5.py. -/
namespace Go.Proofs.YtjaojenalodolaaGreatDoor.Me
open Go Go.RowKit Go.Proofs.YtjaojenalodolaaGreatDoor Go.Proofs.YtjaojenalodolaaGreatDoor.Rw Go.Proofs.YtjaojenalodolaaGreatDoor.Vf Go.Proofs.YtjaojenalodolaaGreatDoor.Mw
set_option linter.unusedVariables false
set_option maxRecDepth 100000
set_option maxHeartbeats 16000000
theorem box_at {w : World} {g j : Nat} {cs : Array Value} {t : TypeId} {fr : Nat × Nat} {x : Value} (h : w.heap[g]? = some (Obj.cells cs t fr)) (hx : cs[j]? = some x) : w.cell? ⟨g, j, none⟩ = some x := by
  unfold World.cell?
  simp only [h]
  exact hx
theorem joinC_take_len (l : List (List UInt8)) : ∀ k, (Jv.joinC (l.take k)).length ≤ (Jv.joinC l).length := by
  induction l with
  | nil => intro k; simp
  | cons a r ih =>
    intro k
    cases k with
    | zero => simp [Jv.joinC]
    | succ k =>
      rw [List.take_succ_cons]
      cases r with
      | nil => simp
      | cons b r =>
        cases k with
        | zero => simp [Jv.joinC]
        | succ k =>
          have := ih (k + 1)
          rw [List.take_succ_cons] at this ⊢
          simp only [Jv.joinC, List.length_append, List.length_cons]
          omega
theorem joinV_is (W0 : World) (b : Nat) (op en : UInt8) (l : List Jv.J) (v : Value) (L : List (List Value)) (W : World) (hR : Rw W0 v 7 L) (hA : All Jv W0 l L) (hl : l.length ≤ 1000000) (out : List UInt8) (hW : Wst W0 b out W) (hlen : out.length + (Jv.joinC (Jv.encL l)).length + 2 ≤ 1000000000)
    (cE : ∀ j (hj : j < l.length) k b' n s a1 n1 c1 a2 n2 c2 p u o, Wst W0 b o u → o.length + (Jv.enc l[j]).length ≤ 1000000000 → Jv W0 l[j] (vCells k b' n s (.slice a1 n1 c1) (.slice a2 n2 c2) p) → Calls Tryz.prog 83 #[.pointer (some ⟨b, 0, none⟩), .agg #[.int .i64 k, .bool b', .int .i64 n, .string s, .slice a1 n1 c1, .slice a2 n2 c2, .int .i64 p]] u fun e w' => e = .returned (.tuple #[]) ∧ Wst W0 b (o ++ Jv.enc l[j]) w') :
    Calls Tryz.prog 129 #[.pointer (some ⟨b, 0, none⟩), .int .u8 op.toNat, .int .u8 en.toNat, v, .func (.func 83) #[.pointer (some ⟨b, 0, none⟩)] #[]] W fun e w' => e = .returned (.tuple #[]) ∧ Wst W0 b (out ++ op :: (Jv.joinC (Jv.encL l) ++ [en])) w' := by
  obtain ⟨g, off, ad, cap, rfl, had, hcl⟩ := vals_at hR hA
  have HQ : Hid ((Jv.encL l).length = l.length ∧ ∀ j (hj : j < l.length) (h2 : j < (Jv.encL l).length), (Jv.encL l)[j] = Jv.enc l[j]) := Lib.hid ⟨by rw [Jv.encL_map]; simp, fun j hj h2 => by simp only [Jv.encL_map, List.getElem_map]⟩
  obtain ⟨S, hS⟩ : ∃ S, Jv.encL l = S := ⟨_, rfl⟩
  rw [hS] at hlen ⊢
  rw [hS] at HQ
  obtain ⟨m, hm⟩ : ∃ m, l.length = m := ⟨_, rfl⟩
  rw [hm] at had hl ⊢
  have HM := Lib.hid hm
  have HAD := Lib.hid had
  have HCL := Lib.hid hcl
  have HL := Lib.hid hA.1
  have HJ := Lib.hid hA.2
  have CE := Lib.hid cE
  have HW := Lib.hid hW
  have HLE := Lib.hid hlen
  obtain ⟨on, hon⟩ : ∃ n : Int, n = op.toNat := ⟨_, rfl⟩
  obtain ⟨ne, hne⟩ : ∃ n : Int, n = en.toNat := ⟨_, rfl⟩
  have CO := Lib.hid (wbyte op on hon hW (by omega))
  have CZ := Lib.hid (fun (w : World) (o : List UInt8) (h : Wst W0 b o w) (hl : o.length ≤ 1000000000) => wbyte en ne hne h hl)
  rw [← hon, ← hne]
  clear hR hA had hcl hm cE hW hS hon hne hlen
  go_enter Tryz.func129, Tryz.ntmps129
  go_wp2_with fail
  refine CO.out.mono ?_
  rintro e w1 ⟨rfl, h1, -⟩
  have HW1 := Lib.hid h1
  clear h1 CO HW
  go_wp2_with fail
  go_loopw [19] (fun x wr => ∃ j : Nat, j ≤ m ∧ x = .int .i64 j ∧ Hid (Wst W0 b (out ++ op :: Jv.joinC (S.take j)) wr)) (fun x _ => m - (intOf x).toNat)
  case atStart => exact ⟨0, Nat.zero_le _, rfl, Lib.hid (by rw [List.take_zero]; exact HW1.out)⟩
  case round =>
    obtain ⟨j, hj, rfl, hw⟩ := hrel
    by_cases hlt : j < m
    · obtain rfl := HAD.out (by omega)
      have hjl : j < l.length := by rw [HM.out]; exact hlt
      have hjS : j < S.length := by rw [HQ.out.1]; exact hjl
      have hjL : j < L.length := by rw [HL.out]; exact hjl
      obtain ⟨vk, vb, vn, vs, a1, n1, c1, a2, n2, c2, vp, eL, y0, y1, y2, y3, y4, y5, y6⟩ := HCL.out j hjl hjL
      have hJ := HJ.out j hjl hjL
      rw [eL] at hJ
      have CC := Lib.hid (fun u o h1 h2 => CE.out j hjl vk vb vn vs a1 n1 c1 a2 n2 c2 vp u o h1 h2 hJ)
      clear eL hJ
      rw [← HQ.out.2 j hjl hjS] at CC
      replace y0 := cell_under y0 hw.out.2
      replace y1 := cell_under y1 hw.out.2
      replace y2 := cell_under y2 hw.out.2
      replace y3 := cell_under y3 hw.out.2
      replace y4 := cell_under y4 hw.out.2
      replace y5 := cell_under y5 hw.out.2
      replace y6 := cell_under y6 hw.out.2
      have i1 : (j : Int) < (m : Int) := by omega
      have i0 : (0 : Int) ≤ (j : Int) := by omega
      have HTK := Lib.hid (Jv.joinC_take S j hjS)
      have HLT := Lib.hid (joinC_take_len S (j + 1))
      generalize S[j] = sj at CC HTK
      have HWA := Lib.hid (hw.out.alloc (.cells #[.int .i64 vk, .bool vb, .int .i64 vn, .string vs, .slice a1 n1 c1, .slice a2 n2 c2, .int .i64 vp] 82))
      have HX := cells7 (w := wr) (x0 := .int .i64 vk) (x1 := .bool vb) (x2 := .int .i64 vn) (x3 := .string vs) (x4 := .slice a1 n1 c1) (x5 := .slice a2 n2 c2) (x6 := .int .i64 vp) (t := 82)
      have hba := (Below.refl wr.heap.size wr).alloc (Nat.le_refl _) (.cells #[.int .i64 vk, .bool vb, .int .i64 vn, .string vs, .slice a1 n1 c1, .slice a2 n2 c2, .int .i64 vp] 82)
      have HBA := Lib.hid hba
      clear hba
      obtain ⟨z0, z1, z2, z3, z4, z5, z6⟩ := HX
      by_cases hj0 : j = 0
      · have gk : ¬ (0 : Int) < (j : Int) := by omega
        have gk1 : ¬ 0 < j := by omega
        have gk3 : decide ((0 : Int) < (j : Int)) = false := decide_eq_false gk
        have HZ := Lib.hid hj0
        have HEQ : Hid (out ++ op :: Jv.joinC (S.take j) ++ sj = out ++ op :: Jv.joinC (S.take (j + 1))) := Lib.hid (by
          rw [HTK.out, if_pos hj0, hj0]
          simp [Jv.joinC])
        have CV := Lib.hid (CC.out _ _ HWA.out (by
          have h1 := HTK.out
          rw [if_pos hj0] at h1
          have h2 := HLT.out
          have h3 := HLE.out
          rw [h1] at h2
          rw [hj0]
          simp [Jv.joinC]
          omega))
        clear hj0
        go_wp2_with fail
        refine CV.out.mono ?_
        rintro e w3 ⟨rfl, h3⟩
        rw [HEQ.out] at h3
        have HW3 := Lib.hid h3
        clear h3 CV CC HEQ HWA y0 z0 y1 z1 y2 z2 y3 z3 y4 z4 y5 z5 y6 z6
        go_wp2_with fail
        go_roundw
        case rel => exact ⟨j + 1, by omega, by go_num, HW3⟩
        case measure => simp [intOf]; omega
      · have gk : (0 : Int) < (j : Int) := by omega
        have gk1 : 0 < j := by omega
        have gk3 : decide ((0 : Int) < (j : Int)) = true := decide_eq_true gk
        have HEQ : Hid (out ++ op :: Jv.joinC (S.take j) ++ [44] ++ sj = out ++ op :: Jv.joinC (S.take (j + 1))) := Lib.hid (by
          rw [HTK.out, if_neg hj0]
          simp)
        have HLK := Lib.hid (show (out ++ op :: Jv.joinC (S.take j) ++ [44]).length + sj.length ≤ 1000000000 by
          have h1 := HTK.out
          rw [if_neg hj0] at h1
          have h2 := HLT.out
          have h3 := HLE.out
          rw [h1] at h2
          simp at h2 ⊢
          omega)
        have CB := Lib.hid (wbyte (44 : UInt8) (44 : Int) rfl HWA.out (by have := HLK.out; simp at this ⊢; omega))
        clear hj0
        go_wp2_with fail
        refine CB.out.mono ?_
        rintro e w2 ⟨rfl, h2, hf2⟩
        have hbx := hf2 wr.heap.size _ _ _ (heap_alloc_new wr (.cells #[.int .i64 vk, .bool vb, .int .i64 vn, .string vs, .slice a1 n1 c1, .slice a2 n2 c2, .int .i64 vp] 82)) (fun e => by have := (Blw.is_lt hw.out.1).2; omega) (by decide)
        rw [heap_alloc_new] at hbx
        have CV := Lib.hid (CC.out _ _ h2 HLK.out)
        have z0 := box_at (j := 0) hbx rfl
        have z1 := box_at (j := 1) hbx rfl
        have z2 := box_at (j := 2) hbx rfl
        have z3 := box_at (j := 3) hbx rfl
        have z4 := box_at (j := 4) hbx rfl
        have z5 := box_at (j := 5) hbx rfl
        have z6 := box_at (j := 6) hbx rfl
        clear h2 CB hf2 hbx HW1
        go_wp2_with fail
        refine CV.out.mono ?_
        rintro e w3 ⟨rfl, h3⟩
        rw [HEQ.out] at h3
        have HW3 := Lib.hid h3
        clear h3 CV CC HEQ HWA y0 z0 y1 z1 y2 z2 y3 z3 y4 z4 y5 z5 y6 z6
        go_wp2_with fail
        go_roundw
        case rel => exact ⟨j + 1, by omega, by go_num, HW3⟩
        case measure => simp [intOf]; omega
    · have gl : decide ((j : Int) < (m : Int)) = false := decide_eq_false (by omega)
      have HT : Hid (S.take j = S) := Lib.hid (List.take_of_length_le (by rw [HQ.out.1, HM.out]; omega))
      have hwf := hw.out
      rw [HT.out] at hwf
      have CF := Lib.hid (CZ.out wr _ hwf (by have := HLE.out; simp; omega))
      clear hwf
      go_wp2_with fail
      refine CF.out.mono ?_
      rintro e w3 ⟨rfl, h3, -⟩
      have HW3 := Lib.hid h3
      clear h3 CF
      go_wp2_with fail
      go_end0
      exact ⟨rfl, by have := HW3.out; simpa using this⟩
theorem joinM_is (W0 : World) (b : Nat) (op en : UInt8) (l : List (ByteArray × Jv.J)) (v : Value) (L : List (List Value)) (W : World) (hR : Rw W0 v 9 L) (hA : All JvP W0 l L) (hl : l.length ≤ 1000000) (out : List UInt8) (hW : Wst W0 b out W) (hlen : out.length + (Jv.joinC (Jv.encM l)).length + 2 ≤ 1000000000)
    (cE : ∀ j (hj : j < l.length) k b' n s a1 n1 c1 a2 n2 c2 p q u o, Wst W0 b o u → o.length + (Jv.encP l[j]).length ≤ 1000000000 → Jv W0 l[j].2 (vCells k b' n s (.slice a1 n1 c1) (.slice a2 n2 c2) p) → Calls Tryz.prog 131 #[.pointer (some ⟨b, 0, none⟩), .agg #[.string l[j].1, .int .i64 k, .bool b', .int .i64 n, .string s, .slice a1 n1 c1, .slice a2 n2 c2, .int .i64 p, .int .i64 q]] u fun e w' => e = .returned (.tuple #[]) ∧ Wst W0 b (o ++ Jv.encP l[j]) w') :
    Calls Tryz.prog 130 #[.pointer (some ⟨b, 0, none⟩), .int .u8 op.toNat, .int .u8 en.toNat, v, .func (.func 131) #[.pointer (some ⟨b, 0, none⟩)] #[]] W fun e w' => e = .returned (.tuple #[]) ∧ Wst W0 b (out ++ op :: (Jv.joinC (Jv.encM l) ++ [en])) w' := by
  obtain ⟨g, off, ad, cap, rfl, had, hcl⟩ := mems_at hR hA
  have HQ : Hid ((Jv.encM l).length = l.length ∧ ∀ j (hj : j < l.length) (h2 : j < (Jv.encM l).length), (Jv.encM l)[j] = Jv.encP l[j]) := Lib.hid ⟨by rw [Jv.encM_map]; simp, fun j hj h2 => by simp only [Jv.encM_map, List.getElem_map]; generalize l[j] = lj; obtain ⟨lk, la⟩ := lj; simp only [Jv.encP]⟩
  obtain ⟨S, hS⟩ : ∃ S, Jv.encM l = S := ⟨_, rfl⟩
  rw [hS] at hlen ⊢
  rw [hS] at HQ
  obtain ⟨m, hm⟩ : ∃ m, l.length = m := ⟨_, rfl⟩
  rw [hm] at had hl ⊢
  have HM := Lib.hid hm
  have HAD := Lib.hid had
  have HCL := Lib.hid hcl
  have HL := Lib.hid hA.1
  skip
  have CE := Lib.hid cE
  have HW := Lib.hid hW
  have HLE := Lib.hid hlen
  obtain ⟨on, hon⟩ : ∃ n : Int, n = op.toNat := ⟨_, rfl⟩
  obtain ⟨ne, hne⟩ : ∃ n : Int, n = en.toNat := ⟨_, rfl⟩
  have CO := Lib.hid (wbyte op on hon hW (by omega))
  have CZ := Lib.hid (fun (w : World) (o : List UInt8) (h : Wst W0 b o w) (hl : o.length ≤ 1000000000) => wbyte en ne hne h hl)
  rw [← hon, ← hne]
  clear hR hA had hcl hm cE hW hS hon hne hlen
  go_enter Tryz.func130, Tryz.ntmps130
  go_wp2_with fail
  refine CO.out.mono ?_
  rintro e w1 ⟨rfl, h1, -⟩
  have HW1 := Lib.hid h1
  clear h1 CO HW
  go_wp2_with fail
  go_loopw [19] (fun x wr => ∃ j : Nat, j ≤ m ∧ x = .int .i64 j ∧ Hid (Wst W0 b (out ++ op :: Jv.joinC (S.take j)) wr)) (fun x _ => m - (intOf x).toNat)
  case atStart => exact ⟨0, Nat.zero_le _, rfl, Lib.hid (by rw [List.take_zero]; exact HW1.out)⟩
  case round =>
    obtain ⟨j, hj, rfl, hw⟩ := hrel
    by_cases hlt : j < m
    · obtain rfl := HAD.out (by omega)
      have hjl : j < l.length := by rw [HM.out]; exact hlt
      have hjS : j < S.length := by rw [HQ.out.1]; exact hjl
      obtain ⟨vk, vb, vn, vs, a1, n1, c1, a2, n2, c2, vp, vq, hJ, y0, y1, y2, y3, y4, y5, y6, y7, y8⟩ := HCL.out j hjl
      have CC := Lib.hid (fun u o h1 h2 => CE.out j hjl vk vb vn vs a1 n1 c1 a2 n2 c2 vp vq u o h1 h2 hJ)
      clear hJ
      rw [← HQ.out.2 j hjl hjS] at CC
      generalize l[j].1 = key at y0 CC
      replace y0 := cell_under y0 hw.out.2
      replace y1 := cell_under y1 hw.out.2
      replace y2 := cell_under y2 hw.out.2
      replace y3 := cell_under y3 hw.out.2
      replace y4 := cell_under y4 hw.out.2
      replace y5 := cell_under y5 hw.out.2
      replace y6 := cell_under y6 hw.out.2
      replace y7 := cell_under y7 hw.out.2
      replace y8 := cell_under y8 hw.out.2
      have i1 : (j : Int) < (m : Int) := by omega
      have i0 : (0 : Int) ≤ (j : Int) := by omega
      have HTK := Lib.hid (Jv.joinC_take S j hjS)
      have HLT := Lib.hid (joinC_take_len S (j + 1))
      generalize S[j] = sj at CC HTK
      have HWA := Lib.hid (hw.out.alloc (.cells #[.string key, .int .i64 vk, .bool vb, .int .i64 vn, .string vs, .slice a1 n1 c1, .slice a2 n2 c2, .int .i64 vp, .int .i64 vq] 144))
      have HX := cells9 (w := wr) (x0 := .string key) (x1 := .int .i64 vk) (x2 := .bool vb) (x3 := .int .i64 vn) (x4 := .string vs) (x5 := .slice a1 n1 c1) (x6 := .slice a2 n2 c2) (x7 := .int .i64 vp) (x8 := .int .i64 vq) (t := 144)
      have hba := (Below.refl wr.heap.size wr).alloc (Nat.le_refl _) (.cells #[.string key, .int .i64 vk, .bool vb, .int .i64 vn, .string vs, .slice a1 n1 c1, .slice a2 n2 c2, .int .i64 vp, .int .i64 vq] 144)
      have HBA := Lib.hid hba
      clear hba
      obtain ⟨z0, z1, z2, z3, z4, z5, z6, z7, z8⟩ := HX
      by_cases hj0 : j = 0
      · have gk : ¬ (0 : Int) < (j : Int) := by omega
        have gk1 : ¬ 0 < j := by omega
        have gk3 : decide ((0 : Int) < (j : Int)) = false := decide_eq_false gk
        have HZ := Lib.hid hj0
        have HEQ : Hid (out ++ op :: Jv.joinC (S.take j) ++ sj = out ++ op :: Jv.joinC (S.take (j + 1))) := Lib.hid (by
          rw [HTK.out, if_pos hj0, hj0]
          simp [Jv.joinC])
        have CV := Lib.hid (CC.out _ _ HWA.out (by
          have h1 := HTK.out
          rw [if_pos hj0] at h1
          have h2 := HLT.out
          have h3 := HLE.out
          rw [h1] at h2
          rw [hj0]
          simp [Jv.joinC]
          omega))
        clear hj0
        go_wp2_with fail
        refine CV.out.mono ?_
        rintro e w3 ⟨rfl, h3⟩
        rw [HEQ.out] at h3
        have HW3 := Lib.hid h3
        clear h3 CV CC HEQ HWA y0 z0 y1 z1 y2 z2 y3 z3 y4 z4 y5 z5 y6 z6 y7 z7 y8 z8
        go_wp2_with fail
        go_roundw
        case rel => exact ⟨j + 1, by omega, by go_num, HW3⟩
        case measure => simp [intOf]; omega
      · have gk : (0 : Int) < (j : Int) := by omega
        have gk1 : 0 < j := by omega
        have gk3 : decide ((0 : Int) < (j : Int)) = true := decide_eq_true gk
        have HEQ : Hid (out ++ op :: Jv.joinC (S.take j) ++ [44] ++ sj = out ++ op :: Jv.joinC (S.take (j + 1))) := Lib.hid (by
          rw [HTK.out, if_neg hj0]
          simp)
        have HLK := Lib.hid (show (out ++ op :: Jv.joinC (S.take j) ++ [44]).length + sj.length ≤ 1000000000 by
          have h1 := HTK.out
          rw [if_neg hj0] at h1
          have h2 := HLT.out
          have h3 := HLE.out
          rw [h1] at h2
          simp at h2 ⊢
          omega)
        have CB := Lib.hid (wbyte (44 : UInt8) (44 : Int) rfl HWA.out (by have := HLK.out; simp at this ⊢; omega))
        clear hj0
        go_wp2_with fail
        refine CB.out.mono ?_
        rintro e w2 ⟨rfl, h2, hf2⟩
        have hbx := hf2 wr.heap.size _ _ _ (heap_alloc_new wr (.cells #[.string key, .int .i64 vk, .bool vb, .int .i64 vn, .string vs, .slice a1 n1 c1, .slice a2 n2 c2, .int .i64 vp, .int .i64 vq] 144)) (fun e => by have := (Blw.is_lt hw.out.1).2; omega) (by decide)
        rw [heap_alloc_new] at hbx
        have CV := Lib.hid (CC.out _ _ h2 HLK.out)
        have z0 := box_at (j := 0) hbx rfl
        have z1 := box_at (j := 1) hbx rfl
        have z2 := box_at (j := 2) hbx rfl
        have z3 := box_at (j := 3) hbx rfl
        have z4 := box_at (j := 4) hbx rfl
        have z5 := box_at (j := 5) hbx rfl
        have z6 := box_at (j := 6) hbx rfl
        have z7 := box_at (j := 7) hbx rfl
        have z8 := box_at (j := 8) hbx rfl
        clear h2 CB hf2 hbx HW1
        go_wp2_with fail
        refine CV.out.mono ?_
        rintro e w3 ⟨rfl, h3⟩
        rw [HEQ.out] at h3
        have HW3 := Lib.hid h3
        clear h3 CV CC HEQ HWA y0 z0 y1 z1 y2 z2 y3 z3 y4 z4 y5 z5 y6 z6 y7 z7 y8 z8
        go_wp2_with fail
        go_roundw
        case rel => exact ⟨j + 1, by omega, by go_num, HW3⟩
        case measure => simp [intOf]; omega
    · have gl : decide ((j : Int) < (m : Int)) = false := decide_eq_false (by omega)
      have HT : Hid (S.take j = S) := Lib.hid (List.take_of_length_le (by rw [HQ.out.1, HM.out]; omega))
      have hwf := hw.out
      rw [HT.out] at hwf
      have CF := Lib.hid (CZ.out wr _ hwf (by have := HLE.out; simp; omega))
      clear hwf
      go_wp2_with fail
      refine CF.out.mono ?_
      rintro e w3 ⟨rfl, h3, -⟩
      have HW3 := Lib.hid h3
      clear h3 CF
      go_wp2_with fail
      go_end0
      exact ⟨rfl, by have := HW3.out; simpa using this⟩
end Go.Proofs.YtjaojenalodolaaGreatDoor.Me
/- jsonwrite's member, value and Write, walked. -/
namespace Go.Proofs.YtjaojenalodolaaGreatDoor.Me
open Go Go.RowKit Go.Proofs.YtjaojenalodolaaGreatDoor Go.Proofs.YtjaojenalodolaaGreatDoor.Rw Go.Proofs.YtjaojenalodolaaGreatDoor.Vf Go.Proofs.YtjaojenalodolaaGreatDoor.Mw
set_option linter.unusedVariables false
set_option maxRecDepth 100000
set_option maxHeartbeats 16000000
mutual
def JS : Jv.J → Prop
  | .null => False
  | .bool _ => False
  | .arr l => JSL l
  | .obj l => JSM l
  | _ => True
def JSL : List Jv.J → Prop
  | [] => True
  | a :: r => JS a ∧ JSL r
def JSM : List (ByteArray × Jv.J) → Prop
  | [] => True
  | a :: r => JSP a ∧ JSM r
def JSP : ByteArray × Jv.J → Prop
  | (_, a) => JS a
end
theorem JSL_iff (l : List Jv.J) : JSL l ↔ ∀ x ∈ l, JS x := by
  induction l with
  | nil => simp [JSL]
  | cons a r ih => simp [JSL, ih]
theorem JSM_iff (l : List (ByteArray × Jv.J)) : JSM l ↔ ∀ p ∈ l, JS p.2 := by
  induction l with
  | nil => simp [JSM]
  | cons a r ih => obtain ⟨k, a⟩ := a; simp [JSM, JSP, ih]
structure WT (w : World) : Prop where
  u8 : U8 w
  lt : Jw.LetTab w
  pow : ∀ u, Below w.heap.size w u → Pow u
theorem member_out {W0 : World} {b : Nat} (hT : WT W0) (key : ByteArray) (a : Jv.J) (k n : Int) (b' : Bool) (s : ByteArray) (a1 : Option Addr) (n1 c1 : Nat) (a2 : Option Addr) (n2 c2 : Nat) (p q : Int) (w : World) (out : List UInt8)
    (hW : Wst W0 b out w) (hk : Lib.validD key.data.toList = true) (hks : key.size ≤ 1000000) (hl : out.length + (Jv.encP (key, a)).length ≤ 1000000000)
    (cV : ∀ u o, Wst W0 b o u → o.length + (Jv.enc a).length ≤ 1000000000 → Calls Tryz.prog 83 #[.pointer (some ⟨b, 0, none⟩), .agg #[.int .i64 k, .bool b', .int .i64 n, .string s, .slice a1 n1 c1, .slice a2 n2 c2, .int .i64 p]] u fun e w' => e = .returned (.tuple #[]) ∧ Wst W0 b (o ++ Jv.enc a) w') :
    Calls Tryz.prog 131 #[.pointer (some ⟨b, 0, none⟩), .agg #[.string key, .int .i64 k, .bool b', .int .i64 n, .string s, .slice a1 n1 c1, .slice a2 n2 c2, .int .i64 p, .int .i64 q]] w fun e w' => e = .returned (.tuple #[]) ∧ Wst W0 b (out ++ Jv.encP (key, a)) w' := by
  have heq : Jv.encP (key, a) = Js.quote key.data.toList ++ 58 :: Jv.enc a := by simp only [Jv.encP]
  rw [heq] at hl ⊢
  have hlen : out.length + ((Js.quote key.data.toList).length + ((Jv.enc a).length + 1)) ≤ 1000000000 := by simpa using hl
  have HWA := Lib.hid (hW.alloc (.cells #[.string key, .int .i64 k, .bool b', .int .i64 n, .string s, .slice a1 n1 c1, .slice a2 n2 c2, .int .i64 p, .int .i64 q] 144))
  have HLT := Lib.hid (Blw.is_lt hW.1).2
  obtain ⟨x0, x1, x2, x3, x4, x5, x6, x7, x8⟩ := cells9 (w := w) (x0 := .string key) (x1 := .int .i64 k) (x2 := .bool b') (x3 := .int .i64 n) (x4 := .string s) (x5 := .slice a1 n1 c1) (x6 := .slice a2 n2 c2) (x7 := .int .i64 p) (x8 := .int .i64 q) (t := 144)
  have HBX := Lib.hid (heap_alloc_new w (.cells #[.string key, .int .i64 k, .bool b', .int .i64 n, .string s, .slice a1 n1 c1, .slice a2 n2 c2, .int .i64 p, .int .i64 q] 144))
  have CQ := Lib.hid (str_out key HWA.out hT.u8 hT.lt hk hks (by omega))
  have CV := Lib.hid cV
  have HLE := Lib.hid hlen
  clear hW cV hT hk hks hl heq hlen
  go_enter Tryz.func131, Tryz.ntmps131
  go_wp2_with fail
  refine CQ.out.mono ?_
  rintro e w1 ⟨rfl, h1, hf1⟩
  have hb1 := hf1 w.heap.size _ _ _ HBX.out (fun e => by have := HLT.out; omega) (by decide)
  rw [HBX.out] at hb1
  have HB1 := Lib.hid hb1
  have CB := Lib.hid (wbyte (58 : UInt8) (58 : Int) rfl h1 (by have := HLE.out; simp; omega))
  have HLB := Lib.hid (Blw.is_lt h1.1).2
  clear h1 hf1 hb1 CQ x0 x1 x2 x3 x4 x5 x6 x7 x8
  go_wp2_with fail
  refine CB.out.mono ?_
  rintro e w2 ⟨rfl, h2, hf2⟩
  have hb2 := hf2 w.heap.size _ _ _ HB1.out (fun e => by have := HLT.out; omega) (by decide)
  rw [HB1.out] at hb2
  have x1 := box_at (j := 1) hb2 rfl
  have x2 := box_at (j := 2) hb2 rfl
  have x3 := box_at (j := 3) hb2 rfl
  have x4 := box_at (j := 4) hb2 rfl
  have x5 := box_at (j := 5) hb2 rfl
  have x6 := box_at (j := 6) hb2 rfl
  have x7 := box_at (j := 7) hb2 rfl
  have CC := Lib.hid (CV.out _ _ h2 (by have := HLE.out; simp; omega))
  clear h2 hf2 hb2 CB
  go_wp2_with fail
  refine CC.out.mono ?_
  rintro e w3 ⟨rfl, h3⟩
  have HW3 := Lib.hid h3
  clear h3 CC CV
  go_wp2_with fail
  go_end0
  exact ⟨rfl, by have := HW3.out; simpa using this⟩
end Go.Proofs.YtjaojenalodolaaGreatDoor.Me
/- jsonwrite's value and Write, walked. -/
namespace Go.Proofs.YtjaojenalodolaaGreatDoor.Me
open Go Go.RowKit Go.Proofs.YtjaojenalodolaaGreatDoor Go.Proofs.YtjaojenalodolaaGreatDoor.Rw Go.Proofs.YtjaojenalodolaaGreatDoor.Vf Go.Proofs.YtjaojenalodolaaGreatDoor.Mw
set_option linter.unusedVariables false
set_option maxRecDepth 100000
set_option maxHeartbeats 16000000
theorem fz_cell {b E : Nat} {w w' : World} {n : Int} {x0 x1 x3 x4 x5 x6 : Value} (h : Blw.Fz b w w') (hc : w.heap[E]? = some (Obj.cells #[x0, x1, .int .i64 n, x3, x4, x5, x6] 82 (0, 0))) (hn : E ≠ b) : w'.cell? ⟨E, 2, none⟩ = some (.int .i64 n) := by
  have := h E _ _ _ hc hn (by decide)
  rw [hc] at this
  exact box_at this rfl
theorem value_int {W0 : World} {b : Nat} (hT : WT W0) (n p : Int) (h0 : -9223372036854775808 ≤ n) (h1 : n ≤ 9223372036854775807) (w : World) (out : List UInt8) (hW : Wst W0 b out w) (hl : out.length + (Jv.dig n).length ≤ 1000000000) :
    Calls Tryz.prog 83 #[.pointer (some ⟨b, 0, none⟩), .agg #[.int .i64 2, .bool false, .int .i64 n, .string ⟨#[]⟩, .slice none 0 0, .slice none 0 0, .int .i64 p]] w fun e w' => e = .returned (.tuple #[]) ∧ Wst W0 b (out ++ Jv.dig n) w' := by
  have HWA := Lib.hid (hW.alloc (.cells #[.int .i64 2, .bool false, .int .i64 n, .string ⟨#[]⟩, .slice none 0 0, .slice none 0 0, .int .i64 p] 82))
  obtain ⟨x0, x1, x2, x3, x4, x5, x6⟩ := cells7 (w := w) (x0 := .int .i64 2) (x1 := .bool false) (x2 := .int .i64 n) (x3 := .string ⟨#[]⟩) (x4 := .slice none 0 0) (x5 := .slice none 0 0) (x6 := .int .i64 p) (t := 82)
  have HLT := Lib.hid (Blw.is_lt hW.1).2
  obtain ⟨q, hq⟩ : ∃ q, Jv.dig n = q := ⟨_, rfl⟩
  have CN := Lib.hid (fun u (hu : Below W0.heap.size W0 u) => num_is n h0 h1 u (hT.pow u hu))
  rw [hq] at hl CN ⊢
  have HQS := Lib.hid (show (⟨q.toArray⟩ : ByteArray).size = q.length by simp [ByteArray.size])
  have HQL := Lib.hid (show (⟨q.toArray⟩ : ByteArray).data.toList = q by simp)
  generalize (⟨q.toArray⟩ : ByteArray) = Q at CN HQS HQL
  clear hW hT hq h0 h1
  go_enter Tryz.func83, Tryz.ntmps83
  go_wp2_with fail
  have HBX := Lib.hid (heap_alloc_new w (.cells #[.int .i64 2, .bool false, .int .i64 n, .string ⟨#[]⟩, .slice none 0 0, .slice none 0 0, .int .i64 p] 82))
  have HEL := Lib.hid (Rw.lt_of_heap HBX.out)
  have HNB := Lib.hid (show w.heap.size ≠ b from fun e => by have := HLT.out; omega)
  generalize hE : w.heap.size = E at x0 x1 x2 x3 x4 x5 x6 HBX HEL HNB ⊢
  generalize w.alloc _ = w0 at HWA x0 x1 x2 x3 x4 x5 x6 HBX HEL ⊢
  have HWD := Lib.hid (show Wst W0 b out w0.drew from HWA.out.below ((Below.refl w0.heap.size w0).drew))
  have HLE := Lib.hid hl
  clear hE hl
  go_region_held3 (fun w' => w'.cell? ⟨E, 2, none⟩ = some (.int .i64 n)) (first | assumption | go_keep)
    (first
      | (go_at_call 127; refine (CN.out _ HWD.out.2).mono ?_; rintro e w2 ⟨rfl, hb2⟩; have HW2 := Lib.hid (HWD.out.below hb2); have y2 := cell_under x2 (show Below w0.heap.size w0 w2 from below_seq (Below.refl w0.heap.size w0).drew hb2); have HBX2 := Lib.hid (((below_seq (Below.refl w0.heap.size w0).drew hb2).block E HEL.out).trans HBX.out); clear hb2)
      | (go_at_call 30; refine (wstr Q HW2.out (by have := HLE.out; omega) (by have := HLE.out; rw [HQS.out]; omega)).mono ?_; rintro e w3 ⟨rfl, h3, hf3⟩; have HW3 := Lib.hid h3; have y3 := fz_cell hf3 HBX2.out HNB.out; clear h3 hf3))
  rw [HQL.out] at HW3
  all_goals
    go_wp2_with fail
    go_end0
    exact ⟨rfl, HW3.out⟩
theorem value_str {W0 : World} {b : Nat} (hT : WT W0) (s : ByteArray) (p : Int) (w : World) (out : List UInt8) (hW : Wst W0 b out w) (hv : Lib.validD s.data.toList = true) (hs : s.size ≤ 1000000) (hl : out.length + (Js.quote s.data.toList).length ≤ 1000000000) :
    Calls Tryz.prog 83 #[.pointer (some ⟨b, 0, none⟩), .agg #[.int .i64 3, .bool false, .int .i64 0, .string s, .slice none 0 0, .slice none 0 0, .int .i64 p]] w fun e w' => e = .returned (.tuple #[]) ∧ Wst W0 b (out ++ Js.quote s.data.toList) w' := by
  have HWA := Lib.hid (hW.alloc (.cells #[.int .i64 3, .bool false, .int .i64 0, .string s, .slice none 0 0, .slice none 0 0, .int .i64 p] 82))
  obtain ⟨x0, x1, x2, x3, x4, x5, x6⟩ := cells7 (w := w) (x0 := .int .i64 3) (x1 := .bool false) (x2 := .int .i64 0) (x3 := .string s) (x4 := .slice none 0 0) (x5 := .slice none 0 0) (x6 := .int .i64 p) (t := 82)
  have CQ := Lib.hid (str_out s HWA.out hT.u8 hT.lt hv hs hl)
  clear hW hT hv hs hl
  go_enter Tryz.func83, Tryz.ntmps83
  go_wp2_with fail
  refine CQ.out.mono ?_
  rintro e w3 ⟨rfl, h3, -⟩
  have HW3 := Lib.hid h3
  clear h3 CQ
  go_wp2_with fail
  go_end0
  exact ⟨rfl, HW3.out⟩
theorem value_arr {W0 : World} {b : Nat} (l : List Jv.J) (a1 : Option Addr) (n1 c1 : Nat) (p : Int) (w : World) (out : List UInt8) (hW : Wst W0 b out w)
    (cJ : ∀ u, Wst W0 b out u → Calls Tryz.prog 129 #[.pointer (some ⟨b, 0, none⟩), .int .u8 91, .int .u8 93, .slice a1 n1 c1, .func (.func 83) #[.pointer (some ⟨b, 0, none⟩)] #[]] u fun e w' => e = .returned (.tuple #[]) ∧ Wst W0 b (out ++ Jv.enc (.arr l)) w') :
    Calls Tryz.prog 83 #[.pointer (some ⟨b, 0, none⟩), .agg #[.int .i64 4, .bool false, .int .i64 0, .string ⟨#[]⟩, .slice a1 n1 c1, .slice none 0 0, .int .i64 p]] w fun e w' => e = .returned (.tuple #[]) ∧ Wst W0 b (out ++ Jv.enc (.arr l)) w' := by
  have HWA := Lib.hid (hW.alloc (.cells #[.int .i64 4, .bool false, .int .i64 0, .string ⟨#[]⟩, .slice a1 n1 c1, .slice none 0 0, .int .i64 p] 82))
  obtain ⟨x0, x1, x2, x3, x4, x5, x6⟩ := cells7 (w := w) (x0 := .int .i64 4) (x1 := .bool false) (x2 := .int .i64 0) (x3 := .string ⟨#[]⟩) (x4 := .slice a1 n1 c1) (x5 := .slice none 0 0) (x6 := .int .i64 p) (t := 82)
  have CJ := Lib.hid (cJ _ HWA.out)
  clear hW cJ
  go_enter Tryz.func83, Tryz.ntmps83
  go_wp2_with fail
  refine CJ.out.mono ?_
  rintro e w3 ⟨rfl, h3⟩
  have HW3 := Lib.hid h3
  clear h3 CJ
  go_wp2_with fail
  go_end0
  exact ⟨rfl, HW3.out⟩
theorem value_obj {W0 : World} {b : Nat} (l : List (ByteArray × Jv.J)) (a1 : Option Addr) (n1 c1 : Nat) (p : Int) (w : World) (out : List UInt8) (hW : Wst W0 b out w)
    (cJ : ∀ u, Wst W0 b out u → Calls Tryz.prog 130 #[.pointer (some ⟨b, 0, none⟩), .int .u8 123, .int .u8 125, .slice a1 n1 c1, .func (.func 131) #[.pointer (some ⟨b, 0, none⟩)] #[]] u fun e w' => e = .returned (.tuple #[]) ∧ Wst W0 b (out ++ Jv.enc (.obj l)) w') :
    Calls Tryz.prog 83 #[.pointer (some ⟨b, 0, none⟩), .agg #[.int .i64 5, .bool false, .int .i64 0, .string ⟨#[]⟩, .slice none 0 0, .slice a1 n1 c1, .int .i64 p]] w fun e w' => e = .returned (.tuple #[]) ∧ Wst W0 b (out ++ Jv.enc (.obj l)) w' := by
  have HWA := Lib.hid (hW.alloc (.cells #[.int .i64 5, .bool false, .int .i64 0, .string ⟨#[]⟩, .slice none 0 0, .slice a1 n1 c1, .int .i64 p] 82))
  obtain ⟨x0, x1, x2, x3, x4, x5, x6⟩ := cells7 (w := w) (x0 := .int .i64 5) (x1 := .bool false) (x2 := .int .i64 0) (x3 := .string ⟨#[]⟩) (x4 := .slice none 0 0) (x5 := .slice a1 n1 c1) (x6 := .int .i64 p) (t := 82)
  have CJ := Lib.hid (cJ _ HWA.out)
  clear hW cJ
  go_enter Tryz.func83, Tryz.ntmps83
  go_wp2_with fail
  refine CJ.out.mono ?_
  rintro e w3 ⟨rfl, h3⟩
  have HW3 := Lib.hid h3
  clear h3 CJ
  go_wp2_with fail
  go_end0
  exact ⟨rfl, HW3.out⟩
theorem value_out {W0 : World} {b : Nat} (hT : WT W0) : ∀ (m d : Nat) (j : Jv.J) (cs : List Value) (w : World) (out : List UInt8), d + m = 101 → Jv.Ok d j → JB j → JS j → Jv W0 j cs → Wst W0 b out w → out.length + (Jv.enc j).length ≤ 1000000000 →
    Calls Tryz.prog 83 #[.pointer (some ⟨b, 0, none⟩), .agg cs.toArray] w fun e w' => e = .returned (.tuple #[]) ∧ Wst W0 b (out ++ Jv.enc j) w'
  | 0, d, j, cs, w, out, hm, ho, hb, hs, h, hW, hl => by
    exfalso
    cases j <;> simp only [Jv.Ok] at ho <;> omega
  | m + 1, d, j, cs, w, out, hm, ho, hb, hs, h, hW, hl => by
    cases j <;> unfold Jv at h
    · unfold JS at hs; exact hs.elim
    · unfold JS at hs; exact hs.elim
    · rename_i n
      obtain ⟨p, rfl⟩ := h
      unfold JB at hb
      have e : Jv.enc (.int n) = Jv.dig n := by simp only [Jv.enc]
      rw [e] at hl ⊢
      exact value_int hT n p hb.1 hb.2 w out hW hl
    · rename_i s
      obtain ⟨p, rfl⟩ := h
      simp only [Jv.Ok] at ho
      unfold JB at hb
      have e : Jv.enc (.str s) = Js.quote s.data.toList := by simp only [Jv.enc]
      rw [e] at hl ⊢
      exact value_str hT s p w out hW ho.2 hb hl
    · rename_i l
      obtain ⟨p, v, L, rfl, h1, h2⟩ := h
      simp only [Jv.Ok] at ho
      unfold JB at hb
      unfold JS at hs
      rw [Jv.OkL_iff] at ho
      rw [JBL_iff] at hb
      rw [JSL_iff] at hs
      obtain ⟨g, off, ad, cap, rfl, -, -⟩ := vals_at h1 (jl_all h2)
      have e : Jv.enc (.arr l) = 91 :: (Jv.joinC (Jv.encL l) ++ [93]) := by simp only [Jv.enc]
      refine value_arr l ad l.length cap p w out hW (fun u hu => ?_)
      rw [e] at hl ⊢
      refine joinV_is W0 b 91 93 l _ L u h1 (jl_all h2) hb.1 out hu (by simp at hl; omega) ?_
      intro j hj k b' n s a1 n1 c1 a2 n2 c2 p u o hu2 hl2 hj2
      exact value_out hT m (d + 1) l[j] _ u o (by omega) (ho.2 _ (List.getElem_mem hj)) (hb.2 _ (List.getElem_mem hj)) (hs _ (List.getElem_mem hj)) hj2 hu2 hl2
    · rename_i l
      obtain ⟨p, v, L, rfl, h1, h2⟩ := h
      simp only [Jv.Ok] at ho
      unfold JB at hb
      unfold JS at hs
      rw [Jv.OkM_iff] at ho
      rw [JBM_iff] at hb
      rw [JSM_iff] at hs
      obtain ⟨g, off, ad, cap, rfl, -, -⟩ := mems_at h1 (jm_all h2)
      have e : Jv.enc (.obj l) = 123 :: (Jv.joinC (Jv.encM l) ++ [125]) := by simp only [Jv.enc]
      refine value_obj l ad l.length cap p w out hW (fun u hu => ?_)
      rw [e] at hl ⊢
      refine joinM_is W0 b 123 125 l _ L u h1 (jm_all h2) hb.1 out hu (by simp at hl; omega) ?_
      intro j hj k b' n s a1 n1 c1 a2 n2 c2 p q u o hu2 hl2 hj2
      refine member_out hT l[j].1 l[j].2 k n b' s a1 n1 c1 a2 n2 c2 p q u o hu2 (ho.2.2 _ (List.getElem_mem hj)).1 (hb.2 _ (List.getElem_mem hj)).1 hl2 ?_
      intro u2 o2 hu3 hl3
      exact value_out hT m (d + 1) l[j].2 _ u2 o2 (by omega) (ho.2.2 _ (List.getElem_mem hj)).2 (hb.2 _ (List.getElem_mem hj)).2 (hs _ (List.getElem_mem hj)) hj2 hu3 hl3
end Go.Proofs.YtjaojenalodolaaGreatDoor.Me
/- jsonwrite's Write at an array, walked. -/
namespace Go.Proofs.YtjaojenalodolaaGreatDoor.Me
open Go Go.RowKit Go.Proofs.YtjaojenalodolaaGreatDoor Go.Proofs.YtjaojenalodolaaGreatDoor.Rw Go.Proofs.YtjaojenalodolaaGreatDoor.Vf Go.Proofs.YtjaojenalodolaaGreatDoor.Mw
set_option linter.unusedVariables false
set_option maxRecDepth 100000
set_option maxHeartbeats 16000000
theorem WT.below {w w' : World} (h : WT w) (hb : Below w.heap.size w w') : WT w' := ⟨Tx.u8_below h.u8 hb, h.lt.below hb, fun u hu => h.pow u (below_seq hb hu)⟩
theorem write_ok (l : List Jv.J) (a1 : Option Addr) (n1 c1 : Nat) (w : World) (ho : Jv.Ok 1 (.arr l)) (hb : JB (.arr l)) (hs : JS (.arr l)) (h : Jv w (.arr l) (vCells 4 false 0 ⟨#[]⟩ (.slice a1 n1 c1) nilV 0)) (hT : WT w) (hl : (Jv.enc (.arr l)).length ≤ 1000000) :
    Calls Tryz.prog 44 #[.agg #[.int .i64 4, .bool false, .int .i64 0, .string ⟨#[]⟩, .slice a1 n1 c1, .slice none 0 0, .int .i64 0]] w fun e w' => e = .returned (.tuple #[.string ⟨(Jv.enc (.arr l)).toArray⟩, .int .i64 0]) ∧ Below w.heap.size w w' := by
  have hba := (Below.refl w.heap.size w).alloc (Nat.le_refl _) (.cells #[.int .i64 4, .bool false, .int .i64 0, .string ⟨#[]⟩, .slice a1 n1 c1, .slice none 0 0, .int .i64 0] 82)
  have HB := Lib.hid hba
  obtain ⟨x0, x1, x2, x3, x4, x5, x6⟩ := cells7 (w := w) (x0 := .int .i64 4) (x1 := .bool false) (x2 := .int .i64 0) (x3 := .string ⟨#[]⟩) (x4 := .slice a1 n1 c1) (x5 := .slice none 0 0) (x6 := .int .i64 0) (t := 82)
  have CC := Lib.hid (check_ok 4 0 false ⟨#[]⟩ a1 n1 c1 none 0 0 0 (.arr l) _ ho hb (Jv.under hba _ _ h) (Tx.u8_below hT.u8 hba))
  have hne : Jv.enc (.arr l) ≠ [] := by simp [Jv.enc]
  have CV := Lib.hid (fun (W0 : World) (hw : Below w.heap.size w W0) (b : Nat) (u : World) (hu : Wst W0 b [] u) => value_out (hT.below hw) 100 1 (.arr l) _ u [] rfl ho hb hs (Jv.under hw _ _ h) hu (by simp; omega))
  obtain ⟨q, hq⟩ : ∃ q, Jv.enc (.arr l) = q := ⟨_, rfl⟩
  rw [hq] at CV hne hl ⊢
  have HNE := Lib.hid hne
  clear hba h hT ho hb hs hq hne
  go_enter Tryz.func44, Tryz.ntmps44
  go_wp2_with fail
  refine CC.out.mono ?_
  rintro e w1 ⟨rfl, hb1⟩
  have HB1 := Lib.hid (below_seq HB.out hb1)
  replace x0 := cell_under x0 hb1
  replace x1 := cell_under x1 hb1
  replace x2 := cell_under x2 hb1
  replace x3 := cell_under x3 hb1
  replace x4 := cell_under x4 hb1
  replace x5 := cell_under x5 hb1
  replace x6 := cell_under x6 hb1
  clear hb1 HB CC
  have hba := (Below.refl w1.heap.size w1).alloc (Nat.le_refl _) (.cells #[.pointer none, .slice none 0 0] 151)
  replace x0 := cell_under x0 hba
  replace x1 := cell_under x1 hba
  replace x2 := cell_under x2 hba
  replace x3 := cell_under x3 hba
  replace x4 := cell_under x4 hba
  replace x5 := cell_under x5 hba
  replace x6 := cell_under x6 hba
  have HWS := Lib.hid (show Wst w1 w1.heap.size [] (w1.alloc (.cells #[.pointer none, .slice none 0 0] 151)) from ⟨Lib.fresh_isBuilder Blw.TB Blw.TU w1, hba⟩)
  have CX := Lib.hid (CV.out w1 HB1.out w1.heap.size _ HWS.out)
  clear hba CV
  go_wp2_with fail
  refine CX.out.mono ?_
  rintro e w2 ⟨rfl, h2⟩
  rw [List.nil_append] at h2
  have CS := Lib.hid (Blw.string_is w1.heap.size w1.heap.size q w2 h2.1 HNE.out (by omega))
  have HB2 := Lib.hid (below_seq HB1.out h2.2)
  have HLE := Lib.hid (show w.heap.size ≤ w1.heap.size from HB1.out.size)
  clear h2 CX HWS x0 x1 x2 x3 x4 x5 x6
  go_wp2_with fail
  refine CS.out.mono ?_
  rintro e w3 ⟨rfl, hb3⟩
  have HB3 := Lib.hid (HB2.out.trans (hb3.mono HLE.out))
  clear hb3 CS
  go_wp2_with fail
  go_ret2
  exact ⟨rfl, HB3.out⟩
end Go.Proofs.YtjaojenalodolaaGreatDoor.Me
