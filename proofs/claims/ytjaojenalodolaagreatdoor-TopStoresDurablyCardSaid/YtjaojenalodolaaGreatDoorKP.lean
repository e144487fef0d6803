/- Parts of this proof, joined: PjW1, PjW2, PjW3, PjW4, PjM, PjF, PjW5, PjW7, PjW8, DeP. -/
import Derived.Test.YtjaojenalodolaaGreatDoorStB
import Derived.Test.YtjaojenalodolaaGreatDoorPb
import Derived.Test.YtjaojenalodolaaGreatDoorPc
import Derived.Lib.QuietBelow
import Derived.Deep.MidRow
import Derived.Test.YtjaojenalodolaaGreatDoorKD
import Derived.Test.YtjaojenalodolaaGreatDoorKA
import Derived.Test.YtjaojenalodolaaGreatDoorKE
/- jsonvalue's parser on a canonical text: its state; spaces, peek, expect. -/
namespace Go.Proofs.YtjaojenalodolaaGreatDoor.Pj
open Go Go.RowKit Go.Proofs.YtjaojenalodolaaGreatDoor Go.Proofs.YtjaojenalodolaaGreatDoor.Rw Go.Proofs.YtjaojenalodolaaGreatDoor.Mw Go.Proofs.YtjaojenalodolaaGreatDoor.Me Go.Proofs.YtjaojenalodolaaGreatDoor.Pa
set_option linter.unusedVariables false
set_option maxRecDepth 100000
set_option maxHeartbeats 16000000
def Ps (P : Nat) (s : ByteArray) (a d : Nat) (w : World) : Prop := w.heap[P]? = some (Obj.cells #[.string s, .int .i64 a, .int .i64 d] 161 (0, 0))
structure Sd (P : Nat) (u w : World) : Prop where
  os : w.os = u.os
  tape : w.tape = u.tape
  output : w.output = u.output
  size : u.heap.size ≤ w.heap.size
  block : ∀ k, k < u.heap.size → k ≠ P → w.heap[k]? = u.heap[k]?
section
variable {P a d : Nat} {s : ByteArray} {u v w : World}
theorem Ps.lt (h : Ps P s a d w) : P < w.heap.size := Rw.lt_of_heap h
theorem Ps.below (h : Ps P s a d u) (hb : Below u.heap.size u w) : Ps P s a d w := (hb.block P h.lt).trans h
theorem Ps.c0 (h : Ps P s a d w) : w.cell? ⟨P, 0, none⟩ = some (.string s) := Me.box_at h rfl
theorem Ps.c1 (h : Ps P s a d w) : w.cell? ⟨P, 1, none⟩ = some (.int .i64 a) := Me.box_at h rfl
theorem Ps.c2 (h : Ps P s a d w) : w.cell? ⟨P, 2, none⟩ = some (.int .i64 d) := Me.box_at h rfl
theorem Ps.f1 (h : Ps P s a d w) : w.frozen? ⟨P, 1, none⟩ = false := frozen_of_row w P 1 _ _ h
theorem Ps.f2 (h : Ps P s a d w) : w.frozen? ⟨P, 2, none⟩ = false := frozen_of_row w P 2 _ _ h
theorem Sd.refl (P : Nat) (u : World) : Sd P u u := ⟨rfl, rfl, rfl, Nat.le_refl _, fun _ _ _ => rfl⟩
theorem Sd.trans (h : Sd P u v) (k : Sd P v w) : Sd P u w := ⟨k.os.trans h.os, k.tape.trans h.tape, k.output.trans h.output, Nat.le_trans h.size k.size, fun i hi hp => (k.block i (Nat.lt_of_lt_of_le hi h.size) hp).trans (h.block i hi hp)⟩
theorem Sd.of_below (h : Below u.heap.size u w) : Sd P u w := ⟨h.os, h.tape, h.output, h.size, fun i hi _ => h.block i hi⟩
theorem Sd.below (h : Sd P u v) (hb : Below v.heap.size v w) : Sd P u w := h.trans (.of_below hb)
theorem Sd.set (h : Sd P u v) (j : Nat) (x : Value) : Sd P u (v.setCell ⟨P, j, none⟩ x) := h.trans ⟨rfl, rfl, rfl, by simp, fun i hi hp => heap_setCell_other _ _ _ _ hp⟩
theorem Sd.under (h : Sd P u v) {n : Nat} (hn : n ≤ P) (hu : n ≤ u.heap.size) : Below n u v := ⟨h.os, h.tape, h.output, h.size, fun k hk => h.block k (by omega) (by omega)⟩
theorem Sd.cell (h : Sd P u v) {k j : Nat} {x : Value} (hc : u.cell? ⟨k, j, none⟩ = some x) (hk : k ≠ P) : v.cell? ⟨k, j, none⟩ = some x := by
  have hl := Rw.lt_of_cell hc
  unfold World.cell? at hc ⊢
  rw [h.block k hl hk]
  exact hc
theorem Ps.set1 (h : Ps P s a d w) (x : Nat) : Ps P s x d (w.setCell ⟨P, 1, none⟩ (.int .i64 x)) := by
  unfold Ps at h ⊢
  rw [heap_setCell_same _ _ _ _ _ _ h]
  rfl
theorem Ps.set2 (h : Ps P s a d w) (x : Nat) : Ps P s a x (w.setCell ⟨P, 2, none⟩ (.int .i64 x)) := by
  unfold Ps at h ⊢
  rw [heap_setCell_same _ _ _ _ _ _ h]
  rfl
end
theorem space_is (c : Nat) (b : Bool) (h : Txt.spB (c : Int) = b) (u : World) :
    Calls Tryz.prog 147 #[.int .u8 c] u fun e w' => e = .returned (.bool b) ∧ Below u.heap.size u w' := by
  refine (Tx.space_any (c : Int) u).mono ?_
  rintro e w' ⟨rfl, rfl⟩
  exact ⟨by rw [h], Below.refl _ _⟩
theorem spaces_is (P a d : Nat) (s : ByteArray) (w : World) (h : Ps P s a d w) (hs : s.size ≤ 1000000000) (ha : a ≤ s.size) (hn : ∀ h : a < s.size, Txt.spB (s[a].toNat : Int) = false) :
    Calls Tryz.prog 97 #[.pointer (some ⟨P, 0, none⟩)] w fun e w' => e = .returned (.tuple #[]) ∧ Below w.heap.size w w' := by
  have x0 := h.c0
  have x1 := h.c1
  have r0 := cell_regrown x0
  have r1 := cell_regrown x1
  have HH := Lib.hid h
  have HN := Lib.hid hn
  clear h hn
  by_cases hlt : a < s.size
  · have cS : ∀ (dq : Nat) (os : Array Obj), Calls Tryz.prog 147 #[.int .u8 s[a].toNat] (Sort.grow (redrawn w dq) os) fun e w'' => e = .returned (.bool false) ∧ ∃ p : Regrown, w'' = Sort.grow (redrawn w p.d) p.os := fun dq os => Calls.regrown_of (space_is s[a].toNat false (HN.out hlt) _)
    have i1 : (a : Int) < (s.size : Int) := by omega
    have i0 : (0 : Int) ≤ (a : Int) := by omega
    go_enter Tryz.func97, Tryz.ntmps97
    go_wp2_with fail
    go_loopw [] (fun wr => wr = w) (fun _ => 0)
    case atStart => exact rfl
    case round =>
      obtain rfl := hrel
      go_wp2_with fail
      refine wp_region_quiet_below (by kernel_rfl) (by kernel_rfl) ?_
      repeat (first | go_big_quiet_step (fail) | quiet_step (exact cS _ _) | quiet_step (fail))
      refine wpQuiet_nil ?_
      intro _ hw'
      obtain ⟨⟨dq, osq⟩, hw''⟩ := hw'
      subst hw''
      have HBF := Lib.hid (below_regrown wr dq osq)
      go_wp2_with fail
      go_end0
      exact ⟨rfl, HBF.out⟩
  · have i1 : decide ((a : Int) < (s.size : Int)) = false := decide_eq_false (by omega)
    go_enter Tryz.func97, Tryz.ntmps97
    go_wp2_with fail
    go_loopw [] (fun wr => wr = w) (fun _ => 0)
    case atStart => exact rfl
    case round =>
      obtain rfl := hrel
      go_wp2_with fail
      refine wp_region_quiet_below (by kernel_rfl) (by kernel_rfl) ?_
      repeat (first | go_big_quiet_step (fail) | quiet_step (fail))
      refine wpQuiet_nil ?_
      intro _ hw'
      obtain ⟨⟨dq, osq⟩, hw''⟩ := hw'
      subst hw''
      have HBF := Lib.hid (below_regrown wr dq osq)
      go_wp2_with fail
      go_end0
      exact ⟨rfl, HBF.out⟩
theorem peek_is (P a d : Nat) (s : ByteArray) (c : UInt8) (w : World) (h : Ps P s a d w) (hs : s.size ≤ 1000000000) (ha : a < s.size) (hc : s[a] = c) (hn : Txt.spB (c.toNat : Int) = false) :
    Calls Tryz.prog 138 #[.pointer (some ⟨P, 0, none⟩)] w fun e w' => e = .returned (.int .u8 c.toNat) ∧ Below w.heap.size w w' := by
  have CS := Lib.hid (spaces_is P a d s w h hs (by omega) (fun _ => by rw [hc]; exact hn))
  have HH := Lib.hid h
  have i1 : ((a : Int) == (s.size : Int)) = false := by rw [beq_eq_false_iff_ne]; omega
  have i2 : (a : Int) < (s.size : Int) := by omega
  have i0 : (0 : Int) ≤ (a : Int) := by omega
  clear h hn
  go_enter Tryz.func138, Tryz.ntmps138
  go_wp2_with fail
  refine CS.out.mono ?_
  rintro e w1 ⟨rfl, hb1⟩
  have HB1 := Lib.hid hb1
  have x0 := (HH.out.below hb1).c0
  have x1 := (HH.out.below hb1).c1
  clear hb1 CS
  go_wp2_with fail
  go_quiet (fail)
  replace x0 : (w1.drewN nq).cell? ⟨P, 0, none⟩ = some (.string s) := x0
  replace x1 : (w1.drewN nq).cell? ⟨P, 1, none⟩ = some (.int .i64 a) := x1
  have HB2 := Lib.hid (Rw.below_drewN HB1.out nq)
  generalize w1.drewN nq = w2 at x0 x1 HB2 ⊢
  go_wp2_with fail
  go_quiet (fail)
  have HB3 := Lib.hid (Rw.below_drewN HB2.out nq)
  go_wp2_with fail
  go_ret
  exact ⟨by subst hc; rfl, HB3.out⟩
theorem expect_is (P a d : Nat) (s : ByteArray) (c : UInt8) (w : World) (h : Ps P s a d w) (hs : s.size ≤ 1000000000) (ha : a < s.size) (hc : s[a] = c) (hn : Txt.spB (c.toNat : Int) = false) :
    Calls Tryz.prog 173 #[.pointer (some ⟨P, 0, none⟩), .int .u8 c.toNat] w fun e w' => e = .returned (.tuple #[]) ∧ Ps P s (a + 1) d w' ∧ Sd P w w' := by
  have x0 := h.c0
  have x1 := h.c1
  have r0 := cell_regrown x0
  have r1 := cell_regrown x1
  have cP := fun (dq : Nat) (os : Array Obj) => Calls.regrown_of (peek_is P a d s c (Sort.grow (redrawn w dq) os) (h.below (below_regrown w dq os)) hs ha hc hn)
  have i1 : ((a : Int) == (s.size : Int)) = false := by rw [beq_eq_false_iff_ne]; omega
  obtain ⟨a1, ha1⟩ : ∃ n, a + 1 = n := ⟨_, rfl⟩
  have i4 : IntKind.i64.wrap ((a : Int) + 1) = (a1 : Int) := by rw [IntWalk.i64_in _ (by omega)]; omega
  have HA := Lib.hid ha1
  have HH := Lib.hid h
  obtain ⟨cn, hcn⟩ : ∃ n, c.toNat = n := ⟨_, rfl⟩
  rw [hcn] at cP ⊢
  clear h hn hc ha1
  go_enter Tryz.func173, Tryz.ntmps173
  go_wp2_with fail
  refine wp_region_quiet_below (by kernel_rfl) (by kernel_rfl) ?_
  repeat (first | go_big_quiet_step (fail) | quiet_step (exact cP _ _) | quiet_step (fail))
  refine wpQuiet_nil ?_
  intro _ hw'
  obtain ⟨⟨dq, osq⟩, hw''⟩ := hw'
  subst hw''
  have HP := Lib.hid (HH.out.below (below_regrown w dq osq))
  have HS := Lib.hid (Sd.of_below (P := P) (below_regrown w dq osq))
  have y1 := HP.out.c1
  have z1 := HP.out.f1
  clear r0 r1 cP x0 x1
  generalize Sort.grow (redrawn w dq) osq = w1 at HP HS y1 z1 ⊢
  go_wp2_with fail
  go_end0
  exact ⟨rfl, by rw [HA.out]; exact HP.out.set1 a1, HS.out.set 1 _⟩
end Go.Proofs.YtjaojenalodolaaGreatDoor.Pj
/- jsonvalue's parser on a canonical text: strings.TrimLeft at its set, number, str. -/
namespace Go.Proofs.YtjaojenalodolaaGreatDoor.Pj
open Go Go.RowKit Go.Proofs.YtjaojenalodolaaGreatDoor Go.Proofs.YtjaojenalodolaaGreatDoor.Rw Go.Proofs.YtjaojenalodolaaGreatDoor.Mw Go.Proofs.YtjaojenalodolaaGreatDoor.Me Go.Proofs.YtjaojenalodolaaGreatDoor.Pa
set_option linter.unusedVariables false
set_option maxRecDepth 100000
set_option maxHeartbeats 16000000
theorem ext_list (T : ByteArray) (i j : Nat) : (T.extract i j).data.toList = (T.data.toList.drop i).take (j - i) := by simp
theorem ext_size (T : ByteArray) (k : Nat) : (T.extract k T.size).size = T.size - k := by simp
theorem ext_ext (T : ByteArray) (k : Nat) : (T.extract k T.size).extract 1 (T.extract k T.size).size = T.extract (k + 1) T.size := by
  apply Bs.ba_eq
  rw [ext_size]
  simp only [ext_list, List.drop_take, List.drop_drop, List.take_take]
  congr 1
  omega
theorem ext_zero (T : ByteArray) : T.extract 0 T.size = T := by
  apply Bs.ba_eq
  simp
theorem ext_at (T : ByteArray) (k : Nat) (hk : k < T.size) (h : 0 < (T.extract k T.size).size) : (T.extract k T.size)[0] = T[k] := by
  simp [ByteArray.getElem_extract]
def strSize : Value → Nat
  | .string s => s.size
  | _ => 0
theorem trimLA_is (cs : List UInt8) (T : ByteArray) (n b : Nat) (w : World) (hn : n ≤ T.size) (hs : T.size ≤ 1000000000) (hc : ∀ x : UInt8, w.cell? ⟨b, x.toNat, none⟩ = some (.bool (cs.contains x))) (h1 : ∀ k (h : k < T.size), k < n → cs.contains T[k] = true) (h2 : ∀ h : n < T.size, cs.contains T[n] = false) :
    Calls Tryz.prog 68 #[.string T, .pointer (some ⟨b, 0, none⟩)] w fun e w' => e = .returned (.string (T.extract n T.size)) ∧ w' = w := by
  have HC := Lib.hid hc
  have H1 := Lib.hid h1
  have H2 := Lib.hid h2
  clear hc h1 h2
  go_enter Tryz.func68, Tryz.ntmps68
  go_wp2_with fail
  go_loopw [0] (fun x wr => ∃ k : Nat, k ≤ n ∧ x = .string (T.extract k T.size) ∧ wr = w) (fun x _ => strSize x)
  case atStart => exact ⟨0, Nat.zero_le _, by rw [ext_zero], rfl⟩
  case round =>
    obtain ⟨k, hk, rfl, rfl⟩ := hrel
    obtain ⟨u, hu⟩ : ∃ u, T.extract k T.size = u := ⟨_, rfl⟩
    have HU := Lib.hid hu
    have hus : u.size = T.size - k := by rw [← hu, ext_size]
    have HX := Lib.hid (show u.extract 1 u.size = T.extract (k + 1) T.size by rw [← hu]; exact ext_ext T k)
    rw [hu]
    clear hu
    by_cases hlt : k < T.size
    · have i1 : (0 : Int) < (u.size : Int) := by omega
      have i2 : (1 : Int) ≤ (u.size : Int) := by omega
      have hu0 : 0 < u.size := by omega
      have HA := Lib.hid (show u[0] = T[k] by have := HU.out; subst this; exact ext_at T k hlt hu0)
      have CC := Lib.hid (Tryz.asciiSet_contains b u[0] (cs.contains u[0]) wr (HC.out _))
      have HSZ := Lib.hid hus
      clear hus
      by_cases hkn : k < n
      · rw [show cs.contains u[0] = true by rw [HA.out]; exact H1.out k hlt hkn] at CC
        go_wp2_with fail
        refine CC.out.mono ?_
        rintro e w1 ⟨rfl, rfl⟩
        go_wp2_with fail
        go_roundw
        case rel => exact ⟨k + 1, by omega, by rw [HX.out], trivial⟩
        case measure =>
          have := HSZ.out
          rw [HX.out]
          simp only [strSize, ext_size]
          omega
      · obtain rfl : k = n := by omega
        rw [show cs.contains u[0] = false by rw [HA.out]; exact H2.out hlt] at CC
        go_wp2_with fail
        refine CC.out.mono ?_
        rintro e w1 ⟨rfl, rfl⟩
        go_wp2_with fail
        go_ret
        exact ⟨show Ending.returned (.string u) = _ by rw [HU.out], rfl⟩
    · have i1 : u.size = 0 := by omega
      have HE := Lib.hid (show k = n by omega)
      clear hus
      go_wp2_with fail
      go_ret
      exact ⟨show Ending.returned (.string u) = _ by rw [← HE.out, HU.out], rfl⟩
def numBa : ByteArray := ⟨#[48, 49, 50, 51, 52, 53, 54, 55, 56, 57, 43, 45, 46, 101, 69]⟩
theorem num_ascii : ∀ (j : Nat) b, numBa.data.toList[j]? = some b → b.toNat < 128 := by
  have h : ∀ b ∈ numBa.data.toList, b.toNat < 128 := by decide +kernel
  exact fun j b e => h b (List.mem_of_getElem? e)
theorem hvset : ∀ w, (zeroValue 133).run Tryz.prog w = .ok (.agg (Array.replicate 256 (.bool false))) w := fun w => by kernel_rfl
theorem trimLeft_num (T : ByteArray) (n : Nat) (w : World) (hn : n ≤ T.size) (h0 : 0 < T.size) (hs : T.size ≤ 1000000000) (h1 : ∀ k (h : k < T.size), k < n → numSet.contains T[k] = true) (h2 : ∀ h : n < T.size, numSet.contains T[n] = false) :
    Calls Tryz.prog 170 #[.string T, .string numBa] w fun e w' => e = .returned (.string (T.extract n T.size)) ∧ Below w.heap.size w w' := by
  have CM := Lib.hid (Tryz.strings_makeASCIISet hvset numBa w (by decide) num_ascii)
  have HL := Lib.hid (fun b u hc => trimLA_is numSet T n b u hn hs hc h1 h2)
  unfold numBa at *
  have hne : T.toList.isEmpty = false := by
    rw [ByteArray.toList_eq]
    cases e : T.data.toList with
    | nil =>
      have h3 : T.data.toList.length = T.size := by simp
      rw [e] at h3
      simp at h3
      omega
    | cons x r => rfl
  clear h1 h2
  go_enter Tryz.func170, Tryz.ntmps170
  obtain ⟨A, hA⟩ : ∃ A, Lib.setCells [48, 49, 50, 51, 52, 53, 54, 55, 56, 57, 43, 45, 46, 101, 69] = A := ⟨_, rfl⟩
  have HA := Lib.hid (show A.size = 256 ∧ (∀ x : UInt8, A[x.toNat]? = some (.bool (numSet.contains x))) ∧ A.all (·.oneCell') = true from by rw [← hA]; exact ⟨by decide +kernel, fun x => Lib.setCells_at _ x, by decide +kernel⟩)
  have hz := hvset
  go_wp2_with fail
  refine CM.out.mono ?_
  rintro e w1 ⟨rfl, hw1⟩
  have HB1 := Lib.hid (show Below w.heap.size w w1 from by rw [hw1]; exact (Below.refl _ _).alloc (Nat.le_refl _) _)
  simp only [hA]
  clear hw1 CM hA
  have HN := Lib.hid (heap_alloc_new w1 (.cells (Array.replicate 256 (.bool false)) 133))
  go_wp2_with (refine wpList_store_row rfl 133 _ _ rfl w1.heap.size A rfl rfl 133 (Array.replicate 256 (.bool false)) HN.out (by rw [HA.out.1]; kernel_rfl) (by rw [HA.out.1, Array.size_replicate]) HA.out.2.2 ?_)
  have hc := fun x : UInt8 => (cell_setRow_same _ w1.heap.size x.toNat _ A _ _ HN.out).trans (HA.out.2.1 x)
  have HB2 := Lib.hid (Me.below_setRow (below_seq HB1.out ((Below.refl w1.heap.size w1).alloc (Nat.le_refl _) (.cells (Array.replicate 256 (.bool false)) 133))) HB1.out.size A)
  have CR := Lib.hid (HL.out _ _ hc)
  clear hc HN HA
  generalize (w1.alloc (.cells (Array.replicate 256 (.bool false)) 133)).setRow w1.heap.size A = w2 at HB2 CR ⊢
  refine CR.out.mono ?_
  rintro e w3 ⟨rfl, rfl⟩
  go_wp2_with fail
  go_ret
  exact ⟨rfl, HB2.out⟩
end Go.Proofs.YtjaojenalodolaaGreatDoor.Pj
/- jsonvalue's parser on a canonical text: number, str. -/
namespace Go.Proofs.YtjaojenalodolaaGreatDoor.Pj
open Go Go.RowKit Go.Proofs.YtjaojenalodolaaGreatDoor Go.Proofs.YtjaojenalodolaaGreatDoor.Rw Go.Proofs.YtjaojenalodolaaGreatDoor.Mw Go.Proofs.YtjaojenalodolaaGreatDoor.Me Go.Proofs.YtjaojenalodolaaGreatDoor.Pa
set_option linter.unusedVariables false
set_option maxRecDepth 100000
set_option maxHeartbeats 16000000
theorem getD_ba (T : ByteArray) (h : 0 < T.size) : T.data.toList.getD 0 0 = T[0] := by
  rw [List.getD_eq_getElem?_getD, List.getElem?_eq_getElem (by simpa using h)]
  rfl
theorem str_is (P a d : Nat) (s t : ByteArray) (post : List UInt8) (w : World) (h : Ps P s a d w) (hs : s.size ≤ 1000000000) (hT : Jw.JTabs w) (hv : Lib.validD t.data.toList = true) (hd : s.data.toList.drop a = Js.quote t.data.toList ++ post) :
    Calls Tryz.prog 140 #[.pointer (some ⟨P, 0, none⟩)] w fun e w' => e = .returned (.string t) ∧ Ps P s (a + (Js.quote t.data.toList).length) d w' ∧ Sd P w w' := by
  have x0 := h.c0
  have x1 := h.c1
  have r0 := cell_regrown x0
  have r1 := cell_regrown x1
  have hb := str_back hv hd
  obtain ⟨n, hn⟩ : ∃ n, (Js.quote t.data.toList).length = n := ⟨_, rfl⟩
  rw [hn] at hb ⊢
  obtain ⟨a1, ha1⟩ : ∃ m, a + n = m := ⟨_, rfl⟩
  rw [ha1] at hb ⊢
  have cP : ∀ (dq : Nat) (os : Array Obj), Calls Tryz.prog 169 #[.string s, .int .i64 a] (Sort.grow (redrawn w dq) os) fun e w'' => e = .returned (.tuple #[.string t, .int .i64 a1, .int .i64 0]) ∧ ∃ p : Regrown, w'' = Sort.grow (redrawn w p.d) p.os := fun dq os => Calls.regrown_of (Jw.parse_ba s t a (a1 : Int) 0 (Sort.grow (redrawn w dq) os) hs (hT.below (below_regrown w dq os)) hb)
  have HH := Lib.hid h
  clear h hb hd hn hT hv ha1
  go_enter Tryz.func140, Tryz.ntmps140
  go_wp2_with fail
  refine wp_region_quiet_below (by kernel_rfl) (by kernel_rfl) ?_
  repeat (first | go_big_quiet_step (fail) | quiet_step (exact cP _ _) | quiet_step (fail))
  refine wpQuiet_nil ?_
  intro _ hw'
  obtain ⟨⟨dq, osq⟩, hw''⟩ := hw'
  subst hw''
  have HP := Lib.hid (HH.out.below (below_regrown w dq osq))
  have HS := Lib.hid (Sd.of_below (P := P) (below_regrown w dq osq))
  have y1 := HP.out.c1
  have z1 := HP.out.f1
  clear r0 r1 cP x0 x1
  generalize Sort.grow (redrawn w dq) osq = w1 at HP HS y1 z1 ⊢
  go_wp2_with fail
  go_ret
  exact ⟨rfl, HP.out.set1 a1, HS.out.set 1 _⟩
theorem number_is (P a d : Nat) (s : ByteArray) (n : Int) (l post : List UInt8) (w : World) (h : Ps P s a d w) (hs : s.size ≤ 1000000000) (hd : s.data.toList.drop a = l ++ post) (hn : Num n l) (hp : Stop post) :
    Calls Tryz.prog 141 #[.pointer (some ⟨P, 0, none⟩)] w fun e w' => e = .returned (.int .i64 n) ∧ Ps P s (a + l.length) d w' ∧ Sd P w w' := by
  have x0 := h.c0
  have x1 := h.c1
  have HH := Lib.hid h
  have hl0 : 0 < l.length := List.length_pos_iff.2 hn.ne
  have ha : a < s.size := by
    have := congrArg List.length hd
    simp at this
    omega
  obtain ⟨T, hT⟩ : ∃ T, s.extract a s.size = T := ⟨_, rfl⟩
  have hTl : T.data.toList = l ++ post := by rw [← hT, ext_list, List.take_of_length_le (by simp)]; exact hd
  have hTs : T.size = s.size - a := by rw [← hT]; simp
  have hTn : l.length ≤ T.size := by
    have := congrArg List.length hTl
    simp at this
    omega
  obtain ⟨N, hN⟩ : ∃ N, T.extract 0 l.length = N := ⟨_, rfl⟩
  have hNl : N.data.toList = l := by rw [← hN]; simp [hTl]
  have hTe : ∀ k (hk : k < T.size), T.data.toList[k]? = some T[k] := fun k hk => by
    rw [List.getElem?_eq_getElem (by simpa using hk)]; rfl
  have CT := Lib.hid (fun u => trimLeft_num T l.length u hTn (by omega) (by omega) (fun k hk hkl => by
    have h1 := hTe k hk
    rw [hTl, List.getElem?_append_left hkl] at h1
    exact hn.set _ (List.mem_of_getElem? h1)) (fun hk => by
    have h1 := hTe l.length hk
    rw [hTl, List.getElem?_append_right (Nat.le_refl _), Nat.sub_self] at h1
    exact hp _ (by rw [← h1]; cases post <;> rfl)))
  obtain ⟨U, hU⟩ : ∃ U, T.extract l.length T.size = U := ⟨_, rfl⟩
  have hUs : U.size = T.size - l.length := by rw [← hU]; simp
  rw [hU] at CT
  have hNs : N.size = l.length := by rw [← hN]; simp; omega
  have CD := Lib.hid (fun u => Tryz.strings_TrimPrefix N ⟨#[45]⟩ u)
  have CI := Lib.hid (fun u => Tryz.strconv_ParseInt_10_at64_ok N (by omega) n (by rw [hNl]; exact hn.ok) u)
  obtain ⟨D, hD⟩ : ∃ D, (⟨(Lib.trimPrefix N.data.toList (⟨#[45]⟩ : ByteArray).data.toList).toArray⟩ : ByteArray) = D := ⟨_, rfl⟩
  have hDl : D.data.toList = Lib.trimPrefix l [45] := by rw [← hD, hNl]
  have hDs : D.size = (Lib.trimPrefix l [45]).length := by rw [← hDl]; simp
  rw [hD] at CD
  have hD0 : 0 < D.size := by rw [hDs]; exact List.length_pos_iff.2 hn.digits
  have hT0 : 0 < T.size := by omega
  have hTh : T[0] = l.getD 0 0 := by
    rw [← getD_ba T hT0, hTl, List.getD_eq_getElem?_getD, List.getD_eq_getElem?_getD, List.getElem?_append_left hl0]
  have hDh : D[0] = (Lib.trimPrefix l [45]).getD 0 0 := by rw [← getD_ba D hD0, hDl]
  have e1 : ((T[0].toNat : Int) == 43) = false := by
    rw [beq_eq_false_iff_ne]
    intro e
    have e2 : T[0] = 43 := UInt8.toNat_inj.1 (show T[0].toNat = 43 by omega)
    rw [hTh] at e2
    exact hn.plus e2
  have HZ := Lib.hid (fun e : D[0] = 48 => show D.size = 1 by rw [hDs]; exact hn.zero (by rw [← hDh]; exact e))
  obtain ⟨m, hm⟩ : ∃ m, l.length = m := ⟨_, rfl⟩
  rw [hm] at hTn hUs hNs hN hl0 ⊢
  have HTX := Lib.hid hT
  have HNX := Lib.hid hN
  have j1 : (a : Int) ≤ (s.size : Int) := by omega
  have j0 : (0 : Int) ≤ (a : Int) := by omega
  have j2 : IntKind.i64.wrap ((T.size : Int) - (U.size : Int)) = (m : Int) := by rw [IntWalk.i64_in _ (by omega)]; omega
  have j3 : (m : Int) ≤ (T.size : Int) := by omega
  have j4 : (0 : Int) ≤ (m : Int) := by omega
  obtain ⟨a1, ha1⟩ : ∃ x, a + m = x := ⟨_, rfl⟩
  have j5 : IntKind.i64.wrap ((a : Int) + (m : Int)) = (a1 : Int) := by rw [IntWalk.i64_in _ (by omega)]; omega
  rw [ha1]
  have j6 : (0 : Int) < (T.size : Int) := by omega
  have j7 : (0 : Int) < (D.size : Int) := by omega
  unfold numBa at CT
  clear h hd hn hp hTl hTe hNl hD hDl hDs hTh hDh hm hU hUs hTs hTn hNs hl0 ha1
  go_enter Tryz.func141, Tryz.ntmps141
  go_wp2_with fail
  go_quiet (fail)
  have HB1 := Lib.hid (Rw.below_drewN (Below.refl w.heap.size w) nq)
  have HP1 := Lib.hid (HH.out.below HB1.out)
  generalize w.drewN nq = w1 at HB1 HP1 ⊢
  go_wp2_with fail
  refine (CT.out _).mono ?_
  rintro e w2 ⟨rfl, hb2⟩
  have HP2 := Lib.hid (HP1.out.below hb2)
  have HS2 := Lib.hid (Sd.of_below (P := P) (below_seq HB1.out hb2))
  clear hb2 CT
  go_wp2_with fail
  refine (CD.out _).mono ?_
  rintro e w3 ⟨rfl, rfl⟩
  go_wp2_with fail
  refine (CI.out _).mono ?_
  rintro e w4 ⟨rfl, hw4⟩
  have hb4 : Below w3.heap.size w3 w4 := by
    rcases hw4 with rfl | ⟨t, rfl⟩
    · exact Below.refl _ _
    · exact Jw.world_below _ _ _
  have HP4 := Lib.hid (HP2.out.below hb4)
  have HS4 := Lib.hid (HS2.out.below hb4)
  have y1 := HP4.out.c1
  have z1 := HP4.out.f1
  clear hw4 hb4 CI CD x0 x1
  by_cases hz : D[0] = 48
  · have e2 : ((D[0].toNat : Int) == 48) = true := by rw [hz]; rfl
    have e3 : decide ((1 : Int) < (D.size : Int)) = false := decide_eq_false (by have := HZ.out hz; omega)
    clear hz
    go_wp2_with fail
    go_ret
    exact ⟨rfl, HP4.out.set1 a1, HS4.out.set 1 _⟩
  · have e2 : ((D[0].toNat : Int) == 48) = false := by
      rw [beq_eq_false_iff_ne]
      intro e
      exact hz (UInt8.toNat_inj.1 (show D[0].toNat = 48 by omega))
    clear hz
    go_wp2_with fail
    go_ret
    exact ⟨rfl, HP4.out.set1 a1, HS4.out.set 1 _⟩
end Go.Proofs.YtjaojenalodolaaGreatDoor.Pj
/- jsonvalue's member on a canonical text: the keys before are others; key, colon, value. -/
namespace Go.Proofs.YtjaojenalodolaaGreatDoor.Pj
open Go Go.RowKit Go.Proofs.YtjaojenalodolaaGreatDoor Go.Proofs.YtjaojenalodolaaGreatDoor.Rw Go.Proofs.YtjaojenalodolaaGreatDoor.Mw Go.Proofs.YtjaojenalodolaaGreatDoor.Me Go.Proofs.YtjaojenalodolaaGreatDoor.Pa
set_option linter.unusedVariables false
set_option maxRecDepth 100000
set_option maxHeartbeats 16000000
theorem mem1_is (M : Nat) (key k2 : ByteArray) (k n p q : Int) (b : Bool) (s : ByteArray) (a1 : Option Addr) (n1 c1 : Nat) (a2 : Option Addr) (n2 c2 : Nat) (w : World) (hM : w.cell? ⟨M, 0, none⟩ = some (.string key)) (hne : (k2.toList == key.toList) = false) :
    Calls Tryz.prog 175 #[.agg #[.string k2, .int .i64 k, .bool b, .int .i64 n, .string s, .slice a1 n1 c1, .slice a2 n2 c2, .int .i64 p, .int .i64 q], .pointer (some ⟨M, 0, none⟩)] w fun e w' => e = .returned (.bool false) ∧ Below w.heap.size w w' := by
  have HB0 := Lib.hid ((Below.refl w.heap.size w).alloc (Nat.le_refl _) (.cells #[.string k2, .int .i64 k, .bool b, .int .i64 n, .string s, .slice a1 n1 c1, .slice a2 n2 c2, .int .i64 p, .int .i64 q] 144))
  obtain ⟨x0, -⟩ := cells9 (w := w) (x0 := .string k2) (x1 := .int .i64 k) (x2 := .bool b) (x3 := .int .i64 n) (x4 := .string s) (x5 := .slice a1 n1 c1) (x6 := .slice a2 n2 c2) (x7 := .int .i64 p) (x8 := .int .i64 q) (t := 144)
  have y0 := cell_under hM ((Below.refl w.heap.size w).alloc (Nat.le_refl _) (.cells #[.string k2, .int .i64 k, .bool b, .int .i64 n, .string s, .slice a1 n1 c1, .slice a2 n2 c2, .int .i64 p, .int .i64 q] 144))
  clear hM
  go_enter Tryz.func175, Tryz.ntmps175
  go_wp2_with fail
  go_ret
  exact ⟨rfl, HB0.out⟩
theorem idxf_is (v : Value) (l : List (ByteArray × Jv.J)) (L : List (List Value)) (M : Nat) (key : ByteArray) (W : World) (hR : Rw W v 9 L) (hA : All JvP W l L) (hM : W.cell? ⟨M, 0, none⟩ = some (.string key)) (hk : ∀ x ∈ l, (x.1.toList == key.toList) = false) (hl : l.length ≤ 1000000) :
    Calls Tryz.prog 200 #[v, .func (.func 175) #[] #[.pointer (some ⟨M, 0, none⟩)]] W fun e w' => e = .returned (.int .i64 (-1)) ∧ Below W.heap.size W w' := by
  obtain ⟨g, off, ad, cap, rfl, had, hc⟩ := mems_at hR hA
  obtain ⟨m, hm⟩ : ∃ m, l.length = m := ⟨_, rfl⟩
  rw [hm] at had hl ⊢
  have HM := Lib.hid hm
  have HAD := Lib.hid had
  have HC := Lib.hid hc
  have HK := Lib.hid hk
  have HY := Lib.hid hM
  clear hR hA had hc hk hm hM
  go_enter Tryz.func200, Tryz.ntmps200
  go_wp2_with fail
  go_loopw [8] (fun x wr => ∃ i : Nat, i ≤ m ∧ x = .int .i64 i ∧ Hid (Below W.heap.size W wr)) (fun x _ => m - (intOf x).toNat)
  case atStart => exact ⟨0, Nat.zero_le _, rfl, Lib.hid (Below.refl _ _)⟩
  case round =>
    obtain ⟨i, hi, rfl, hb⟩ := hrel
    by_cases hlt : i < m
    · obtain rfl := HAD.out (by omega)
      have hil : i < l.length := by rw [HM.out]; exact hlt
      obtain ⟨vk, vb, vn, vs, a1, n1, c1, a2, n2, c2, vp, vq, -, y0, y1, y2, y3, y4, y5, y6, y7, y8⟩ := HC.out i hil
      replace y0 := cell_under y0 hb.out
      replace y1 := cell_under y1 hb.out
      replace y2 := cell_under y2 hb.out
      replace y3 := cell_under y3 hb.out
      replace y4 := cell_under y4 hb.out
      replace y5 := cell_under y5 hb.out
      replace y6 := cell_under y6 hb.out
      replace y7 := cell_under y7 hb.out
      replace y8 := cell_under y8 hb.out
      have hne := HK.out _ (List.getElem_mem hil)
      generalize l[i].1 = kk at y0 hne
      have CC := Lib.hid (mem1_is M key kk vk vn vp vq vb vs a1 n1 c1 a2 n2 c2 wr (cell_under HY.out hb.out) hne)
      have i1 : (i : Int) < (m : Int) := by omega
      have i0 : (0 : Int) ≤ (i : Int) := by omega
      clear hne
      go_wp2_with fail
      refine CC.out.mono ?_
      rintro e w1 ⟨rfl, hb1⟩
      have HB1 := Lib.hid (below_seq hb.out hb1)
      clear hb1 CC y0 y1 y2 y3 y4 y5 y6 y7 y8
      go_wp2_with fail
      go_roundw
      case rel => exact ⟨i + 1, by omega, by go_num, HB1⟩
      case measure => simp [intOf]; omega
    · have gl : decide ((i : Int) < (m : Int)) = false := decide_eq_false (by omega)
      go_wp2_with fail
      go_ret
      exact ⟨rfl, hb.out⟩
theorem contf_is (v : Value) (l : List (ByteArray × Jv.J)) (L : List (List Value)) (M : Nat) (key : ByteArray) (W : World) (hR : Rw W v 9 L) (hA : All JvP W l L) (hM : W.cell? ⟨M, 0, none⟩ = some (.string key)) (hk : ∀ x ∈ l, (x.1.toList == key.toList) = false) (hl : l.length ≤ 1000000) :
    Calls Tryz.prog 174 #[v, .func (.func 175) #[] #[.pointer (some ⟨M, 0, none⟩)]] W fun e w' => e = .returned (.bool false) ∧ Below W.heap.size W w' := by
  have CI := Lib.hid (idxf_is v l L M key W hR hA hM hk hl)
  clear hR hA hM hk hl
  go_enter Tryz.func174, Tryz.ntmps174
  go_wp2_with fail
  refine CI.out.mono ?_
  rintro e w1 ⟨rfl, hb1⟩
  have HB1 := Lib.hid hb1
  clear hb1 CI
  go_wp2_with fail
  go_ret
  exact ⟨rfl, HB1.out⟩
theorem set_mem {w : World} {M : Nat} {x0 x1 x2 x3 x4 x5 x6 x7 x8 y1 y2 y3 y4 y5 y6 y7 : Value} {t : TypeId} (h : w.heap[M]? = some (Obj.cells #[x0, x1, x2, x3, x4, x5, x6, x7, x8] t (0, 0))) :
    (w.setCells M 1 [y1, y2, y3, y4, y5, y6, y7]).heap[M]? = some (Obj.cells #[x0, y1, y2, y3, y4, y5, y6, y7, x8] t (0, 0)) ∧ (∀ k, k ≠ M → (w.setCells M 1 [y1, y2, y3, y4, y5, y6, y7]).heap[k]? = w.heap[k]?) := by
  simp only [World.setCells]
  constructor
  · have e1 := heap_setCell_same _ _ 1 _ _ y1 h
    have e2 := heap_setCell_same _ _ 2 _ _ y2 e1
    have e3 := heap_setCell_same _ _ 3 _ _ y3 e2
    have e4 := heap_setCell_same _ _ 4 _ _ y4 e3
    have e5 := heap_setCell_same _ _ 5 _ _ y5 e4
    have e6 := heap_setCell_same _ _ 6 _ _ y6 e5
    have e7 := heap_setCell_same _ _ 7 _ _ y7 e6
    exact e7
  · intro k hk
    rw [heap_setCell_other _ _ _ _ hk, heap_setCell_other _ _ _ _ hk, heap_setCell_other _ _ _ _ hk, heap_setCell_other _ _ _ _ hk, heap_setCell_other _ _ _ _ hk, heap_setCell_other _ _ _ _ hk, heap_setCell_other _ _ _ _ hk]
theorem there_of {w : World} {M o n : Nat} {cs : Array Value} {t : TypeId} (h : w.heap[M]? = some (Obj.cells cs t (0, 0))) (hn : o + n ≤ cs.size) : w.there M o n := fun j hj => by
  constructor
  · rw [Me.box_at (j := o + j) h (x := cs[o + j]'(by omega)) (by simp)]; rfl
  · unfold World.frozen?
    simp [h]
end Go.Proofs.YtjaojenalodolaaGreatDoor.Pj
/- jsonvalue's member on a canonical text. -/
namespace Go.Proofs.YtjaojenalodolaaGreatDoor.Pj
open Go Go.RowKit Go.Proofs.YtjaojenalodolaaGreatDoor Go.Proofs.YtjaojenalodolaaGreatDoor.Rw Go.Proofs.YtjaojenalodolaaGreatDoor.Vf Go.Proofs.YtjaojenalodolaaGreatDoor.Mw Go.Proofs.YtjaojenalodolaaGreatDoor.Me Go.Proofs.YtjaojenalodolaaGreatDoor.Pa
set_option linter.unusedVariables false
set_option maxRecDepth 100000
set_option maxHeartbeats 16000000
def VC (P : Nat) (s : ByteArray) (j : Jv.J) (a d : Nat) (u : World) : Prop :=
  Calls Tryz.prog 96 #[.pointer (some ⟨P, 0, none⟩)] u fun e w' => (∃ k b n t a1 n1 c1 a2 n2 c2 p, e = .returned (.agg #[.int .i64 k, .bool b, .int .i64 n, .string t, .slice a1 n1 c1, .slice a2 n2 c2, .int .i64 p]) ∧ Val u.heap.size w' j (vCells k b n t (.slice a1 n1 c1) (.slice a2 n2 c2) p)) ∧ Ps P s (a + (Jv.enc j).length) d w' ∧ Sd P u w'
def MVal (S : Nat) (w : World) (x : ByteArray × Jv.J) (c : List Value) : Prop := ∀ w', Agree S w w' none → JvP w' x c
theorem row_keep {α : Type} {El : World → α → List Value → Prop} {sz S : Nat} {t : TypeId} {u w : World} {v : Value} {l : List α} (h : Row El sz t S u v l) (hs : u.heap.size ≤ w.heap.size) (hk : ∀ k, S ≤ k → k < u.heap.size → w.heap[k]? = u.heap[k]?) : Row El sz t S w v l := by
  obtain ⟨L, h1, h2, h3⟩ := h
  refine ⟨L, h1, own_kept h2 fun g hg => hk g (own_lt h2 hg).1 (own_lt h2 hg).2, fun x hx => h3 x fun i h4 h5 h6 => ?_⟩
  exact (hx i h4 (Nat.lt_of_lt_of_le h5 hs) h6).trans (hk i h4 h5)
theorem row_sd {α : Type} {El : World → α → List Value → Prop} {sz S P : Nat} {t : TypeId} {u w : World} {v : Value} {l : List α} (h : Row El sz t S u v l) (hP : P < S) (k : Sd P u w) : Row El sz t S w v l := row_keep h k.size fun i h1 h2 => k.block i h2 (by omega)
theorem Sd.setNew {P M j : Nat} {u w : World} {x : Value} (h : Sd P u w) (hM : u.heap.size ≤ M) : Sd P u (w.setCell ⟨M, j, none⟩ x) :=
  ⟨h.os, h.tape, h.output, by rw [show (w.setCell ⟨M, j, none⟩ x).heap.size = w.heap.size from by simp [World.setCell]]; exact h.size, fun i hi hp => (heap_setCell_other _ _ _ _ (show i ≠ M by omega)).trans (h.block i hi hp)⟩
theorem Sd.setsNew {P M o : Nat} {u w : World} {cs : List Value} (h : Sd P u w) (hM : u.heap.size ≤ M) : Sd P u (w.setCells M o cs) := by
  obtain ⟨h1, h2, h3, h4, h5⟩ := setCells_frame M cs o w
  exact ⟨h1.trans h.os, h2.trans h.tape, h3.trans h.output, by rw [h4]; exact h.size, fun i hi hp => (h5 i (by omega)).trans (h.block i hi hp)⟩
theorem Sd.rowNew {P M : Nat} {u w : World} {cs : Array Value} (h : Sd P u w) (hM : u.heap.size ≤ M) : Sd P u (w.setRow M cs) :=
  ⟨h.os, h.tape, h.output, by rw [show (w.setRow M cs).heap.size = w.heap.size from by simp [World.setRow]]; exact h.size, fun i hi hp => (setRow_other w M i cs (by omega)).trans (h.block i hi hp)⟩
theorem Ps.setOther {P a d M j : Nat} {s : ByteArray} {w : World} {x : Value} (h : Ps P s a d w) (hM : P ≠ M) : Ps P s a d (w.setCell ⟨M, j, none⟩ x) := (heap_setCell_other _ _ _ _ hM).trans h
theorem Sd.heap {P : Nat} {u w : World} (h : Sd P u w) {k : Nat} {x : Obj} (hk : u.heap[k]? = some x) (hn : k ≠ P) : w.heap[k]? = some x := (h.block k (Rw.lt_of_heap hk) hn).trans hk
theorem member_is (P S a d : Nat) (s key : ByteArray) (j : Jv.J) (post : List UInt8) (v : Value) (l : List (ByteArray × Jv.J)) (W0 W : World) (h : Ps P s a d W) (hs : s.size ≤ 1000000000) (hP : P < S) (hT : Jw.JTabs W0) (hW : Below W0.heap.size W0 W) (hP0 : W0.heap.size ≤ P)
    (hv : Lib.validD key.data.toList = true) (hd : s.data.toList.drop a = Jv.encP (key, j) ++ post) (hR : MRow S W v l) (hk : ∀ x ∈ l, (x.1.toList == key.toList) = false) (hl : l.length ≤ 1000000)
    (cV : ∀ u ak, Ps P s ak d u → Sd P W u → s.data.toList.drop ak = Jv.enc j ++ post → VC P s j ak d u) :
    Calls Tryz.prog 145 #[.pointer (some ⟨P, 0, none⟩), v] W fun e w' => (∃ k b n t a1 n1 c1 a2 n2 c2 p q, e = .returned (.agg #[.string key, .int .i64 k, .bool b, .int .i64 n, .string t, .slice a1 n1 c1, .slice a2 n2 c2, .int .i64 p, .int .i64 q]) ∧ MVal W.heap.size w' (key, j) [.string key, .int .i64 k, .bool b, .int .i64 n, .string t, .slice a1 n1 c1, .slice a2 n2 c2, .int .i64 p, .int .i64 q]) ∧ Ps P s (a + (Jv.encP (key, j)).length) d w' ∧ Sd P W w' := by
  have heq : Jv.encP (key, j) = Js.quote key.data.toList ++ 58 :: Jv.enc j := by simp only [Jv.encP]
  rw [heq] at hd ⊢
  have hd1 : s.data.toList.drop a = 34 :: (Js.body key.data.toList ++ 34 :: (58 :: Jv.enc j ++ post)) := by rw [hd, Js.quote]; simp
  obtain ⟨ha, hc34⟩ := drop_at hd1
  have hd2 : s.data.toList.drop a = Js.quote key.data.toList ++ (58 :: (Jv.enc j ++ post)) := by rw [hd]; simp
  obtain ⟨qn, hqn⟩ : ∃ n, (Js.quote key.data.toList).length = n := ⟨_, rfl⟩
  have hd3 := drop_add hd2
  rw [hqn] at hd3
  obtain ⟨ha3, hc58⟩ := drop_at hd3
  have hd4 := drop_one hd3
  have hlen : (Js.quote key.data.toList ++ 58 :: Jv.enc j).length = qn + 1 + (Jv.enc j).length := by rw [List.length_append, List.length_cons, hqn]; omega
  rw [hlen]
  have hPL := h.lt
  obtain ⟨ad, cap, rfl⟩ := Row.slice hR
  have hbR := (Below.refl W.heap.size W).alloc (Nat.le_refl _) (.cells #[.string ⟨#[]⟩, .int .i64 0, .bool false, .int .i64 0, .string ⟨#[]⟩, .slice none 0 0, .slice none 0 0, .int .i64 0, .int .i64 0] 144)
  have hRb := heap_alloc_new W (.cells #[.string ⟨#[]⟩, .int .i64 0, .bool false, .int .i64 0, .string ⟨#[]⟩, .slice none 0 0, .slice none 0 0, .int .i64 0, .int .i64 0] 144)
  have CP := Lib.hid (peek_is P a d s 34 _ (h.below hbR) hs ha hc34 (by decide))
  change Hid (Calls _ _ _ _ (fun e w' => e = .returned (.int .u8 34) ∧ _)) at CP
  have HP0 := Lib.hid (h.below hbR)
  have HBR := Lib.hid hbR
  have HRB := Lib.hid hRb
  have HRO := Lib.hid hR
  have HN := Lib.hid (And.intro hs (And.intro hPL (And.intro hP hP0)))
  have HK := Lib.hid (And.intro hk hl)
  have HW := Lib.hid hW
  have CV := Lib.hid cV
  have CS := Lib.hid (fun u (hu : Ps P s a d u) (hb : Below W0.heap.size W0 u) => str_is P a d s key _ u hu hs (hT.below hb) hv hd2)
  rw [hqn] at CS
  obtain ⟨a1, ha1⟩ : ∃ n, a + qn = n := ⟨_, rfl⟩
  rw [ha1] at CS
  have CX := Lib.hid (fun u (hu : Ps P s (a + qn) d u) => expect_is P (a + qn) d s 58 u hu hs ha3 hc58 (by decide))
  change Hid (∀ u, Ps P s (a + qn) d u → Calls _ _ #[_, .int .u8 58] _ _) at CX
  rw [ha1] at CX
  rw [ha1] at hd4
  have HD4 := Lib.hid hd4
  obtain ⟨a2, ha2⟩ : ∃ n, a1 + 1 = n := ⟨_, rfl⟩
  have HA := Lib.hid (show a + (qn + 1 + (Jv.enc j).length) = a2 + (Jv.enc j).length by omega)
  rw [ha2] at CX HD4
  have hmf : ∀ (fn : Fn) (first cap : Array Value) (w : World), (Instr.makeFunc fn first cap).run Tryz.prog w = .ok (.func fn first cap) w := fun _ _ _ _ => rfl
  clear hd hd1 hd2 hd3 hd4 ha3 hc58 hv hk hl hqn hlen heq hR hbR hRb hT cV h ha hc34 hs hPL hP hP0 hW ha1 ha2
  go_enter Tryz.func145, Tryz.ntmps145
  go_wp2_with fail
  generalize W.alloc (.cells #[.string ⟨#[]⟩, .int .i64 0, .bool false, .int .i64 0, .string ⟨#[]⟩, .slice none 0 0, .slice none 0 0, .int .i64 0, .int .i64 0] 144) = w0 at CP HP0 HBR HRB ⊢
  obtain ⟨R, hR⟩ : ∃ n, W.heap.size = n := ⟨_, rfl⟩
  have HRE := Lib.hid hR
  rw [hR] at HRB ⊢
  clear hR
  refine CP.out.mono ?_
  rintro e w1 ⟨rfl, hb1⟩
  have HP1 := Lib.hid (HP0.out.below hb1)
  have HB1 := Lib.hid (below_seq HBR.out hb1)
  have HR1 := Lib.hid ((hb1.block _ (Rw.lt_of_heap HRB.out)).trans HRB.out)
  have x1 := HP1.out.c1
  clear hb1 CP HP0 HBR HRB
  go_wp2_with fail
  have hbM := (Below.refl w1.heap.size w1).alloc (Nat.le_refl _) (.cells #[.string ⟨#[]⟩, .int .i64 0, .bool false, .int .i64 0, .string ⟨#[]⟩, .slice none 0 0, .slice none 0 0, .int .i64 0, .int .i64 a] 144)
  have hMb := heap_alloc_new w1 (.cells #[.string ⟨#[]⟩, .int .i64 0, .bool false, .int .i64 0, .string ⟨#[]⟩, .slice none 0 0, .slice none 0 0, .int .i64 0, .int .i64 a] 144)
  have HP2 := Lib.hid (HP1.out.below hbM)
  have HB2 := Lib.hid (below_seq HB1.out hbM)
  have HR2 := Lib.hid ((hbM.block _ (Rw.lt_of_heap HR1.out)).trans HR1.out)
  have HMR := Lib.hid (show R < w1.heap.size from Rw.lt_of_heap HR1.out)
  have HMB := Lib.hid hMb
  clear x1 hbM hMb HR1 HP1
  generalize hMe : w1.heap.size = M at HMB HMR ⊢
  generalize w1.alloc (.cells #[.string ⟨#[]⟩, .int .i64 0, .bool false, .int .i64 0, .string ⟨#[]⟩, .slice none 0 0, .slice none 0 0, .int .i64 0, .int .i64 a] 144) = w2 at HP2 HB2 HR2 HMB ⊢
  have HWM := Lib.hid (show W.heap.size ≤ M by rw [← hMe]; exact HB1.out.size)
  clear hMe HB1
  refine (CS.out w2 HP2.out (HW.out.trans (HB2.out.mono HW.out.size))).mono ?_
  rintro e w3 ⟨rfl, hp3, hs3⟩
  have HNP := Lib.hid (show M ≠ P ∧ R ≠ P from ⟨by have := HN.out.2.1; have := HWM.out; omega, by have := HN.out.2.1; have := HRE.out; omega⟩)
  have hm3 := hs3.heap HMB.out HNP.out.1
  have m0 := Me.box_at (j := 0) hm3 rfl
  have mf := frozen_of_row w3 M 0 _ _ hm3
  have HM3 := Lib.hid hm3
  have HR3 := Lib.hid (hs3.heap HR2.out HNP.out.2)
  have HP3 := Lib.hid hp3
  have HS3 := Lib.hid ((Sd.of_below (P := P) HB2.out).trans hs3)
  clear hm3 hp3 hs3 CS HP2 HB2 HR2 HMB
  go_wp2_with fail
  have hm4 := heap_setCell_same w3 M 0 _ _ (.string key) HM3.out
  have HM4 : Hid ((w3.setCell ⟨M, 0, none⟩ (.string key)).heap[M]? = some (Obj.cells #[.string key, .int .i64 0, .bool false, .int .i64 0, .string ⟨#[]⟩, .slice none 0 0, .slice none 0 0, .int .i64 0, .int .i64 a] 144 (0, 0))) := Lib.hid hm4
  have HP4 := Lib.hid (HP3.out.setOther (j := 0) (x := .string key) HNP.out.1.symm)
  have HS4 := Lib.hid (HS3.out.setNew (j := 0) (x := .string key) HWM.out)
  have HR4 := Lib.hid ((heap_setCell_other w3 ⟨M, 0, none⟩ R (.string key) (show R ≠ M by have := HMR.out; omega)).trans HR3.out)
  clear hm4 m0 mf HM3 HP3 HS3 HR3
  generalize w3.setCell ⟨M, 0, none⟩ (.string key) = w4 at HM4 HP4 HS4 HR4 ⊢
  have hrow : MRow S w4 (.slice ad l.length cap) l := row_sd HRO.out HN.out.2.2.1 HS4.out
  obtain ⟨L0, hR0, hn0, hF0, hA0⟩ := Row.rw hrow
  have CC := Lib.hid (contf_is _ l L0 M key w4 hR0 hA0 (Me.box_at (j := 0) HM4.out rfl) HK.out.1 HK.out.2)
  clear hrow hR0 hn0 hF0 hA0 HRO HK
  generalize l.length = ll at CC ⊢
  refine CC.out.mono ?_
  rintro e w5 ⟨rfl, hb5⟩
  have HP5 := Lib.hid (HP4.out.below hb5)
  have HM5 := Lib.hid ((hb5.block _ (Rw.lt_of_heap HM4.out)).trans HM4.out)
  have HR5 := Lib.hid ((hb5.block _ (Rw.lt_of_heap HR4.out)).trans HR4.out)
  have HS5 := Lib.hid (HS4.out.below hb5)
  clear hb5 CC HP4 HM4 HR4 HS4
  go_wp2_with fail
  refine (CX.out w5 HP5.out).mono ?_
  rintro e w6 ⟨rfl, hp6, hs6⟩
  have HM6 := Lib.hid (hs6.heap HM5.out HNP.out.1)
  have HR6 := Lib.hid (hs6.heap HR5.out HNP.out.2)
  have HS6 := Lib.hid (HS5.out.trans hs6)
  have CC := Lib.hid (CV.out w6 a2 (by have := HA.out; exact hp6) (HS5.out.trans hs6) HD4.out)
  clear hp6 hs6 CX CV HP5 HM5 HR5 HS5
  unfold VC at CC
  go_wp2_with fail
  refine CC.out.mono ?_
  rintro e w7 ⟨⟨vk, vb, vn, vt, va1, vn1, vc1, va2, vn2, vc2, vp, rfl, hv7⟩, hp7, hs7⟩
  have HM7 := Lib.hid (hs7.heap HM6.out HNP.out.1)
  have HR7 := Lib.hid (hs7.heap HR6.out HNP.out.2)
  have HS7 := Lib.hid (HS6.out.trans hs7)
  have HV7 := Lib.hid hv7
  have HP7 := Lib.hid hp7
  have HL7 := Lib.hid (show M < w6.heap.size ∧ R < w6.heap.size ∧ w6.heap.size ≤ w7.heap.size from ⟨Rw.lt_of_heap HM6.out, Rw.lt_of_heap HR6.out, hs7.size⟩)
  clear hp7 hs7 hv7 CC HM6 HR6 HS6
  have HTH : Hid (w7.there M 1 7) := Lib.hid (there_of HM7.out (by simp))
  go_wp2_with (first | (refine wpList_store_mid rfl 82 _ _ rfl M 1 #[.int .i64 vk, .bool vb, .int .i64 vn, .string vt, .slice va1 vn1 vc1, .slice va2 vn2 vc2, .int .i64 vp] rfl rfl HTH.out (by kernel_rfl) (by simp [Value.oneCell']) ?_; obtain ⟨hm8, ho8⟩ := set_mem (y1 := .int .i64 vk) (y2 := .bool vb) (y3 := .int .i64 vn) (y4 := .string vt) (y5 := .slice va1 vn1 vc1) (y6 := .slice va2 vn2 vc2) (y7 := .int .i64 vp) HM7.out; have HS8 := Lib.hid (HS7.out.setsNew (o := 1) (cs := [.int .i64 vk, .bool vb, .int .i64 vn, .string vt, .slice va1 vn1 vc1, .slice va2 vn2 vc2, .int .i64 vp]) HWM.out); have HR8 := Lib.hid ((ho8 R (show R ≠ M by have := HMR.out; omega)).trans HR7.out); have HP8 := Lib.hid (show Ps P s (a2 + (Jv.enc j).length) d _ from (ho8 P HNP.out.1.symm).trans HP7.out); have HO8 := Lib.hid ho8; have y0 := Me.box_at (j := 0) hm8 rfl; have y1 := Me.box_at (j := 1) hm8 rfl; have y2 := Me.box_at (j := 2) hm8 rfl; have y3 := Me.box_at (j := 3) hm8 rfl; have y4 := Me.box_at (j := 4) hm8 rfl; have y5 := Me.box_at (j := 5) hm8 rfl; have y6 := Me.box_at (j := 6) hm8 rfl; have y7 := Me.box_at (j := 7) hm8 rfl; have y8 := Me.box_at (j := 8) hm8 rfl; clear hm8 ho8 HM7 HR7 HS7 HP7; change wpList _ _ _ _ _ (w7.setCells M 1 [.int .i64 vk, .bool vb, .int .i64 vn, .string vt, .slice va1 vn1 vc1, .slice va2 vn2 vc2, .int .i64 vp]); generalize w7.setCells M 1 [.int .i64 vk, .bool vb, .int .i64 vn, .string vt, .slice va1 vn1 vc1, .slice va2 vn2 vc2, .int .i64 vp] = w8 at HS8 HR8 HP8 HO8 y0 y1 y2 y3 y4 y5 y6 y7 y8 ⊢) | (refine wpList_store_row rfl 144 _ _ rfl R #[.string key, .int .i64 vk, .bool vb, .int .i64 vn, .string vt, .slice va1 vn1 vc1, .slice va2 vn2 vc2, .int .i64 vp, .int .i64 a] rfl rfl 144 _ HR8.out (by kernel_rfl) rfl (by simp [Value.oneCell']) ?_))
  go_wp2_with fail
  have hz2 := setRow_heap w8 R _ #[.string key, .int .i64 vk, .bool vb, .int .i64 vn, .string vt, .slice va1 vn1 vc1, .slice va2 vn2 vc2, .int .i64 vp, .int .i64 a] _ _ HR8.out
  refine bodyPost_ret (results_cell_row rfl _ _ R _ _ _ _ rfl hz2 Tryz.underlying144 rfl (by kernel_rfl)) rfl ?_
  refine ⟨⟨vk, vb, vn, vt, va1, vn1, vc1, va2, vn2, vc2, vp, a, rfl, fun w' hw' => ?_⟩, ?_, HS8.out.rowNew (by rw [HRE.out]; exact Nat.le_refl _)⟩
  · unfold JvP
    refine ⟨vCells vk vb vn vt (.slice va1 vn1 vc1) (.slice va2 vn2 vc2) vp, a, rfl, HV7.out w' fun k h1 h2 _ => ?_⟩
    have e1 := hw' k (by have := HS8.out.size; have := HL7.out; have := HRE.out; omega) (by
      have h3 : (w8.setRow R #[.string key, .int .i64 vk, .bool vb, .int .i64 vn, .string vt, .slice va1 vn1 vc1, .slice va2 vn2 vc2, .int .i64 vp, .int .i64 a]).heap.size = w8.heap.size := by simp [World.setRow]
      rw [h3]
      rcases Nat.lt_or_ge k w8.heap.size with g | g
      · exact g
      · have e2 := HO8.out k (by have := HL7.out; omega)
        rw [Array.getElem?_eq_none g, Array.getElem?_eq_getElem h2] at e2
        cases e2) (by simp)
    rw [e1, setRow_other w8 R k _ (by have := HL7.out; omega), HO8.out k (by have := HL7.out; omega)]
  · rw [HA.out]
    exact (setRow_other w8 R P _ HNP.out.2.symm).trans HP8.out
end Go.Proofs.YtjaojenalodolaaGreatDoor.Pj
/- An own row that grows by a zero element, which is then set: plain facts, whatever the order of the call that makes the element. -/
namespace Go.Proofs.YtjaojenalodolaaGreatDoor.Pj
open Go Go.RowKit Go.Proofs.YtjaojenalodolaaGreatDoor Go.Proofs.YtjaojenalodolaaGreatDoor.Rw Go.Proofs.YtjaojenalodolaaGreatDoor.Vf Go.Proofs.YtjaojenalodolaaGreatDoor.Mw Go.Proofs.YtjaojenalodolaaGreatDoor.Me Go.Proofs.YtjaojenalodolaaGreatDoor.Pa
set_option linter.unusedVariables false
section
variable {α : Type} {El : World → α → List Value → Prop} {sz S P k : Nat} {t : TypeId} {L : List (List Value)} {l0 : List α} {el : α} {cs zs : List Value}
structure F6 (El : World → α → List Value → Prop) (sz : Nat) (t : TypeId) (S k : Nat) (L : List (List Value)) (l0 : List α) (el : α) (cs zs : List Value) (w : World) (g c : Nat) : Prop where
  own : w.ownsRow S t sz (.slice (some ⟨g, 0, none⟩) (k + 1) c) (k + 1) (L.flatten ++ zs)
  all : ∀ w', Agree S w w' (some g) → All El w' l0 L
  new : ∀ w', Agree S w w' (some g) → El w' el cs
theorem app_form {w : World} {v : Value} {xs : List Value} (h : w.ownsRow S t sz v (k + 1) xs) : ∃ g c, v = .slice (some ⟨g, 0, none⟩) (k + 1) c ∧ S ≤ g ∧ g < w.heap.size := by
  rcases h.2 with ⟨-, h0⟩ | ⟨g, cap, cur, rfl, hb, hg, -⟩
  · omega
  · exact ⟨g, cap, rfl, hb, Rw.lt_of_heap hg⟩
theorem fin_app {u w5 wx w6 : World} {v v6 : Value} (hP : P < S) (ho : u.ownsRow S t sz v k L.flatten) (hE : ∀ w', Agree S u w' v.ownBlock → All El w' l0 L) (hs5 : Sd P u w5) (hSu : S ≤ u.heap.size) (hbx : Below w5.heap.size w5 wx)
    (hV : ∀ w', Agree u.heap.size w5 w' none → El w' el cs) (hown : w6.ownsRow S t sz v6 (k + 1) (L.flatten ++ zs)) (hg : wx.grownBy w6 v.ownBlock) (hv : v6.ownBlock = v.ownBlock ∨ v6.ownBlock = some wx.heap.size) :
    ∃ g c, v6 = .slice (some ⟨g, 0, none⟩) (k + 1) c ∧ F6 El sz t S k L l0 el cs zs w6 g c ∧ Below S w5 w6 := by
  obtain ⟨g, c, rfl, hgS, hgw⟩ := app_form hown
  have hgo : v.ownBlock = some g ∨ g = wx.heap.size := by
    rcases hv with e | e
    · exact .inl (e ▸ rfl)
    · injection e with e; exact .inr e
  have hold : ∀ q, v.ownBlock = some q → S ≤ q ∧ q < u.heap.size := fun q e => own_lt ho e
  refine ⟨g, c, rfl, ⟨hown, fun w' hw => hE w' fun i h1 h2 h3 => ?_, fun w' hw => hV w' fun i h1 h2 h3 => ?_⟩, ?_⟩
  · have hig : some i ≠ some g := by
      rcases hgo with e | e
      · rw [← e]; exact h3
      · intro e2; injection e2 with e2; have := hbx.size; have := hs5.size; omega
    have i5 : i < w5.heap.size := Nat.lt_of_lt_of_le h2 hs5.size
    have ix : i < wx.heap.size := Nat.lt_of_lt_of_le i5 hbx.size
    rw [hw i h1 (Nat.lt_of_lt_of_le ix hg.size) hig, hg.block i ix h3, hbx.block i i5, hs5.block i h2 (by omega)]
  · have hio : some i ≠ v.ownBlock := fun e => by have := (hold i e.symm).2; omega
    have hig : some i ≠ some g := by
      rcases hgo with e | e
      · rw [← e]; exact hio
      · intro e2; injection e2 with e2; have := hbx.size; omega
    have ix : i < wx.heap.size := Nat.lt_of_lt_of_le h2 hbx.size
    rw [hw i (by omega) (Nat.lt_of_lt_of_le ix hg.size) hig, hg.block i ix hio, hbx.block i h2]
  · have h5 : S ≤ w5.heap.size := Nat.le_trans hSu hs5.size
    exact ⟨hg.os.trans hbx.os, hg.tape.trans hbx.tape, hg.output.trans hbx.output, Nat.le_trans hbx.size hg.size, fun i hi => (hg.block i (by have := hbx.size; omega) (fun e => by have := (hold i e.symm).1; omega)).trans (hbx.block i (by omega))⟩
theorem F6.set {w : World} {g c : Nat} (h : F6 El sz t S k L l0 el cs zs w g c) (hL : Flat sz L) (hn : l0.length = k) (hl : L.length = k) (hz : zs.length = sz) (hc : cs.length = sz) (h1 : ∀ x ∈ cs, x.oneCell' = true) :
    Row El sz t S (w.setCells g (k * sz) cs) (.slice (some ⟨g, 0, none⟩) (k + 1) c) (l0 ++ [el]) := by
  have hfl : L.flatten.length = k * sz := by rw [flat_len hL.1, hl]
  have h2 := own_sets cs (k * sz) w _ h.own
  rw [← hfl, sets_append cs L.flatten zs (by rw [hz, hc]), hfl] at h2
  refine ⟨L ++ [cs], hL.append (Flat.one hc h1), ?_, fun w' hw => ?_⟩
  · rw [List.flatten_append, List.length_append, hn]
    simpa using h2
  · obtain ⟨f1, f2, f3, f4, f5⟩ := setCells_frame g cs (k * sz) w
    have ha : Agree S w w' (some g) := fun i h3 h4 h5 => (hw i h3 (by rw [f4]; exact h4) h5).trans (f5 i (fun e => h5 (by rw [e])))
    exact (h.all w' ha).append (All.one (h.new w' ha))
end
end Go.Proofs.YtjaojenalodolaaGreatDoor.Pj
/- jsonvalue's elements on a canonical text, over each of value's closures. Printed by genpj5.py. -/
namespace Go.Proofs.YtjaojenalodolaaGreatDoor.Pj
open Go Go.RowKit Go.Proofs.YtjaojenalodolaaGreatDoor Go.Proofs.YtjaojenalodolaaGreatDoor.Rw Go.Proofs.YtjaojenalodolaaGreatDoor.Mw Go.Proofs.YtjaojenalodolaaGreatDoor.Me Go.Proofs.YtjaojenalodolaaGreatDoor.Pa
set_option linter.unusedVariables false
set_option maxRecDepth 100000
set_option maxHeartbeats 16000000
def atOf (P : Nat) (w : World) : Nat := match w.cell? ⟨P, 1, none⟩ with
  | some (.int _ n) => n.toNat
  | _ => 0
theorem Ps.at' {P a d : Nat} {s : ByteArray} {w : World} (h : Ps P s a d w) : atOf P w = a := by
  unfold atOf
  rw [h.c1]
  simp
theorem joinC_drop {L : List (List UInt8)} {k : Nat} (hk : k < L.length) : Jv.joinC (L.drop k) = L[k] ++ (if L.drop (k + 1) = [] then [] else 44 :: Jv.joinC (L.drop (k + 1))) := by
  rw [List.drop_eq_getElem_cons hk, joinC_cons]
theorem drop_ne {S l : List UInt8} {k : Nat} (h : S.drop k = l) (hl : l ≠ []) : k < S.length := by
  cases l with
  | nil => exact absurd rfl hl
  | cons c r => exact drop_lt h
theorem elems_v (L : List (List UInt8)) (x1 x2 : Value) (ce : UInt8) (hce : Txt.spB (ce.toNat : Int) = false) (h44 : ce ≠ 44) (P a d : Nat) (s : ByteArray) (post : List UInt8) (W : World) (Inv : Nat → World → Prop)
    (h : Ps P s a d W) (hs : s.size ≤ 1000000000) (hd : d + 1 ≤ 100) (ht : s.data.toList.drop (a + 1) = Jv.joinC L ++ ce :: post)
    (hb : ∀ t ∈ L, ∃ c r, t = c :: r ∧ Txt.spB (c.toNat : Int) = false ∧ c ≠ ce) (h0 : Inv 0 W) (hI : ∀ k u w, Inv k u → Sd P u w → Inv k w)
    (hc : ∀ k (hk : k < L.length) u ak rest, Ps P s ak (d + 1) u → Inv k u → s.data.toList.drop ak = L[k] ++ rest → (rest.head? = some 44 ∨ rest.head? = some ce) →
      Calls Tryz.prog 143 #[x1, x2] u fun e w' => e = .returned (.tuple #[]) ∧ Inv (k + 1) w' ∧ Ps P s (ak + L[k].length) (d + 1) w') :
    Calls Tryz.prog 142 #[.pointer (some ⟨P, 0, none⟩), .int .u8 ce.toNat, .func (.func 143) #[] #[x1, x2]] W fun e w' => e = .returned (.tuple #[]) ∧ Inv L.length w' ∧ Ps P s (a + 1 + (Jv.joinC L).length + 1) d w' := by
  obtain ⟨d1, hd1⟩ : ∃ n, d + 1 = n := ⟨_, rfl⟩
  obtain ⟨a1, ha1⟩ : ∃ n, a + 1 = n := ⟨_, rfl⟩
  rw [ha1] at ht ⊢
  rw [hd1] at hd hc
  have hal : a1 < s.size := by
    have := congrArg List.length ht
    simp at this
    omega
  have i1 : IntKind.i64.wrap ((d : Int) + 1) = (d1 : Int) := by rw [IntWalk.i64_in _ (by omega)]; omega
  have i2 : decide ((100 : Int) < (d1 : Int)) = false := decide_eq_false (by omega)
  have i3 : IntKind.i64.wrap ((a : Int) + 1) = (a1 : Int) := by rw [IntWalk.i64_in _ (by omega)]; omega
  have i4 : IntKind.i64.wrap ((d1 : Int) - 1) = (d : Int) := by rw [IntWalk.i64_in _ (by omega)]; omega
  have x0 := h.c0
  have x1' := h.c1
  have x2' := h.c2
  have z1 := h.f1
  have z2 := h.f2
  have HP2 := Lib.hid ((h.set2 d1).set1 a1)
  have HI2 := Lib.hid (hI 0 _ _ h0 (((Sd.refl P W).set 2 (.int .i64 d1)).set 1 (.int .i64 a1)))
  have HT := Lib.hid ht
  have HB := Lib.hid hb
  have HI := Lib.hid hI
  have HC := Lib.hid hc
  have HE := Lib.hid (And.intro hce h44)
  obtain ⟨jn, hjn⟩ : ∃ n, (Jv.joinC L).length = n := ⟨_, rfl⟩
  have HJN := Lib.hid hjn
  have HAL := Lib.hid hal
  have HDD := Lib.hid (And.intro hd1 ha1)
  rw [hjn]
  obtain ⟨cn, hcn⟩ : ∃ n, ce.toNat = n := ⟨_, rfl⟩
  have HCN := Lib.hid hcn
  rw [hcn]
  by_cases hL : L = []
  · subst hL
    have hq : s.data.toList.drop a1 = ce :: post := by simpa [Jv.joinC] using ht
    obtain ⟨hq1, hq2⟩ := drop_at hq
    obtain rfl : jn = 0 := by simpa [Jv.joinC] using hjn.symm
    obtain ⟨a2, ha2⟩ : ∃ n, a1 + 1 = n := ⟨_, rfl⟩
    have i5 : IntKind.i64.wrap ((a1 : Int) + 1) = (a2 : Int) := by rw [IntWalk.i64_in _ (by omega)]; omega
    have CP := Lib.hid (peek_is P a1 d1 s ce _ HP2.out hs hq1 hq2 hce)
    rw [hcn] at CP
    have HA2 := Lib.hid ha2
    clear h hd1 ha1 ht hal hb h0 hI hc hce h44 hjn hq hq1 hq2 ha2 hcn
    go_enter Tryz.func142, Tryz.ntmps142
    go_wp2_with fail
    generalize (W.setCell ⟨P, 2, none⟩ (.int .i64 d1)).setCell ⟨P, 1, none⟩ (.int .i64 a1) = w0 at CP HP2 HI2 ⊢
    refine CP.out.mono ?_
    rintro e w1 ⟨rfl, hb1⟩
    have HP3 := Lib.hid (HP2.out.below hb1)
    have HI3 := Lib.hid (HI.out 0 _ _ HI2.out (Sd.of_below hb1))
    have y1 := HP3.out.c1
    have y2 := HP3.out.c2
    have v1 := HP3.out.f1
    have v2 := HP3.out.f2
    clear hb1 CP HP2 HI2
    go_wp2_with fail
    refine bodyPost_ret (results_none rfl _ _ _) rfl ?_
    exact ⟨rfl, HI.out 0 _ _ HI3.out (((Sd.refl P w1).set 1 (.int .i64 a2)).set 2 (.int .i64 d)), by have := (HP3.out.set1 a2).set2 d; rw [← HA2.out] at this ⊢; exact this⟩
  · have hL0 : 0 < L.length := List.length_pos_iff.2 hL
    obtain ⟨c0, r0, ht0, hs0, hn0⟩ := hb L[0] (List.getElem_mem hL0)
    have hq : s.data.toList.drop a1 = c0 :: (r0 ++ ((if L.drop 1 = [] then [] else 44 :: Jv.joinC (L.drop 1)) ++ ce :: post)) := by
      have e := joinC_drop hL0
      rw [List.drop_zero] at e
      rw [ht, e, ht0]
      simp
    obtain ⟨hq1, hq2⟩ := drop_at hq
    have CP := Lib.hid (peek_is P a1 d1 s c0 _ HP2.out hs hq1 hq2 hs0)
    have hne : ((c0.toNat : Int) == (cn : Int)) = false := by
      rw [beq_eq_false_iff_ne]
      intro e
      exact hn0 (UInt8.toNat_inj.1 (by omega))
    obtain ⟨c0n, hc0n⟩ : ∃ n, c0.toNat = n := ⟨_, rfl⟩
    rw [hc0n] at CP hne
    have HSZ := Lib.hid hs
    clear h hd1 ha1 ht hal hb h0 hI hc hce h44 hjn hq hq1 hq2 hs0 hn0 ht0 hc0n hcn hL hs
    have HL0 := Lib.hid hL0
    clear hL0
    go_enter Tryz.func142, Tryz.ntmps142
    go_wp2_with fail
    generalize (W.setCell ⟨P, 2, none⟩ (.int .i64 d1)).setCell ⟨P, 1, none⟩ (.int .i64 a1) = w0 at CP HP2 HI2 ⊢
    refine CP.out.mono ?_
    rintro e w1 ⟨rfl, hb1⟩
    have HP3 := Lib.hid (HP2.out.below hb1)
    have HI3 := Lib.hid (HI.out 0 _ _ HI2.out (Sd.of_below hb1))
    clear hb1 CP HP2 HI2
    go_wp2_with fail
    go_loopw [] (fun wr => Hid (∃ k ak, k < L.length ∧ Ps P s ak d1 wr ∧ Inv k wr ∧ s.data.toList.drop ak = Jv.joinC (L.drop k) ++ ce :: post ∧ ak + (Jv.joinC (L.drop k)).length = a1 + jn)) (fun wr => s.size - atOf P wr)
    case atStart => exact Lib.hid ⟨0, a1, HL0.out, HP3.out, HI3.out, by rw [List.drop_zero]; exact HT.out, by rw [List.drop_zero, HJN.out]⟩
    case round =>
      have hst := hrel
      clear hrel
      obtain ⟨k, ak, hk, hps, hiv, htx, hle⟩ := hst.out
      have HPR := Lib.hid hps
      have hlt := drop_ne htx (by simp)
      have hlt2 : ak < s.size := by simpa using hlt
      have hlk : 0 < L[k].length := by
        obtain ⟨c, r, ht0, -, -⟩ := HB.out L[k] (List.getElem_mem hk)
        rw [ht0]; simp
      have hjd := joinC_drop hk
      by_cases hlast : L.drop (k + 1) = []
      · rw [if_pos hlast, List.append_nil] at hjd
        have hkl : k + 1 = L.length := by
          have := List.drop_eq_nil_iff.1 hlast
          omega
        rw [hjd] at htx hle
        have CC := Lib.hid (HC.out k hk _ ak (ce :: post) hps hiv htx (.inr rfl))
        have hq := drop_add htx
        obtain ⟨a2, ha2⟩ : ∃ n, ak + L[k].length = n := ⟨_, rfl⟩
        rw [ha2] at CC hq hle
        obtain ⟨hq1, hq2⟩ := drop_at hq
        obtain ⟨a3, ha3⟩ : ∃ n, a2 + 1 = n := ⟨_, rfl⟩
        have i5 : IntKind.i64.wrap ((a2 : Int) + 1) = (a3 : Int) := by rw [IntWalk.i64_in _ (by have := HSZ.out; omega)]; omega
        have HQ := Lib.hid (fun u (hu : Ps P s a2 d1 u) => peek_is P a2 d1 s ce u hu HSZ.out hq1 hq2 HE.out.1)
        rw [HCN.out] at HQ
        have HKL := Lib.hid (And.intro hkl (show a3 = a1 + jn + 1 by omega))
        clear hst hk hps hiv htx hle hlt hlt2 hlk hjd hlast hkl hq hq1 hq2 ha2 ha3
        go_wp2_with fail
        refine CC.out.mono ?_
        rintro e w2 ⟨rfl, h2, h3⟩
        have HI4 := Lib.hid h2
        have HP4 := Lib.hid h3
        have CP := Lib.hid (HQ.out w2 h3)
        clear h2 h3 CC HQ
        go_wp2_with fail
        refine CP.out.mono ?_
        rintro e w4 ⟨rfl, hb4⟩
        have HP5 := Lib.hid (HP4.out.below hb4)
        have HI5 := Lib.hid (HI.out _ _ _ HI4.out (Sd.of_below hb4))
        have y1 := HP5.out.c1
        have y2 := HP5.out.c2
        have v1 := HP5.out.f1
        have v2 := HP5.out.f2
        clear hb4 CP
        go_wp2_with fail
        go_end0
        exact ⟨rfl, by have := HI.out _ _ _ HI5.out (((Sd.refl P w4).set 1 (.int .i64 a3)).set 2 (.int .i64 d)); rw [HKL.out.1] at this; exact this, by have := (HP5.out.set1 a3).set2 d; rw [HKL.out.2] at this ⊢; exact this⟩
      · rw [if_neg hlast] at hjd
        have hkl : k + 1 < L.length := by
          rcases Nat.lt_or_ge (k + 1) L.length with g | g
          · exact g
          · exact absurd (List.drop_eq_nil_iff.2 g) hlast
        rw [hjd] at htx hle
        have htx2 : s.data.toList.drop ak = L[k] ++ (44 :: (Jv.joinC (L.drop (k + 1)) ++ ce :: post)) := by rw [htx]; simp
        have CC := Lib.hid (HC.out k hk _ ak _ hps hiv htx2 (.inl rfl))
        have hq := drop_add htx2
        obtain ⟨a2, ha2⟩ : ∃ n, ak + L[k].length = n := ⟨_, rfl⟩
        rw [ha2] at CC hq
        obtain ⟨hq1, hq2⟩ := drop_at hq
        have hq3 := drop_one hq
        have HQ := Lib.hid (fun u (hu : Ps P s a2 d1 u) => peek_is P a2 d1 s 44 u hu HSZ.out hq1 hq2 (by decide))
        change Hid (∀ u, Ps P s a2 d1 u → Calls _ _ _ _ (fun e w' => e = .returned (.int .u8 44) ∧ _)) at HQ
        have HX := Lib.hid (fun u (hu : Ps P s a2 d1 u) => expect_is P a2 d1 s 44 u hu HSZ.out hq1 hq2 (by decide))
        change Hid (∀ u, Ps P s a2 d1 u → Calls _ _ #[_, .int .u8 44] _ _) at HX
        have i6 : ((44 : Int) == (cn : Int)) = false := by
          rw [beq_eq_false_iff_ne]
          intro e
          refine HE.out.2 (UInt8.toNat_inj.1 ?_)
          rw [HCN.out]
          show cn = 44
          omega
        have HKL := Lib.hid (And.intro hkl (And.intro hq3 (show a2 + 1 + (Jv.joinC (L.drop (k + 1))).length = a1 + jn by rw [← hle, ← ha2]; simp; omega)))
        have HAK := Lib.hid (show ak < s.size ∧ ak < a2 from ⟨hlt2, by omega⟩)
        clear hst hk hps hiv htx htx2 hle hlt hlt2 hlk hjd hlast hkl hq hq1 hq2 hq3 ha2
        go_wp2_with fail
        refine CC.out.mono ?_
        rintro e w2 ⟨rfl, h2, h3⟩
        have HI4 := Lib.hid h2
        have HP4 := Lib.hid h3
        have CP := Lib.hid (HQ.out w2 h3)
        clear h2 h3 CC HQ
        go_wp2_with fail
        refine CP.out.mono ?_
        rintro e w4 ⟨rfl, hb4⟩
        have HI5 := Lib.hid (HI.out _ _ _ HI4.out (Sd.of_below hb4))
        have CX := Lib.hid (HX.out w4 (HP4.out.below hb4))
        clear hb4 CP HX HP4
        go_wp2_with fail
        refine CX.out.mono ?_
        rintro e w5 ⟨rfl, h5, h6⟩
        have HP6 := Lib.hid h5
        have HI6 := Lib.hid (HI.out _ _ _ HI5.out h6)
        clear h5 h6 CX
        go_wp2_with fail
        go_roundw
        case rel => exact Lib.hid ⟨k + 1, a2 + 1, HKL.out.1, HP6.out, HI6.out, HKL.out.2.1, HKL.out.2.2⟩
        case measure =>
          rw [HP6.out.at', HPR.out.at']
          have := HAK.out
          omega
theorem elems_m (L : List (List UInt8)) (x1 x2 : Value) (ce : UInt8) (hce : Txt.spB (ce.toNat : Int) = false) (h44 : ce ≠ 44) (P a d : Nat) (s : ByteArray) (post : List UInt8) (W : World) (Inv : Nat → World → Prop)
    (h : Ps P s a d W) (hs : s.size ≤ 1000000000) (hd : d + 1 ≤ 100) (ht : s.data.toList.drop (a + 1) = Jv.joinC L ++ ce :: post)
    (hb : ∀ t ∈ L, ∃ c r, t = c :: r ∧ Txt.spB (c.toNat : Int) = false ∧ c ≠ ce) (h0 : Inv 0 W) (hI : ∀ k u w, Inv k u → Sd P u w → Inv k w)
    (hc : ∀ k (hk : k < L.length) u ak rest, Ps P s ak (d + 1) u → Inv k u → s.data.toList.drop ak = L[k] ++ rest → (rest.head? = some 44 ∨ rest.head? = some ce) →
      Calls Tryz.prog 144 #[x1, x2] u fun e w' => e = .returned (.tuple #[]) ∧ Inv (k + 1) w' ∧ Ps P s (ak + L[k].length) (d + 1) w') :
    Calls Tryz.prog 142 #[.pointer (some ⟨P, 0, none⟩), .int .u8 ce.toNat, .func (.func 144) #[] #[x1, x2]] W fun e w' => e = .returned (.tuple #[]) ∧ Inv L.length w' ∧ Ps P s (a + 1 + (Jv.joinC L).length + 1) d w' := by
  obtain ⟨d1, hd1⟩ : ∃ n, d + 1 = n := ⟨_, rfl⟩
  obtain ⟨a1, ha1⟩ : ∃ n, a + 1 = n := ⟨_, rfl⟩
  rw [ha1] at ht ⊢
  rw [hd1] at hd hc
  have hal : a1 < s.size := by
    have := congrArg List.length ht
    simp at this
    omega
  have i1 : IntKind.i64.wrap ((d : Int) + 1) = (d1 : Int) := by rw [IntWalk.i64_in _ (by omega)]; omega
  have i2 : decide ((100 : Int) < (d1 : Int)) = false := decide_eq_false (by omega)
  have i3 : IntKind.i64.wrap ((a : Int) + 1) = (a1 : Int) := by rw [IntWalk.i64_in _ (by omega)]; omega
  have i4 : IntKind.i64.wrap ((d1 : Int) - 1) = (d : Int) := by rw [IntWalk.i64_in _ (by omega)]; omega
  have x0 := h.c0
  have x1' := h.c1
  have x2' := h.c2
  have z1 := h.f1
  have z2 := h.f2
  have HP2 := Lib.hid ((h.set2 d1).set1 a1)
  have HI2 := Lib.hid (hI 0 _ _ h0 (((Sd.refl P W).set 2 (.int .i64 d1)).set 1 (.int .i64 a1)))
  have HT := Lib.hid ht
  have HB := Lib.hid hb
  have HI := Lib.hid hI
  have HC := Lib.hid hc
  have HE := Lib.hid (And.intro hce h44)
  obtain ⟨jn, hjn⟩ : ∃ n, (Jv.joinC L).length = n := ⟨_, rfl⟩
  have HJN := Lib.hid hjn
  have HAL := Lib.hid hal
  have HDD := Lib.hid (And.intro hd1 ha1)
  rw [hjn]
  obtain ⟨cn, hcn⟩ : ∃ n, ce.toNat = n := ⟨_, rfl⟩
  have HCN := Lib.hid hcn
  rw [hcn]
  by_cases hL : L = []
  · subst hL
    have hq : s.data.toList.drop a1 = ce :: post := by simpa [Jv.joinC] using ht
    obtain ⟨hq1, hq2⟩ := drop_at hq
    obtain rfl : jn = 0 := by simpa [Jv.joinC] using hjn.symm
    obtain ⟨a2, ha2⟩ : ∃ n, a1 + 1 = n := ⟨_, rfl⟩
    have i5 : IntKind.i64.wrap ((a1 : Int) + 1) = (a2 : Int) := by rw [IntWalk.i64_in _ (by omega)]; omega
    have CP := Lib.hid (peek_is P a1 d1 s ce _ HP2.out hs hq1 hq2 hce)
    rw [hcn] at CP
    have HA2 := Lib.hid ha2
    clear h hd1 ha1 ht hal hb h0 hI hc hce h44 hjn hq hq1 hq2 ha2 hcn
    go_enter Tryz.func142, Tryz.ntmps142
    go_wp2_with fail
    generalize (W.setCell ⟨P, 2, none⟩ (.int .i64 d1)).setCell ⟨P, 1, none⟩ (.int .i64 a1) = w0 at CP HP2 HI2 ⊢
    refine CP.out.mono ?_
    rintro e w1 ⟨rfl, hb1⟩
    have HP3 := Lib.hid (HP2.out.below hb1)
    have HI3 := Lib.hid (HI.out 0 _ _ HI2.out (Sd.of_below hb1))
    have y1 := HP3.out.c1
    have y2 := HP3.out.c2
    have v1 := HP3.out.f1
    have v2 := HP3.out.f2
    clear hb1 CP HP2 HI2
    go_wp2_with fail
    refine bodyPost_ret (results_none rfl _ _ _) rfl ?_
    exact ⟨rfl, HI.out 0 _ _ HI3.out (((Sd.refl P w1).set 1 (.int .i64 a2)).set 2 (.int .i64 d)), by have := (HP3.out.set1 a2).set2 d; rw [← HA2.out] at this ⊢; exact this⟩
  · have hL0 : 0 < L.length := List.length_pos_iff.2 hL
    obtain ⟨c0, r0, ht0, hs0, hn0⟩ := hb L[0] (List.getElem_mem hL0)
    have hq : s.data.toList.drop a1 = c0 :: (r0 ++ ((if L.drop 1 = [] then [] else 44 :: Jv.joinC (L.drop 1)) ++ ce :: post)) := by
      have e := joinC_drop hL0
      rw [List.drop_zero] at e
      rw [ht, e, ht0]
      simp
    obtain ⟨hq1, hq2⟩ := drop_at hq
    have CP := Lib.hid (peek_is P a1 d1 s c0 _ HP2.out hs hq1 hq2 hs0)
    have hne : ((c0.toNat : Int) == (cn : Int)) = false := by
      rw [beq_eq_false_iff_ne]
      intro e
      exact hn0 (UInt8.toNat_inj.1 (by omega))
    obtain ⟨c0n, hc0n⟩ : ∃ n, c0.toNat = n := ⟨_, rfl⟩
    rw [hc0n] at CP hne
    have HSZ := Lib.hid hs
    clear h hd1 ha1 ht hal hb h0 hI hc hce h44 hjn hq hq1 hq2 hs0 hn0 ht0 hc0n hcn hL hs
    have HL0 := Lib.hid hL0
    clear hL0
    go_enter Tryz.func142, Tryz.ntmps142
    go_wp2_with fail
    generalize (W.setCell ⟨P, 2, none⟩ (.int .i64 d1)).setCell ⟨P, 1, none⟩ (.int .i64 a1) = w0 at CP HP2 HI2 ⊢
    refine CP.out.mono ?_
    rintro e w1 ⟨rfl, hb1⟩
    have HP3 := Lib.hid (HP2.out.below hb1)
    have HI3 := Lib.hid (HI.out 0 _ _ HI2.out (Sd.of_below hb1))
    clear hb1 CP HP2 HI2
    go_wp2_with fail
    go_loopw [] (fun wr => Hid (∃ k ak, k < L.length ∧ Ps P s ak d1 wr ∧ Inv k wr ∧ s.data.toList.drop ak = Jv.joinC (L.drop k) ++ ce :: post ∧ ak + (Jv.joinC (L.drop k)).length = a1 + jn)) (fun wr => s.size - atOf P wr)
    case atStart => exact Lib.hid ⟨0, a1, HL0.out, HP3.out, HI3.out, by rw [List.drop_zero]; exact HT.out, by rw [List.drop_zero, HJN.out]⟩
    case round =>
      have hst := hrel
      clear hrel
      obtain ⟨k, ak, hk, hps, hiv, htx, hle⟩ := hst.out
      have HPR := Lib.hid hps
      have hlt := drop_ne htx (by simp)
      have hlt2 : ak < s.size := by simpa using hlt
      have hlk : 0 < L[k].length := by
        obtain ⟨c, r, ht0, -, -⟩ := HB.out L[k] (List.getElem_mem hk)
        rw [ht0]; simp
      have hjd := joinC_drop hk
      by_cases hlast : L.drop (k + 1) = []
      · rw [if_pos hlast, List.append_nil] at hjd
        have hkl : k + 1 = L.length := by
          have := List.drop_eq_nil_iff.1 hlast
          omega
        rw [hjd] at htx hle
        have CC := Lib.hid (HC.out k hk _ ak (ce :: post) hps hiv htx (.inr rfl))
        have hq := drop_add htx
        obtain ⟨a2, ha2⟩ : ∃ n, ak + L[k].length = n := ⟨_, rfl⟩
        rw [ha2] at CC hq hle
        obtain ⟨hq1, hq2⟩ := drop_at hq
        obtain ⟨a3, ha3⟩ : ∃ n, a2 + 1 = n := ⟨_, rfl⟩
        have i5 : IntKind.i64.wrap ((a2 : Int) + 1) = (a3 : Int) := by rw [IntWalk.i64_in _ (by have := HSZ.out; omega)]; omega
        have HQ := Lib.hid (fun u (hu : Ps P s a2 d1 u) => peek_is P a2 d1 s ce u hu HSZ.out hq1 hq2 HE.out.1)
        rw [HCN.out] at HQ
        have HKL := Lib.hid (And.intro hkl (show a3 = a1 + jn + 1 by omega))
        clear hst hk hps hiv htx hle hlt hlt2 hlk hjd hlast hkl hq hq1 hq2 ha2 ha3
        go_wp2_with fail
        refine CC.out.mono ?_
        rintro e w2 ⟨rfl, h2, h3⟩
        have HI4 := Lib.hid h2
        have HP4 := Lib.hid h3
        have CP := Lib.hid (HQ.out w2 h3)
        clear h2 h3 CC HQ
        go_wp2_with fail
        refine CP.out.mono ?_
        rintro e w4 ⟨rfl, hb4⟩
        have HP5 := Lib.hid (HP4.out.below hb4)
        have HI5 := Lib.hid (HI.out _ _ _ HI4.out (Sd.of_below hb4))
        have y1 := HP5.out.c1
        have y2 := HP5.out.c2
        have v1 := HP5.out.f1
        have v2 := HP5.out.f2
        clear hb4 CP
        go_wp2_with fail
        go_end0
        exact ⟨rfl, by have := HI.out _ _ _ HI5.out (((Sd.refl P w4).set 1 (.int .i64 a3)).set 2 (.int .i64 d)); rw [HKL.out.1] at this; exact this, by have := (HP5.out.set1 a3).set2 d; rw [HKL.out.2] at this ⊢; exact this⟩
      · rw [if_neg hlast] at hjd
        have hkl : k + 1 < L.length := by
          rcases Nat.lt_or_ge (k + 1) L.length with g | g
          · exact g
          · exact absurd (List.drop_eq_nil_iff.2 g) hlast
        rw [hjd] at htx hle
        have htx2 : s.data.toList.drop ak = L[k] ++ (44 :: (Jv.joinC (L.drop (k + 1)) ++ ce :: post)) := by rw [htx]; simp
        have CC := Lib.hid (HC.out k hk _ ak _ hps hiv htx2 (.inl rfl))
        have hq := drop_add htx2
        obtain ⟨a2, ha2⟩ : ∃ n, ak + L[k].length = n := ⟨_, rfl⟩
        rw [ha2] at CC hq
        obtain ⟨hq1, hq2⟩ := drop_at hq
        have hq3 := drop_one hq
        have HQ := Lib.hid (fun u (hu : Ps P s a2 d1 u) => peek_is P a2 d1 s 44 u hu HSZ.out hq1 hq2 (by decide))
        change Hid (∀ u, Ps P s a2 d1 u → Calls _ _ _ _ (fun e w' => e = .returned (.int .u8 44) ∧ _)) at HQ
        have HX := Lib.hid (fun u (hu : Ps P s a2 d1 u) => expect_is P a2 d1 s 44 u hu HSZ.out hq1 hq2 (by decide))
        change Hid (∀ u, Ps P s a2 d1 u → Calls _ _ #[_, .int .u8 44] _ _) at HX
        have i6 : ((44 : Int) == (cn : Int)) = false := by
          rw [beq_eq_false_iff_ne]
          intro e
          refine HE.out.2 (UInt8.toNat_inj.1 ?_)
          rw [HCN.out]
          show cn = 44
          omega
        have HKL := Lib.hid (And.intro hkl (And.intro hq3 (show a2 + 1 + (Jv.joinC (L.drop (k + 1))).length = a1 + jn by rw [← hle, ← ha2]; simp; omega)))
        have HAK := Lib.hid (show ak < s.size ∧ ak < a2 from ⟨hlt2, by omega⟩)
        clear hst hk hps hiv htx htx2 hle hlt hlt2 hlk hjd hlast hkl hq hq1 hq2 hq3 ha2
        go_wp2_with fail
        refine CC.out.mono ?_
        rintro e w2 ⟨rfl, h2, h3⟩
        have HI4 := Lib.hid h2
        have HP4 := Lib.hid h3
        have CP := Lib.hid (HQ.out w2 h3)
        clear h2 h3 CC HQ
        go_wp2_with fail
        refine CP.out.mono ?_
        rintro e w4 ⟨rfl, hb4⟩
        have HI5 := Lib.hid (HI.out _ _ _ HI4.out (Sd.of_below hb4))
        have CX := Lib.hid (HX.out w4 (HP4.out.below hb4))
        clear hb4 CP HX HP4
        go_wp2_with fail
        refine CX.out.mono ?_
        rintro e w5 ⟨rfl, h5, h6⟩
        have HP6 := Lib.hid h5
        have HI6 := Lib.hid (HI.out _ _ _ HI5.out h6)
        clear h5 h6 CX
        go_wp2_with fail
        go_roundw
        case rel => exact Lib.hid ⟨k + 1, a2 + 1, HKL.out.1, HP6.out, HI6.out, HKL.out.2.1, HKL.out.2.2⟩
        case measure =>
          rw [HP6.out.at', HPR.out.at']
          have := HAK.out
          omega
end Go.Proofs.YtjaojenalodolaaGreatDoor.Pj
/- jsonvalue's value on a canonical text: strings, numbers. Printed by genpj7.py. -/
namespace Go.Proofs.YtjaojenalodolaaGreatDoor.Pj
open Go Go.RowKit Go.Proofs.YtjaojenalodolaaGreatDoor Go.Proofs.YtjaojenalodolaaGreatDoor.Rw Go.Proofs.YtjaojenalodolaaGreatDoor.Vf Go.Proofs.YtjaojenalodolaaGreatDoor.Mw Go.Proofs.YtjaojenalodolaaGreatDoor.Me Go.Proofs.YtjaojenalodolaaGreatDoor.Pa
set_option linter.unusedVariables false
set_option maxRecDepth 100000
set_option maxHeartbeats 16000000
theorem value_str (P a d : Nat) (s t : ByteArray) (post : List UInt8) (W0 W : World) (h : Ps P s a d W) (hs : s.size ≤ 1000000000) (hT : Jw.JTabs W0) (hW : Below W0.heap.size W0 W) (hP0 : W0.heap.size ≤ P)
    (hv : Lib.validD t.data.toList = true) (hd : s.data.toList.drop a = Jv.enc (.str t) ++ post) : VC P s (.str t) a d W := by
  unfold VC
  have heq : Jv.enc (.str t) = Js.quote t.data.toList := by simp only [Jv.enc]
  rw [heq] at hd ⊢
  have hd1 : s.data.toList.drop a = 34 :: (Js.body t.data.toList ++ 34 :: post) := by rw [hd, Js.quote]; simp
  obtain ⟨ha, hc⟩ := drop_at hd1
  have hsp : Txt.spB ((34 : UInt8).toNat : Int) = false := by decide
  have hPL := h.lt
  have hb0 := ((Below.refl W.heap.size W).alloc (Nat.le_refl _) (.cells #[.pointer (some ⟨P, 0, none⟩)] 159)).alloc ((Below.refl W.heap.size W).alloc (Nat.le_refl _) (.cells #[.pointer (some ⟨P, 0, none⟩)] 159)).size (.cells #[.int .i64 0, .bool false, .int .i64 0, .string ⟨#[]⟩, .slice none 0 0, .slice none 0 0, .int .i64 0] 82)
  have hBx := heap_alloc2_old W (.cells #[.pointer (some ⟨P, 0, none⟩)] 159) (.cells #[.int .i64 0, .bool false, .int .i64 0, .string ⟨#[]⟩, .slice none 0 0, .slice none 0 0, .int .i64 0] 82)
  have hRb := heap_alloc2_new W (.cells #[.pointer (some ⟨P, 0, none⟩)] 159) (.cells #[.int .i64 0, .bool false, .int .i64 0, .string ⟨#[]⟩, .slice none 0 0, .slice none 0 0, .int .i64 0] 82)
  have HB0 := Lib.hid hb0
  have HP0 := Lib.hid (h.below hb0)
  have x0 := Me.box_at (j := 0) hBx rfl
  have HBX := Lib.hid hBx
  have HRB := Lib.hid hRb
  have CP := Lib.hid (peek_is P a d s 34 _ (h.below hb0) hs ha hc hsp)
  change Hid (Calls _ _ _ _ (fun e w' => e = .returned (.int .u8 34) ∧ _)) at CP
  have HPL := Lib.hid hPL
  have HW := Lib.hid hW
  have CS := Lib.hid (fun u (hu : Ps P s a d u) (hb : Below W0.heap.size W0 u) => str_is P a d s t _ u hu hs (hT.below hb) hv hd)
  obtain ⟨qn, hqn⟩ : ∃ n, (Js.quote t.data.toList).length = n := ⟨_, rfl⟩
  rw [hqn] at CS ⊢
  clear hd hd1 ha hc hsp hv hT hW hP0 h hb0 hBx hRb hPL hqn heq hs
  go_enter Tryz.func96, Tryz.ntmps96
  go_wp2_with fail
  generalize (W.alloc (.cells #[.pointer (some ⟨P, 0, none⟩)] 159)).alloc (.cells #[.int .i64 0, .bool false, .int .i64 0, .string ⟨#[]⟩, .slice none 0 0, .slice none 0 0, .int .i64 0] 82) = w0 at CP HP0 HB0 HBX HRB x0 ⊢
  obtain ⟨R, hR⟩ : ∃ n, W.heap.size + 1 = n := ⟨_, rfl⟩
  obtain ⟨B, hB⟩ : ∃ n, W.heap.size = n := ⟨_, rfl⟩
  have HRE := Lib.hid (And.intro hB hR)
  rw [hR] at HRB ⊢
  rw [hB] at HBX x0 ⊢
  clear hR hB
  refine CP.out.mono ?_
  rintro e w1 ⟨rfl, hb1⟩
  have HP1 := Lib.hid (HP0.out.below hb1)
  have HB1 := Lib.hid (below_seq HB0.out hb1)
  have HR1 := Lib.hid ((hb1.block _ (Rw.lt_of_heap HRB.out)).trans HRB.out)
  have HX1 := Lib.hid ((hb1.block _ (Rw.lt_of_heap HBX.out)).trans HBX.out)
  replace x0 := Me.box_at (j := 0) HX1.out rfl
  have x1 := HP1.out.c1
  clear hb1 CP HP0 HB0 HBX HRB
  have hbV := (Below.refl w1.heap.size w1).alloc (Nat.le_refl _) (.cells #[.int .i64 0, .bool false, .int .i64 0, .string ⟨#[]⟩, .slice none 0 0, .slice none 0 0, .int .i64 a] 82)
  have hVb := heap_alloc_new w1 (.cells #[.int .i64 0, .bool false, .int .i64 0, .string ⟨#[]⟩, .slice none 0 0, .slice none 0 0, .int .i64 a] 82)
  have HP2 := Lib.hid (HP1.out.below hbV)
  have HB2 := Lib.hid (below_seq HB1.out hbV)
  have HR2 := Lib.hid ((hbV.block _ (Rw.lt_of_heap HR1.out)).trans HR1.out)
  have HX2 := Lib.hid ((hbV.block _ (Rw.lt_of_heap HX1.out)).trans HX1.out)
  have HVB := Lib.hid hVb
  have HVR := Lib.hid (show R < w1.heap.size ∧ B < w1.heap.size from ⟨Rw.lt_of_heap HR1.out, Rw.lt_of_heap HX1.out⟩)
  have y0 := Me.box_at (j := 0) HX2.out rfl
  clear hbV hVb HR1 HP1
  go_wp2_with fail
  generalize hVe : w1.heap.size = V at HVB HVR ⊢
  generalize w1.alloc (.cells #[.int .i64 0, .bool false, .int .i64 0, .string ⟨#[]⟩, .slice none 0 0, .slice none 0 0, .int .i64 a] 82) = w2 at HP2 HB2 HR2 HX2 HVB y0 ⊢
  have HWV := Lib.hid (show W.heap.size ≤ V by rw [← hVe]; exact HB1.out.size)
  clear hVe HB1 HX1 x0 x1
  have HNP := Lib.hid (show V ≠ P ∧ R ≠ P ∧ B ≠ P ∧ R ≠ V ∧ B ≠ V from ⟨by have := HPL.out; have := HWV.out; omega, by have := HPL.out; have := HRE.out; omega, by have := HPL.out; have := HRE.out; omega, by have := HVR.out; omega, by have := HVR.out; omega⟩)
  refine (CS.out w2 HP2.out (HW.out.trans (HB2.out.mono HW.out.size))).mono ?_
  rintro e w3 ⟨rfl, hp3, hs3⟩
  have hv3 := hs3.heap HVB.out HNP.out.1
  have v0 := Me.box_at (j := 0) hv3 rfl
  have v1 := Me.box_at (j := 1) hv3 rfl
  have v2 := Me.box_at (j := 2) hv3 rfl
  have v3 := Me.box_at (j := 3) hv3 rfl
  have v4 := Me.box_at (j := 4) hv3 rfl
  have v5 := Me.box_at (j := 5) hv3 rfl
  have v6 := Me.box_at (j := 6) hv3 rfl
  have f0 := frozen_of_row w3 V 0 _ _ hv3
  have f3 := frozen_of_row w3 V 3 _ _ hv3
  have HR3 := Lib.hid (hs3.heap HR2.out HNP.out.2.1)
  have HP3 := Lib.hid hp3
  have HS3 := Lib.hid ((Sd.of_below (P := P) HB2.out).trans hs3)
  clear hv3 hp3 hs3 CS HP2 HB2 HR2 HX2 HVB y0
  have HR4 := Lib.hid (((heap_setCell_other (w3.setCell ⟨V, 0, none⟩ (.int .i64 3)) ⟨V, 3, none⟩ R (.string t) HNP.out.2.2.2.1).trans (heap_setCell_other w3 ⟨V, 0, none⟩ R (.int .i64 3) HNP.out.2.2.2.1)).trans HR3.out)
  have HP4 := Lib.hid ((HP3.out.setOther (j := 0) (x := .int .i64 3) HNP.out.1.symm).setOther (j := 3) (x := .string t) HNP.out.1.symm)
  have HS4 := Lib.hid ((HS3.out.setNew (j := 0) (x := .int .i64 3) HWV.out).setNew (j := 3) (x := .string t) HWV.out)
  go_wp2_with (refine wpList_store_row rfl 82 _ _ rfl R #[.int .i64 3, .bool false, .int .i64 0, .string t, .slice none 0 0, .slice none 0 0, .int .i64 a] rfl rfl 82 _ HR4.out (by kernel_rfl) rfl (by simp [Value.oneCell']) ?_)
  go_wp2_with fail
  have hz2 := setRow_heap _ R _ #[.int .i64 3, .bool false, .int .i64 0, .string t, .slice none 0 0, .slice none 0 0, .int .i64 a] _ _ HR4.out
  refine bodyPost_ret (results_cell_row rfl _ _ R _ _ _ _ rfl hz2 Tryz.underlying82 rfl (by kernel_rfl)) rfl ?_
  exact ⟨⟨3, false, 0, t, none, 0, 0, none, 0, 0, a, rfl, fun w' hw' => by unfold Jv; exact ⟨a, rfl⟩⟩, (setRow_other _ R P _ HNP.out.2.1.symm).trans HP4.out, HS4.out.rowNew (by have := HRE.out; omega)⟩
end Go.Proofs.YtjaojenalodolaaGreatDoor.Pj
/- jsonvalue's value on a canonical text: numbers. Printed by genpj7.py. -/
namespace Go.Proofs.YtjaojenalodolaaGreatDoor.Pj
open Go Go.RowKit Go.Proofs.YtjaojenalodolaaGreatDoor Go.Proofs.YtjaojenalodolaaGreatDoor.Rw Go.Proofs.YtjaojenalodolaaGreatDoor.Vf Go.Proofs.YtjaojenalodolaaGreatDoor.Mw Go.Proofs.YtjaojenalodolaaGreatDoor.Me Go.Proofs.YtjaojenalodolaaGreatDoor.Pa
set_option linter.unusedVariables false
set_option maxRecDepth 100000
set_option maxHeartbeats 16000000
theorem value_int_neg (P a d : Nat) (s : ByteArray) (n : Int) (post : List UInt8) (W : World) (h : Ps P s a d W) (hs : s.size ≤ 1000000000) (h0 : -9223372036854775808 ≤ n) (h1 : n ≤ 9223372036854775807) (hp : Stop post) (hkind : (Jv.dig n).getD 0 0 = 45)
    (hd : s.data.toList.drop a = Jv.enc (.int n) ++ post) : VC P s (.int n) a d W := by
  unfold VC
  have heq : Jv.enc (.int n) = Jv.dig n := by simp only [Jv.enc]
  rw [heq] at hd ⊢
  have hN := num_dig n h0 h1
  obtain ⟨c, r, hcr⟩ : ∃ c r, Jv.dig n = c :: r := by
    cases e : Jv.dig n with
    | nil => exact absurd e hN.ne
    | cons c r => exact ⟨c, r, rfl⟩
  have hd1 : s.data.toList.drop a = c :: (r ++ post) := by rw [hd, hcr]; rfl
  obtain ⟨ha, hc⟩ := drop_at hd1
  have hcc : c = 45 ∨ (48 ≤ c.toNat ∧ c.toNat ≤ 57) := by have := hN.head; rw [hcr] at this; exact this
  have hcn : c.toNat = 45 ∨ (48 ≤ c.toNat ∧ c.toNat ≤ 57) := hcc.imp (fun e => by rw [e]; rfl) id
  have hsp : Txt.spB (c.toNat : Int) = false := Tx.spB_f (by omega)
  have hPL := h.lt
  have hb0 := ((Below.refl W.heap.size W).alloc (Nat.le_refl _) (.cells #[.pointer (some ⟨P, 0, none⟩)] 159)).alloc ((Below.refl W.heap.size W).alloc (Nat.le_refl _) (.cells #[.pointer (some ⟨P, 0, none⟩)] 159)).size (.cells #[.int .i64 0, .bool false, .int .i64 0, .string ⟨#[]⟩, .slice none 0 0, .slice none 0 0, .int .i64 0] 82)
  have hBx := heap_alloc2_old W (.cells #[.pointer (some ⟨P, 0, none⟩)] 159) (.cells #[.int .i64 0, .bool false, .int .i64 0, .string ⟨#[]⟩, .slice none 0 0, .slice none 0 0, .int .i64 0] 82)
  have hRb := heap_alloc2_new W (.cells #[.pointer (some ⟨P, 0, none⟩)] 159) (.cells #[.int .i64 0, .bool false, .int .i64 0, .string ⟨#[]⟩, .slice none 0 0, .slice none 0 0, .int .i64 0] 82)
  have HB0 := Lib.hid hb0
  have HP0 := Lib.hid (h.below hb0)
  have x0 := Me.box_at (j := 0) hBx rfl
  have HBX := Lib.hid hBx
  have HRB := Lib.hid hRb
  have CP := Lib.hid (peek_is P a d s c _ (h.below hb0) hs ha hc hsp)
  have HPL := Lib.hid hPL
  have CN := Lib.hid (fun u (hu : Ps P s a d u) => number_is P a d s n (Jv.dig n) post u hu hs hd hN hp)
  obtain ⟨qn, hqn⟩ : ∃ m, (Jv.dig n).length = m := ⟨_, rfl⟩
  rw [hqn] at CN ⊢
  rw [hcr] at hkind
  obtain ⟨k, hk⟩ : ∃ k, c.toNat = k := ⟨_, rfl⟩
  rw [hk] at CP hcn
  have e1 : ((k : Int) == 110) = false := by rw [beq_eq_false_iff_ne]; omega
  have e2 : ((k : Int) == 116) = false := by rw [beq_eq_false_iff_ne]; omega
  have e3 : ((k : Int) == 102) = false := by rw [beq_eq_false_iff_ne]; omega
  have e4 : ((k : Int) == 34) = false := by rw [beq_eq_false_iff_ne]; omega
  obtain rfl : k = 45 := by rw [← hk]; exact congrArg UInt8.toNat hkind
  clear e1 e2 e3 e4 hkind
  clear hd hd1 ha hc hsp hp hN hcr hcc hcn hk h hb0 hBx hRb hPL hqn heq hs h0 h1
  go_enter Tryz.func96, Tryz.ntmps96
  go_wp2_with fail
  generalize (W.alloc (.cells #[.pointer (some ⟨P, 0, none⟩)] 159)).alloc (.cells #[.int .i64 0, .bool false, .int .i64 0, .string ⟨#[]⟩, .slice none 0 0, .slice none 0 0, .int .i64 0] 82) = w0 at CP HP0 HB0 HBX HRB x0 ⊢
  obtain ⟨R, hR⟩ : ∃ n, W.heap.size + 1 = n := ⟨_, rfl⟩
  obtain ⟨B, hB⟩ : ∃ n, W.heap.size = n := ⟨_, rfl⟩
  have HRE := Lib.hid (And.intro hB hR)
  rw [hR] at HRB ⊢
  rw [hB] at HBX x0 ⊢
  clear hR hB
  refine CP.out.mono ?_
  rintro e w1 ⟨rfl, hb1⟩
  have HP1 := Lib.hid (HP0.out.below hb1)
  have HB1 := Lib.hid (below_seq HB0.out hb1)
  have HR1 := Lib.hid ((hb1.block _ (Rw.lt_of_heap HRB.out)).trans HRB.out)
  have HX1 := Lib.hid ((hb1.block _ (Rw.lt_of_heap HBX.out)).trans HBX.out)
  replace x0 := Me.box_at (j := 0) HX1.out rfl
  have x1 := HP1.out.c1
  clear hb1 CP HP0 HB0 HBX HRB
  have hbV := (Below.refl w1.heap.size w1).alloc (Nat.le_refl _) (.cells #[.int .i64 0, .bool false, .int .i64 0, .string ⟨#[]⟩, .slice none 0 0, .slice none 0 0, .int .i64 a] 82)
  have hVb := heap_alloc_new w1 (.cells #[.int .i64 0, .bool false, .int .i64 0, .string ⟨#[]⟩, .slice none 0 0, .slice none 0 0, .int .i64 a] 82)
  have HP2 := Lib.hid (HP1.out.below hbV)
  have HB2 := Lib.hid (below_seq HB1.out hbV)
  have HR2 := Lib.hid ((hbV.block _ (Rw.lt_of_heap HR1.out)).trans HR1.out)
  have HX2 := Lib.hid ((hbV.block _ (Rw.lt_of_heap HX1.out)).trans HX1.out)
  have HVB := Lib.hid hVb
  have HVR := Lib.hid (show R < w1.heap.size ∧ B < w1.heap.size from ⟨Rw.lt_of_heap HR1.out, Rw.lt_of_heap HX1.out⟩)
  have y0 := Me.box_at (j := 0) HX2.out rfl
  clear hbV hVb HR1 HP1
  go_wp2_with fail
  generalize hVe : w1.heap.size = V at HVB HVR ⊢
  generalize w1.alloc (.cells #[.int .i64 0, .bool false, .int .i64 0, .string ⟨#[]⟩, .slice none 0 0, .slice none 0 0, .int .i64 a] 82) = w2 at HP2 HB2 HR2 HX2 HVB y0 ⊢
  have HWV := Lib.hid (show W.heap.size ≤ V by rw [← hVe]; exact HB1.out.size)
  clear hVe HB1 HX1 x0 x1
  have HNP := Lib.hid (show V ≠ P ∧ R ≠ P ∧ B ≠ P ∧ R ≠ V ∧ B ≠ V from ⟨by have := HPL.out; have := HWV.out; omega, by have := HPL.out; have := HRE.out; omega, by have := HPL.out; have := HRE.out; omega, by have := HVR.out; omega, by have := HVR.out; omega⟩)
  refine (CN.out w2 HP2.out).mono ?_
  rintro e w3 ⟨rfl, hp3, hs3⟩
  have hv3 := hs3.heap HVB.out HNP.out.1
  have v0 := Me.box_at (j := 0) hv3 rfl
  have v1 := Me.box_at (j := 1) hv3 rfl
  have v2 := Me.box_at (j := 2) hv3 rfl
  have v3 := Me.box_at (j := 3) hv3 rfl
  have v4 := Me.box_at (j := 4) hv3 rfl
  have v5 := Me.box_at (j := 5) hv3 rfl
  have v6 := Me.box_at (j := 6) hv3 rfl
  have f0 := frozen_of_row w3 V 0 _ _ hv3
  have f2 := frozen_of_row w3 V 2 _ _ hv3
  have HR3 := Lib.hid (hs3.heap HR2.out HNP.out.2.1)
  have HP3 := Lib.hid hp3
  have HS3 := Lib.hid ((Sd.of_below (P := P) HB2.out).trans hs3)
  clear hv3 hp3 hs3 CN HP2 HB2 HR2 HX2 HVB y0
  have HR4 := Lib.hid (((heap_setCell_other (w3.setCell ⟨V, 0, none⟩ (.int .i64 2)) ⟨V, 2, none⟩ R (.int .i64 n) HNP.out.2.2.2.1).trans (heap_setCell_other w3 ⟨V, 0, none⟩ R (.int .i64 2) HNP.out.2.2.2.1)).trans HR3.out)
  have HP4 := Lib.hid ((HP3.out.setOther (j := 0) (x := .int .i64 2) HNP.out.1.symm).setOther (j := 2) (x := .int .i64 n) HNP.out.1.symm)
  have HS4 := Lib.hid ((HS3.out.setNew (j := 0) (x := .int .i64 2) HWV.out).setNew (j := 2) (x := .int .i64 n) HWV.out)
  go_wp2_with (refine wpList_store_row rfl 82 _ _ rfl R #[.int .i64 2, .bool false, .int .i64 n, .string ⟨#[]⟩, .slice none 0 0, .slice none 0 0, .int .i64 a] rfl rfl 82 _ HR4.out (by kernel_rfl) rfl (by simp [Value.oneCell']) ?_)
  go_wp2_with fail
  have hz2 := setRow_heap _ R _ #[.int .i64 2, .bool false, .int .i64 n, .string ⟨#[]⟩, .slice none 0 0, .slice none 0 0, .int .i64 a] _ _ HR4.out
  refine bodyPost_ret (results_cell_row rfl _ _ R _ _ _ _ rfl hz2 Tryz.underlying82 rfl (by kernel_rfl)) rfl ?_
  exact ⟨⟨2, false, n, ⟨#[]⟩, none, 0, 0, none, 0, 0, a, rfl, fun w' hw' => by unfold Jv; exact ⟨a, rfl⟩⟩, (setRow_other _ R P _ HNP.out.2.1.symm).trans HP4.out, HS4.out.rowNew (by have := HRE.out; omega)⟩
theorem value_int_pos (P a d : Nat) (s : ByteArray) (n : Int) (post : List UInt8) (W : World) (h : Ps P s a d W) (hs : s.size ≤ 1000000000) (h0 : -9223372036854775808 ≤ n) (h1 : n ≤ 9223372036854775807) (hp : Stop post) (hkind : (Jv.dig n).getD 0 0 ≠ 45)
    (hd : s.data.toList.drop a = Jv.enc (.int n) ++ post) : VC P s (.int n) a d W := by
  unfold VC
  have heq : Jv.enc (.int n) = Jv.dig n := by simp only [Jv.enc]
  rw [heq] at hd ⊢
  have hN := num_dig n h0 h1
  obtain ⟨c, r, hcr⟩ : ∃ c r, Jv.dig n = c :: r := by
    cases e : Jv.dig n with
    | nil => exact absurd e hN.ne
    | cons c r => exact ⟨c, r, rfl⟩
  have hd1 : s.data.toList.drop a = c :: (r ++ post) := by rw [hd, hcr]; rfl
  obtain ⟨ha, hc⟩ := drop_at hd1
  have hcc : c = 45 ∨ (48 ≤ c.toNat ∧ c.toNat ≤ 57) := by have := hN.head; rw [hcr] at this; exact this
  have hcn : c.toNat = 45 ∨ (48 ≤ c.toNat ∧ c.toNat ≤ 57) := hcc.imp (fun e => by rw [e]; rfl) id
  have hsp : Txt.spB (c.toNat : Int) = false := Tx.spB_f (by omega)
  have hPL := h.lt
  have hb0 := ((Below.refl W.heap.size W).alloc (Nat.le_refl _) (.cells #[.pointer (some ⟨P, 0, none⟩)] 159)).alloc ((Below.refl W.heap.size W).alloc (Nat.le_refl _) (.cells #[.pointer (some ⟨P, 0, none⟩)] 159)).size (.cells #[.int .i64 0, .bool false, .int .i64 0, .string ⟨#[]⟩, .slice none 0 0, .slice none 0 0, .int .i64 0] 82)
  have hBx := heap_alloc2_old W (.cells #[.pointer (some ⟨P, 0, none⟩)] 159) (.cells #[.int .i64 0, .bool false, .int .i64 0, .string ⟨#[]⟩, .slice none 0 0, .slice none 0 0, .int .i64 0] 82)
  have hRb := heap_alloc2_new W (.cells #[.pointer (some ⟨P, 0, none⟩)] 159) (.cells #[.int .i64 0, .bool false, .int .i64 0, .string ⟨#[]⟩, .slice none 0 0, .slice none 0 0, .int .i64 0] 82)
  have HB0 := Lib.hid hb0
  have HP0 := Lib.hid (h.below hb0)
  have x0 := Me.box_at (j := 0) hBx rfl
  have HBX := Lib.hid hBx
  have HRB := Lib.hid hRb
  have CP := Lib.hid (peek_is P a d s c _ (h.below hb0) hs ha hc hsp)
  have HPL := Lib.hid hPL
  have CN := Lib.hid (fun u (hu : Ps P s a d u) => number_is P a d s n (Jv.dig n) post u hu hs hd hN hp)
  obtain ⟨qn, hqn⟩ : ∃ m, (Jv.dig n).length = m := ⟨_, rfl⟩
  rw [hqn] at CN ⊢
  rw [hcr] at hkind
  obtain ⟨k, hk⟩ : ∃ k, c.toNat = k := ⟨_, rfl⟩
  rw [hk] at CP hcn
  have e1 : ((k : Int) == 110) = false := by rw [beq_eq_false_iff_ne]; omega
  have e2 : ((k : Int) == 116) = false := by rw [beq_eq_false_iff_ne]; omega
  have e3 : ((k : Int) == 102) = false := by rw [beq_eq_false_iff_ne]; omega
  have e4 : ((k : Int) == 34) = false := by rw [beq_eq_false_iff_ne]; omega
  have hk45 : k ≠ 45 := fun e => hkind (UInt8.toNat_inj.1 (hk.trans e))
  have e5 : ((k : Int) == 45) = false := by rw [beq_eq_false_iff_ne]; omega
  have e6 : (48 : Int) ≤ (k : Int) := by omega
  have e7 : (k : Int) ≤ 57 := by omega
  clear hkind hk45
  clear hd hd1 ha hc hsp hp hN hcr hcc hcn hk h hb0 hBx hRb hPL hqn heq hs h0 h1
  go_enter Tryz.func96, Tryz.ntmps96
  go_wp2_with fail
  generalize (W.alloc (.cells #[.pointer (some ⟨P, 0, none⟩)] 159)).alloc (.cells #[.int .i64 0, .bool false, .int .i64 0, .string ⟨#[]⟩, .slice none 0 0, .slice none 0 0, .int .i64 0] 82) = w0 at CP HP0 HB0 HBX HRB x0 ⊢
  obtain ⟨R, hR⟩ : ∃ n, W.heap.size + 1 = n := ⟨_, rfl⟩
  obtain ⟨B, hB⟩ : ∃ n, W.heap.size = n := ⟨_, rfl⟩
  have HRE := Lib.hid (And.intro hB hR)
  rw [hR] at HRB ⊢
  rw [hB] at HBX x0 ⊢
  clear hR hB
  refine CP.out.mono ?_
  rintro e w1 ⟨rfl, hb1⟩
  have HP1 := Lib.hid (HP0.out.below hb1)
  have HB1 := Lib.hid (below_seq HB0.out hb1)
  have HR1 := Lib.hid ((hb1.block _ (Rw.lt_of_heap HRB.out)).trans HRB.out)
  have HX1 := Lib.hid ((hb1.block _ (Rw.lt_of_heap HBX.out)).trans HBX.out)
  replace x0 := Me.box_at (j := 0) HX1.out rfl
  have x1 := HP1.out.c1
  clear hb1 CP HP0 HB0 HBX HRB
  have hbV := (Below.refl w1.heap.size w1).alloc (Nat.le_refl _) (.cells #[.int .i64 0, .bool false, .int .i64 0, .string ⟨#[]⟩, .slice none 0 0, .slice none 0 0, .int .i64 a] 82)
  have hVb := heap_alloc_new w1 (.cells #[.int .i64 0, .bool false, .int .i64 0, .string ⟨#[]⟩, .slice none 0 0, .slice none 0 0, .int .i64 a] 82)
  have HP2 := Lib.hid (HP1.out.below hbV)
  have HB2 := Lib.hid (below_seq HB1.out hbV)
  have HR2 := Lib.hid ((hbV.block _ (Rw.lt_of_heap HR1.out)).trans HR1.out)
  have HX2 := Lib.hid ((hbV.block _ (Rw.lt_of_heap HX1.out)).trans HX1.out)
  have HVB := Lib.hid hVb
  have HVR := Lib.hid (show R < w1.heap.size ∧ B < w1.heap.size from ⟨Rw.lt_of_heap HR1.out, Rw.lt_of_heap HX1.out⟩)
  have y0 := Me.box_at (j := 0) HX2.out rfl
  clear hbV hVb HR1 HP1
  go_wp2_with fail
  generalize hVe : w1.heap.size = V at HVB HVR ⊢
  generalize w1.alloc (.cells #[.int .i64 0, .bool false, .int .i64 0, .string ⟨#[]⟩, .slice none 0 0, .slice none 0 0, .int .i64 a] 82) = w2 at HP2 HB2 HR2 HX2 HVB y0 ⊢
  have HWV := Lib.hid (show W.heap.size ≤ V by rw [← hVe]; exact HB1.out.size)
  clear hVe HB1 HX1 x0 x1
  have HNP := Lib.hid (show V ≠ P ∧ R ≠ P ∧ B ≠ P ∧ R ≠ V ∧ B ≠ V from ⟨by have := HPL.out; have := HWV.out; omega, by have := HPL.out; have := HRE.out; omega, by have := HPL.out; have := HRE.out; omega, by have := HVR.out; omega, by have := HVR.out; omega⟩)
  refine (CN.out w2 HP2.out).mono ?_
  rintro e w3 ⟨rfl, hp3, hs3⟩
  have hv3 := hs3.heap HVB.out HNP.out.1
  have v0 := Me.box_at (j := 0) hv3 rfl
  have v1 := Me.box_at (j := 1) hv3 rfl
  have v2 := Me.box_at (j := 2) hv3 rfl
  have v3 := Me.box_at (j := 3) hv3 rfl
  have v4 := Me.box_at (j := 4) hv3 rfl
  have v5 := Me.box_at (j := 5) hv3 rfl
  have v6 := Me.box_at (j := 6) hv3 rfl
  have f0 := frozen_of_row w3 V 0 _ _ hv3
  have f2 := frozen_of_row w3 V 2 _ _ hv3
  have HR3 := Lib.hid (hs3.heap HR2.out HNP.out.2.1)
  have HP3 := Lib.hid hp3
  have HS3 := Lib.hid ((Sd.of_below (P := P) HB2.out).trans hs3)
  clear hv3 hp3 hs3 CN HP2 HB2 HR2 HX2 HVB y0
  have HR4 := Lib.hid (((heap_setCell_other (w3.setCell ⟨V, 0, none⟩ (.int .i64 2)) ⟨V, 2, none⟩ R (.int .i64 n) HNP.out.2.2.2.1).trans (heap_setCell_other w3 ⟨V, 0, none⟩ R (.int .i64 2) HNP.out.2.2.2.1)).trans HR3.out)
  have HP4 := Lib.hid ((HP3.out.setOther (j := 0) (x := .int .i64 2) HNP.out.1.symm).setOther (j := 2) (x := .int .i64 n) HNP.out.1.symm)
  have HS4 := Lib.hid ((HS3.out.setNew (j := 0) (x := .int .i64 2) HWV.out).setNew (j := 2) (x := .int .i64 n) HWV.out)
  go_wp2_with (refine wpList_store_row rfl 82 _ _ rfl R #[.int .i64 2, .bool false, .int .i64 n, .string ⟨#[]⟩, .slice none 0 0, .slice none 0 0, .int .i64 a] rfl rfl 82 _ HR4.out (by kernel_rfl) rfl (by simp [Value.oneCell']) ?_)
  go_wp2_with fail
  have hz2 := setRow_heap _ R _ #[.int .i64 2, .bool false, .int .i64 n, .string ⟨#[]⟩, .slice none 0 0, .slice none 0 0, .int .i64 a] _ _ HR4.out
  refine bodyPost_ret (results_cell_row rfl _ _ R _ _ _ _ rfl hz2 Tryz.underlying82 rfl (by kernel_rfl)) rfl ?_
  exact ⟨⟨2, false, n, ⟨#[]⟩, none, 0, 0, none, 0, 0, a, rfl, fun w' hw' => by unfold Jv; exact ⟨a, rfl⟩⟩, (setRow_other _ R P _ HNP.out.2.1.symm).trans HP4.out, HS4.out.rowNew (by have := HRE.out; omega)⟩
theorem value_int (P a d : Nat) (s : ByteArray) (n : Int) (post : List UInt8) (W : World) (h : Ps P s a d W) (hs : s.size ≤ 1000000000) (h0 : -9223372036854775808 ≤ n) (h1 : n ≤ 9223372036854775807) (hp : Stop post)
    (hd : s.data.toList.drop a = Jv.enc (.int n) ++ post) : VC P s (.int n) a d W := by
  by_cases hk : (Jv.dig n).getD 0 0 = 45
  · exact value_int_neg P a d s n post W h hs h0 h1 hp hk hd
  · exact value_int_pos P a d s n post W h hs h0 h1 hp hk hd
end Go.Proofs.YtjaojenalodolaaGreatDoor.Pj
/- Rows of strings, entries and feeds that grow in memory. -/
namespace Go.Proofs.YtjaojenalodolaaGreatDoor.De
open Go Go.RowKit Go.Proofs.YtjaojenalodolaaGreatDoor Go.Proofs.YtjaojenalodolaaGreatDoor.Rw Go.Proofs.YtjaojenalodolaaGreatDoor.Mw Go.Proofs.YtjaojenalodolaaGreatDoor.Me Go.Proofs.YtjaojenalodolaaGreatDoor.Pj
set_option linter.unusedVariables false
set_option maxRecDepth 100000
set_option maxHeartbeats 16000000
def PEl (w : World) (p : ByteArray) (c : List Value) : Prop := c = sCell p
def EEl (w : World) (e : Mo.En) (c : List Value) : Prop := c = eCells e
def FdV (S : Nat) (w : World) (f : Mo.Fd) (c : List Value) : Prop := ∀ w', Agree S w w' none → FdIs w' f c
theorem rw_row {α : Type} {El : World → α → List Value → Prop} {C : α → List Value} (hC : ∀ w x c, El w x c → c = C x) {sz S : Nat} {t : TypeId} {w : World} {v : Value} {l : List α} (h : Row El sz t S w v l) : Rw w v sz (l.map C) := by
  obtain ⟨L, h1, h2, h3, h4⟩ := Row.rw h
  have : L = l.map C := by
    apply List.ext_getElem
    · rw [List.length_map, h2]
    · intro j hj hk
      rw [List.getElem_map]
      exact hC _ _ _ (h4.2 j (by rw [← h2]; exact hj) hj)
  rw [← this]
  exact h1
theorem row_agree {α : Type} {El : World → α → List Value → Prop} {sz S : Nat} {t : TypeId} {w u : World} {v : Value} {l : List α} (hI : ∀ w u x c, El w x c → El u x c) (h : Row El sz t S w v l) (ha : Agree S w u none) : Row El sz t S u v l := by
  obtain ⟨L, h1, h2, h3⟩ := h
  refine ⟨L, h1, own_agree h2 ha, fun x hx => ?_⟩
  have := h3 w (fun _ _ _ _ => rfl)
  exact ⟨this.1, fun j hj hL => hI _ _ _ _ (this.2 j hj hL)⟩
theorem fd_of {S S1 S2 : Nat} {t1 t2 : TypeId} {w : World} {vp ve : Value} {f : Mo.Fd} (hp : Row PEl 1 t1 S1 w vp f.path) (he : Row EEl 5 t2 S2 w ve f.ents) (h1 : S ≤ S1) (h2 : S ≤ S2) : FdV S w f (fCells f vp ve) := fun u hu => by
  have a1 := row_agree (fun _ _ _ _ h => h) (hp.base h1) hu
  have a2 := row_agree (fun _ _ _ _ h => h) (he.base h2) hu
  exact ⟨vp, ve, rfl, rw_row (C := sCell) (fun _ _ _ h => h) a1, rw_row (C := eCells) (fun _ _ _ h => h) a2⟩
theorem ar_of {S : Nat} {t : TypeId} {w : World} {v : Value} {l : List Mo.Fd} (h : Row FdIs 6 t S w v l) : ArIs w v l := by
  obtain ⟨L, h1, h2, h3, h4⟩ := Row.rw h
  exact ⟨L, h2, h1, h4.2⟩
theorem FdV.apart {S T : Nat} {w w' : World} {f : Mo.Fd} {c : List Value} {row : Option Nat} (h : FdV T w f c) (hS : S ≤ T) (hr : ∀ k, row = some k → k < T) (ha : Agree S w w' row) : FdIs w' f c :=
  h w' fun k h1 h2 _ => ha k (by omega) h2 (fun e => by have := hr k e.symm; omega)
theorem push_row {α : Type} {El : World → α → List Value → Prop} {S size n : Nat} {e : TypeId} {w w' : World} {v v' : Value} {l : List α} {x : α} {cs : List Value} {L : List (List Value)} (hL : Flat size L) (hA : ∀ u, Agree S w u v.ownBlock → All El u l L) (hn : l.length = n)
    (hE : ∀ u, Agree S w u v.ownBlock → El u x cs) (hc : cs.length = size) (h1 : ∀ u ∈ cs, u.oneCell' = true)
    (ho : w'.ownsRow S e size v' (n + 1) (L.flatten ++ cs)) (hg : w.grownBy w' v.ownBlock) (hv : v'.ownBlock = v.ownBlock ∨ v'.ownBlock = some w.heap.size) : Row El size e S w' v' (l ++ [x]) :=
  Row.appended (M := [cs]) (l2 := [x]) hL hA (Flat.one hc h1) (fun u hu => All.one (hE u hu)) (by rw [hn]; simpa using ho) hg hv
theorem wpList_push {α : Type} {El : World → α → List Value → Prop} {P : Program} (w : World) {ops : Array Oper} {rest : List Oper} {o : Oper} {a : Act} {Q : Exit → Act → World → Prop} (hgd : o.guard = none) (s x : Operand) (t : TypeId)
    (ho : o.op = .call { callee := .builtin .append, args := #[s, x], argTypes := #[t, t] })
    (base base2 : Nat) (e : TypeId) (i : TypeInfo) (z : Value) (size bytes : Nat) (ht : P.underlying t = some (.slice e)) (hi : P.info? e = some i) (hz : i.zero = some z)
    (hsize : i.size = size) (hby : i.bytes = bytes) (hzs : z.cells.size = size) (hsz : 0 < size)
    (v : Value) (l : List α) (n : Nat) (hn : l.length = n) (hs : a.eval s = v) (hR : Row El size e base w v l)
    (x' : Value) (el : α) (cs : List Value) (hx : a.eval x = x') (hxo : w.ownsRow base2 e size x' 1 cs) (h1 : ∀ u ∈ cs, u.oneCell' = true) (hE : ∀ u, Agree base w u v.ownBlock → El u el cs)
    (h63 : n + 1 ≤ maxLen) (hbytes : (n + 1) * bytes ≤ 140737488355328) (hbase : base ≤ w.heap.size) (hcs : cs.length = size)
    (h : ∀ v' w', Row El size e base w' v' (l ++ [el]) → w.grownBy w' v.ownBlock → (∀ q, v.ownBlock = some q → base ≤ q) → wpList P ops Q rest (a.put o.dst v') w') : wpList P ops Q (o :: rest) a w := by
  obtain ⟨L, hL, hown, hA⟩ := hR
  refine wpList_append_row w hgd s x t ho base base2 e i z size bytes ht hi hz hsize hby hzs hsz v n L.flatten hs (by rw [← hn]; exact hown) x' 1 cs hx hxo h1 h63 hbytes hbase fun v' w' h2 h3 h4 => ?_
  exact h v' w' (push_row hL hA hn hE hcs h1 h2 h3 h4) h3 fun q hq => (own_lt hown hq).1
theorem step_push {α : Type} {El : World → α → List Value → Prop} {P : Program} (w : World) {ops : Array Oper} {o : Oper} {a : Act} {K : Act → World → Prop} {Q : Exit → Act → World → Prop} {E : Prop} (hgd : o.guard = none) (s x : Operand) (t : TypeId)
    (ho : o.op = .call { callee := .builtin .append, args := #[s, x], argTypes := #[t, t] })
    (base base2 : Nat) (e : TypeId) (i : TypeInfo) (z : Value) (size bytes : Nat) (ht : P.underlying t = some (.slice e)) (hi : P.info? e = some i) (hz : i.zero = some z)
    (hsize : i.size = size) (hby : i.bytes = bytes) (hzs : z.cells.size = size) (hsz : 0 < size)
    (v : Value) (l : List α) (n : Nat) (hn : l.length = n) (hs : a.eval s = v) (hR : Row El size e base w v l)
    (x' : Value) (el : α) (cs : List Value) (hx : a.eval x = x') (hxo : w.ownsRow base2 e size x' 1 cs) (h1 : ∀ u ∈ cs, u.oneCell' = true) (hE : ∀ u, Agree base w u v.ownBlock → El u el cs)
    (h63 : n + 1 ≤ maxLen) (hbytes : (n + 1) * bytes ≤ 140737488355328) (hbase : base ≤ w.heap.size) (hcs : cs.length = size)
    (h : ∀ v' w', Row El size e base w' v' (l ++ [el]) → w.grownBy w' v.ownBlock → (∀ q, v.ownBlock = some q → base ≤ q) → K (a.put o.dst v') w') :
    if Region.wanted o (yielded ops a.tmps) = true then Oper.wp P o a w K Q else E := by
  obtain ⟨L, hL, hown, hA⟩ := hR
  refine step_append_row w hgd s x t ho base base2 e i z size bytes ht hi hz hsize hby hzs hsz v n L.flatten hs (by rw [← hn]; exact hown) x' 1 cs hx hxo h1 h63 hbytes hbase fun v' w' h2 h3 h4 => ?_
  exact h v' w' (push_row hL hA hn hE hcs h1 h2 h3 h4) h3 fun q hq => (own_lt hown hq).1
theorem infoStr : (Tryz.prog.info? 9).map (fun i => (i.zero.map (fun z => z.cells.size), i.size, i.bytes)) = some (some 1, 1, 16) := by kernel_rfl
theorem infoEnt : (Tryz.prog.info? 51).map (fun i => (i.zero.map (fun z => z.cells.size), i.size, i.bytes)) = some (some 5, 5, 72) := by kernel_rfl
theorem infoFd : (Tryz.prog.info? 49).map (fun i => (i.zero.map (fun z => z.cells.size), i.size, i.bytes)) = some (some 6, 6, 104) := by kernel_rfl
theorem grown_sd {S B : Nat} {W u w : World} {row : Option Nat} (h : Sd B W u) (hg : u.grownBy w row) (hr : ∀ q, row = some q → S ≤ q) (hS : W.heap.size ≤ S) : Sd B W w :=
  ⟨hg.os.trans h.os, hg.tape.trans h.tape, hg.output.trans h.output, Nat.le_trans h.size hg.size, fun k hk hB => (hg.block k (Nat.lt_of_lt_of_le hk h.size) (fun e => by have := hr k e.symm; omega)).trans (h.block k hk hB)⟩
theorem grown_heap {S k : Nat} {u w : World} {row : Option Nat} {x : Obj} (hg : u.grownBy w row) (hr : ∀ q, row = some q → S ≤ q) (hk : k < S) (h : u.heap[k]? = some x) : w.heap[k]? = some x :=
  (hg.block k (Rw.lt_of_heap h) (fun e => by have := hr k e.symm; omega)).trans h
theorem row_set {α : Type} {El : World → α → List Value → Prop} {sz S B j : Nat} {t : TypeId} {u : World} {v x : Value} {l : List α} (h : Row El sz t S u v l) (hB : B < S) : Row El sz t S (u.setCell ⟨B, j, none⟩ x) v l :=
  row_keep h (by simp) fun k h1 h2 => heap_setCell_other _ _ _ _ (show k ≠ B by omega)
end Go.Proofs.YtjaojenalodolaaGreatDoor.De
