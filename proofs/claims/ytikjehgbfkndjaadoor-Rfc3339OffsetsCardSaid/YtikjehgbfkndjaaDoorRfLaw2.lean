/- Chapter 3: the law on offsets. -/
import Derived.Test.YtikjehgbfkndjaaDoorRfLaw
import Derived.BigRegion
namespace Go.Proofs.YtikjehgbfkndjaaDoor.Rl
open Go Go.RowKit Go.Proofs.YtikjehgbfkndjaaDoor Go.Proofs.YtikjehgbfkndjaaDoor.Bs Go.Proofs.YtikjehgbfkndjaaDoor.Rp
set_option linter.unusedVariables false

theorem old_cell {w : World} {a : Addr} (o : Obj) (h : a.block < w.heap.size) : (w.alloc o).cell? a = w.cell? a := by
  unfold World.cell?
  rw [old_block w o a.block h]
/-- The three texts that the law reads, and what they stand for. -/
theorem texts (t : Int) (p q : Nat) (X P Q : ByteArray) (t3 : -62135596800 ≤ t) (t4 : t ≤ 253402300799) (p24 : p < 24) (q60 : q < 60) (hX : Rf.fmtL t = X.data.toList) (hP : Rf.dig 2 p = P.data.toList) (hQ : Rf.dig 2 q = Q.data.toList) (x1 : X.size ≤ 20) (zP : P.size ≤ 2) (zQ : Q.size ≤ 2) :
    ∃ Z A B C S1 S2 S3 : ByteArray, P ++ ⟨#[58]⟩ ++ Q = Z ∧ X.extract 0 19 = A ∧ X.extract 0 10 = B ∧ X.extract 11 19 = C ∧ A ++ ⟨#[43]⟩ ++ Z = S1 ∧ A ++ ⟨#[46, 50, 53, 45]⟩ ++ Z = S2 ∧ B ++ ⟨#[116]⟩ ++ C ++ ⟨#[46, 48, 122]⟩ = S3 ∧
      Z.size ≤ 5 ∧ A.size ≤ 20 ∧ B.size ≤ 20 ∧ C.size ≤ 20 ∧ S1.size ≤ 100 ∧ S2.size ≤ 100 ∧ S3.size ≤ 100 ∧
      Rf.rp S1.data.toList = Rf.rng (t - ((p : Int) * 3600 + (q : Int) * 60)) ∧ Rf.rp S2.data.toList = Rf.rng (t + ((p : Int) * 3600 + (q : Int) * 60)) ∧ Rf.rp S3.data.toList = Rf.rng t := by
  have hz : (P ++ ⟨#[58]⟩ ++ Q).data.toList = Rf.zone p q := by rw [toList_append, toList_append, ← hP, ← hQ]; rfl
  have h1 : (⟨#[58]⟩ : ByteArray).size = 1 := rfl
  have h2 : (⟨#[43]⟩ : ByteArray).size = 1 := rfl
  have h3 : (⟨#[46, 50, 53, 45]⟩ : ByteArray).size = 4 := rfl
  have h4 : (⟨#[116]⟩ : ByteArray).size = 1 := rfl
  have h5 : (⟨#[46, 48, 122]⟩ : ByteArray).size = 3 := rfl
  have eA : (X.extract 0 19).data.toList = Rf.fmt t 84 := by rw [take_ext, ← hX]; exact Rf.fmt_take t
  have sA : (X.extract 0 19).size ≤ X.size := by simp; omega
  have sB : (X.extract 0 10).size ≤ X.size := by simp; omega
  have sC : (X.extract 11 19).size ≤ X.size := by simp; omega
  refine ⟨_, _, _, _, _, _, _, rfl, rfl, rfl, rfl, rfl, rfl, rfl, ?_, by omega, by omega, by omega, ?_, ?_, ?_, ?_, ?_, ?_⟩
  · rw [ByteArray.size_append, ByteArray.size_append]; omega
  · simp only [ByteArray.size_append]; omega
  · simp only [ByteArray.size_append]; omega
  · simp only [ByteArray.size_append]; omega
  · rw [toList_append, toList_append, hz, eA, List.append_assoc]
    exact Rf.off_1 t p q t3 t4 p24 q60
  · rw [toList_append, toList_append, hz, eA, List.append_assoc]
    exact Rf.off_2 t p q t3 t4 p24 q60
  · rw [toList_append, toList_append, toList_append, take_ext, ext_list, ← hX, Rf.rng_in t t3 t4]
    have := Rf.off_3 t t3 t4
    rw [← Rf.fmt_116] at this
    simpa using this
set_option maxRecDepth 100000 in
set_option maxHeartbeats 4000000 in
theorem offsets_in (t h m : Int) (w : World) (hT : PowTab w) (t1 : -9223372036854775808 ≤ t) (t2 : t ≤ 9223372036854775807) (h1 : 0 ≤ h) (h2 : h ≤ 255) (m1 : 0 ≤ m) (m2 : m ≤ 255) (t3 : -62135596800 ≤ t) (t4 : t ≤ 253402300799) :
    Calls Tryd.prog 8 #[.int .i64 t, .int .u8 h, .int .u8 m] w fun e w' => e = .returned (.bool true) ∧ Below w.heap.size w w' := by
  have HT := Lib.hid hT
  have Kt1 := Lib.hid t1
  have Kt2 := Lib.hid t2
  clear hT t1 t2
  obtain ⟨X, hX, hXf, x1, x2, hXp⟩ := fv_in t t3 t4
  have HX := Lib.hid hX
  have g20 := len20 x1 x2
  obtain ⟨p, hp⟩ : ∃ p : Nat, h % 24 = p := ⟨(h % 24).toNat, by omega⟩
  obtain ⟨q, hq⟩ : ∃ q : Nat, m % 60 = q := ⟨(m % 60).toNat, by omega⟩
  have p24 : p < 24 := by omega
  have q60 : q < 60 := by omega
  obtain ⟨P, hP, zP⟩ := pad_ex 2 p
  obtain ⟨Q, hQ, zQ⟩ := pad_ex 2 q
  have HP := Lib.hid hP
  have HQ := Lib.hid hQ
  obtain ⟨Z, A, B, C, S1, S2, S3, eZ, eA, eB, eC, e1, e2, e3, sZ, sA, sB, sC, s1, s2, s3, r1, r2, r3⟩ := texts t p q X P Q t3 t4 p24 q60 hXf hP hQ x1 zP zQ
  obtain ⟨sh, hsh⟩ : ∃ sh : Int, (p : Int) * 3600 + (q : Int) * 60 = sh := ⟨_, rfl⟩
  have sh1 : 0 ≤ sh := by omega
  have sh2 : sh ≤ 86399 := by omega
  rw [hsh] at r1 r2
  have R1 := Lib.hid r1
  have R2 := Lib.hid r2
  have R3 := Lib.hid r3
  clear hX hXf hXp hP hQ r1 r2 r3
  go_enter Tryd.func8, Tryd.ntmps8
  go_wp2_with fail
  refine (fmt_ba t X 0 _ Kt1.out Kt2.out HT.out HX.out).mono ?_
  rintro e w1 ⟨rfl, hb⟩
  have HB1 := Lib.hid (hb)
  clear hb
  go_wp2_with fail
  refine (rpad_is p 2 _ _ rfl rfl P _ (by omega) (by decide) HP.out).mono ?_
  rintro e w2 ⟨rfl, hb⟩
  have HB2 := Lib.hid (below_trans HB1.out hb)
  clear hb
  go_wp2_with fail
  refine (rpad_is q 2 _ _ rfl rfl Q _ (by omega) (by decide) HQ.out).mono ?_
  rintro e w3 ⟨rfl, hb⟩
  have HB3 := Lib.hid (below_trans HB2.out hb)
  clear hb
  go_wp2_with fail
  have f1 : IntKind.i64.wrap (t - sh) = t - sh := IntWalk.i64_in _ (by omega)
  have f2 : IntKind.i64.wrap (t + sh) = t + sh := IntWalk.i64_in _ (by omega)
  go_region
  have HB4 := Lib.hid (show Below w.heap.size w ((w3.alloc (.cells #[.string S1, .int .i64 (t - sh), .string S2, .int .i64 (t + sh), .string S3, .int .i64 t] 40)).drew) from (HB3.out.alloc HB3.out.size _).drew)
  have HC4 := Lib.hid (show ∀ (i : Nat) (x : Value), ([.string S1, .int .i64 (t - sh), .string S2, .int .i64 (t + sh), .string S3, .int .i64 t] : List Value)[i]? = some x → ((w3.alloc (.cells #[.string S1, .int .i64 (t - sh), .string S2, .int .i64 (t + sh), .string S3, .int .i64 t] 40)).drew).cell? ⟨w3.heap.size, i, none⟩ = some x from fun i x hx => by
    have h2 := new_block w3 (.cells #[.string S1, .int .i64 (t - sh), .string S2, .int .i64 (t + sh), .string S3, .int .i64 t] 40)
    show World.cell? (w3.alloc _) _ = _
    unfold World.cell?
    simp only [h2]
    simpa using hx)
  have HZ4 := Lib.hid (show w3.heap.size < ((w3.alloc (.cells #[.string S1, .int .i64 (t - sh), .string S2, .int .i64 (t + sh), .string S3, .int .i64 t] 40)).drew).heap.size from by show _ < (World.alloc _ _).heap.size; rw [alloc_sz]; omega)
  generalize hw4 : (w3.alloc (.cells #[.string S1, .int .i64 (t - sh), .string S2, .int .i64 (t + sh), .string S3, .int .i64 t] 40)).drew = w4 at HB4 HC4 HZ4 ⊢
  obtain ⟨Bk, hBk⟩ : ∃ Bk : Nat, w3.heap.size = Bk := ⟨_, rfl⟩
  rw [hBk] at HC4 HZ4
  obtain ⟨wa, hwa⟩ : ∃ wa : Int, t - sh = wa := ⟨_, rfl⟩
  obtain ⟨wb, hwb⟩ : ∃ wb : Int, t + sh = wb := ⟨_, rfl⟩
  rw [hwa] at HC4
  rw [hwb] at HC4
  have RA := R1.out
  have RB := R2.out
  rw [hwa] at RA
  rw [hwb] at RB
  have HRA := Lib.hid RA
  have HRB := Lib.hid RB
  clear hw4 f1 f2 RA RB
  go_wp2_with fail
  clear hp hq hsh eZ eA eB eC e1 e2 e3 hwa hwb
  simp only [hBk]
  go_loopw [80] (fun c wr => ∃ j : Nat, j ≤ 3 ∧ c = .int .i64 j ∧ Bk < wr.heap.size ∧ Hid (∀ (i : Nat) (x : Value), ([.string S1, .int .i64 wa, .string S2, .int .i64 wb, .string S3, .int .i64 t] : List Value)[i]? = some x → wr.cell? ⟨Bk, i, none⟩ = some x) ∧ Hid (Below w.heap.size w wr)) (fun c _ => (3 - intOf c).toNat)
  case atStart => exact ⟨0, by omega, rfl, HZ4.out, HC4.out, HB4.out⟩
  case round =>
    obtain ⟨j, hj, rfl, hz, HC, HB⟩ := hrel
    have js : j = 0 ∨ j = 1 ∨ j = 2 ∨ j = 3 := by omega
    rcases js with rfl | rfl | rfl | rfl
    · have k0 := HC.out 0 _ rfl
      have k1 := HC.out 1 _ rfl
      have cs0 : True := trivial
      have cs : (wa < -62135596800 ∨ (-62135596800 ≤ wa ∧ 253402300799 < wa)) ∨ (-62135596800 ≤ wa ∧ wa ≤ 253402300799) := by omega
      rcases cs with cs | ⟨cs, cs'⟩
      · have HR := Lib.hid (show Rf.rp S1.data.toList = (0, 3) by rw [HRA.out]; unfold Rf.rng; rw [if_pos (by omega)])
        rcases cs with cs | ⟨cs, cs'⟩
        all_goals
          go_wp2_with fail
          refine (parse_any S1 _ (by omega) 0 3 HR.out).mono ?_
          rintro e w5 ⟨rfl, hb⟩
          have c1 : w5.cell? ⟨wr.heap.size, 1, none⟩ = some (.int .i64 wa) := by rw [hb.cell (by rw [alloc_sz]; exact Nat.lt_succ_self _), World.cell?, new_block]; rfl
          have HB5 := Lib.hid (below_at (HB.out.alloc HB.out.size _) (by rw [alloc_sz]; have := HB.out.size; omega) hb)
          have HC5 := Lib.hid (fun i x hx => by rw [hb.cell (p := ⟨Bk, i, none⟩) (by rw [alloc_sz]; show Bk < _; omega), old_cell _ (by show Bk < _; omega)]; exact HC.out i x hx : ∀ (i : Nat) (x : Value), ([.string S1, .int .i64 wa, .string S2, .int .i64 wb, .string S3, .int .i64 t] : List Value)[i]? = some x → w5.cell? ⟨Bk, i, none⟩ = some x)
          have hz5 : Bk < w5.heap.size := by have := hb.size; rw [alloc_sz] at this; omega
          clear hb k0 k1
          go_wp2_with fail
          go_roundw
          case rel => exact ⟨1, by omega, rfl, hz5, HC5.out, HB5.out⟩
          case measure => simp [intOf]
      · have HR := Lib.hid (show Rf.rp S1.data.toList = (wa, 0) by rw [HRA.out]; unfold Rf.rng; rw [if_neg (by omega)])
        go_wp2_with fail
        refine (parse_any S1 _ (by omega) wa 0 HR.out).mono ?_
        rintro e w5 ⟨rfl, hb⟩
        have c1 : w5.cell? ⟨wr.heap.size, 1, none⟩ = some (.int .i64 wa) := by rw [hb.cell (by rw [alloc_sz]; exact Nat.lt_succ_self _), World.cell?, new_block]; rfl
        have HB5 := Lib.hid (below_at (HB.out.alloc HB.out.size _) (by rw [alloc_sz]; have := HB.out.size; omega) hb)
        have HC5 := Lib.hid (fun i x hx => by rw [hb.cell (p := ⟨Bk, i, none⟩) (by rw [alloc_sz]; show Bk < _; omega), old_cell _ (by show Bk < _; omega)]; exact HC.out i x hx : ∀ (i : Nat) (x : Value), ([.string S1, .int .i64 wa, .string S2, .int .i64 wb, .string S3, .int .i64 t] : List Value)[i]? = some x → w5.cell? ⟨Bk, i, none⟩ = some x)
        have hz5 : Bk < w5.heap.size := by have := hb.size; rw [alloc_sz] at this; omega
        clear hb k0 k1
        go_wp2_with fail
        go_roundw
        case rel => exact ⟨1, by omega, rfl, hz5, HC5.out, HB5.out⟩
        case measure => simp [intOf]
    · have k0 := HC.out 2 _ rfl
      have k1 := HC.out 3 _ rfl
      have cs0 : True := trivial
      have cs : (wb < -62135596800 ∨ (-62135596800 ≤ wb ∧ 253402300799 < wb)) ∨ (-62135596800 ≤ wb ∧ wb ≤ 253402300799) := by omega
      rcases cs with cs | ⟨cs, cs'⟩
      · have HR := Lib.hid (show Rf.rp S2.data.toList = (0, 3) by rw [HRB.out]; unfold Rf.rng; rw [if_pos (by omega)])
        rcases cs with cs | ⟨cs, cs'⟩
        all_goals
          go_wp2_with fail
          refine (parse_any S2 _ (by omega) 0 3 HR.out).mono ?_
          rintro e w5 ⟨rfl, hb⟩
          have c1 : w5.cell? ⟨wr.heap.size, 1, none⟩ = some (.int .i64 wb) := by rw [hb.cell (by rw [alloc_sz]; exact Nat.lt_succ_self _), World.cell?, new_block]; rfl
          have HB5 := Lib.hid (below_at (HB.out.alloc HB.out.size _) (by rw [alloc_sz]; have := HB.out.size; omega) hb)
          have HC5 := Lib.hid (fun i x hx => by rw [hb.cell (p := ⟨Bk, i, none⟩) (by rw [alloc_sz]; show Bk < _; omega), old_cell _ (by show Bk < _; omega)]; exact HC.out i x hx : ∀ (i : Nat) (x : Value), ([.string S1, .int .i64 wa, .string S2, .int .i64 wb, .string S3, .int .i64 t] : List Value)[i]? = some x → w5.cell? ⟨Bk, i, none⟩ = some x)
          have hz5 : Bk < w5.heap.size := by have := hb.size; rw [alloc_sz] at this; omega
          clear hb k0 k1
          go_wp2_with fail
          go_roundw
          case rel => exact ⟨2, by omega, rfl, hz5, HC5.out, HB5.out⟩
          case measure => simp [intOf]
      · have HR := Lib.hid (show Rf.rp S2.data.toList = (wb, 0) by rw [HRB.out]; unfold Rf.rng; rw [if_neg (by omega)])
        go_wp2_with fail
        refine (parse_any S2 _ (by omega) wb 0 HR.out).mono ?_
        rintro e w5 ⟨rfl, hb⟩
        have c1 : w5.cell? ⟨wr.heap.size, 1, none⟩ = some (.int .i64 wb) := by rw [hb.cell (by rw [alloc_sz]; exact Nat.lt_succ_self _), World.cell?, new_block]; rfl
        have HB5 := Lib.hid (below_at (HB.out.alloc HB.out.size _) (by rw [alloc_sz]; have := HB.out.size; omega) hb)
        have HC5 := Lib.hid (fun i x hx => by rw [hb.cell (p := ⟨Bk, i, none⟩) (by rw [alloc_sz]; show Bk < _; omega), old_cell _ (by show Bk < _; omega)]; exact HC.out i x hx : ∀ (i : Nat) (x : Value), ([.string S1, .int .i64 wa, .string S2, .int .i64 wb, .string S3, .int .i64 t] : List Value)[i]? = some x → w5.cell? ⟨Bk, i, none⟩ = some x)
        have hz5 : Bk < w5.heap.size := by have := hb.size; rw [alloc_sz] at this; omega
        clear hb k0 k1
        go_wp2_with fail
        go_roundw
        case rel => exact ⟨2, by omega, rfl, hz5, HC5.out, HB5.out⟩
        case measure => simp [intOf]
    · have k0 := HC.out 4 _ rfl
      have k1 := HC.out 5 _ rfl
      have HR := Lib.hid (show Rf.rp S3.data.toList = (t, 0) by rw [R3.out]; unfold Rf.rng; rw [if_neg (by omega)])
      go_wp2_with fail
      refine (parse_any S3 _ (by omega) t 0 HR.out).mono ?_
      rintro e w5 ⟨rfl, hb⟩
      have c1 : w5.cell? ⟨wr.heap.size, 1, none⟩ = some (.int .i64 t) := by rw [hb.cell (by rw [alloc_sz]; exact Nat.lt_succ_self _), World.cell?, new_block]; rfl
      have HB5 := Lib.hid (below_at (HB.out.alloc HB.out.size _) (by rw [alloc_sz]; have := HB.out.size; omega) hb)
      have HC5 := Lib.hid (fun i x hx => by rw [hb.cell (p := ⟨Bk, i, none⟩) (by rw [alloc_sz]; show Bk < _; omega), old_cell _ (by show Bk < _; omega)]; exact HC.out i x hx : ∀ (i : Nat) (x : Value), ([.string S1, .int .i64 wa, .string S2, .int .i64 wb, .string S3, .int .i64 t] : List Value)[i]? = some x → w5.cell? ⟨Bk, i, none⟩ = some x)
      have hz5 : Bk < w5.heap.size := by have := hb.size; rw [alloc_sz] at this; omega
      clear hb k0 k1
      go_wp2_with fail
      go_roundw
      case rel => exact ⟨3, by omega, rfl, hz5, HC5.out, HB5.out⟩
      case measure => simp [intOf]
    · go_wp2_with fail
      refine (alive03 _ (HT.out.below HB.out)).mono ?_
      rintro e w5 ⟨rfl, hb⟩
      have HB5 := Lib.hid (below_trans HB.out hb)
      clear hb
      go_wp2_with fail
      go_ret
      exact ⟨rfl, HB5.out⟩
set_option maxRecDepth 100000 in
set_option maxHeartbeats 2000000 in
theorem law_offsets (t h m : Int) (w : World) (t1 : -9223372036854775808 ≤ t) (t2 : t ≤ 9223372036854775807) (h1 : 0 ≤ h) (h2 : h ≤ 255) (m1 : 0 ≤ m) (m2 : m ≤ 255) (hT : PowTab w) :
    Calls Tryd.prog 8 #[.int .i64 t, .int .u8 h, .int .u8 m] w fun e w' => e = .returned (.bool true) ∧ Below w.heap.size w w' := by
  by_cases ct : -62135596800 ≤ t ∧ t ≤ 253402300799
  · exact offsets_in t h m w hT t1 t2 h1 h2 m1 m2 ct.1 ct.2
  · have HX := Lib.hid (fv_out t (by omega))
    have Kt1 := Lib.hid t1
    have Kt2 := Lib.hid t2
    have HT := Lib.hid hT
    clear hT t1 t2 ct
    go_enter Tryd.func8, Tryd.ntmps8
    go_wp2_with fail
    refine (fmt_ba t ⟨#[]⟩ 3 _ Kt1.out Kt2.out HT.out HX.out).mono ?_
    rintro e w1 ⟨rfl, hb⟩
    have HB1 := Lib.hid (hb)
    clear hb
    go_wp2_with fail
    refine (alive03 _ (HT.out.below HB1.out)).mono ?_
    rintro e w2 ⟨rfl, hb⟩
    have HB2 := Lib.hid (below_trans HB1.out hb)
    clear hb
    go_wp2_with fail
    go_ret
    exact ⟨rfl, HB2.out⟩
end Go.Proofs.YtikjehgbfkndjaaDoor.Rl
