/- Parts of this proof, joined: JsW1, JsW2, JsW3, JsW4, JsW5, JsW6, JsW7, JsW8, JsW9, JsW10, JsW11, JsC. -/
import Derived.Test.YtjaojenalodolaaGreatDoorKB
import Derived.Test.YtjaojenalodolaaGreatDoorKA
import Derived.Deep.QuietTactic
import Derived.BigQuiet
import Derived.StillTailTactics
import Derived.Deep.AppendLies
import Derived.Deep.RegionLaw
import Derived.Lib.ConvBytes
import Derived.Laws.BitsLemmas
import Derived.Test.YtjaojenalodolaaGreatDoorShelf2
import Derived.WalkMore
namespace Go.Proofs.YtjaojenalodolaaGreatDoor.Jw
open Go Go.RowKit Go.Proofs.YtjaojenalodolaaGreatDoor Go.Proofs.YtjaojenalodolaaGreatDoor.Tx
theorem below_drewN {B : Nat} {a w : World} (h : Below B a w) (n : Nat) : Below B a (w.drewN n) := ⟨h.os, h.tape, h.output, h.size, h.block⟩
theorem alloc_sz (w : World) (o : Obj) : (w.alloc o).heap.size = w.heap.size + 1 := by show (w.heap.push o).size = _; exact Array.size_push _
def letTab : List Int := [98, 8, 102, 12, 110, 10, 114, 13, 116, 9]
def letArr : Array Value := (letTab.map fun z => Value.int .u8 z).toArray
def lC (i : Nat) : Int := letTab.getD (2 * i) 0
def lB (i : Nat) : Int := letTab.getD (2 * i + 1) 0
def LetTab (w : World) : Prop := ∃ t fr, w.heap[6]? = some (.cells letArr t fr)
theorem LetTab.below {w w' : World} (h : LetTab w) (hb : Below w.heap.size w w') : LetTab w' := by
  obtain ⟨t, fr, h1⟩ := h
  exact ⟨t, fr, heap_below hb h1⟩
theorem idx_let (i : Nat) (h : i < 5) (w : World) : (Instr.index 272 (.agg letArr) (.int .i64 i)).run Tryz.prog w = .ok (.agg #[.int .u8 (lC i), .int .u8 (lB i)]) w := by
  have e : i = 0 ∨ i = 1 ∨ i = 2 ∨ i = 3 ∨ i = 4 := by omega
  rcases e with rfl | rfl | rfl | rfl | rfl
  all_goals
    clear h
    change _ = _
    kernel_rfl
theorem esc_in (c : UInt8) (i : Nat) (h : i < 5) (h1 : lB i = c.toNat) : strOfNums [92, lC i] = ⟨(Js.esc c).toArray⟩ := by
  have e : i = 0 ∨ i = 1 ∨ i = 2 ∨ i = 3 ∨ i = 4 := by omega
  have u : ∀ n : Nat, (n : Int) = (c.toNat : Int) → n < 256 → c = UInt8.ofNat n := fun n hn _ => by
    apply UInt8.toNat_inj.1
    simp; omega
  rcases e with rfl | rfl | rfl | rfl | rfl
  · rw [u 8 h1 (by decide)]; rfl
  · rw [u 12 h1 (by decide)]; rfl
  · rw [u 10 h1 (by decide)]; rfl
  · rw [u 13 h1 (by decide)]; rfl
  · rw [u 9 h1 (by decide)]; rfl
def NoL (r : Int) (k : Nat) : Prop := ∀ i, i < k → lB i ≠ r
def lowS (n : Nat) : ByteArray := ⟨#[92, 117, 48, 48, Js.hexd (n / 16), Js.hexd (n % 16)]⟩
theorem esc_out (c : UInt8) (h : c.toNat < 32) (hn : NoL c.toNat 5) : (lowS c.toNat) = ⟨(Js.esc c).toArray⟩ := by
  have u : ∀ n : Nat, c = UInt8.ofNat n → n < 256 → (n : Int) = (c.toNat : Int) := fun n hn _ => by
    subst hn; simp; omega
  unfold Js.esc lowS
  have a8 : c ≠ 8 := fun e => hn 0 (by decide) (u 8 e (by decide))
  have a12 : c ≠ 12 := fun e => hn 1 (by decide) (u 12 e (by decide))
  have a10 : c ≠ 10 := fun e => hn 2 (by decide) (u 10 e (by decide))
  have a13 : c ≠ 13 := fun e => hn 3 (by decide) (u 13 e (by decide))
  have a9 : c ≠ 9 := fun e => hn 4 (by decide) (u 9 e (by decide))
  have a34 : c ≠ 34 := fun e => by subst e; revert h; decide
  have a92 : c ≠ 92 := fun e => by subst e; revert h; decide
  rw [if_neg (by simp [a34, a92]), if_neg (by omega), if_neg a8, if_neg a12, if_neg a10, if_neg a13, if_neg a9]
def digs : ByteArray := ⟨#[48, 49, 50, 51, 52, 53, 54, 55, 56, 57, 97, 98, 99, 100, 101, 102]⟩
theorem low_cat (n : Nat) (h : n < 32) : (⟨#[92, 117, 48, 48]⟩ : ByteArray) ++ digs.extract (n / 16) (n / 16 + 1) ++ digs.extract (n % 16) (n % 16 + 1) = lowS n := by
  have : ∀ m : Fin 32, (⟨#[92, 117, 48, 48]⟩ : ByteArray) ++ digs.extract (m.val / 16) (m.val / 16 + 1) ++ digs.extract (m.val % 16) (m.val % 16 + 1) = lowS m.val := by decide +kernel
  exact this ⟨n, h⟩
set_option maxRecDepth 100000 in
set_option maxHeartbeats 1000000 in
theorem escape_any (c : UInt8) (w : World) (hL : LetTab w) :
    Calls Tryz.prog 193 #[.int .u8 c.toNat] w fun e w' => e = .returned (.string ⟨(Js.esc c).toArray⟩) ∧ Below w.heap.size w w' := by
  have B0 := UInt8.toNat_lt c
  by_cases h1 : c.toNat = 34 ∨ c.toNat = 92
  · have HE := Lib.hid (show strOfNums [92, (c.toNat : Int)] = ⟨(Js.esc c).toArray⟩ by
      have : c = 34 ∨ c = 92 := h1.imp (fun e => UInt8.toNat_inj.1 e) (fun e => UInt8.toNat_inj.1 e)
      rcases this with rfl | rfl <;> rfl)
    have hcv : (convert 74 9 (.slice (some ⟨w.heap.size, 0, none⟩) 2 2)).run Tryz.prog (w.alloc (.cells #[.int .u8 92, .int .u8 (c.toNat : Int)] 5)) = _ := conv_new w [92, c.toNat] 2 rfl
    obtain ⟨x, hx⟩ : ∃ x : Int, x = (c.toNat : Int) := ⟨_, rfl⟩
    rw [← hx] at hcv HE ⊢
    have h1' : x = 34 ∨ x = 92 := by omega
    clear h1
    rcases h1' with e | e
    all_goals
      rw [e] at hcv HE ⊢
      clear e hx B0
      go_enter Tryz.func193, Tryz.ntmps193
      go_wp2
      go_ret
      exact ⟨ret_str HE.out, (Below.refl _ _).alloc (Nat.le_refl _) _⟩
  · by_cases h2 : 32 ≤ c.toNat
    · have HE := Lib.hid (show Js.esc c = [] by
        unfold Js.esc
        rw [if_neg (by rintro (e | e) <;> subst e <;> simp at h1), if_pos h2])
      obtain ⟨x, hx⟩ : ∃ x : Int, x = (c.toNat : Int) := ⟨_, rfl⟩
      rw [← hx]
      have g1 : (x == 34) = false := by simp; omega
      have g2 : (x == 92) = false := by simp; omega
      have g3 : decide ((32 : Int) ≤ x) = true := by simp; omega
      clear h1 h2 hx
      go_enter Tryz.func193, Tryz.ntmps193
      go_wp2
      go_ret
      exact ⟨ret_str (by rw [HE.out]), Below.refl _ _⟩
    · obtain ⟨t, fr, hst⟩ := hL
      have HIN := Lib.hid (esc_in c)
      have HOUT := Lib.hid (esc_out c (by omega))
      have HCAT := Lib.hid (low_cat c.toNat (by omega))
      obtain ⟨n, hn⟩ : ∃ n : Nat, n = c.toNat := ⟨_, rfl⟩
      rw [← hn] at HIN HOUT HCAT h1 h2 ⊢
      have hN : n < 32 := by omega
      have g1 : ((n : Int) == 34) = false := by simp; omega
      have g2 : ((n : Int) == 92) = false := by simp; omega
      have g3 : decide ((32 : Int) ≤ (n : Int)) = false := by simp; omega
      clear h1 h2 hn B0
      go_enter Tryz.func193, Tryz.ntmps193
      go_wp2_with (refine wpList_load_row rfl 272 _ rfl 6 rfl t letArr fr _ hst Tryz.underlying272 rfl (by kernel_rfl) ?_)
      clear hst g1 g2 g3
      go_loopw [17] (fun i wr => ∃ k : Nat, k ≤ 5 ∧ i = .int .i64 k ∧ NoL n k ∧ Below w.heap.size w wr) (fun i _ => (5 - intOf i).toNat)
      case atStart => exact ⟨0, by omega, rfl, fun i hi => absurd hi (by omega), Below.refl _ _⟩
      case round =>
        obtain ⟨k, hk, rfl, hno, hb⟩ := hrel
        have HN := Lib.hid hno
        have HB := Lib.hid hb
        have hz := hb.size
        clear hno hb
        by_cases hlt : k < 5
        · have hix := idx_let k hlt
          by_cases c1 : lB k = n
          · have H := Lib.hid (HIN.out k hlt c1)
            have HC1 := Lib.hid c1
            have g1 : (lB k == (n : Int)) = true := by simp [c1]
            clear c1
            have hcv : (convert 74 9 (.slice (some ⟨wr.heap.size + 1, 0, none⟩) 2 2)).run Tryz.prog ((wr.alloc (.cells #[.int .u8 (lC k), .int .u8 (lB k)] 271)).alloc (.cells #[.int .u8 92, .int .u8 (lC k)] 5)) = .ok (.string (strOfNums [92, lC k])) ((wr.alloc (.cells #[.int .u8 (lC k), .int .u8 (lB k)] 271)).alloc (.cells #[.int .u8 92, .int .u8 (lC k)] 5)) := by
              rw [← alloc_sz wr (.cells #[.int .u8 (lC k), .int .u8 (lB k)] 271)]
              exact conv_new _ [92, lC k] 2 rfl
            go_wp2
            go_ret
            exact ⟨ret_str H.out, (HB.out.alloc hz _).alloc (by rw [alloc_sz]; omega) _⟩
          · have g1 : (lB k == (n : Int)) = false := by simp [c1]
            have HC1 := Lib.hid c1
            clear c1
            go_wp2
            go_roundw
            case rel => exact ⟨k + 1, by omega, by go_num, fun i hi => by
              by_cases e : i = k
              · subst e; exact HC1.out
              · exact HN.out i (by omega), (HB.out).alloc hz _⟩
            case measure => simp [intOf]; omega
        · obtain rfl : k = 5 := by omega
          have H := Lib.hid (HOUT.out HN.out)
          go_wp2_with fail
          go_quiet (fail)
          go_wp2
          go_ret
          exact ⟨ret_str (HCAT.out.trans H.out), below_drewN HB.out nq⟩
end Go.Proofs.YtjaojenalodolaaGreatDoor.Jw
namespace Go.Proofs.YtjaojenalodolaaGreatDoor.Jw
open Go Go.RowKit Go.Proofs.YtjaojenalodolaaGreatDoor Go.Proofs.YtjaojenalodolaaGreatDoor.Tx
theorem ret_strerr {a b : ByteArray} {k : IntKind} {x y : Int} (h : a = b) (g : x = y) : Ending.returned (.tuple #[.string a, .int k x]) = .returned (.tuple #[.string b, .int k y]) := by rw [h, g]
theorem escape_none (c : UInt8) (w : World) (hL : LetTab w) (h : Js.esc c = []) :
    Calls Tryz.prog 193 #[.int .u8 c.toNat] w fun e w' => e = .returned (.string ⟨#[]⟩) ∧ Below w.heap.size w w' := by
  have := escape_any c w hL
  rw [h] at this
  exact this
theorem escape_some (c : UInt8) (x : ByteArray) (w : World) (hL : LetTab w) (h : (⟨(Js.esc c).toArray⟩ : ByteArray) = x) :
    Calls Tryz.prog 193 #[.int .u8 c.toNat] w fun e w' => e = .returned (.string x) ∧ Below w.heap.size w w' := by
  have := escape_any c w hL
  rw [h] at this
  exact this
theorem valid_is (s : ByteArray) (b : Bool) (w : World) (hs : s.size ≤ 9223372036854775807) (hT : Lib.Utf8Tabs 2 3 w) (h : Lib.validD s.data.toList = b) :
    Calls Tryz.prog 164 #[.string s] w fun e w' => e = .returned (.bool b) ∧ Below w.heap.size w w' := by
  rw [← h]; exact Tryz.utf8_ValidString s w hs hT
theorem body_plain (l m : List UInt8) (h : ∀ c ∈ m, Js.esc c = []) : Js.body (l ++ m) = Js.body l ++ m := by
  rw [Js.body_append]
  congr 1
  induction m with
  | nil => rfl
  | cons c m ih =>
    rw [Js.body_cons, ih (fun d hd => h d (by simp [hd]))]
    unfold Js.q
    rw [if_pos (h c (by simp))]; rfl
theorem list_ext_take (s : ByteArray) (f k : Nat) (h : f ≤ k) : s.data.toList.take k = s.data.toList.take f ++ (s.extract f k).data.toList := by
  have : (s.extract f k).data.toList = (s.data.toList.drop f).take (k - f) := by
    simp [ByteArray.data_extract, List.extract_eq_take_drop]
  rw [this]
  have e : k = f + (k - f) := by omega
  rw [e, List.take_add]
  congr 2
  omega
theorem body_step (s : ByteArray) (f k : Nat) (x : ByteArray) (h : f ≤ k) (hk : k < s.size) (hp : ∀ c ∈ (s.extract f k).data.toList, Js.esc c = []) (hx : (⟨(Js.esc s[k]).toArray⟩ : ByteArray) = x) (hne : Js.esc s[k] ≠ []) :
    Lib.byteCells (34 :: Js.body (s.data.toList.take f)) ++ Lib.strCells (s.extract f k ++ x) = Lib.byteCells (34 :: Js.body (s.data.toList.take (k + 1))) := by
  rw [take_snoc s k hk, list_ext_take s f k h, Js.body_append, body_plain _ _ hp, ← hx]
  have : Js.body [s[k]] = Js.esc s[k] := by
    rw [Js.body_cons, Js.body_nil]; unfold Js.q; rw [if_neg hne]; simp
  rw [this]
  simp [Lib.byteCells, Lib.strCells, ByteArray.data_append]
theorem body_end (s : ByteArray) (f : Nat) (h : f ≤ s.size) (hp : ∀ c ∈ (s.extract f s.size).data.toList, Js.esc c = []) :
    Lib.byteCells (34 :: Js.body (s.data.toList.take f)) ++ Lib.strCells (s.extract f s.size ++ ⟨#[34]⟩) = Lib.byteCells (Js.quote s.data.toList) := by
  have e : s.data.toList = s.data.toList.take f ++ (s.extract f s.size).data.toList := by
    have := list_ext_take s f s.size h
    rwa [List.take_of_length_le (by simp)] at this
  unfold Js.quote
  conv => rhs; rw [e, body_plain _ _ hp]
  simp [Lib.byteCells, Lib.strCells, ByteArray.data_append]
theorem plain_snoc (s : ByteArray) (f k : Nat) (h : f ≤ k) (hk : k < s.size) (hp : ∀ c ∈ (s.extract f k).data.toList, Js.esc c = []) (he : Js.esc s[k] = []) : ∀ c ∈ (s.extract f (k + 1)).data.toList, Js.esc c = [] := by
  intro c hc
  have e : ∀ n, (s.extract f n).data.toList = (s.data.toList.drop f).take (n - f) := fun n => by simp [ByteArray.data_extract, List.extract_eq_take_drop]
  rw [e] at hc hp
  rw [show k + 1 - f = (k - f) + 1 by omega, List.take_succ_eq_append_getElem (by simp; omega), List.mem_append] at hc
  rcases hc with hc | hc
  · exact hp c hc
  · simp only [List.mem_singleton, List.getElem_drop] at hc
    have : c = s[k] := by
      rw [hc]
      have : f + (k - f) = k := by omega
      simp only [this]; rfl
    rw [this]; exact he
set_option maxHeartbeats 1000000 in
theorem quote_bad (s : ByteArray) (w : World) (hs : s.size ≤ 1000000000) (hT : Lib.Utf8Tabs 2 3 w) (hv : Lib.validD s.data.toList = false) :
    Calls Tryz.prog 167 #[.string s] w fun e w' => e = .returned (.tuple #[.string ⟨#[]⟩, .int .i64 5]) ∧ Below w.heap.size w w' := by
  have HT := Lib.hid hT
  have HV := Lib.hid hv
  clear hT hv
  go_enter Tryz.func167, Tryz.ntmps167
  go_wp2_with fail
  refine (valid_is s false _ (by omega) HT.out HV.out).mono ?_
  rintro e w1 ⟨rfl, hb⟩
  have HB := Lib.hid hb
  clear hb
  go_wp2_with fail
  go_ret2
  exact ⟨rfl, HB.out⟩
set_option maxRecDepth 100000 in
set_option maxHeartbeats 4000000 in
theorem quote_any (s : ByteArray) (w : World) (hs : s.size ≤ 1000000000) (hT : Lib.Utf8Tabs 2 3 w) (hL : LetTab w) (hv : Lib.validD s.data.toList = true) :
    Calls Tryz.prog 167 #[.string s] w fun e w' => e = .returned (.tuple #[.string ⟨(Js.quote s.data.toList).toArray⟩, .int .i64 0]) ∧ Below w.heap.size w w' := by
  have HT := Lib.hid hT
  have HL := Lib.hid hL
  have HV := Lib.hid hv
  clear hT hL hv
  go_enter Tryz.func167, Tryz.ntmps167
  go_wp2_with fail
  refine (valid_is s true _ (by omega) HT.out HV.out).mono ?_
  rintro e w0 ⟨rfl, hb⟩
  have HB0 := Lib.hid hb
  have hz0 := hb.size
  clear hb
  go_wp2_with fail
  refine (Bld.writeByte w0.heap.size w0.heap.size [] 34 _ (Lib.fresh_isBuilder Bld.TB Bld.TU w0) (by simp) (by rw [alloc_sz]; omega)).mono ?_
  rintro e w1 ⟨rfl, hI1, hb1⟩
  have HI1 := Lib.hid (show Lib.IsBuilder Bld.TB Bld.TU w0.heap.size w0.heap.size (Lib.byteCells (34 :: Js.body (s.data.toList.take 0))) w1 from hI1)
  have HB1 := Lib.hid (((Below.refl w0.heap.size w0).alloc (Nat.le_refl _) _).trans hb1)
  clear hI1 hb1
  go_wp2_with fail
  go_loopw [5, 14] (fun g i wr => ∃ k f : Nat, k ≤ s.size ∧ f ≤ k ∧ i = .int .i64 k ∧ g = .int .i64 f ∧ Hid (∀ c ∈ (s.extract f k).data.toList, Js.esc c = []) ∧ Hid (Lib.IsBuilder Bld.TB Bld.TU w0.heap.size w0.heap.size (Lib.byteCells (34 :: Js.body (s.data.toList.take f))) wr) ∧ Hid (Below w0.heap.size w0 wr)) (fun _ i _ => s.size - (intOf i).toNat)
  case atStart => exact ⟨0, 0, Nat.zero_le _, Nat.le_refl _, rfl, rfl, by intro c hc; simp at hc, HI1.out, HB1.out⟩
  case round =>
    obtain ⟨k, f, hk, hf, rfl, rfl, HP, HI, HB⟩ := hrel
    have hz := HB.out.size
    have HLEN := Lib.hid (show (Lib.byteCells (34 :: Js.body (s.data.toList.take f))).length ≤ 6 * f + 1 by
      have := (Js.body_len (s.data.toList.take f)).2
      have h2 : (s.data.toList.take f).length ≤ f := List.length_take_le _ _
      rw [Lib.byteCells_length, List.length_cons]; omega)
    have HBW := Lib.hid (below_trans HB0.out HB.out)
    by_cases hlt : k < s.size
    · have B0 := UInt8.toNat_lt s[k]
      by_cases he : Js.esc s[k] = []
      · have HN := Lib.hid (plain_snoc s f k hf hlt HP.out he)
        have HE := Lib.hid he
        clear he
        go_wp2_with fail
        refine (escape_none _ _ (HL.out.below HBW.out) HE.out).mono ?_
        rintro e w2 ⟨rfl, hb⟩
        have HB2 := Lib.hid (below_trans HB.out hb)
        have HI2 := Lib.hid (Bld.is_below HI.out hb)
        clear hb
        go_wp2_with fail
        go_roundw
        case rel => exact ⟨k + 1, f, by omega, by omega, by go_num, rfl, HN.out, HI2.out, HB2.out⟩
        case measure => simp [intOf]; omega
      · obtain ⟨x, hx⟩ : ∃ x : ByteArray, (⟨(Js.esc s[k]).toArray⟩ : ByteArray) = x := ⟨_, rfl⟩
        have hx1 : x.size ≤ 6 := by rw [← hx]; exact Js.esc_len _
        have hx2 : x.toList.isEmpty = false := by
          rw [Lib.toList_data, ← hx]
          simpa using he
        have HN := Lib.hid (body_step s f k x hf hlt HP.out hx he)
        have HX := Lib.hid hx
        clear he hx
        go_wp2_with fail
        refine (escape_some _ x _ (HL.out.below HBW.out) HX.out).mono ?_
        rintro e w2 ⟨rfl, hb⟩
        have HB2 := Lib.hid (below_trans HB.out hb)
        have HI2 := Lib.hid (Bld.is_below HI.out hb)
        have hz2 := HB2.out.size
        clear hb
        have hes : (s.extract f k).size ≤ s.size := by simp; omega
        go_wp2_with fail
        refine (Bld.writeString w0.heap.size w0.heap.size (Lib.byteCells (34 :: Js.body (s.data.toList.take f))) _ _ HI2.out (by have := HLEN.out; rw [ByteArray.size_append]; omega) hz2).mono ?_
        rintro e w3 ⟨rfl, hI3, hb3⟩
        rw [HN.out] at hI3
        have HI3 := Lib.hid hI3
        have HB3 := Lib.hid (HB2.out.trans hb3)
        clear hI3 hb3
        go_wp2_with fail
        go_roundw
        case rel => exact ⟨k + 1, k + 1, by omega, by omega, by go_num, by go_num, by intro c hc; simp at hc, HI3.out, HB3.out⟩
        case measure => simp [intOf]; omega
    · obtain rfl : k = s.size := by omega
      have HN := Lib.hid (body_end s f hf HP.out)
      have hes : (s.extract f s.size).size ≤ s.size := by simp
      go_wp2_with fail
      refine (Bld.writeString w0.heap.size w0.heap.size (Lib.byteCells (34 :: Js.body (s.data.toList.take f))) _ _ HI.out (by have := HLEN.out; rw [ByteArray.size_append]; have : (⟨#[34]⟩ : ByteArray).size = 1 := rfl; omega) hz).mono ?_
      rintro e w3 ⟨rfl, hI3, hb3⟩
      rw [HN.out] at hI3
      have HI3 := Lib.hid hI3
      have HB3 := Lib.hid (HB.out.trans hb3)
      have hz3 := HB3.out.size
      clear hI3 hb3
      go_wp2_with fail
      refine (Tryz.Builder_String_any w0.heap.size w0.heap.size (Js.quote s.data.toList) _ HI3.out hz3).mono ?_
      rintro e w4 ⟨rfl, hb4⟩
      have HB4 := Lib.hid (below_trans HB0.out (HB3.out.trans hb4))
      clear hb4
      go_wp2_with fail
      go_ret2
      exact ⟨rfl, HB4.out⟩
end Go.Proofs.YtjaojenalodolaaGreatDoor.Jw
namespace Go.Proofs.YtjaojenalodolaaGreatDoor.Jw
open Go Go.RowKit Go.Proofs.YtjaojenalodolaaGreatDoor Go.Proofs.YtjaojenalodolaaGreatDoor.Tx
def lettN (c : UInt8) : UInt8 := if c = 34 ∨ c = 92 then c else if c = 8 then 98 else if c = 9 then 116 else if c = 10 then 110 else if c = 12 then 102 else if c = 13 then 114 else 0
set_option maxHeartbeats 1000000 in
theorem letter_any (c : UInt8) (w : World) :
    Calls Tryz.prog 149 #[.int .u8 c.toNat] w fun e w' => e = .returned (.int .u8 (lettN c).toNat) ∧ w' = w := by
  by_cases h : c = 34 ∨ c = 92 ∨ c = 8 ∨ c = 9 ∨ c = 10 ∨ c = 12 ∨ c = 13
  · rcases h with rfl | rfl | rfl | rfl | rfl | rfl | rfl
    all_goals
      go_enter Tryz.func149, Tryz.ntmps149
      go_wp2
      go_ret
      exact ⟨rfl, rfl⟩
  · have u : ∀ n : Nat, c ≠ UInt8.ofNat n → n < 256 → ((c.toNat : Int) == (n : Int)) = false := fun n hn hl => by
      rw [beq_eq_false_iff_ne]
      intro e
      apply hn
      apply UInt8.toNat_inj.1
      simp; omega
    have hE := Lib.hid (show lettN c = 0 by unfold lettN; simp only [not_or] at h; simp [h])
    simp only [not_or] at h
    have g1 : ((c.toNat : Int) == 34) = false := u 34 h.1 (by decide)
    have g2 : ((c.toNat : Int) == 92) = false := u 92 h.2.1 (by decide)
    have g3 : ((c.toNat : Int) == 8) = false := u 8 h.2.2.1 (by decide)
    have g4 : ((c.toNat : Int) == 9) = false := u 9 h.2.2.2.1 (by decide)
    have g5 : ((c.toNat : Int) == 10) = false := u 10 h.2.2.2.2.1 (by decide)
    have g6 : ((c.toNat : Int) == 12) = false := u 12 h.2.2.2.2.2.1 (by decide)
    have g7 : ((c.toNat : Int) == 13) = false := u 13 h.2.2.2.2.2.2 (by decide)
    clear h u
    go_enter Tryz.func149, Tryz.ntmps149
    go_wp2
    go_ret
    exact ⟨ret_int (by rw [hE.out]; rfl), rfl⟩
theorem letter_is (c d : UInt8) (w : World) (h : lettN c = d) :
    Calls Tryz.prog 149 #[.int .u8 c.toNat] w fun e w' => e = .returned (.int .u8 d.toNat) ∧ w' = w := by
  rw [← h]; exact letter_any c w
set_option maxHeartbeats 1000000 in
theorem rvalidT (s : ByteArray) (w : World) (hs : s.size ≤ 9223372036854775807) :
    Calls Tryz.prog 148 #[.string s] w fun e w' => e = .returned (.bool (Lib.validD s.data.toList)) ∧ Below w.heap.size w w' := by
  go_enter Tryz.func148, Tryz.ntmps148
  go_wp2
  go_loopw [3] (fun a wr => ∃ k : Nat, k ≤ s.size ∧ a = .int .i64 k ∧ Hid (Lib.validD s.data.toList = Lib.validD (s.data.toList.drop k)) ∧ Below w.heap.size w wr) (fun a _ => s.size - (intOf a).toNat)
  case atStart => exact ⟨0, Nat.zero_le _, rfl, by simp [Hid], Below.refl _ _⟩
  case round =>
    obtain ⟨k, hk, rfl, hch, hb⟩ := hrel
    have HB := Lib.hid hb
    have hz := hb.size
    clear hb
    by_cases hlt : k < s.size
    · by_cases hbad : (Txt.dec (s.data.toList.drop k)).2 = 0
      · have HE := Lib.hid (show Lib.validD s.data.toList = false by
          rw [hch.out]
          cases e : Lib.validD (s.data.toList.drop k)
          · rfl
          · exact absurd hbad (Txt.dec_valid (drop_ne hlt) e).1)
        have HD := Lib.hid hbad
        clear hbad
        go_wp2_with (go_at_call 105; refine (rdecode_bad s k _ hlt hs HD.out).mono ?_; rintro e w1 ⟨rfl, hb1⟩)
        go_ret
        exact ⟨ret_bool (by rw [HE.out]), below_trans HB.out (by assumption)⟩
      · have HE := Lib.hid (show Lib.validD s.data.toList = Lib.validD (s.data.toList.drop (k + (Txt.dec (s.data.toList.drop k)).2)) by rw [hch.out, Txt.valid_of_dec hbad, List.drop_drop])
        obtain ⟨Rn, M, hd⟩ : ∃ Rn M, Txt.dec (s.data.toList.drop k) = (Rn, M) := ⟨_, _, rfl⟩
        obtain ⟨q1, q2, q3⟩ := step_at s k Rn M hd hlt
        rw [hd] at HE hbad
        have q4 : 1 ≤ M := by simp at hbad; omega
        have HD := Lib.hid hd
        clear hd hbad
        go_wp2_with fail
        refine (rdecode_ok s k Rn M _ hlt hs HD.out).mono ?_
        rintro e w1 ⟨rfl, hb1⟩
        have HB1 := Lib.hid (below_trans HB.out hb1)
        clear hb1
        go_wp2_with fail
        go_roundw
        case rel => exact ⟨k + M, q1, by go_num, HE.out, HB1.out⟩
        case measure => simp [intOf]; omega
    · obtain rfl : k = s.size := by omega
      have HE := Lib.hid (show Lib.validD s.data.toList = true by
        have e : s.data.toList.drop s.size = [] := List.drop_of_length_le (Nat.le_of_eq (by simp))
        rw [hch.out, e]; rfl)
      go_wp2
      go_ret
      exact ⟨ret_bool (by rw [HE.out]), HB.out⟩
theorem rvalid_is (s : ByteArray) (b : Bool) (w : World) (hs : s.size ≤ 9223372036854775807) (h : Lib.validD s.data.toList = b) :
    Calls Tryz.prog 148 #[.string s] w fun e w' => e = .returned (.bool b) ∧ Below w.heap.size w w' := by
  rw [← h]; exact rvalidT s w hs
theorem all_u8 (P : UInt8 → Prop) [DecidablePred P] (h : ∀ n : Fin 256, P (UInt8.ofNat n.val)) (c : UInt8) : P c := by
  have := h ⟨c.toNat, UInt8.toNat_lt c⟩
  simpa using this
theorem q_a (c : UInt8) (h : lettN c ≠ 0) : Js.q c = [92, lettN c] :=
  all_u8 (fun c => lettN c ≠ 0 → Js.q c = [92, lettN c]) (by decide +kernel) c h
theorem q_b (c : UInt8) (h : lettN c = 0) (h2 : c.toNat < 32) : Js.q c = [92, 117, 48, 48, Js.hexd (c.toNat / 16), Js.hexd (c.toNat % 16)] :=
  all_u8 (fun c => lettN c = 0 → c.toNat < 32 → Js.q c = [92, 117, 48, 48, Js.hexd (c.toNat / 16), Js.hexd (c.toNat % 16)]) (by decide +kernel) c h h2
theorem q_c (c : UInt8) (h : lettN c = 0) (h2 : 32 ≤ c.toNat) : Js.q c = [c] :=
  all_u8 (fun c => lettN c = 0 → 32 ≤ c.toNat → Js.q c = [c]) (by decide +kernel) c h h2
theorem dig_at (n : Nat) (h : n < 16) : ∃ hb : n < digs.size, digs[n]'hb = Js.hexd n := by
  have : ∀ m : Fin 16, ∃ hb : m.val < digs.size, digs[m.val]'hb = Js.hexd m.val := by decide +kernel
  exact this ⟨n, h⟩
theorem body_snoc (s : ByteArray) (k : Nat) (h : k < s.size) : (34 :: Js.body (s.data.toList.take (k + 1)) : List UInt8) = (34 :: Js.body (s.data.toList.take k)) ++ Js.q s[k] := by
  rw [take_snoc s k h, Js.body_append, Js.body_cons, Js.body_nil]; simp
theorem own_one (w : World) (c : UInt8) : (w.alloc (.cells #[.int .u8 c.toNat] 5)).ownsRow w.heap.size 5 1 (.slice (some ⟨w.heap.size, 0, none⟩) 1 1) 1 (Lib.byteCells [c]) :=
  ⟨by simp [Lib.byteCells], .inr ⟨w.heap.size, 1, _, rfl, Nat.le_refl _, new_block w _, Nat.le_refl _, by unfold maxLen; omega, rfl, by simp [Lib.byteCells]⟩⟩
theorem new_cells (w : World) (xs : List Value) (j : Nat) (u : Value) (hj : xs[j]? = some u) : (w.alloc (.cells xs.toArray 5)).cell? ((⟨w.heap.size, 0, none⟩ : Addr).add j) = some u := by
  have h2 := new_block w (.cells xs.toArray 5)
  have e : ((⟨w.heap.size, 0, none⟩ : Addr).add j) = ⟨w.heap.size, j, none⟩ := by simp [Addr.add]; omega
  rw [e]
  unfold World.cell?
  simp only [h2]
  simpa using hj
end Go.Proofs.YtjaojenalodolaaGreatDoor.Jw
namespace Go.Proofs.YtjaojenalodolaaGreatDoor.Jw
open Go Go.RowKit Go.Proofs.YtjaojenalodolaaGreatDoor Go.Proofs.YtjaojenalodolaaGreatDoor.Tx
theorem six_one (a b c d e f : Int) : ∀ u ∈ [Value.int .u8 a, .int .u8 b, .int .u8 c, .int .u8 d, .int .u8 e, .int .u8 f], u.oneCell' = true := by
  intro u hu
  simp only [List.mem_cons, List.not_mem_nil, or_false] at hu
  rcases hu with h | h | h | h | h | h <;> subst h <;> rfl
theorem wrap_u8 (x : Int) (h : 0 ≤ x) (h' : x < 256) : IntKind.u8.wrap x = x := by rw [IntKind.wrap_u8]; omega
theorem dig_is (n : Nat) (h : n < 16) : ∀ hb, (⟨#[48, 49, 50, 51, 52, 53, 54, 55, 56, 57, 97, 98, 99, 100, 101, 102]⟩ : ByteArray)[n]'hb = Js.hexd n := by
  intro hb
  obtain ⟨h1, h2⟩ := dig_at n h
  exact h2
theorem one_two (x y : Int) : ∀ u ∈ [Value.int .u8 x, .int .u8 y], u.oneCell' = true := by
  intro u hu
  rcases List.mem_cons.1 hu with h | h
  · subst h; rfl
  · rcases List.mem_cons.1 h with h | h
    · subst h; rfl
    · cases h
set_option maxHeartbeats 1000000 in
theorem rquote_bad (s : ByteArray) (w : World) (hs : s.size ≤ 1000000000) (hv : Lib.validD s.data.toList = false) :
    Calls Tryz.prog 101 #[.string s] w fun e w' => e = .returned (.tuple #[.string ⟨#[]⟩, .int .i64 5]) ∧ Below w.heap.size w w' := by
  have HV := Lib.hid hv
  clear hv
  go_enter Tryz.func101, Tryz.ntmps101
  go_wp2_with fail
  refine (rvalid_is s false _ (by omega) HV.out).mono ?_
  rintro e w1 ⟨rfl, hb⟩
  have HB := Lib.hid hb
  clear hb
  go_wp2_with fail
  go_ret2
  exact ⟨rfl, HB.out⟩
set_option maxRecDepth 100000 in
set_option maxHeartbeats 4000000 in
theorem rquote_any (s : ByteArray) (w : World) (hs : s.size ≤ 1000000000) (hv : Lib.validD s.data.toList = true) :
    Calls Tryz.prog 101 #[.string s] w fun e w' => e = .returned (.tuple #[.string ⟨(Js.quote s.data.toList).toArray⟩, .int .i64 0]) ∧ Below w.heap.size w w' := by
  have HV := Lib.hid hv
  clear hv
  obtain ⟨i0, hi, hz0, hz1, hz2⟩ := info_parts infoU'
  have II := Lib.hid (And.intro hi (And.intro hz0 (And.intro hz1 hz2)))
  clear hi hz0 hz1 hz2
  go_enter Tryz.func101, Tryz.ntmps101
  go_wp2_with fail
  refine (rvalid_is s true _ (by omega) HV.out).mono ?_
  rintro e w0 ⟨rfl, hb⟩
  have HB0 := Lib.hid hb
  have hz0 := hb.size
  clear hb
  have HO0 := Lib.hid (own_one w0 34)
  go_wp2_with fail
  go_loopw [4, 5] (fun v i wr => ∃ (k : Nat) (o : List UInt8) (a : Option Addr) (cap : Nat), k ≤ s.size ∧ i = .int .i64 k ∧ v = .slice a o.length cap ∧ Hid ((34 :: Js.body (s.data.toList.take k) : List UInt8) = o) ∧ Hid (wr.ownsRow w0.heap.size 5 1 (.slice a o.length cap) o.length (Lib.byteCells o)) ∧ Hid (Below w0.heap.size w0 wr)) (fun _ i _ => s.size - (intOf i).toNat)
  case atStart => exact ⟨0, [34], _, 1, Nat.zero_le _, rfl, rfl, rfl, HO0.out, (Below.refl _ _).alloc (Nat.le_refl _) _⟩
  case round =>
    obtain ⟨k, o, a, cap, hk, rfl, rfl, HF, HO, HB⟩ := hrel
    have hz := HB.out.size
    have hle : o.length ≤ 6 * k + 1 := by
      have := (Js.body_len (s.data.toList.take k)).2
      have h2 : (s.data.toList.take k).length ≤ k := List.length_take_le _ _
      rw [← HF.out, List.length_cons]; omega
    by_cases hlt : k < s.size
    · have B0 := UInt8.toNat_lt s[k]
      have HS := Lib.hid (body_snoc s k hlt)
      by_cases hq : lettN s[k] = 0
      · have HLT := Lib.hid hq
        by_cases h32 : s[k].toNat < 32
        · have HE := Lib.hid (show (34 :: Js.body (s.data.toList.take (k + 1)) : List UInt8) = o ++ [92, 117, 48, 48, Js.hexd (s[k].toNat / 16), Js.hexd (s[k].toNat % 16)] by rw [HS.out, HF.out, q_b _ hq h32])
          obtain ⟨x, hx⟩ : ∃ x : Nat, x = s[k].toNat := ⟨_, rfl⟩
          have hA : IntKind.u8.wrap ((x : Int) / 16) = ((x / 16 : Nat) : Int) := by
            rw [wrap_u8 _ (by omega) (by omega)]; rfl
          have hB : (x : Int).tmod 16 = ((x % 16 : Nat) : Int) := rfl
          have d1 := dig_is (x / 16) (by omega)
          have d2 := dig_is (x % 16) (by omega)
          obtain ⟨A, hA'⟩ : ∃ A, A = x / 16 := ⟨_, rfl⟩
          obtain ⟨C, hC'⟩ : ∃ C, C = x % 16 := ⟨_, rfl⟩
          have lA : (A : Int) < 16 := by omega
          have lC : (C : Int) < 16 := by omega
          rw [← hx, ← hA', ← hC'] at HE
          rw [← hA'] at hA d1
          rw [← hC'] at hB d2
          rw [hx] at hA hB
          clear hq hx hA' hC'
          go_wp2_with fail
          refine (letter_is _ 0 _ HLT.out).mono ?_
          rintro e w' ⟨rfl, rfl⟩
          go_wp2_with fail
          go_region_law (refine step_append_lies _ rfl (.tmp 36) (.tmp 43) 74 rfl w0.heap.size 5 i0 (.int .u8 0) 1 1 Tryz.underlying74 II.out.1 II.out.2.1 II.out.2.2.1 II.out.2.2.2 rfl (by decide) _ _ _ (by simp [Act.eval]) (HO.out.drew.alloc _) ⟨w'.heap.size, 0, none⟩ 6 6 [.int .u8 92, .int .u8 117, .int .u8 48, .int .u8 48, .int .u8 (Js.hexd A).toNat, .int .u8 (Js.hexd C).toNat] (by simp [Act.eval]) rfl (new_cells w'.drew _) (six_one _ _ _ _ _ _) (by decide) (by unfold maxLen; omega) (by omega) (by show _ ≤ (World.alloc _ _).heap.size; rw [alloc_sz]; omega) _ rfl ?_; intro g1 cap1 w1 hown1 hgrow1 _ _)
          all_goals
            rename_i g1 cap1 w1 hown1 hgrow1 _ _
            have HO1 := Lib.hid (show w1.ownsRow w0.heap.size 5 1 (.slice (some ⟨g1, 0, none⟩) (o ++ [92, 117, 48, 48, Js.hexd A, Js.hexd C]).length cap1) (o ++ [92, 117, 48, 48, Js.hexd A, Js.hexd C]).length (Lib.byteCells (o ++ [92, 117, 48, 48, Js.hexd A, Js.hexd C])) by simpa [Lib.byteCells] using hown1)
            have HB1 := Lib.hid ((HB.out.drew.alloc hz _).grown hgrow1 (by show _ ≤ (World.alloc _ _).heap.size; rw [alloc_sz]; show _ ≤ w'.heap.size + 1; omega) (fun k hk => (HO.out.lt k hk).1))
            clear hown1 hgrow1 hA hB d1 d2
            go_wp2_with fail
            go_roundw
            case rel => exact ⟨k + 1, o ++ [92, 117, 48, 48, Js.hexd A, Js.hexd C], some ⟨g1, 0, none⟩, cap1, by omega, by go_num, by simp, HE.out, HO1.out, HB1.out⟩
            case measure => simp [intOf]; omega
        · have HE := Lib.hid (show (34 :: Js.body (s.data.toList.take (k + 1)) : List UInt8) = o ++ [s[k]] by rw [HS.out, HF.out, q_c _ hq (by omega)])
          obtain ⟨d, hd⟩ : ∃ d, s[k] = d := ⟨_, rfl⟩
          have g2 : decide ((s[k].toNat : Int) < 32) = false := by simp; omega
          rw [hd] at HE HLT B0 g2
          clear hq h32
          go_wp2_with fail
          refine (letter_is _ 0 _ HLT.out).mono ?_
          rintro e w' ⟨rfl, rfl⟩
          go_wp2_with (at_builtin; refine wpList_append_own _ rfl _ _ 74 rfl w0.heap.size 5 i0 (.int .u8 0) 1 1 Tryz.underlying74 II.out.1 II.out.2.1 II.out.2.2.1 II.out.2.2.2 rfl (by decide) _ _ _ rfl (HO.out.alloc _) ⟨w'.heap.size, 0, none⟩ 1 1 [.int .u8 (d.toNat)] rfl rfl (one_new w' _) (fun u hu => by simp at hu; subst hu; rfl) ?a3 ?a4 ?a5 ?_)
          case a3 => unfold maxLen; omega
          case a4 => omega
          case a5 => rw [alloc_sz]; omega
          intro v1 w1 hown1 hgrow1 _
          obtain ⟨a1, cap1, hv1⟩ := own_slice hown1
          subst hv1
          have HO1 := Lib.hid (show w1.ownsRow w0.heap.size 5 1 (.slice a1 (o ++ [d]).length cap1) (o ++ [d]).length (Lib.byteCells (o ++ [d])) by rw [← cells_snoc]; simpa using hown1)
          have HB1 := Lib.hid ((HB.out.alloc hz _).grown hgrow1 (by rw [alloc_sz]; omega) (fun k hk => (HO.out.lt k hk).1))
          clear hown1 hgrow1 hd
          go_wp2_with fail
          go_roundw
          case rel => exact ⟨k + 1, o ++ [d], a1, cap1, by omega, by go_num, by simp, HE.out, HO1.out, HB1.out⟩
          case measure => simp [intOf]; omega
      · have HE := Lib.hid (show (34 :: Js.body (s.data.toList.take (k + 1)) : List UInt8) = o ++ [92, lettN s[k]] by rw [HS.out, HF.out, q_a _ hq])
        obtain ⟨d, hd⟩ : ∃ d, lettN s[k] = d := ⟨_, rfl⟩
        rw [hd] at HE hq
        have HLT := Lib.hid hd
        have g1 : ((d.toNat : Int) == 0) = false := by
          rw [beq_eq_false_iff_ne]
          intro e
          apply hq
          apply UInt8.toNat_inj.1
          simp; omega
        clear hq hd
        have B1 := UInt8.toNat_lt d
        go_wp2_with fail
        refine (letter_is _ d _ HLT.out).mono ?_
        rintro e w' ⟨rfl, rfl⟩
        go_wp2_with fail
        refine (letter_is _ d _ HLT.out).mono ?_
        rintro e w' ⟨rfl, rfl⟩
        go_wp2_with (at_builtin; refine wpList_append_own _ rfl _ _ 74 rfl w0.heap.size 5 i0 (.int .u8 0) 1 1 Tryz.underlying74 II.out.1 II.out.2.1 II.out.2.2.1 II.out.2.2.2 rfl (by decide) _ _ _ rfl (HO.out.alloc _) ⟨w'.heap.size, 0, none⟩ 2 2 [.int .u8 92, .int .u8 (d.toNat)] rfl rfl (new_cells w' _) (one_two _ _) ?a3 ?a4 ?a5 ?_)
        case a3 => unfold maxLen; omega
        case a4 => omega
        case a5 => rw [alloc_sz]; omega
        intro v1 w1 hown1 hgrow1 _
        obtain ⟨a1, cap1, hv1⟩ := own_slice hown1
        subst hv1
        have HO1 := Lib.hid (show w1.ownsRow w0.heap.size 5 1 (.slice a1 (o ++ [92, d]).length cap1) (o ++ [92, d]).length (Lib.byteCells (o ++ [92, d])) by simpa [Lib.byteCells] using hown1)
        have HB1 := Lib.hid ((HB.out.alloc hz _).grown hgrow1 (by rw [alloc_sz]; omega) (fun k hk => (HO.out.lt k hk).1))
        clear hown1 hgrow1
        go_wp2_with fail
        go_roundw
        case rel => exact ⟨k + 1, o ++ [92, d], a1, cap1, by omega, by go_num, by simp, HE.out, HO1.out, HB1.out⟩
        case measure => simp [intOf]; omega
    · obtain rfl : k = s.size := by omega
      have HE := Lib.hid (show Js.quote s.data.toList = o ++ [34] by
        have := HF.out
        rw [List.take_of_length_le (by simp)] at this
        rw [← this]; rfl)
      go_wp2_with (at_builtin; refine wpList_append_own _ rfl _ _ 74 rfl w0.heap.size 5 i0 (.int .u8 0) 1 1 Tryz.underlying74 II.out.1 II.out.2.1 II.out.2.2.1 II.out.2.2.2 rfl (by decide) _ _ _ rfl (HO.out.alloc _) ⟨wr.heap.size, 0, none⟩ 1 1 [.int .u8 (34)] rfl rfl (one_new wr _) (fun u hu => by simp at hu; subst hu; rfl) ?a3 ?a4 ?a5 ?_)
      case a3 => unfold maxLen; omega
      case a4 => omega
      case a5 => rw [alloc_sz]; omega
      intro v1 w1 hown1 hgrow1 _
      obtain ⟨a1, cap1, hv1⟩ := own_slice hown1
      subst hv1
      have HO1 := Lib.hid (show w1.ownsRow w0.heap.size 5 1 (.slice a1 (o.length + 1) cap1) (o ++ [34]).length (Lib.byteCells (o ++ [34])) by simpa [Lib.byteCells] using hown1)
      have HB1 := Lib.hid (below_trans HB0.out ((HB.out.alloc hz _).grown hgrow1 (by rw [alloc_sz]; omega) (fun k hk => (HO.out.lt k hk).1)))
      clear hown1 hgrow1
      have hcv := conv_own HO1.out
      go_wp2_with fail
      go_ret2
      exact ⟨ret_strerr (by rw [HE.out]) rfl, HB1.out⟩
end Go.Proofs.YtjaojenalodolaaGreatDoor.Jw
namespace Go.Proofs.YtjaojenalodolaaGreatDoor.Jw
open Go Go.RowKit Go.Proofs.YtjaojenalodolaaGreatDoor Go.Proofs.YtjaojenalodolaaGreatDoor.Tx
theorem val_int {k : IntKind} {a b : Int} (h : a = b) : Value.int k a = Value.int k b := by rw [h]
def hz (o : Option Nat) : Int := match o with | none => -1 | some n => n
theorem hx_none (l : List UInt8) (i : Nat) (e : Js.hx l i = none) : ∀ j, i ≤ j → Js.hx l j = none := by
  intro j
  induction j with
  | zero => intro h; obtain rfl : i = 0 := by omega
            exact e
  | succ j ih =>
    intro h
    by_cases hi : i = j + 1
    · rw [← hi]; exact e
    · simp only [Js.hx]
      rw [ih (by omega)]; rfl
theorem hx_succ (l : List UInt8) (i n : Nat) (x : Nat) (hx : (l.getD (2 + i) 0).toNat = x) (h : Js.hx l i = some n) : Js.hx l (i + 1) = (Js.hexv x).map fun d => n * 16 + d := by
  simp only [Js.hx]; rw [h, hx]; rfl
theorem pow_bd {i n : Nat} (h : n < 16 ^ i) (hi : i ≤ 3) : n < 4096 := by
  have : 16 ^ i ≤ 16 ^ 3 := Nat.pow_le_pow_right (by decide) hi
  omega
end Go.Proofs.YtjaojenalodolaaGreatDoor.Jw
namespace Go.Proofs.YtjaojenalodolaaGreatDoor.Jw
open Go Go.RowKit Go.Proofs.YtjaojenalodolaaGreatDoor Go.Proofs.YtjaojenalodolaaGreatDoor.Tx
theorem drop_at (s : ByteArray) (k i : Nat) (h : k + i < s.size) : (s.data.toList.drop k).getD i 0 = s[k + i]'h := UInt8.toNat_inj.1 (byte_drop s k i h)
theorem u8_ne {c : UInt8} {n : Nat} (hn : n < 256) (h : c ≠ UInt8.ofNat n) : ((c.toNat : Int) == (n : Int)) = false := by
  rw [beq_eq_false_iff_ne]
  intro e
  apply h
  apply UInt8.toNat_inj.1
  simp; omega
def letV (c : UInt8) : Option (Nat × Nat) :=
  if c = 34 ∨ c = 92 ∨ c = 47 then some (c.toNat, 2) else if c = 98 then some (8, 2) else if c = 102 then some (12, 2) else if c = 110 then some (10, 2) else if c = 114 then some (13, 2) else if c = 116 then some (9, 2) else none
def numV (l : List UInt8) : Nat × Nat :=
  match Js.unitV l with
    | none => (0, 0)
    | some r => if 56320 ≤ r ∧ r ≤ 57343 then (0, 0) else if r < 55296 ∨ 57343 < r then (r, 6)
      else match Js.unitV (l.drop 6) with
        | none => (0, 0)
        | some m => if m < 56320 ∨ 57343 < m then (0, 0) else ((r - 55296) * 1024 + (m - 56320) + 65536, 12)
theorem seq_let (l : List UInt8) (x : Nat × Nat) (h : letV (l.getD 1 0) = some x) : Js.seqV l = x := by
  unfold letV at h
  unfold Js.seqV
  repeat' split at h
  all_goals simp_all
theorem seq_num (l : List UInt8) (h : letV (l.getD 1 0) = none) : Js.seqV l = numV l := by
  unfold letV at h
  unfold Js.seqV
  repeat' split at h
  all_goals first | (cases h; done) | skip
  rename_i a b c d e f
  rw [if_neg a, if_neg b, if_neg c, if_neg d, if_neg e, if_neg f]; rfl
theorem num_none {l : List UInt8} (h : Js.unitV l = none) : numV l = (0, 0) := by unfold numV; rw [h]
theorem num_low {l : List UInt8} {r : Nat} (h : Js.unitV l = some r) (h1 : 56320 ≤ r) (h2 : r ≤ 57343) : numV l = (0, 0) := by unfold numV; rw [h]; simp [h1, h2]
theorem num_one {l : List UInt8} {r : Nat} (h : Js.unitV l = some r) (h1 : r < 55296 ∨ 57343 < r) : numV l = (r, 6) := by
  unfold numV; rw [h]
  simp only
  rw [if_neg (by omega), if_pos h1]
theorem num_bad {l : List UInt8} {r : Nat} (h : Js.unitV l = some r) (h1 : 55296 ≤ r) (h2 : r ≤ 56319) (h3 : ∀ m, Js.unitV (l.drop 6) = some m → m < 56320 ∨ 57343 < m) : numV l = (0, 0) := by
  unfold numV; rw [h]
  simp only
  rw [if_neg (by omega), if_neg (by omega)]
  cases e : Js.unitV (l.drop 6) with
  | none => rfl
  | some m => simp only; rw [if_pos (h3 m e)]
theorem num_two {l : List UInt8} {r m : Nat} (h : Js.unitV l = some r) (h1 : 55296 ≤ r) (h2 : r ≤ 56319) (h3 : Js.unitV (l.drop 6) = some m) (h4 : 56320 ≤ m) (h5 : m ≤ 57343) : numV l = ((r - 55296) * 1024 + (m - 56320) + 65536, 12) := by
  unfold numV; rw [h]
  simp only
  rw [if_neg (by omega), if_neg (by omega), h3]
  simp only
  rw [if_neg (by omega)]
end Go.Proofs.YtjaojenalodolaaGreatDoor.Jw
namespace Go.Proofs.YtjaojenalodolaaGreatDoor.Jw
open Go Go.RowKit Go.Proofs.YtjaojenalodolaaGreatDoor Go.Proofs.YtjaojenalodolaaGreatDoor.Tx
theorem i32_or4 (x y : Int) (hx₀ : 0 ≤ x) (hx : x % 16 = 0) (hx₁ : x < 2147483648) (h₀ : 0 ≤ y) (h₁ : y < 16) : bits .or .i32 x y = x + y :=
  bits_join .i32 31 (by decide) wraps_i32 4 x y hx₀ hx hx₁ h₀ h₁ (by omega)
def lowC (c : UInt8) : Int := if 65 ≤ c.toNat ∧ c.toNat ≤ 70 then (c.toNat : Int) + 32 else c.toNat
theorem idx_hex (c : UInt8) : Lib.indexByte digs.data.toList (lowC c).toNat.toUInt8 = hz (Js.hexv c.toNat) :=
  all_u8 (fun c => Lib.indexByte digs.data.toList (lowC c).toNat.toUInt8 = hz (Js.hexv c.toNat)) (by decide +kernel) c
theorem index_is (x : Int) (c : UInt8) (hx : x = lowC c) (z : Int) (h : hz (Js.hexv c.toNat) = z) (w : World) :
    Calls Tryz.prog 179 #[.string digs, .int .u8 x] w fun e w' => e = .returned (.int .i64 z) ∧ w' = w := by
  subst hx
  have := Tryz.strings_IndexByte digs (lowC c) w
  rw [idx_hex, h] at this
  exact this
def uz (o : Option Nat) : Int := match o with | none => 0 | some n => n
theorem world_below (w : World) (e : TypeId) (s : ByteArray) : Below w.heap.size w (Lib.bytesWorld w e s) :=
  ⟨rfl, rfl, rfl, by rw [Lib.bytesWorld_size]; omega, fun k hk => Lib.bytesWorld_at_old w e s k hk⟩
theorem ret_intb {k : IntKind} {a b : Int} {c d : Bool} (h : a = b) (g : c = d) : Ending.returned (.tuple #[.int k a, .bool c]) = .returned (.tuple #[.int k b, .bool d]) := by rw [h, g]
set_option maxRecDepth 100000 in
set_option maxHeartbeats 4000000 in
theorem iunit_any (t : ByteArray) (w : World) (hs : t.size ≤ 1000000000) :
    Calls Tryz.prog 219 #[.string t] w fun e w' => e = .returned (.tuple #[.int .i32 (uz (Js.unitV t.data.toList)), .bool (Js.unitV t.data.toList).isSome]) ∧ Below w.heap.size w w' := by
  by_cases h6 : t.size < 6
  · have HE := Lib.hid (show Js.unitV t.data.toList = none from Js.unit_short (by simpa using h6))
    go_enter Tryz.func219, Tryz.ntmps219
    go_wp2
    go_ret2
    exact ⟨ret_intb (by rw [HE.out]; rfl) (by rw [HE.out]; rfl), Below.refl _ _⟩
  · have h6' : 6 ≤ t.size := by omega
    clear h6
    obtain ⟨p, hp⟩ : ∃ p, t.extract 0 2 = p := ⟨_, rfl⟩
    have hp2 : p.toList = [t[0], t[1]] := by
      rw [← hp, Lib.toList_data, ByteArray.data_extract, Array.toList_extract, List.extract_eq_take_drop]
      rw [List.drop_zero, List.take_succ_eq_append_getElem (by simp; omega), List.take_succ_eq_append_getElem (by simp; omega), List.take_zero]
      rfl
    have e0 := drop_at t 0 0 (by omega)
    have e1 := drop_at t 0 1 (by omega)
    rw [List.drop_zero] at e0 e1
    simp only [Nat.zero_add] at e0 e1
    have HLEN := Lib.hid (show ¬ (t.data.toList.length < 6) by simpa using h6')
    by_cases hu : t[0] = 92 ∧ t[1] = 117
    · have HE := Lib.hid (show Js.unitV t.data.toList = Js.hx t.data.toList 4 by
        unfold Js.unitV
        rw [if_neg]
        rintro (h | h | h)
        · exact HLEN.out h
        · exact h (e0.trans hu.1)
        · exact h (e1.trans hu.2))
      have gp : (p.toList == [92, 117]) = true := by rw [hp2, hu.1, hu.2]; rfl
      have hsz : (t.extract 2 6).size = 4 := by simp; omega
      have hcv := Lib.run_convert_string_bytes (P := Tryz.prog) w 9 74 5 (t.extract 2 6) (u := .string) Tryz.underlying9 Tryz.underlying74 Tryz.underlying5
      have hb0 := world_below w 5 (t.extract 2 6)
      have hcell : ∀ j, j < 4 → (Lib.bytesWorld w 5 (t.extract 2 6)).cell? ⟨w.heap.size, j, none⟩ = some (.int .u8 (t.data.toList.getD (2 + j) 0).toNat) := by
        intro j hj
        rw [Lib.bytesWorld_cell w _ _ j (by omega)]
        congr 3
        rw [ByteArray.data_extract, Array.toList_extract, List.extract_eq_take_drop, List.getD_eq_getElem?_getD, List.getD_eq_getElem?_getD, List.getElem?_take_of_lt (by omega), List.getElem?_drop]
      generalize Lib.bytesWorld w 5 (t.extract 2 6) = W1 at hcv hb0 hcell
      rw [hsz] at hcv
      generalize grownCap w 4 0 5 = cap at hcv
      have HB := Lib.hid hb0
      have HC := Lib.hid hcell
      obtain ⟨L, hL⟩ : ∃ L, L = t.data.toList := ⟨_, rfl⟩
      rw [← hL] at HE HC ⊢
      clear hb0 hcell e0 e1 hp2 hu hsz hL HLEN
      go_enter Tryz.func219, Tryz.ntmps219
      go_wp2
      clear hcv gp hp
      go_loop [4, 20] (fun v c => ∃ i n : Nat, i ≤ 4 ∧ c = .int .i64 i ∧ v = .int .i32 n ∧ Hid (Js.hx L i = some n)) (fun _ c => (4 - intOf c).toNat)
      case atStart => exact ⟨0, 0, by omega, rfl, rfl, rfl⟩
      case round =>
        obtain ⟨i, n, hi, rfl, rfl, HX⟩ := hrel
        by_cases hlt : i < 4
        · have hn := pow_bd (Js.hx_bd L i n HX.out) (by omega)
          obtain ⟨c, hc⟩ : ∃ c, L.getD (2 + i) 0 = c := ⟨_, rfl⟩
          have hcl := HC.out i hlt
          rw [hc] at hcl
          have HS := Lib.hid (hx_succ L i n _ (by rw [hc]) HX.out)
          have B0 := UInt8.toNat_lt c
          clear hc
          rcases hh : Js.hexv c.toNat with _ | d
          · have HN := Lib.hid (show Js.hx L 4 = none from hx_none L (i + 1) (by rw [HS.out, hh]; rfl) 4 (by omega))
            have HZ := Lib.hid (show hz (Js.hexv c.toNat) = -1 by rw [hh]; rfl)
            clear hh
            by_cases hup : 65 ≤ c.toNat ∧ c.toNat ≤ 70
            · have HLC := Lib.hid (show lowC c = (c.toNat : Int) + 32 by unfold lowC; rw [if_pos hup])
              obtain ⟨hu1, hu2⟩ := hup
              go_wp2_with fail
              refine (index_is _ c HLC.out.symm (-1) HZ.out _).mono ?_
              rintro e w' ⟨rfl, rfl⟩
              go_wp2_with fail
              go_ret2
              exact ⟨ret_intb (by rw [HE.out, HN.out]; rfl) (by rw [HE.out, HN.out]; rfl), HB.out⟩
            · have HLC := Lib.hid (show lowC c = (c.toNat : Int) by unfold lowC; rw [if_neg hup])
              have hup2 : c.toNat < 65 ∨ (65 ≤ c.toNat ∧ 70 < c.toNat) := by omega
              clear hup
              rcases hup2 with hu1 | ⟨hu1, hu2⟩
              · go_wp2_with fail
                refine (index_is _ c HLC.out.symm (-1) HZ.out _).mono ?_
                rintro e w' ⟨rfl, rfl⟩
                go_wp2_with fail
                go_ret2
                exact ⟨ret_intb (by rw [HE.out, HN.out]; rfl) (by rw [HE.out, HN.out]; rfl), HB.out⟩
              · go_wp2_with fail
                refine (index_is _ c HLC.out.symm (-1) HZ.out _).mono ?_
                rintro e w' ⟨rfl, rfl⟩
                go_wp2_with fail
                go_ret2
                exact ⟨ret_intb (by rw [HE.out, HN.out]; rfl) (by rw [HE.out, HN.out]; rfl), HB.out⟩
          · have hd16 := Js.hexv_bd hh
            have HN := Lib.hid (show Js.hx L (i + 1) = some (n * 16 + d) by rw [HS.out, hh]; rfl)
            have HZ := Lib.hid (show hz (Js.hexv c.toNat) = d by rw [hh]; rfl)
            have hor := i32_or4 ((n : Int) * 16) d (by omega) (by omega) (by omega) (by omega) (by omega)
            clear hh
            by_cases hup : 65 ≤ c.toNat ∧ c.toNat ≤ 70
            · have HLC := Lib.hid (show lowC c = (c.toNat : Int) + 32 by unfold lowC; rw [if_pos hup])
              obtain ⟨hu1, hu2⟩ := hup
              go_wp2_with fail
              refine (index_is _ c HLC.out.symm d HZ.out _).mono ?_
              rintro e w' ⟨rfl, rfl⟩
              go_wp2_with fail
              go_round
              case rel => exact ⟨i + 1, n * 16 + d, by omega, by go_num, by go_num, HN.out⟩
              case measure => simp [intOf]; omega
            · have HLC := Lib.hid (show lowC c = (c.toNat : Int) by unfold lowC; rw [if_neg hup])
              have hup2 : c.toNat < 65 ∨ (65 ≤ c.toNat ∧ 70 < c.toNat) := by omega
              clear hup
              rcases hup2 with hu1 | ⟨hu1, hu2⟩
              · go_wp2_with fail
                refine (index_is _ c HLC.out.symm d HZ.out _).mono ?_
                rintro e w' ⟨rfl, rfl⟩
                go_wp2_with fail
                go_round
                case rel => exact ⟨i + 1, n * 16 + d, by omega, by go_num, by go_num, HN.out⟩
                case measure => simp [intOf]; omega
              · go_wp2_with fail
                refine (index_is _ c HLC.out.symm d HZ.out _).mono ?_
                rintro e w' ⟨rfl, rfl⟩
                go_wp2_with fail
                go_round
                case rel => exact ⟨i + 1, n * 16 + d, by omega, by go_num, by go_num, HN.out⟩
                case measure => simp [intOf]; omega
        · obtain rfl : i = 4 := by omega
          go_wp2
          go_ret2
          exact ⟨ret_intb (by rw [HE.out, HX.out]; rfl) (by rw [HE.out, HX.out]; rfl), HB.out⟩
    · have HE := Lib.hid (show Js.unitV t.data.toList = none by
        unfold Js.unitV
        rw [if_pos]
        right
        by_cases h0 : t[0] = 92
        · right; rw [e1]; exact fun h => hu ⟨h0, h⟩
        · left; rw [e0]; exact h0)
      have gp : (p.toList == [92, 117]) = false := by
        rw [hp2, beq_eq_false_iff_ne]
        intro e
        simp only [List.cons.injEq, and_true] at e
        exact hu e
      clear e0 e1 hp2 hu HLEN
      go_enter Tryz.func219, Tryz.ntmps219
      go_wp2
      go_ret2
      exact ⟨ret_intb (by rw [HE.out]; rfl) (by rw [HE.out]; rfl), Below.refl _ _⟩
end Go.Proofs.YtjaojenalodolaaGreatDoor.Jw
namespace Go.Proofs.YtjaojenalodolaaGreatDoor.Jw
open Go Go.RowKit Go.Proofs.YtjaojenalodolaaGreatDoor Go.Proofs.YtjaojenalodolaaGreatDoor.Tx
def NoC (r : Int) (k : Nat) : Prop := ∀ i, i < k → lC i ≠ r
theorem lB_bd (i : Nat) (h : i < 5) : 0 ≤ lB i ∧ lB i ≤ 13 := by
  have e : i = 0 ∨ i = 1 ∨ i = 2 ∨ i = 3 ∨ i = 4 := by omega
  rcases e with rfl | rfl | rfl | rfl | rfl <;> decide
theorem let_in (c : UInt8) (i : Nat) (h : i < 5) (h1 : lC i = c.toNat) : ∃ n : Nat, letV c = some (n, 2) ∧ lB i = n := by
  have u : ∀ n : Nat, (n : Int) = (c.toNat : Int) → n < 256 → c = UInt8.ofNat n := fun n hn _ => by
    apply UInt8.toNat_inj.1
    simp; omega
  have e : i = 0 ∨ i = 1 ∨ i = 2 ∨ i = 3 ∨ i = 4 := by omega
  rcases e with rfl | rfl | rfl | rfl | rfl
  · rw [u 98 h1 (by decide)]; exact ⟨8, rfl, rfl⟩
  · rw [u 102 h1 (by decide)]; exact ⟨12, rfl, rfl⟩
  · rw [u 110 h1 (by decide)]; exact ⟨10, rfl, rfl⟩
  · rw [u 114 h1 (by decide)]; exact ⟨13, rfl, rfl⟩
  · rw [u 116 h1 (by decide)]; exact ⟨9, rfl, rfl⟩
theorem let_out (c : UInt8) (h1 : c ≠ 34) (h2 : c ≠ 92) (h3 : c ≠ 47) (hn : NoC c.toNat 5) : letV c = none := by
  have u : ∀ n : Nat, c = UInt8.ofNat n → n < 256 → (n : Int) = (c.toNat : Int) := fun n hn _ => by
    subst hn; simp; omega
  have a1 : c ≠ 98 := fun e => hn 0 (by decide) (u 98 e (by decide))
  have a2 : c ≠ 102 := fun e => hn 1 (by decide) (u 102 e (by decide))
  have a3 : c ≠ 110 := fun e => hn 2 (by decide) (u 110 e (by decide))
  have a4 : c ≠ 114 := fun e => hn 3 (by decide) (u 114 e (by decide))
  have a5 : c ≠ 116 := fun e => hn 4 (by decide) (u 116 e (by decide))
  unfold letV
  rw [if_neg (by simp [h1, h2, h3]), if_neg a1, if_neg a2, if_neg a3, if_neg a4, if_neg a5]
theorem iunit_none (t : ByteArray) (w : World) (hs : t.size ≤ 1000000000) (h : Js.unitV t.data.toList = none) :
    Calls Tryz.prog 219 #[.string t] w fun e w' => e = .returned (.tuple #[.int .i32 0, .bool false]) ∧ Below w.heap.size w w' := by
  have := iunit_any t w hs
  rw [h] at this
  exact this
theorem iunit_some (t : ByteArray) (n : Nat) (w : World) (hs : t.size ≤ 1000000000) (h : Js.unitV t.data.toList = some n) :
    Calls Tryz.prog 219 #[.string t] w fun e w' => e = .returned (.tuple #[.int .i32 n, .bool true]) ∧ Below w.heap.size w w' := by
  have := iunit_any t w hs
  rw [h] at this
  exact this
theorem drop6 (t : ByteArray) : (t.extract 6 t.size).data.toList = t.data.toList.drop 6 := by
  rw [ByteArray.data_extract, Array.toList_extract, List.extract_eq_take_drop, List.take_of_length_le (by simp)]
theorem size6 (t : ByteArray) : (t.extract 6 t.size).size ≤ t.size := by simp
set_option maxRecDepth 100000 in
set_option maxHeartbeats 4000000 in
theorem iseq_any (t : ByteArray) (w : World) (h2 : 1 < t.size) (hs : t.size ≤ 1000000000) (hL : LetTab w) :
    Calls Tryz.prog 195 #[.string t] w fun e w' => e = .returned (.tuple #[.int .i32 (Js.seqV t.data.toList).1, .int .i64 (Js.seqV t.data.toList).2]) ∧ Below w.heap.size w w' := by
  have e1 := drop_at t 0 1 (by omega)
  rw [List.drop_zero] at e1
  simp only [Nat.zero_add] at e1
  have HT := Lib.hid (seq_let t.data.toList)
  have HTN := Lib.hid (seq_num t.data.toList)
  rw [e1] at HT HTN
  clear e1
  by_cases h : t[1] = 34 ∨ t[1] = 92 ∨ t[1] = 47
  · rcases h with h | h | h
    all_goals
      have HE := Lib.hid (HT.out _ (by rw [h]; rfl))
      clear HT HTN
      go_enter Tryz.func195, Tryz.ntmps195
      go_wp2
      go_ret2
      exact ⟨ret_two (by rw [HE.out]; rfl) (by rw [HE.out]; rfl), Below.refl _ _⟩
  · simp only [not_or] at h
    obtain ⟨h3, h4, h5⟩ := h
    have HH := Lib.hid (And.intro h3 (And.intro h4 h5))
    have g1 : ((t[1].toNat : Int) == 34) = false := u8_ne (by decide) h3
    have g2 : ((t[1].toNat : Int) == 92) = false := u8_ne (by decide) h4
    have g3 : ((t[1].toNat : Int) == 47) = false := u8_ne (by decide) h5
    have B0 := UInt8.toNat_lt t[1]
    have B6 := Lib.hid (size6 t)
    have HLIN := Lib.hid (let_in t[1])
    have HLOUT := Lib.hid (let_out t[1] h3 h4 h5)
    clear h3 h4 h5
    obtain ⟨tt, fr, hst⟩ := hL
    go_enter Tryz.func195, Tryz.ntmps195
    go_wp2_with (refine wpList_load_row rfl 272 _ rfl 6 rfl tt letArr fr _ hst Tryz.underlying272 rfl (by kernel_rfl) ?_)
    clear hst g1 g2 g3
    go_loopw [25] (fun i wr => ∃ k : Nat, k ≤ 5 ∧ i = .int .i64 k ∧ NoC t[1].toNat k ∧ Below w.heap.size w wr) (fun i _ => (5 - intOf i).toNat)
    case atStart => exact ⟨0, by omega, rfl, fun i hi => absurd hi (by omega), Below.refl _ _⟩
    case round =>
      obtain ⟨k, hk, rfl, hno, hb⟩ := hrel
      have HN := Lib.hid hno
      have HB := Lib.hid hb
      have hz := hb.size
      clear hno hb
      by_cases hlt : k < 5
      · have hix := idx_let k hlt
        obtain ⟨hl1, hl2⟩ := lB_bd k hlt
        by_cases c1 : lC k = t[1].toNat
        · obtain ⟨n, hn1, hn2⟩ := HLIN.out k hlt c1
          have HE := Lib.hid (HT.out _ hn1)
          have HN2 := Lib.hid hn2
          have g1 : (lC k == (t[1].toNat : Int)) = true := by simp [c1]
          clear c1 hn1 hn2
          go_wp2
          go_ret2
          exact ⟨ret_two (by rw [HE.out, HN2.out]) (by rw [HE.out]; rfl), (HB.out).alloc hz _⟩
        · have g1 : (lC k == (t[1].toNat : Int)) = false := by simp [c1]
          have HC1 := Lib.hid c1
          clear c1
          go_wp2
          go_roundw
          case rel => exact ⟨k + 1, by omega, by go_num, fun i hi => by
            by_cases e : i = k
            · subst e; exact HC1.out
            · exact HN.out i (by omega), (HB.out).alloc hz _⟩
          case measure => simp [intOf]; omega
      · obtain rfl : k = 5 := by omega
        have HSQ := Lib.hid (HTN.out (HLOUT.out HN.out))
        have fin : ∀ (r n : Nat) (x y : Int), numV t.data.toList = (r, n) → x = r → y = n → (Ending.returned (.tuple #[.int .i32 x, .int .i64 y]) = .returned (.tuple #[.int .i32 (Js.seqV t.data.toList).1, .int .i64 (Js.seqV t.data.toList).2])) := by
          intro r n x y e e1 e2
          rw [HSQ.out, e]; exact ret_two e1 e2
        have FIN := Lib.hid fin
        clear fin HSQ HT HTN HLIN HLOUT
        rcases hu : Js.unitV t.data.toList with _ | r
        · have HN := Lib.hid (num_none hu)
          have HU := Lib.hid hu
          clear hu
          go_wp2_with fail
          refine (iunit_none t _ hs HU.out).mono ?_
          rintro e w1 ⟨rfl, hb1⟩
          have HB1 := Lib.hid (below_trans HB.out hb1)
          clear hb1
          go_wp2_with fail
          go_ret2
          exact ⟨FIN.out 0 0 _ _ HN.out rfl rfl, HB1.out⟩
        · obtain ⟨hr, hr6⟩ := Js.unitV_bd hu
          have hr6' : 6 ≤ t.size := by simpa using hr6
          have HU := Lib.hid hu
          clear hr6
          by_cases c1 : r < 55296
          · have HN := Lib.hid (num_one hu (.inl c1))
            clear hu
            go_wp2_with fail
            refine (iunit_some t r _ hs HU.out).mono ?_
            rintro e w1 ⟨rfl, hb1⟩
            have HB1 := Lib.hid (below_trans HB.out hb1)
            clear hb1
            go_wp2_with fail
            go_ret2
            exact ⟨FIN.out r 6 _ _ HN.out rfl rfl, HB1.out⟩
          · by_cases c2 : 57343 < r
            · have HN := Lib.hid (num_one hu (.inr c2))
              have c3 : 55296 ≤ r := by omega
              have c4 : 56320 ≤ r := by omega
              clear hu c1
              go_wp2_with fail
              refine (iunit_some t r _ hs HU.out).mono ?_
              rintro e w1 ⟨rfl, hb1⟩
              have HB1 := Lib.hid (below_trans HB.out hb1)
              clear hb1
              go_wp2_with fail
              go_ret2
              exact ⟨FIN.out r 6 _ _ HN.out rfl rfl, HB1.out⟩
            · by_cases c3 : 56320 ≤ r
              · have c4 : r ≤ 57343 := by omega
                have HN := Lib.hid (num_low hu c3 c4)
                clear hu c1 c2
                go_wp2_with fail
                refine (iunit_some t r _ hs HU.out).mono ?_
                rintro e w1 ⟨rfl, hb1⟩
                have HB1 := Lib.hid (below_trans HB.out hb1)
                clear hb1
                go_wp2_with fail
                go_ret2
                exact ⟨FIN.out 0 0 _ _ HN.out rfl rfl, HB1.out⟩
              · have c4 : 55296 ≤ r := by omega
                have c5 : r ≤ 56319 := by omega
                have c6 : r < 56320 := by omega
                have c7 : r ≤ 57343 := by omega
                have HDD := Lib.hid (drop6 t)
                clear c1 c2 c3
                rcases hm : Js.unitV (t.data.toList.drop 6) with _ | m
                · have HN := Lib.hid (num_bad hu c4 c5 (fun m e => by rw [hm] at e; cases e))
                  have HU2 := Lib.hid (show Js.unitV (t.extract 6 t.size).data.toList = none by rw [HDD.out]; exact hm)
                  clear hu hm
                  go_wp2_with fail
                  refine (iunit_some t r _ hs HU.out).mono ?_
                  rintro e w1 ⟨rfl, hb1⟩
                  have HB1 := Lib.hid (below_trans HB.out hb1)
                  clear hb1
                  go_wp2_with fail
                  refine (iunit_none _ _ (by have := B6.out; omega) HU2.out).mono ?_
                  rintro e w2 ⟨rfl, hb2⟩
                  have HB2 := Lib.hid (below_trans HB1.out hb2)
                  clear hb2
                  go_wp2_with fail
                  go_ret2
                  exact ⟨FIN.out 0 0 _ _ HN.out rfl rfl, HB2.out⟩
                · have HU2 := Lib.hid (show Js.unitV (t.extract 6 t.size).data.toList = some m by rw [HDD.out]; exact hm)
                  by_cases d1 : m < 56320
                  · have HN := Lib.hid (num_bad hu c4 c5 (fun m' e => by rw [hm] at e; cases e; exact .inl d1))
                    have K1 := Lib.hid (fun _ : Unit => (show (m : Int) < 56320 by omega))
                    clear hu hm d1
                    go_wp2_with fail
                    refine (iunit_some t r _ hs HU.out).mono ?_
                    rintro e w1 ⟨rfl, hb1⟩
                    have HB1 := Lib.hid (below_trans HB.out hb1)
                    clear hb1
                    go_wp2_with fail
                    refine (iunit_some _ m _ (by have := B6.out; omega) HU2.out).mono ?_
                    rintro e w2 ⟨rfl, hb2⟩
                    have HB2 := Lib.hid (below_trans HB1.out hb2)
                    have d1 := K1.out ()
                    clear hb2
                    go_wp2_with fail
                    go_ret2
                    exact ⟨FIN.out 0 0 _ _ HN.out rfl rfl, HB2.out⟩
                  · by_cases d2 : 57343 < m
                    · have HN := Lib.hid (num_bad hu c4 c5 (fun m' e => by rw [hm] at e; cases e; exact .inr d2))
                      have K1 := Lib.hid (fun _ : Unit => d2)
                      clear hu hm d1 d2
                      go_wp2_with fail
                      refine (iunit_some t r _ hs HU.out).mono ?_
                      rintro e w1 ⟨rfl, hb1⟩
                      have HB1 := Lib.hid (below_trans HB.out hb1)
                      clear hb1
                      go_wp2_with fail
                      refine (iunit_some _ m _ (by have := B6.out; omega) HU2.out).mono ?_
                      rintro e w2 ⟨rfl, hb2⟩
                      have HB2 := Lib.hid (below_trans HB1.out hb2)
                      have k1 : decide ((m : Int) < 56320) = false := by have := K1.out (); simp; omega
                      have k2 : decide ((57343 : Int) < (m : Int)) = true := by have := K1.out (); simp; omega
                      clear hb2
                      go_wp2_with fail
                      go_ret2
                      exact ⟨FIN.out 0 0 _ _ HN.out rfl rfl, HB2.out⟩
                    · have d3 : 56320 ≤ m := by omega
                      have d4 : m ≤ 57343 := by omega
                      have HN := Lib.hid (num_two hu c4 c5 hm d3 d4)
                      have D34 := Lib.hid (fun _ : Unit => And.intro d3 d4)
                      clear hu hm d1 d2 d3 d4
                      go_wp2_with fail
                      refine (iunit_some t r _ hs HU.out).mono ?_
                      rintro e w1 ⟨rfl, hb1⟩
                      have HB1 := Lib.hid (below_trans HB.out hb1)
                      clear hb1
                      go_wp2_with fail
                      refine (iunit_some _ m _ (by have := B6.out; omega) HU2.out).mono ?_
                      rintro e w2 ⟨rfl, hb2⟩
                      have HB2 := Lib.hid (below_trans HB1.out hb2)
                      have k1 : decide ((m : Int) < 56320) = false := by have := D34.out (); simp; omega
                      have k2 : decide ((57343 : Int) < (m : Int)) = false := by have := D34.out (); simp; omega
                      clear hb2
                      go_wp2_with fail
                      go_ret2
                      exact ⟨FIN.out _ 12 _ _ HN.out (by have := D34.out (); simp only [wrap32]; omega) rfl, HB2.out⟩
theorem iseq_is (t : ByteArray) (r n : Nat) (w : World) (h2 : 1 < t.size) (hs : t.size ≤ 1000000000) (hL : LetTab w) (h : Js.seqV t.data.toList = (r, n)) :
    Calls Tryz.prog 195 #[.string t] w fun e w' => e = .returned (.tuple #[.int .i32 r, .int .i64 n]) ∧ Below w.heap.size w w' := by
  have := iseq_any t w h2 hs hL
  rw [h] at this
  exact this
end Go.Proofs.YtjaojenalodolaaGreatDoor.Jw
namespace Go.Proofs.YtjaojenalodolaaGreatDoor.Jw
open Go Go.RowKit Go.Proofs.YtjaojenalodolaaGreatDoor Go.Proofs.YtjaojenalodolaaGreatDoor.Tx
theorem cells_rune (r : Int) (h : Lib.validRune r = true) : Lib.runeCells r = Lib.byteCells (Txt.enc r) := by
  unfold Txt.enc
  rw [if_pos h]
  unfold Lib.runeCells Lib.byteCells Lib.encodeRune
  rw [List.map_map]
  apply List.map_congr_left
  intro x hx
  have := Lib.encodeRuneZ_byte r x hx
  show Value.int .u8 x = Value.int .u8 ((x.toNat.toUInt8).toNat : Int)
  rw [Txt.toNat_u8 (by omega)]
  exact val_int (by omega)
set_option maxRecDepth 100000 in
set_option maxHeartbeats 2000000 in
theorem writeRune (B b : Nat) (bs : List Value) (r : Int) (w : World) (h : Lib.IsBuilder Bld.TB Bld.TU B b bs w) (hr0 : -2147483648 ≤ r) (hr1 : r ≤ 2147483647) (hlen : bs.length + 4 ≤ 140737488355328) (hBw : B ≤ w.heap.size) :
    Calls Tryz.prog 196 #[.pointer (some ⟨b, 0, none⟩), .int .i32 r] w fun e w' => ∃ z : Int, e = .returned (.tuple #[.int .i64 z, .nilIface]) ∧ (Lib.IsBuilder Bld.TB Bld.TU B b (bs ++ Lib.runeCells r) w' ∧ Below B w w') := by
  have HRL := Lib.hid (Lib.runeCells_le r)
  go_enter Tryz.func196, Tryz.ntmps196
  go_wp2_with fail
  refine (Bld.check_any B b bs _ h).mono ?_
  rintro e w1 ⟨rfl, h1, hb1⟩
  obtain ⟨hB, v, hbk, hown, hne⟩ := h1
  have c0 : w1.cell? ⟨b, 0, none⟩ = some (.pointer (some ⟨b, 0, none⟩)) := by rw [Lib.cell_of_heap hbk]; rfl
  have c1 : w1.cell? ⟨b, 1, none⟩ = some v := by rw [Lib.cell_of_heap hbk]; rfl
  have hz := hb1.size
  obtain ⟨ao, cap, rfl⟩ := own_slice hown
  go_wp2_with fail
  refine (Tryz.utf8_AppendRune_plain B _ bs.length bs r hr0 hr1 _ hown hlen (by omega)).mono ?_
  rintro e w2 ⟨v', rfl, hown', o, hgrow⟩
  have hlt : b < w1.heap.size := (Array.getElem?_eq_some_iff.1 hbk).1
  have hb2 : w2.heap[b]? = some (.cells #[.pointer (some ⟨b, 0, none⟩), .slice ao bs.length cap] Bld.TB (0, 0)) := by
    rw [hgrow.block b (by rw [alloc_sz]; omega) (fun e => hne e.symm), Lib.alloc_old w1 _ b hlt]
    exact hbk
  have d0 : w2.cell? ⟨b, 0, none⟩ = some (.pointer (some ⟨b, 0, none⟩)) := by rw [Lib.cell_of_heap hb2]; rfl
  have d1 : w2.cell? ⟨b, 1, none⟩ = some (.slice ao bs.length cap) := by rw [Lib.cell_of_heap hb2]; rfl
  have f1 : w2.frozen? ⟨b, 1, none⟩ = false := Lib.frozen_of_heap hb2 1
  obtain ⟨ao', cap', rfl⟩ := own_slice hown'
  have HIS := Lib.hid (Lib.BuilderAt.put (T := Bld.TB) (e := Bld.TU) hB hb2 (bs' := bs ++ Lib.runeCells r) (by simpa using hown') (by decide))
  have HBL := Lib.hid (((hb1.alloc (by omega) o).grown hgrow (by rw [alloc_sz]; omega) (fun k hk => (hown.lt k hk).1)).setCell (p := ⟨b, 1, none⟩) hB (.slice ao' (bs.length + (Lib.runeCells r).length) cap'))
  clear hown hgrow hown' hbk hb2
  go_wp2
  go_ret2
  exact ⟨_, rfl, .inr HIS.out, HBL.out⟩
end Go.Proofs.YtjaojenalodolaaGreatDoor.Jw
namespace Go.Proofs.YtjaojenalodolaaGreatDoor.Jw
open Go Go.RowKit Go.Proofs.YtjaojenalodolaaGreatDoor Go.Proofs.YtjaojenalodolaaGreatDoor.Tx
def fin (k : Nat) (p : Nat × Nat × List UInt8) : List UInt8 × Int × Int :=
  if p.1 = 0 then (p.2.2, (k : Int) + 1 + p.2.1, 0) else if p.1 = 8 then ([], k, 8) else ([], (k : Int) + 1 + p.2.1, p.1)
structure Inv (s : ByteArray) (k i : Nat) (o : List UInt8) : Prop where
  le : k + 1 ≤ i
  eq : Js.parse (s.data.toList.drop (k + 1)) = ((Js.parse (s.data.toList.drop i)).1, (i - (k + 1)) + (Js.parse (s.data.toList.drop i)).2.1, o ++ (Js.parse (s.data.toList.drop i)).2.2)
theorem inv_start (s : ByteArray) (k : Nat) : Inv s k (k + 1) [] := ⟨Nat.le_refl _, by simp⟩
theorem inv_step {s : ByteArray} {k i : Nat} {o e : List UInt8} {n : Nat} (h : Inv s k i o)
    (hs : Js.parse (s.data.toList.drop i) = ((Js.parse ((s.data.toList.drop i).drop n)).1, n + (Js.parse ((s.data.toList.drop i).drop n)).2.1, e ++ (Js.parse ((s.data.toList.drop i).drop n)).2.2)) : Inv s k (i + n) (o ++ e) := by
  have h1 := h.le
  rw [List.drop_drop] at hs
  refine ⟨by omega, ?_⟩
  rw [h.eq, hs]
  simp only [List.append_assoc, Prod.mk.injEq, true_and, and_true]
  omega
theorem inv_err {s : ByteArray} {k i : Nat} {o : List UInt8} {t : Nat} (h : Inv s k i o) (hs : Js.parse (s.data.toList.drop i) = (t, 0, [])) (h0 : t ≠ 0) (h8 : t ≠ 8) : fin k (Js.parse (s.data.toList.drop (k + 1))) = (([] : List UInt8), (i : Int), (t : Int)) := by
  have h1 := h.le
  rw [h.eq, hs]
  unfold fin
  simp only [if_neg h0, if_neg h8, Nat.add_zero, Prod.mk.injEq, true_and, and_true]
  omega
theorem inv_eof {s : ByteArray} {k i : Nat} {o : List UInt8} (h : Inv s k i o) (hs : Js.parse (s.data.toList.drop i) = (8, 0, [])) : fin k (Js.parse (s.data.toList.drop (k + 1))) = (([] : List UInt8), (k : Int), (8 : Int)) := by
  rw [h.eq, hs]; rfl
theorem inv_fin {s : ByteArray} {k i : Nat} {o : List UInt8} (h : Inv s k i o) (hs : Js.parse (s.data.toList.drop i) = (0, 1, [])) : fin k (Js.parse (s.data.toList.drop (k + 1))) = (o, (i : Int) + 1, (0 : Int)) := by
  have h1 := h.le
  rw [h.eq, hs]
  unfold fin
  simp only [if_true, List.append_nil, Prod.mk.injEq, true_and, and_true]
  omega
theorem st_bad {l : List UInt8} (h1 : l ≠ []) (h : (Txt.dec l).2 = 0) : Js.parse l = (5, 0, []) := by rw [Js.parse_step l h1, if_pos h]
theorem st_ctl {l : List UInt8} {r n : Nat} (h1 : l ≠ []) (h : Txt.dec l = (r, n)) (hn : n ≠ 0) (h2 : r < 32) : Js.parse l = (6, 0, []) := by
  rw [Js.parse_step l h1, h, if_neg hn, if_pos h2]
theorem st_quo {l : List UInt8} {n : Nat} (h1 : l ≠ []) (h : Txt.dec l = (34, n)) (hn : n ≠ 0) : Js.parse l = (0, 1, []) := by
  rw [Js.parse_step l h1, h, if_neg hn, if_neg (by omega)]; rfl
theorem st_eof {l : List UInt8} {n : Nat} (h1 : l ≠ []) (h : Txt.dec l = (92, n)) (hn : n ≠ 0) (h2 : l.length = 1) : Js.parse l = (8, 0, []) := by
  rw [Js.parse_step l h1, h, if_neg hn, if_neg (by omega), if_neg (by omega)]; simp [h2]
theorem st_esc {l : List UInt8} {n : Nat} (h1 : l ≠ []) (h : Txt.dec l = (92, n)) (hn : n ≠ 0) (h2 : l.length ≠ 1) (h3 : (Js.seqV l).2 = 0) : Js.parse l = (16, 0, []) := by
  rw [Js.parse_step l h1, h, if_neg hn, if_neg (by omega), if_neg (by omega)]; simp [h2, h3]
theorem st_seq {l : List UInt8} {n r m : Nat} (h1 : l ≠ []) (h : Txt.dec l = (92, n)) (hn : n ≠ 0) (h2 : l.length ≠ 1) (h3 : Js.seqV l = (r, m)) (hm : m ≠ 0) :
    Js.parse l = ((Js.parse (l.drop m)).1, m + (Js.parse (l.drop m)).2.1, Txt.enc r ++ (Js.parse (l.drop m)).2.2) := by
  rw [Js.parse_step l h1, h, if_neg hn, if_neg (by omega), if_neg (by omega), h3]; simp [h2, hm]
theorem st_rune {l : List UInt8} {n r : Nat} (h1 : l ≠ []) (h : Txt.dec l = (r, n)) (hn : n ≠ 0) (h2 : 32 ≤ r) (h3 : r ≠ 34) (h4 : r ≠ 92) :
    Js.parse l = ((Js.parse (l.drop n)).1, n + (Js.parse (l.drop n)).2.1, Txt.enc r ++ (Js.parse (l.drop n)).2.2) := by
  rw [Js.parse_step l h1, h, if_neg hn, if_neg (by omega), if_neg h3, if_neg h4]
theorem ret_fin {a : ByteArray} {x z : Int} {f : List UInt8 × Int × Int} {l : List UInt8} {y u : Int} (h : f = (l, y, u)) (h0 : a = ⟨l.toArray⟩) (h1 : x = y) (h2 : z = u) :
    Ending.returned (.tuple #[.string a, .int .i64 x, .int .i64 z]) = .returned (.tuple #[.string ⟨f.1.toArray⟩, .int .i64 f.2.1, .int .i64 f.2.2]) := by rw [h, h0, h1, h2]
theorem encode_is (r : Int) (x : ByteArray) (w : World) (h : (⟨(Txt.enc r).toArray⟩ : ByteArray) = x) :
    Calls Tryz.prog 153 #[.int .i64 r] w fun e w' => e = .returned (.string x) ∧ Below w.heap.size w w' := by
  rw [← h]; exact encode_any r w
theorem enc_len4 (r : Int) : (Txt.enc r).length ≤ 4 := by
  unfold Txt.enc
  split
  · have := (Lib.encodeRuneZ_length r).2
    simpa [Lib.encodeRune] using this
  · simp
end Go.Proofs.YtjaojenalodolaaGreatDoor.Jw
namespace Go.Proofs.YtjaojenalodolaaGreatDoor.Jw
open Go Go.RowKit Go.Proofs.YtjaojenalodolaaGreatDoor Go.Proofs.YtjaojenalodolaaGreatDoor.Tx
theorem drop_ext (s : ByteArray) (i : Nat) : (s.extract i s.size).data.toList = s.data.toList.drop i := by
  rw [ByteArray.data_extract, Array.toList_extract, List.extract_eq_take_drop, List.take_of_length_le (by simp)]
theorem cells_add (o : List UInt8) (r : Nat) (h : Lib.validRune r = true) : Lib.byteCells o ++ Lib.runeCells r = Lib.byteCells (o ++ Txt.enc (r : Int)) := by
  rw [cells_rune r h]; simp [Lib.byteCells]
theorem vr_dec {l : List UInt8} {r n : Nat} (hd : Txt.dec l = (r, n)) (hn : n ≠ 0) : Lib.validRune r = true := by
  have h := Txt.enc_dec l (by rw [hd]; exact hn)
  have hl := (Txt.dec_cons_ne (l := l) (by rw [hd]; exact hn)).1
  rw [hd] at h
  by_cases e : Lib.validRune r = true
  · exact e
  · unfold Txt.enc at h
    rw [if_neg e] at h
    have := congrArg List.length h
    simp only [List.length_nil, List.length_take] at this
    have := List.length_pos_iff.2 hl
    omega
theorem vr_seq {l : List UInt8} {r n : Nat} (h : r ≤ 1114111) (h2 : (Js.seqV l).1 < 55296 ∨ 57343 < (Js.seqV l).1) (h3 : Js.seqV l = (r, n)) : Lib.validRune r = true := by
  rw [h3] at h2
  simp only at h2
  exact vr_t (by omega)
set_option maxHeartbeats 2000000 in
theorem parse_out (s : ByteArray) (a : Int) (w : World) (h : a < 0 ∨ (s.size : Int) ≤ a) :
    Calls Tryz.prog 169 #[.string s, .int .i64 a] w fun e w' => e = .returned (.tuple #[.string ⟨#[]⟩, .int .i64 a, .int .i64 7]) ∧ Below w.heap.size w w' := by
  rcases h with h | h
  · go_enter Tryz.func169, Tryz.ntmps169
    go_wp2
    go_step3
    go_wp2
    rw [Exit.noGoto_ret]
    exact bodyPost_ret (v := .tuple #[.string ⟨#[]⟩, .int .i64 a, .int .i64 7]) (by simp [results, Tryz.results169, go_sem]) rfl ⟨rfl, Below.refl _ _⟩
  · have h0 : 0 ≤ a := by omega
    go_enter Tryz.func169, Tryz.ntmps169
    go_wp2
    go_step3
    go_wp2
    rw [Exit.noGoto_ret]
    exact bodyPost_ret (v := .tuple #[.string ⟨#[]⟩, .int .i64 a, .int .i64 7]) (by simp [results, Tryz.results169, go_sem]) rfl ⟨rfl, Below.refl _ _⟩
set_option maxHeartbeats 2000000 in
theorem parse_no (s : ByteArray) (k : Nat) (w : World) (hk : k < s.size) (h : s[k] ≠ 34) :
    Calls Tryz.prog 169 #[.string s, .int .i64 k] w fun e w' => e = .returned (.tuple #[.string ⟨#[]⟩, .int .i64 k, .int .i64 7]) ∧ Below w.heap.size w w' := by
  have g1 : ((s[k].toNat : Int) != 34) = true := by
    have : ((s[k].toNat : Int) == 34) = false := u8_ne (by decide) h
    rw [bne, this]; rfl
  have g2 : decide ((k : Int) < 0) = false := by simp
  have g3 : decide ((s.size : Int) ≤ k) = false := by simp; omega
  clear h
  go_enter Tryz.func169, Tryz.ntmps169
  go_wp2
  go_step3
  go_wp2
  rw [Exit.noGoto_ret]
  exact bodyPost_ret (v := .tuple #[.string ⟨#[]⟩, .int .i64 k, .int .i64 7]) (by simp [results, Tryz.results169, go_sem]) rfl ⟨rfl, Below.refl _ _⟩
set_option maxRecDepth 100000 in
set_option maxHeartbeats 4000000 in
theorem parse_in (s : ByteArray) (k : Nat) (w : World) (hk : k < s.size) (hs : s.size ≤ 1000000000) (hT : Lib.Utf8Tabs 2 3 w) (hL : LetTab w) (h : s[k] = 34) :
    Calls Tryz.prog 169 #[.string s, .int .i64 k] w fun e w' => e = .returned (.tuple #[.string ⟨(fin k (Js.parse (s.data.toList.drop (k + 1)))).1.toArray⟩, .int .i64 (fin k (Js.parse (s.data.toList.drop (k + 1)))).2.1, .int .i64 (fin k (Js.parse (s.data.toList.drop (k + 1)))).2.2]) ∧ Below w.heap.size w w' := by
  obtain ⟨f, hf⟩ : ∃ f, fin k (Js.parse (s.data.toList.drop (k + 1))) = f := ⟨_, rfl⟩
  rw [hf]
  have HFF := Lib.hid hf
  have HT := Lib.hid hT
  have HL := Lib.hid hL
  clear hT hL
  clear hf
  have g1 : decide ((k : Int) < 0) = false := by simp
  have g2 : decide ((s.size : Int) ≤ k) = false := by simp; omega
  go_enter Tryz.func169, Tryz.ntmps169
  go_wp2
  go_step3
  go_wp2
  go_step3
  go_wp2
  rename_i h0 k0 a0
  clear g1 g2 h h0
  go_loopw [8] (fun c wr => ∃ (i : Nat) (o : List UInt8), i ≤ s.size ∧ c = .int .i64 i ∧ o.length ≤ 4 * i ∧ Hid (Inv s k i o) ∧ Hid (Lib.IsBuilder Bld.TB Bld.TU w.heap.size w.heap.size (Lib.byteCells o) wr) ∧ Hid (Below w.heap.size w wr)) (fun c _ => s.size - (intOf c).toNat)
  case atStart => exact ⟨k + 1, [], by omega, by go_num, Nat.zero_le _, inv_start s k, Lib.fresh_isBuilder Bld.TB Bld.TU w, (Below.refl _ _).alloc (Nat.le_refl _) _⟩
  case round =>
    obtain ⟨i, o, hi, rfl, hob, HI, HO, HB⟩ := hrel
    have hz := HB.out.size
    have HLEN := Lib.hid (Lib.byteCells_length o)
    by_cases hlt : i < s.size
    · have hne := drop_ne hlt
      by_cases hbad : (Txt.dec (s.data.toList.drop i)).2 = 0
      · have HE := Lib.hid (HFF.out.symm.trans (inv_err HI.out (st_bad hne hbad) (by decide) (by decide)))
        have HD := Lib.hid hbad
        clear hne hbad
        go_wp2_with fail
        refine (decode_bad s i _ hlt (u8_below HT.out HB.out) HD.out).mono ?_
        rintro e w1 ⟨rfl, hb1⟩
        have HB1 := Lib.hid (below_trans HB.out hb1)
        have HBX := Lib.hid hb1
        clear hb1
        go_wp2_with fail
        rw [Exit.noGoto_ret]
        exact bodyPost_ret (v := .tuple #[.string ⟨#[]⟩, .int .i64 i, .int .i64 5]) (by simp [results, Tryz.results169, go_sem]) rfl ⟨ret_fin HE.out rfl rfl rfl, HB1.out⟩
      · obtain ⟨R, M, hd⟩ : ∃ R M, Txt.dec (s.data.toList.drop i) = (R, M) := ⟨_, _, rfl⟩
        obtain ⟨q1, q2, q3⟩ := step_at s i R M hd hlt
        rw [hd] at hbad
        have q4 : 1 ≤ M := by simp at hbad; omega
        have hM : M ≠ 0 := by omega
        have HD := Lib.hid hd
        by_cases c1 : R < 32
        · have HE := Lib.hid (HFF.out.symm.trans (inv_err HI.out (st_ctl hne hd hM c1) (by decide) (by decide)))
          clear hne hbad hd hM
          go_wp2_with fail
          refine (decode_ok s i R M _ hlt (u8_below HT.out HB.out) HD.out).mono ?_
          rintro e w1 ⟨rfl, hb1⟩
          have HB1 := Lib.hid (below_trans HB.out hb1)
          have HBX := Lib.hid hb1
          clear hb1
          go_wp2_with fail
          rw [Exit.noGoto_ret]
          exact bodyPost_ret (v := .tuple #[.string ⟨#[]⟩, .int .i64 i, .int .i64 6]) (by simp [results, Tryz.results169, go_sem]) rfl ⟨ret_fin HE.out rfl rfl rfl, HB1.out⟩
        · have c1' : 32 ≤ R := by omega
          by_cases c2 : R = 34
          · subst c2
            have HE := Lib.hid (HFF.out.symm.trans (inv_fin HI.out (st_quo hne hd hM)))
            clear hne hbad hd hM c1
            go_wp2_with fail
            refine (decode_ok s i 34 M _ hlt (u8_below HT.out HB.out) HD.out).mono ?_
            rintro e w1 ⟨rfl, hb1⟩
            have HB1 := Lib.hid (below_trans HB.out hb1)
            have HBX := Lib.hid hb1
            clear hb1
            go_wp2_with fail
            refine (Tryz.Builder_String_any w.heap.size w.heap.size o _ (Bld.is_below HO.out HBX.out) HB1.out.size).mono ?_
            rintro e w2 ⟨rfl, hb2⟩
            have HB2 := Lib.hid (Below.trans HB1.out hb2)
            clear hb2
            go_wp2_with fail
            rw [Exit.noGoto_ret]
            exact bodyPost_ret (v := .tuple #[.string ⟨o.toArray⟩, .int .i64 ((i : Int) + 1), .int .i64 0]) (by simp [results, Tryz.results169, go_sem]) rfl ⟨ret_fin HE.out rfl rfl rfl, HB2.out⟩
          · by_cases c3 : R = 92
            · subst c3
              by_cases c4 : i + 1 = s.size
              · have HE := Lib.hid (HFF.out.symm.trans (inv_eof HI.out (st_eof hne hd hM (by rw [drop_len]; omega))))
                have g4 : ((i : Int) + 1 == (s.size : Int)) = true := by simp; omega
                clear hne hbad hd hM c1 c2
                go_wp2_with fail
                refine (decode_ok s i 92 M _ hlt (u8_below HT.out HB.out) HD.out).mono ?_
                rintro e w1 ⟨rfl, hb1⟩
                have HB1 := Lib.hid (below_trans HB.out hb1)
                have HBX := Lib.hid hb1
                clear hb1
                go_wp2_with fail
                rw [Exit.noGoto_ret]
                exact bodyPost_ret (v := .tuple #[.string ⟨#[]⟩, .int .i64 k, .int .i64 8]) (by simp [results, Tryz.results169, go_sem]) rfl ⟨ret_fin HE.out rfl rfl rfl, HB1.out⟩
              · have g4 : ((i : Int) + 1 == (s.size : Int)) = false := by
                  rw [beq_eq_false_iff_ne]; omega
                have hl1 : (s.data.toList.drop i).length ≠ 1 := by rw [drop_len]; omega
                have c5 : i + 1 < s.size := by omega
                obtain ⟨r, n, hsq⟩ : ∃ r n, Js.seqV (s.data.toList.drop i) = (r, n) := ⟨_, _, rfl⟩
                obtain ⟨b1, b2, b3, b4⟩ := Js.seqV_bd (s.data.toList.drop i) (by rw [drop_len]; omega)
                rw [hsq, drop_len] at b1
                rw [hsq] at b2
                simp only at b1 b2
                have HSQ := Lib.hid hsq
                have HXS := Lib.hid (show (s.extract i s.size).size = s.size - i by simp)
                have HXD := Lib.hid (drop_ext s i)
                by_cases c6 : n = 0
                · subst c6
                  have HE := Lib.hid (HFF.out.symm.trans (inv_err HI.out (st_esc hne hd hM hl1 (by rw [hsq])) (by decide) (by decide)))
                  clear hne hbad hd hM c1 c2 c4 hl1 hsq b3 b4
                  go_wp2_with fail
                  refine (decode_ok s i 92 M _ hlt (u8_below HT.out HB.out) HD.out).mono ?_
                  rintro e w1 ⟨rfl, hb1⟩
                  have HB1 := Lib.hid (below_trans HB.out hb1)
                  have HBX := Lib.hid hb1
                  clear hb1
                  go_wp2_with fail
                  refine (iseq_is (s.extract i s.size) r 0 _ (by rw [HXS.out]; omega) (by rw [HXS.out]; omega) (HL.out.below HB1.out) (by rw [HXD.out]; exact HSQ.out)).mono ?_
                  rintro e w3 ⟨rfl, hb3⟩
                  have HB3 := Lib.hid (below_trans HB1.out hb3)
                  have HBY := Lib.hid (below_trans HBX.out hb3)
                  clear hb3
                  go_wp2_with fail
                  rw [Exit.noGoto_ret]
                  exact bodyPost_ret (v := .tuple #[.string ⟨#[]⟩, .int .i64 i, .int .i64 16]) (by simp [results, Tryz.results169, go_sem]) rfl ⟨ret_fin HE.out rfl rfl rfl, HB3.out⟩
                · have HN := Lib.hid (inv_step HI.out (st_seq hne hd hM hl1 hsq c6))
                  have HRC := Lib.hid (cells_add o r (vr_seq b2 (b3 (by rw [hsq]; exact c6)) hsq))
                  have q5 : 1 ≤ n := by omega
                  clear hne hbad hd hM c1 c2 c4 hl1 hsq b3 b4 c6
                  go_wp2_with fail
                  refine (decode_ok s i 92 M _ hlt (u8_below HT.out HB.out) HD.out).mono ?_
                  rintro e w1 ⟨rfl, hb1⟩
                  have HB1 := Lib.hid (below_trans HB.out hb1)
                  have HBX := Lib.hid hb1
                  clear hb1
                  go_wp2_with fail
                  refine (iseq_is (s.extract i s.size) r n _ (by rw [HXS.out]; omega) (by rw [HXS.out]; omega) (HL.out.below HB1.out) (by rw [HXD.out]; exact HSQ.out)).mono ?_
                  rintro e w3 ⟨rfl, hb3⟩
                  have HB3 := Lib.hid (below_trans HB1.out hb3)
                  have HBY := Lib.hid (below_trans HBX.out hb3)
                  clear hb3
                  go_wp2_with fail
                  refine (writeRune w.heap.size w.heap.size (Lib.byteCells o) r _ (Bld.is_below HO.out HBY.out) (by omega) (by omega) (by rw [HLEN.out]; omega) HB3.out.size).mono ?_
                  rintro e w2 ⟨z, rfl, hI2, hb2⟩
                  rw [HRC.out] at hI2
                  have HI2 := Lib.hid hI2
                  have HB2 := Lib.hid (Below.trans HB3.out hb2)
                  clear hI2 hb2
                  go_wp2_with fail
                  go_roundw
                  case rel => exact ⟨i + n, _, by omega, by go_num, by have := enc_len4 (r : Int); rw [List.length_append]; omega, HN.out, HI2.out, HB2.out⟩
                  case measure => simp [intOf]; omega
            · have HN := Lib.hid (inv_step HI.out (st_rune hne hd hM c1' c2 c3))
              have HRC := Lib.hid (cells_add o R (vr_dec hd hM))
              have g3 : ((R : Int) == 34) = false := by simp; omega
              have g4 : ((R : Int) == 92) = false := by simp; omega
              clear hne hbad hd hM c1 c2 c3
              go_wp2_with fail
              refine (decode_ok s i R M _ hlt (u8_below HT.out HB.out) HD.out).mono ?_
              rintro e w1 ⟨rfl, hb1⟩
              have HB1 := Lib.hid (below_trans HB.out hb1)
              have HBX := Lib.hid hb1
              clear hb1
              go_wp2_with fail
              refine (writeRune w.heap.size w.heap.size (Lib.byteCells o) R _ (Bld.is_below HO.out HBX.out) (by omega) (by omega) (by rw [HLEN.out]; omega) HB1.out.size).mono ?_
              rintro e w2 ⟨z, rfl, hI2, hb2⟩
              rw [HRC.out] at hI2
              have HI2 := Lib.hid hI2
              have HB2 := Lib.hid (Below.trans HB1.out hb2)
              clear hI2 hb2
              go_wp2_with fail
              go_roundw
              case rel => exact ⟨i + M, _, by omega, by go_num, by have := enc_len4 (R : Int); rw [List.length_append]; omega, HN.out, HI2.out, HB2.out⟩
              case measure => simp [intOf]; omega
    · obtain rfl : i = s.size := by omega
      have HE := Lib.hid (HFF.out.symm.trans (inv_eof HI.out (by
        have e : s.data.toList.drop s.size = [] := List.drop_of_length_le (Nat.le_of_eq (by simp))
        rw [e]; rfl)))
      go_wp2
      rw [Exit.noGoto_ret]
      exact bodyPost_ret (v := .tuple #[.string ⟨#[]⟩, .int .i64 k, .int .i64 8]) (by simp [results, Tryz.results169, go_sem]) rfl ⟨ret_fin HE.out rfl rfl rfl, HB.out⟩
end Go.Proofs.YtjaojenalodolaaGreatDoor.Jw
namespace Go.Proofs.YtjaojenalodolaaGreatDoor.Jw
open Go Go.RowKit Go.Proofs.YtjaojenalodolaaGreatDoor Go.Proofs.YtjaojenalodolaaGreatDoor.Tx
structure JTabs (w : World) : Prop where
  u : Lib.Utf8Tabs 2 3 w
  l : LetTab w
theorem JTabs.below {w w' : World} (h : JTabs w) (hb : Below w.heap.size w w') : JTabs w' := ⟨u8_below h.u hb, h.l.below hb⟩
theorem ba_of {A : ByteArray} {l : List UInt8} (h : A.data.toList = l) : (⟨l.toArray⟩ : ByteArray) = A := by
  obtain ⟨⟨d⟩⟩ := A
  subst h
  rfl
theorem toList_append (s t : ByteArray) : (s ++ t).data.toList = s.data.toList ++ t.data.toList := by simp
theorem ba_eq {A B : ByteArray} (h : A.data.toList = B.data.toList) : A = B := by rw [← ba_of (A := A) rfl, h, ba_of (A := B) rfl]
def qv (l : List UInt8) : List UInt8 × Int := if Lib.validD l = true then (Js.quote l, 0) else ([], 5)
def pv (l : List UInt8) (a : Int) : List UInt8 × Int × Int :=
  if 0 ≤ a ∧ a < l.length ∧ l.getD a.toNat 0 = 34 then fin a.toNat (Js.parse (l.drop (a.toNat + 1))) else ([], a, 7)
theorem pv_out {s : ByteArray} {a : Int} (h : a < 0 ∨ (s.size : Int) ≤ a) : pv s.data.toList a = ([], a, 7) := by
  unfold pv
  rw [if_neg]
  simp only [Array.length_toList]
  rintro ⟨h1, h2, _⟩
  have h3 : (s.data.size : Int) = (s.size : Int) := rfl
  omega
theorem getD_at (s : ByteArray) (k : Nat) (h : k < s.size) : s.data.toList.getD k 0 = s[k] := by
  have := drop_at s k 0 (by omega)
  simpa using this
theorem pv_no {s : ByteArray} {k : Nat} (hk : k < s.size) (h : s[k] ≠ 34) : pv s.data.toList k = ([], (k : Int), 7) := by
  unfold pv
  rw [if_neg]
  rintro ⟨_, _, h3⟩
  rw [Int.toNat_natCast, getD_at s k hk] at h3
  exact h h3
theorem pv_in {s : ByteArray} {k : Nat} (hk : k < s.size) (h : s[k] = 34) : pv s.data.toList k = fin k (Js.parse (s.data.toList.drop (k + 1))) := by
  unfold pv
  rw [if_pos]
  · rw [Int.toNat_natCast]
  · refine ⟨Int.natCast_nonneg k, ?_, ?_⟩
    · simp only [Array.length_toList]
      have h3 : s.data.size = s.size := rfl
      omega
    · rw [Int.toNat_natCast, getD_at s k hk]; exact h
theorem parse_ba (s t : ByteArray) (a x z : Int) (w : World) (hs : s.size ≤ 1000000000) (hT : JTabs w) (h : pv s.data.toList a = (t.data.toList, x, z)) :
    Calls Tryz.prog 169 #[.string s, .int .i64 a] w fun e w' => e = .returned (.tuple #[.string t, .int .i64 x, .int .i64 z]) ∧ Below w.heap.size w w' := by
  by_cases h1 : a < 0 ∨ (s.size : Int) ≤ a
  · rw [pv_out h1] at h
    simp only [Prod.mk.injEq] at h
    obtain ⟨e1, rfl, rfl⟩ := h
    rw [← ba_of (A := t) e1.symm]
    exact parse_out s a w h1
  · obtain ⟨k, rfl⟩ : ∃ k : Nat, a = k := ⟨a.toNat, by omega⟩
    have hk : k < s.size := by omega
    by_cases h2 : s[k] = 34
    · rw [pv_in hk h2] at h
      have := parse_in s k w hk hs hT.u hT.l h2
      rw [h] at this
      rw [← ba_of (A := t) rfl]
      exact this
    · rw [pv_no hk h2] at h
      simp only [Prod.mk.injEq] at h
      obtain ⟨e1, rfl, rfl⟩ := h
      rw [← ba_of (A := t) e1.symm]
      exact parse_no s k w hk h2
end Go.Proofs.YtjaojenalodolaaGreatDoor.Jw
