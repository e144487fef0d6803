import Derived.Test.YtnicedfakjmbcaaDoorTxtW2
import Derived.OwnWalk
import Derived.KernelRfl
namespace Go.Proofs.YtnicedfakjmbcaaDoor.Tx
open Go Go.RowKit Go.Proofs.YtnicedfakjmbcaaDoor

/-! ### the tables -/
def startArr : Array Value := (Txt.startTab.map fun z => Value.int .i32 z).toArray
def moreArr : Array Value := (Txt.moreTab.map fun z => Value.int .i32 z).toArray
def sLo (i : Nat) : Int := Txt.startTab.getD (2 * i) 0
def sHi (i : Nat) : Int := Txt.startTab.getD (2 * i + 1) 0
def mLo (i : Nat) : Int := Txt.moreTab.getD (2 * i) 0
def mHi (i : Nat) : Int := Txt.moreTab.getD (2 * i + 1) 0
structure NameTabs (w : World) : Prop where
  st : ∃ t fr, w.heap[0]? = some (.cells startArr t fr)
  mo : ∃ t fr, w.heap[1]? = some (.cells moreArr t fr)
theorem new_block (w : World) (o : Obj) : (w.alloc o).heap[w.heap.size]? = some o := by
  show (w.heap.push o)[w.heap.size]? = _
  rw [Array.getElem?_push, if_pos rfl]
theorem heap_below {w w' : World} {g : Nat} {o : Obj} (hb : Below w.heap.size w w') (h : w.heap[g]? = some o) : w'.heap[g]? = some o := by
  rw [hb.block g (lt_of_block h)]; exact h
theorem NameTabs.below {w w' : World} (h : NameTabs w) (hb : Below w.heap.size w w') : NameTabs w' := by
  obtain ⟨⟨t, fr, h1⟩, ⟨u, fs, h2⟩⟩ := h
  exact ⟨⟨t, fr, heap_below hb h1⟩, ⟨u, fs, heap_below hb h2⟩⟩
theorem lt_of_cell {w : World} {a : Addr} {v : Value} (h : w.cell? a = some v) : a.block < w.heap.size := by
  unfold World.cell? at h
  cases e : w.heap[a.block]? with
  | none => rw [e] at h; simp at h
  | some o => exact lt_of_block e
theorem u8_below {w w' : World} {g3 g4 : Nat} (h : Lib.Utf8Tabs g3 g4 w) (hb : Below w.heap.size w w') : Lib.Utf8Tabs g3 g4 w' := by
  refine ⟨fun c hc => ?_, fun i hi => ⟨?_, ?_⟩⟩
  · have := h.1 c hc; rw [hb.cell (lt_of_cell this)]; exact this
  · have := (h.2 i hi).1; rw [hb.cell (lt_of_cell this)]; exact this
  · have := (h.2 i hi).2; rw [hb.cell (lt_of_cell this)]; exact this
theorem below_trans {a b c : World} (h : Below a.heap.size a b) (k : Below b.heap.size b c) : Below a.heap.size a c := h.trans (k.mono h.size)

theorem idx_start (i : Nat) (h : i < 15) (w : World) : (Instr.index 58 (.agg startArr) (.int .i64 i)).run Tryd.prog w = .ok (.agg #[.int .i32 (sLo i), .int .i32 (sHi i)]) w := by
  have e : i = 0 ∨ i = 1 ∨ i = 2 ∨ i = 3 ∨ i = 4 ∨ i = 5 ∨ i = 6 ∨ i = 7 ∨ i = 8 ∨ i = 9 ∨ i = 10 ∨ i = 11 ∨ i = 12 ∨ i = 13 ∨ i = 14 := by omega
  rcases e with rfl | rfl | rfl | rfl | rfl | rfl | rfl | rfl | rfl | rfl | rfl | rfl | rfl | rfl | rfl
  all_goals
    clear h
    change _ = _
    kernel_rfl
theorem idx_more (i : Nat) (h : i < 5) (w : World) : (Instr.index 59 (.agg moreArr) (.int .i64 i)).run Tryd.prog w = .ok (.agg #[.int .i32 (mLo i), .int .i32 (mHi i)]) w := by
  have e : i = 0 ∨ i = 1 ∨ i = 2 ∨ i = 3 ∨ i = 4 := by omega
  rcases e with rfl | rfl | rfl | rfl | rfl
  all_goals
    clear h
    change _ = _
    kernel_rfl
theorem start_in (r : Int) (i : Nat) (h : i < 15) (h1 : sLo i ≤ r) (h2 : r ≤ sHi i) : Txt.startB r = true := by
  have e : i = 0 ∨ i = 1 ∨ i = 2 ∨ i = 3 ∨ i = 4 ∨ i = 5 ∨ i = 6 ∨ i = 7 ∨ i = 8 ∨ i = 9 ∨ i = 10 ∨ i = 11 ∨ i = 12 ∨ i = 13 ∨ i = 14 := by omega
  rcases e with rfl | rfl | rfl | rfl | rfl | rfl | rfl | rfl | rfl | rfl | rfl | rfl | rfl | rfl | rfl
  all_goals
    simp [sLo, sHi, Txt.startTab] at h1 h2
    exact startB_t (by omega)
theorem start_out (r : Int) (h : ∀ i, i < 15 → r < sLo i ∨ sHi i < r) : Txt.startB r = false := by
  have h0 := h 0 (by omega)
  have h1 := h 1 (by omega)
  have h2 := h 2 (by omega)
  have h3 := h 3 (by omega)
  have h4 := h 4 (by omega)
  have h5 := h 5 (by omega)
  have h6 := h 6 (by omega)
  have h7 := h 7 (by omega)
  have h8 := h 8 (by omega)
  have h9 := h 9 (by omega)
  have h10 := h 10 (by omega)
  have h11 := h 11 (by omega)
  have h12 := h 12 (by omega)
  have h13 := h 13 (by omega)
  have h14 := h 14 (by omega)
  clear h
  simp [sLo, sHi, Txt.startTab] at h0 h1 h2 h3 h4 h5 h6 h7 h8 h9 h10 h11 h12 h13 h14
  exact startB_f (by omega)
theorem more_in (r : Int) (i : Nat) (h : i < 5) (h1 : mLo i ≤ r) (h2 : r ≤ mHi i) : Txt.moreB r = true := by
  have e : i = 0 ∨ i = 1 ∨ i = 2 ∨ i = 3 ∨ i = 4 := by omega
  rcases e with rfl | rfl | rfl | rfl | rfl
  all_goals
    simp [mLo, mHi, Txt.moreTab] at h1 h2
    exact moreB_t (by omega)
theorem more_out (r : Int) (h : ∀ i, i < 5 → r < mLo i ∨ mHi i < r) : Txt.moreB r = false := by
  have h0 := h 0 (by omega)
  have h1 := h 1 (by omega)
  have h2 := h 2 (by omega)
  have h3 := h 3 (by omega)
  have h4 := h 4 (by omega)
  clear h
  simp [mLo, mHi, Txt.moreTab] at h0 h1 h2 h3 h4
  exact moreB_f (by omega)

def NoS (r : Int) (k : Nat) : Prop := ∀ i, i < k → r < sLo i ∨ sHi i < r
def NoM (r : Int) (k : Nat) : Prop := ∀ i, i < k → r < mLo i ∨ mHi i < r

set_option maxRecDepth 100000 in
set_option maxHeartbeats 1000000 in
theorem start_any (r : Int) (w : World) (hT : NameTabs w) :
    Calls Tryd.prog 25 #[.int .i32 r] w fun e w' => e = .returned (.bool (Txt.startB r)) ∧ Below w.heap.size w w' := by
  obtain ⟨⟨t, fr, hst⟩, _⟩ := hT
  go_enter Tryd.func25, Tryd.ntmps25
  go_wp2_with (refine wpList_load_row rfl 58 _ rfl 0 rfl t startArr fr _ hst Tryd.underlying58 rfl (by kernel_rfl) ?_)
  clear hst
  go_loopw [6] (fun i wr => ∃ k : Nat, k ≤ 15 ∧ i = .int .i64 k ∧ NoS r k ∧ Below w.heap.size w wr) (fun i _ => (15 - intOf i).toNat)
  case atStart => exact ⟨0, by omega, rfl, fun i hi => absurd hi (by omega), Below.refl _ _⟩
  case round =>
    obtain ⟨k, hk, rfl, hno, hb⟩ := hrel
    have HN := Lib.hid hno
    have HB := Lib.hid hb
    have hz := hb.size
    clear hno hb
    by_cases hlt : k < 15
    · have hix := idx_start k hlt
      by_cases c1 : sLo k ≤ r
      · by_cases c2 : r ≤ sHi k
        · have H := Lib.hid (start_in r k hlt c1 c2)
          go_wp2
          go_ret
          exact ⟨ret_bool H.out.symm, (HB.out).alloc hz _⟩
        · go_wp2
          go_roundw
          case rel => exact ⟨k + 1, by omega, by go_num, fun i hi => by
            by_cases e : i = k
            · subst e; right; omega
            · exact HN.out i (by omega), (HB.out).alloc hz _⟩
          case measure => simp [intOf]; omega
      · go_wp2
        go_roundw
        case rel => exact ⟨k + 1, by omega, by go_num, fun i hi => by
          by_cases e : i = k
          · subst e; left; omega
          · exact HN.out i (by omega), (HB.out).alloc hz _⟩
        case measure => simp [intOf]; omega
    · obtain rfl : k = 15 := by omega
      have H := Lib.hid (start_out r HN.out)
      go_wp2
      go_ret
      exact ⟨ret_bool H.out.symm, HB.out⟩

set_option maxRecDepth 100000 in
set_option maxHeartbeats 1000000 in
theorem name_any (r : Int) (w : World) (hT : NameTabs w) :
    Calls Tryd.prog 27 #[.int .i32 r] w fun e w' => e = .returned (.bool (Txt.nameB r)) ∧ Below w.heap.size w w' := by
  have HT := Lib.hid hT
  obtain ⟨_, ⟨t, fr, hst⟩⟩ := hT
  go_enter Tryd.func27, Tryd.ntmps27
  go_wp2_with (refine wpList_load_row rfl 59 _ rfl 1 rfl t moreArr fr _ hst Tryd.underlying59 rfl (by kernel_rfl) ?_)
  clear hst
  go_loopw [6] (fun i wr => ∃ k : Nat, k ≤ 5 ∧ i = .int .i64 k ∧ NoM r k ∧ Below w.heap.size w wr) (fun i _ => (5 - intOf i).toNat)
  case atStart => exact ⟨0, by omega, rfl, fun i hi => absurd hi (by omega), Below.refl _ _⟩
  case round =>
    obtain ⟨k, hk, rfl, hno, hb⟩ := hrel
    have HN := Lib.hid hno
    have HB := Lib.hid hb
    have hz := hb.size
    clear hno hb
    by_cases hlt : k < 5
    · have hix := idx_more k hlt
      by_cases c1 : mLo k ≤ r
      · by_cases c2 : r ≤ mHi k
        · have H := Lib.hid (show Txt.nameB r = true by unfold Txt.nameB; rw [more_in r k hlt c1 c2]; rfl)
          go_wp2
          go_ret
          exact ⟨ret_bool H.out.symm, (HB.out).alloc hz _⟩
        · go_wp2
          go_roundw
          case rel => exact ⟨k + 1, by omega, by go_num, fun i hi => by
            by_cases e : i = k
            · subst e; right; omega
            · exact HN.out i (by omega), (HB.out).alloc hz _⟩
          case measure => simp [intOf]; omega
      · go_wp2
        go_roundw
        case rel => exact ⟨k + 1, by omega, by go_num, fun i hi => by
          by_cases e : i = k
          · subst e; left; omega
          · exact HN.out i (by omega), (HB.out).alloc hz _⟩
        case measure => simp [intOf]; omega
    · obtain rfl : k = 5 := by omega
      have H := Lib.hid (show Txt.nameB r = Txt.startB r by unfold Txt.nameB; rw [more_out r HN.out]; rfl)
      go_wp2_with fail
      refine (start_any r _ (HT.out.below HB.out)).mono ?_
      rintro e w1 ⟨rfl, hb1⟩
      have HB1 := Lib.hid (below_trans HB.out hb1)
      clear hb1
      go_wp2_with fail
      go_ret
      exact ⟨ret_bool H.out.symm, HB1.out⟩

set_option maxHeartbeats 2000000 in
theorem rname_any (r : Int) (w : World) :
    Calls Tryd.prog 28 #[.int .i64 r] w fun e w' => e = .returned (.bool (Txt.nameB r)) ∧ w = w' := by
  rcases hs : Txt.startB r with _ | _
  · have ht := @moreB_t r
    have hf := @moreB_f r
    have hn : Txt.nameB r = Txt.moreB r := by unfold Txt.nameB; rw [hs]; simp
    rw [hn]
    clear hn
    have hr : r < 45 ∨ r = 45 ∨ r = 46 ∨ r = 47 ∨ (48 ≤ r ∧ r ≤ 57) ∨ (58 ≤ r ∧ r ≤ 182) ∨ r = 183 ∨ (184 ≤ r ∧ r ≤ 767) ∨ (768 ≤ r ∧ r ≤ 879) ∨ (880 ≤ r ∧ r ≤ 8254) ∨ r = 8255 ∨ r = 8256 ∨ 8257 ≤ r := by omega
    rcases hr with h | rfl | rfl | rfl | ⟨h, h'⟩ | ⟨h, h'⟩ | rfl | ⟨h, h'⟩ | ⟨h, h'⟩ | ⟨h, h'⟩ | rfl | rfl | h
    all_goals
      first | (have H := Lib.hid (ht (by omega))) | (have H := Lib.hid (hf (by omega)))
      clear ht hf
      go_enter Tryd.func28, Tryd.ntmps28
      go_wp2_with (go_at_call 26; refine (rstart_any _ _).mono ?_; rintro e w' ⟨rfl, rfl⟩)
      go_ret
      first | exact ⟨ret_bool H.out.symm, rfl⟩ | exact ⟨ret_bool (by rw [H.out]; simp; omega), rfl⟩
  · have H := Lib.hid (show Txt.nameB r = true by unfold Txt.nameB; rw [hs]; simp)
    go_enter Tryd.func28, Tryd.ntmps28
    go_wp2_with (go_at_call 26; refine (rstart_any _ _).mono ?_; rintro e w' ⟨rfl, rfl⟩)
    go_ret
    exact ⟨ret_bool H.out.symm, rfl⟩
end Go.Proofs.YtnicedfakjmbcaaDoor.Tx
