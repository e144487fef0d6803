/- Small facts that every walk uses: strings as lists of bytes, worlds, slices of bytes that the call owns. -/
import Derived.Test.YtcobjjaicckgpaaProg
import Derived.WalkKit
import Derived.Outline
import Derived.Below
import Derived.OneCell
import Derived.OwnWalk
import Derived.Lib.Hide
import Derived.RegionTactic
import Derived.BigQuiet
import Derived.Deep.QuietTactic
import Derived.ChangeAlike
import Derived.Laws.Rows
import Derived.Laws.Externs
import Derived.Lib.Builder
import Derived.Lib.AppendStr
import Derived.Lib.UnsafeStr
import Derived.IntWalk
import Derived.Lib.BufferRead
import Derived.WalkMore
import Derived.WalkSpells
import Derived.WalkLawsBesides
namespace Go.Proofs.Ytcobjjaicckgpaa.Bs
open Go Go.RowKit Go.Proofs.Ytcobjjaicckgpaa

theorem ret_bool {a b : Bool} (h : a = b) : Ending.returned (.bool a) = .returned (.bool b) := by rw [h]
theorem ret_int {k : IntKind} {a b : Int} (h : a = b) : Ending.returned (.int k a) = .returned (.int k b) := by rw [h]
theorem ret_str {a b : ByteArray} (h : a = b) : Ending.returned (.string a) = .returned (.string b) := by rw [h]
theorem ret_two {k l : IntKind} {a b c d : Int} (h : a = b) (g : c = d) : Ending.returned (.tuple #[.int k a, .int l c]) = .returned (.tuple #[.int k b, .int l d]) := by rw [h, g]
theorem ret_intb {k : IntKind} {a b : Int} {c d : Bool} (h : a = b) (g : c = d) : Ending.returned (.tuple #[.int k a, .bool c]) = .returned (.tuple #[.int k b, .bool d]) := by rw [h, g]
theorem ret_strerr {a b : ByteArray} {k : IntKind} {x y : Int} (h : a = b) (g : x = y) : Ending.returned (.tuple #[.string a, .int k x]) = .returned (.tuple #[.string b, .int k y]) := by rw [h, g]
theorem ret_strb {a b : ByteArray} {x y : Bool} (h : a = b) (g : x = y) : Ending.returned (.tuple #[.string a, .bool x]) = .returned (.tuple #[.string b, .bool y]) := by rw [h, g]
theorem val_int {k : IntKind} {a b : Int} (h : a = b) : Value.int k a = Value.int k b := by rw [h]

/-! ### worlds -/
theorem below_trans {a b c : World} (h : Below a.heap.size a b) (k : Below b.heap.size b c) : Below a.heap.size a c := h.trans (k.mono h.size)
theorem below_at {B : Nat} {a b c : World} (h : Below B a b) (hz : B ≤ b.heap.size) (k : Below b.heap.size b c) : Below B a c := h.trans (k.mono hz)
theorem below_drewN {B : Nat} {a w : World} (h : Below B a w) (n : Nat) : Below B a (w.drewN n) := ⟨h.os, h.tape, h.output, h.size, h.block⟩
theorem alloc_sz (w : World) (o : Obj) : (w.alloc o).heap.size = w.heap.size + 1 := by show (w.heap.push o).size = _; exact Array.size_push _
theorem new_block (w : World) (o : Obj) : (w.alloc o).heap[w.heap.size]? = some o := by
  show (w.heap.push o)[w.heap.size]? = _
  rw [Array.getElem?_push, if_pos rfl]
theorem old_block (w : World) (o : Obj) (k : Nat) (h : k < w.heap.size) : (w.alloc o).heap[k]? = w.heap[k]? := by
  show (w.heap.push o)[k]? = _
  rw [Array.getElem?_push, if_neg (by omega)]
theorem lt_of_heap {w : World} {g : Nat} {o : Obj} (h : w.heap[g]? = some o) : g < w.heap.size := (Array.getElem?_eq_some_iff.1 h).1
theorem lt_of_cell {w : World} {a : Addr} {v : Value} (h : w.cell? a = some v) : a.block < w.heap.size := by
  unfold World.cell? at h
  cases e : w.heap[a.block]? with
  | none => rw [e] at h; simp at h
  | some o => exact lt_of_heap e
theorem heap_below {w w' : World} {g : Nat} {o : Obj} (hb : Below w.heap.size w w') (h : w.heap[g]? = some o) : w'.heap[g]? = some o := by
  rw [hb.block g (lt_of_heap h)]; exact h
/-! ### strings -/
theorem ba_of {A : ByteArray} {l : List UInt8} (h : A.data.toList = l) : (⟨l.toArray⟩ : ByteArray) = A := by
  obtain ⟨⟨d⟩⟩ := A
  subst h
  rfl
theorem ba_ex (l : List UInt8) : ∃ A : ByteArray, l = A.data.toList ∧ A.size = l.length := ⟨⟨l.toArray⟩, rfl, by show l.toArray.size = _; simp⟩
theorem ba_eq {A B : ByteArray} (h : A.data.toList = B.data.toList) : A = B := by rw [← ba_of (A := A) rfl, h, ba_of (A := B) rfl]
theorem ba_size (A : ByteArray) : A.size = A.data.toList.length := by simp
theorem ba_mk_size (l : List UInt8) : (⟨l.toArray⟩ : ByteArray).size = l.length := by show l.toArray.size = _; simp
theorem toList_append (s t : ByteArray) : (s ++ t).data.toList = s.data.toList ++ t.data.toList := by simp
theorem ext_list (s : ByteArray) (a b : Nat) : (s.extract a b).data.toList = (s.data.toList.drop a).take (b - a) := by
  rw [ByteArray.data_extract, Array.toList_extract, List.extract_eq_take_drop]
theorem drop_ext (s : ByteArray) (i : Nat) : (s.extract i s.size).data.toList = s.data.toList.drop i := by
  rw [ext_list, List.take_of_length_le (by simp)]
theorem take_ext (s : ByteArray) (i : Nat) : (s.extract 0 i).data.toList = s.data.toList.take i := by
  rw [ext_list, List.drop_zero, Nat.sub_zero]
theorem drop_len (s : ByteArray) (k : Nat) : (s.data.toList.drop k).length = s.size - k := by simp
theorem drop_at (s : ByteArray) (k i : Nat) (h : k + i < s.size) : (s.data.toList.drop k).getD i 0 = s[k + i]'h := by
  have h' : k + i < s.data.toList.length := by simpa using h
  rw [List.getD_eq_getElem?_getD, List.getElem?_drop, List.getElem?_eq_getElem h']
  rfl
theorem getD_at (s : ByteArray) (k : Nat) (h : k < s.size) : s.data.toList.getD k 0 = s[k] := by
  have := drop_at s k 0 (by omega)
  simpa using this
theorem getD_out (s : ByteArray) (k : Nat) (h : s.size ≤ k) : s.data.toList.getD k 0 = 0 := by
  have h' : s.data.toList.length ≤ k := by simpa using h
  rw [List.getD_eq_getElem?_getD, List.getElem?_eq_none h']; rfl
theorem take_snoc (s : ByteArray) (k : Nat) (h : k < s.size) : s.data.toList.take (k + 1) = s.data.toList.take k ++ [s[k]] := by
  rw [List.take_succ_eq_append_getElem (by simpa using h)]; rfl
theorem u8_ne {c : UInt8} {n : Nat} (hn : n < 256) (h : c ≠ UInt8.ofNat n) : ((c.toNat : Int) == (n : Int)) = false := by
  rw [beq_eq_false_iff_ne]
  intro e
  apply h
  apply UInt8.toNat_inj.1
  simp; omega
theorem u8_eq {c : UInt8} {n : Nat} (hn : n < 256) (h : c = UInt8.ofNat n) : (c.toNat : Int) = n := by
  subst h; simp; omega
theorem all_u8 (P : UInt8 → Prop) [DecidablePred P] (h : ∀ n : Fin 256, P (UInt8.ofNat n.val)) (c : UInt8) : P c := by
  have := h ⟨c.toNat, UInt8.toNat_lt c⟩
  simpa using this

/-! ### slices of bytes that the call owns -/
theorem infoU : (Try.prog.info? 5).map (fun i => (i.zero, i.size, i.bytes)) = some (some (.int .u8 0), 1, 1) := by kernel_rfl
theorem own_below {w w' : World} {base : Nat} {e : TypeId} {v : Value} {n : Nat} {xs : List Value} (h : w.ownsRow base e 1 v n xs) (hb : Below w.heap.size w w') : w'.ownsRow base e 1 v n xs :=
  h.kept (row := none) ⟨hb.os, hb.tape, hb.output, hb.size, fun k hk _ => hb.block k hk⟩ (by
    rcases h.2 with ⟨rfl, _⟩ | ⟨g, cap, cur, rfl, _⟩
    · left; rfl
    · right; simp [Value.ownBlock])
theorem conv_new (w : World) (xs : List Int) (n : Nat) (hn : xs.length = n) :
    (convert 30 9 (.slice (some ⟨w.heap.size, 0, none⟩) n n)).run Try.prog (w.alloc (.cells (xs.map (Value.int .u8)).toArray 5)) = .ok (.string (strOfNums xs)) (w.alloc (.cells (xs.map (Value.int .u8)).toArray 5)) :=
  run_convert_bytes_arg (P := Try.prog) _ 30 5 Try.underlying30 Try.underlying5 w.heap.size 0 n n xs hn (fun i hi => by
    have h2 := new_block w (.cells (xs.map (Value.int .u8)).toArray 5)
    unfold World.cell?
    simp only [h2]
    simp [List.getElem?_eq_getElem (show i < xs.length by omega)]) 9 Try.underlying9
theorem nums_list (xs : List Int) : (strOfNums xs).data.toList = xs.map fun x => UInt8.ofNat x.toNat := by
  unfold strOfNums; simp
theorem own_one (w : World) (c : UInt8) : (w.alloc (.cells #[.int .u8 c.toNat] 5)).ownsRow w.heap.size 5 1 (.slice (some ⟨w.heap.size, 0, none⟩) 1 1) 1 (Lib.byteCells [c]) :=
  ⟨by simp [Lib.byteCells], .inr ⟨w.heap.size, 1, _, rfl, Nat.le_refl _, new_block w _, Nat.le_refl _, by unfold maxLen; omega, rfl, by simp [Lib.byteCells]⟩⟩
theorem new_cells (w : World) (xs : List Value) (j : Nat) (u : Value) (hj : xs[j]? = some u) : (w.alloc (.cells xs.toArray 5)).cell? ((⟨w.heap.size, 0, none⟩ : Addr).add j) = some u := by
  have h2 := new_block w (.cells xs.toArray 5)
  have e : ((⟨w.heap.size, 0, none⟩ : Addr).add j) = ⟨w.heap.size, j, none⟩ := by simp [Addr.add]; omega
  rw [e]
  unfold World.cell?
  simp only [h2]
  simpa using hj
theorem one_new (w : World) (x : Value) (j : Nat) (u : Value) (hj : ([x] : List Value)[j]? = some u) : (w.alloc (.cells #[x] 5)).cell? ((⟨w.heap.size, 0, none⟩ : Addr).add j) = some u := by
  match j, hj with
  | 0, hj => simp at hj; subst hj; simp [Addr.add]
theorem own_slice {w : World} {base : Nat} {v : Value} {n : Nat} {xs : List Value} (h : w.ownsRow base 5 1 v n xs) : ∃ a cap, v = .slice a n cap := by
  rcases h.2 with ⟨rfl, rfl⟩ | ⟨g, cap, cur, rfl, _⟩
  · exact ⟨_, _, rfl⟩
  · exact ⟨_, _, rfl⟩
theorem cells_snoc (o : List UInt8) (c : UInt8) : Lib.byteCells o ++ [.int .u8 c.toNat] = Lib.byteCells (o ++ [c]) := by simp [Lib.byteCells]
theorem conv_own {w : World} {base : Nat} {v : Value} {o : List UInt8} (h : w.ownsRow base 5 1 v o.length (Lib.byteCells o)) :
    (convert 30 9 v).run Try.prog w = .ok (.string ⟨o.toArray⟩) w := by
  rcases h.2 with ⟨rfl, h0⟩ | ⟨g, cap, cur, rfl, _, hg, _, _, _, htk⟩
  · have : o = [] := List.eq_nil_of_length_eq_zero h0
    subst this
    exact Lib.run_convert_nil_bytes w 30 9 5 0 Try.underlying30 Try.underlying5 Try.underlying9
  · exact run_convert_bytes_back w 30 9 5 ⟨g, 0, none⟩ cap o Try.underlying30 Try.underlying5 Try.underlying9
      (Lib.bytes_of_row hg (by simpa using htk))
end Go.Proofs.Ytcobjjaicckgpaa.Bs
