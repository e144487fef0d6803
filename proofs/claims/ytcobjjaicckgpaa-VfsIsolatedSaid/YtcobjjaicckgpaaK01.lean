/- Parts of this proof, joined: Bs, Vf, VfW1, VfW2, VfW3, VfW4, VfW5, VfW6, VfW7, VfW8, VfW9, VfW10, VfW11, VfW12, VfW13, VfW14. -/
import Derived.Test.YtcobjjaicckgpaaProg
import Derived.WalkKit
import Derived.Outline
import Derived.Below
import Derived.OneCell
import Derived.OwnWalk
import Derived.Lib.Hide
import Derived.RegionTactic
import Derived.BigQuiet
import Derived.Deep.QuietTactic
import Derived.ChangeAlike
import Derived.Laws.Rows
import Derived.Laws.Externs
import Derived.Lib.Builder
import Derived.Lib.AppendStr
import Derived.Lib.UnsafeStr
import Derived.IntWalk
import Derived.Lib.BufferRead
import Derived.WalkMore
import Derived.WalkSpells
import Derived.WalkLawsBesides
import Derived.Maps.OwnSet
import Derived.StringKeys
import Derived.StillTailTactics
import Derived.Laws.AppendOwn
import Derived.BigRegion
import Derived.Deep.RegionLaw
import Derived.Deep.AppendLies
import Derived.Test.YtcobjjaicckgpaaShelf
import Derived.Deep.RegionHeld3
import Derived.Deep.DrawnRows
/- Small facts that every walk uses: strings as lists of bytes, worlds, slices of bytes that the call owns. -/
namespace Go.Proofs.Ytcobjjaicckgpaa.Bs
open Go Go.RowKit Go.Proofs.Ytcobjjaicckgpaa

theorem ret_bool {a b : Bool} (h : a = b) : Ending.returned (.bool a) = .returned (.bool b) := by rw [h]
theorem ret_int {k : IntKind} {a b : Int} (h : a = b) : Ending.returned (.int k a) = .returned (.int k b) := by rw [h]
theorem ret_str {a b : ByteArray} (h : a = b) : Ending.returned (.string a) = .returned (.string b) := by rw [h]
theorem ret_two {k l : IntKind} {a b c d : Int} (h : a = b) (g : c = d) : Ending.returned (.tuple #[.int k a, .int l c]) = .returned (.tuple #[.int k b, .int l d]) := by rw [h, g]
theorem ret_intb {k : IntKind} {a b : Int} {c d : Bool} (h : a = b) (g : c = d) : Ending.returned (.tuple #[.int k a, .bool c]) = .returned (.tuple #[.int k b, .bool d]) := by rw [h, g]
theorem ret_strerr {a b : ByteArray} {k : IntKind} {x y : Int} (h : a = b) (g : x = y) : Ending.returned (.tuple #[.string a, .int k x]) = .returned (.tuple #[.string b, .int k y]) := by rw [h, g]
theorem ret_strb {a b : ByteArray} {x y : Bool} (h : a = b) (g : x = y) : Ending.returned (.tuple #[.string a, .bool x]) = .returned (.tuple #[.string b, .bool y]) := by rw [h, g]
theorem val_int {k : IntKind} {a b : Int} (h : a = b) : Value.int k a = Value.int k b := by rw [h]

/-! ### worlds -/
theorem below_trans {a b c : World} (h : Below a.heap.size a b) (k : Below b.heap.size b c) : Below a.heap.size a c := h.trans (k.mono h.size)
theorem below_at {B : Nat} {a b c : World} (h : Below B a b) (hz : B ≤ b.heap.size) (k : Below b.heap.size b c) : Below B a c := h.trans (k.mono hz)
theorem below_drewN {B : Nat} {a w : World} (h : Below B a w) (n : Nat) : Below B a (w.drewN n) := ⟨h.os, h.tape, h.output, h.size, h.block⟩
theorem alloc_sz (w : World) (o : Obj) : (w.alloc o).heap.size = w.heap.size + 1 := by show (w.heap.push o).size = _; exact Array.size_push _
theorem new_block (w : World) (o : Obj) : (w.alloc o).heap[w.heap.size]? = some o := by
  show (w.heap.push o)[w.heap.size]? = _
  rw [Array.getElem?_push, if_pos rfl]
theorem old_block (w : World) (o : Obj) (k : Nat) (h : k < w.heap.size) : (w.alloc o).heap[k]? = w.heap[k]? := by
  show (w.heap.push o)[k]? = _
  rw [Array.getElem?_push, if_neg (by omega)]
theorem lt_of_heap {w : World} {g : Nat} {o : Obj} (h : w.heap[g]? = some o) : g < w.heap.size := (Array.getElem?_eq_some_iff.1 h).1
theorem lt_of_cell {w : World} {a : Addr} {v : Value} (h : w.cell? a = some v) : a.block < w.heap.size := by
  unfold World.cell? at h
  cases e : w.heap[a.block]? with
  | none => rw [e] at h; simp at h
  | some o => exact lt_of_heap e
theorem heap_below {w w' : World} {g : Nat} {o : Obj} (hb : Below w.heap.size w w') (h : w.heap[g]? = some o) : w'.heap[g]? = some o := by
  rw [hb.block g (lt_of_heap h)]; exact h
/-! ### strings -/
theorem ba_of {A : ByteArray} {l : List UInt8} (h : A.data.toList = l) : (⟨l.toArray⟩ : ByteArray) = A := by
  obtain ⟨⟨d⟩⟩ := A
  subst h
  rfl
theorem ba_ex (l : List UInt8) : ∃ A : ByteArray, l = A.data.toList ∧ A.size = l.length := ⟨⟨l.toArray⟩, rfl, by show l.toArray.size = _; simp⟩
theorem ba_eq {A B : ByteArray} (h : A.data.toList = B.data.toList) : A = B := by rw [← ba_of (A := A) rfl, h, ba_of (A := B) rfl]
theorem ba_size (A : ByteArray) : A.size = A.data.toList.length := by simp
theorem ba_mk_size (l : List UInt8) : (⟨l.toArray⟩ : ByteArray).size = l.length := by show l.toArray.size = _; simp
theorem toList_append (s t : ByteArray) : (s ++ t).data.toList = s.data.toList ++ t.data.toList := by simp
theorem ext_list (s : ByteArray) (a b : Nat) : (s.extract a b).data.toList = (s.data.toList.drop a).take (b - a) := by
  rw [ByteArray.data_extract, Array.toList_extract, List.extract_eq_take_drop]
theorem drop_ext (s : ByteArray) (i : Nat) : (s.extract i s.size).data.toList = s.data.toList.drop i := by
  rw [ext_list, List.take_of_length_le (by simp)]
theorem take_ext (s : ByteArray) (i : Nat) : (s.extract 0 i).data.toList = s.data.toList.take i := by
  rw [ext_list, List.drop_zero, Nat.sub_zero]
theorem drop_len (s : ByteArray) (k : Nat) : (s.data.toList.drop k).length = s.size - k := by simp
theorem drop_at (s : ByteArray) (k i : Nat) (h : k + i < s.size) : (s.data.toList.drop k).getD i 0 = s[k + i]'h := by
  have h' : k + i < s.data.toList.length := by simpa using h
  rw [List.getD_eq_getElem?_getD, List.getElem?_drop, List.getElem?_eq_getElem h']
  rfl
theorem getD_at (s : ByteArray) (k : Nat) (h : k < s.size) : s.data.toList.getD k 0 = s[k] := by
  have := drop_at s k 0 (by omega)
  simpa using this
theorem getD_out (s : ByteArray) (k : Nat) (h : s.size ≤ k) : s.data.toList.getD k 0 = 0 := by
  have h' : s.data.toList.length ≤ k := by simpa using h
  rw [List.getD_eq_getElem?_getD, List.getElem?_eq_none h']; rfl
theorem take_snoc (s : ByteArray) (k : Nat) (h : k < s.size) : s.data.toList.take (k + 1) = s.data.toList.take k ++ [s[k]] := by
  rw [List.take_succ_eq_append_getElem (by simpa using h)]; rfl
theorem u8_ne {c : UInt8} {n : Nat} (hn : n < 256) (h : c ≠ UInt8.ofNat n) : ((c.toNat : Int) == (n : Int)) = false := by
  rw [beq_eq_false_iff_ne]
  intro e
  apply h
  apply UInt8.toNat_inj.1
  simp; omega
theorem u8_eq {c : UInt8} {n : Nat} (hn : n < 256) (h : c = UInt8.ofNat n) : (c.toNat : Int) = n := by
  subst h; simp; omega
theorem all_u8 (P : UInt8 → Prop) [DecidablePred P] (h : ∀ n : Fin 256, P (UInt8.ofNat n.val)) (c : UInt8) : P c := by
  have := h ⟨c.toNat, UInt8.toNat_lt c⟩
  simpa using this

/-! ### slices of bytes that the call owns -/
theorem infoU : (Try.prog.info? 5).map (fun i => (i.zero, i.size, i.bytes)) = some (some (.int .u8 0), 1, 1) := by kernel_rfl
theorem own_below {w w' : World} {base : Nat} {e : TypeId} {v : Value} {n : Nat} {xs : List Value} (h : w.ownsRow base e 1 v n xs) (hb : Below w.heap.size w w') : w'.ownsRow base e 1 v n xs :=
  h.kept (row := none) ⟨hb.os, hb.tape, hb.output, hb.size, fun k hk _ => hb.block k hk⟩ (by
    rcases h.2 with ⟨rfl, _⟩ | ⟨g, cap, cur, rfl, _⟩
    · left; rfl
    · right; simp [Value.ownBlock])
theorem conv_new (w : World) (xs : List Int) (n : Nat) (hn : xs.length = n) :
    (convert 30 9 (.slice (some ⟨w.heap.size, 0, none⟩) n n)).run Try.prog (w.alloc (.cells (xs.map (Value.int .u8)).toArray 5)) = .ok (.string (strOfNums xs)) (w.alloc (.cells (xs.map (Value.int .u8)).toArray 5)) :=
  run_convert_bytes_arg (P := Try.prog) _ 30 5 Try.underlying30 Try.underlying5 w.heap.size 0 n n xs hn (fun i hi => by
    have h2 := new_block w (.cells (xs.map (Value.int .u8)).toArray 5)
    unfold World.cell?
    simp only [h2]
    simp [List.getElem?_eq_getElem (show i < xs.length by omega)]) 9 Try.underlying9
theorem nums_list (xs : List Int) : (strOfNums xs).data.toList = xs.map fun x => UInt8.ofNat x.toNat := by
  unfold strOfNums; simp
theorem own_one (w : World) (c : UInt8) : (w.alloc (.cells #[.int .u8 c.toNat] 5)).ownsRow w.heap.size 5 1 (.slice (some ⟨w.heap.size, 0, none⟩) 1 1) 1 (Lib.byteCells [c]) :=
  ⟨by simp [Lib.byteCells], .inr ⟨w.heap.size, 1, _, rfl, Nat.le_refl _, new_block w _, Nat.le_refl _, by unfold maxLen; omega, rfl, by simp [Lib.byteCells]⟩⟩
theorem new_cells (w : World) (xs : List Value) (j : Nat) (u : Value) (hj : xs[j]? = some u) : (w.alloc (.cells xs.toArray 5)).cell? ((⟨w.heap.size, 0, none⟩ : Addr).add j) = some u := by
  have h2 := new_block w (.cells xs.toArray 5)
  have e : ((⟨w.heap.size, 0, none⟩ : Addr).add j) = ⟨w.heap.size, j, none⟩ := by simp [Addr.add]; omega
  rw [e]
  unfold World.cell?
  simp only [h2]
  simpa using hj
theorem one_new (w : World) (x : Value) (j : Nat) (u : Value) (hj : ([x] : List Value)[j]? = some u) : (w.alloc (.cells #[x] 5)).cell? ((⟨w.heap.size, 0, none⟩ : Addr).add j) = some u := by
  match j, hj with
  | 0, hj => simp at hj; subst hj; simp [Addr.add]
theorem own_slice {w : World} {base : Nat} {v : Value} {n : Nat} {xs : List Value} (h : w.ownsRow base 5 1 v n xs) : ∃ a cap, v = .slice a n cap := by
  rcases h.2 with ⟨rfl, rfl⟩ | ⟨g, cap, cur, rfl, _⟩
  · exact ⟨_, _, rfl⟩
  · exact ⟨_, _, rfl⟩
theorem cells_snoc (o : List UInt8) (c : UInt8) : Lib.byteCells o ++ [.int .u8 c.toNat] = Lib.byteCells (o ++ [c]) := by simp [Lib.byteCells]
theorem conv_own {w : World} {base : Nat} {v : Value} {o : List UInt8} (h : w.ownsRow base 5 1 v o.length (Lib.byteCells o)) :
    (convert 30 9 v).run Try.prog w = .ok (.string ⟨o.toArray⟩) w := by
  rcases h.2 with ⟨rfl, h0⟩ | ⟨g, cap, cur, rfl, _, hg, _, _, _, htk⟩
  · have : o = [] := List.eq_nil_of_length_eq_zero h0
    subst this
    exact Lib.run_convert_nil_bytes w 30 9 5 0 Try.underlying30 Try.underlying5 Try.underlying9
  · exact run_convert_bytes_back w 30 9 5 ⟨g, 0, none⟩ cap o Try.underlying30 Try.underlying5 Try.underlying9
      (Lib.bytes_of_row hg (by simpa using htk))
end Go.Proofs.Ytcobjjaicckgpaa.Bs
/- Plain facts on the file system's directories. No program in sight. -/
namespace Go.Proofs.Ytcobjjaicckgpaa.Vf
open Go Go.Maps
set_option linter.unusedVariables false

/-- A directory: names and the blocks of their files. -/
abbrev Nm := List (List UInt8 × Nat)
def dt (b : Nat) : DataW Nat := .lit (.int .i64 b)
def dnil : DataW Nat := .lit (.int .i64 (-1))
def Dm (m : Nm) : DataW Nat := .map (m.map fun p => (.string p.1, dt p.2))
def insS (x : List UInt8 × Nat) : Nm → Nm
  | [] => [x]
  | y :: r => if bytesBefore x.1 y.1 then x :: y :: r else y :: insS x r
def delS (m : Nm) (k : List UInt8) : Nm := m.filter fun p => !(p.1 == k)
def putS (m : Nm) (k : List UInt8) (b : Nat) : Nm := insS (k, b) (delS m k)
def findS (m : Nm) (k : List UInt8) : Option Nat := (m.find? fun p => p.1 == k).map (·.2)
theorem ins_map (x : List UInt8 × Nat) : ∀ m : Nm, (insS x m).map (fun p => (Lit.string p.1, dt p.2)) = DataW.insert (Lit.string x.1, dt x.2) (m.map fun p => (Lit.string p.1, dt p.2))
  | [] => rfl
  | y :: r => by
    have ih := ins_map x r
    simp only [insS, List.map_cons, DataW.insert]
    have e : Lit.before (Lit.string x.1) (Lit.string y.1) = bytesBefore x.1 y.1 := rfl
    rw [e]
    split
    · rfl
    · simp only [List.map_cons, ih]
theorem del_map (m : Nm) (k : List UInt8) : (delS m k).map (fun p => (Lit.string p.1, dt p.2)) = (m.map fun p => (Lit.string p.1, dt p.2)).filter fun p => !p.1.sameKey (.string k) := by
  unfold delS
  induction m with
  | nil => rfl
  | cons y r ih =>
    simp only [List.filter_cons, List.map_cons]
    have e : Lit.sameKey (Lit.string y.1) (.string k) = (y.1 == k) := rfl
    rw [e]
    split
    · simp only [List.map_cons, ih]
    · exact ih
theorem Dm_put (m : Nm) (k : List UInt8) (b : Nat) : (Dm m).put (.string k) (dt b) = Dm (putS m k b) := by
  unfold Dm putS DataW.put
  simp only
  rw [ins_map, del_map]
theorem Dm_del (m : Nm) (k : List UInt8) : (Dm m).del (.string k) = Dm (delS m k) := by
  unfold Dm DataW.del
  simp only
  rw [del_map]
theorem Dm_at (m : Nm) (k : List UInt8) (z : DataW Nat) : (Dm m).atKey (.string k) z = match findS m k with | some b => dt b | none => z := by
  unfold Dm DataW.atKey findS
  simp only
  induction m with
  | nil => rfl
  | cons y r ih =>
    simp only [List.map_cons, List.find?_cons]
    have e : Lit.sameKey (Lit.string y.1) (.string k) = (y.1 == k) := rfl
    rw [e]
    cases y.1 == k with
    | true => rfl
    | false => exact ih
theorem Dm_has (m : Nm) (k : List UInt8) : Maps.has (Dm m) (.string k) = (findS m k).isSome := by
  unfold Dm findS
  rw [Maps.has_eq]
  induction m with
  | nil => rfl
  | cons y r ih =>
    simp only [List.map_cons, List.any_cons, List.find?_cons]
    have e : Lit.sameKey (Lit.string y.1) (.string k) = (y.1 == k) := rfl
    rw [e]
    cases y.1 == k with
    | true => rfl
    | false => simpa using ih
theorem Dm_nil : Dm [] = .map [] := rfl

/-! ### how a pointer to a file reads -/
def fptr (b : Nat) : Value := .pointer (some ⟨b, 0, none⟩)
def fptrO : Option Nat → Value
  | some b => fptr b
  | none => .pointer none
def Rp (v : Value) : Option (DataW Nat × List MemPlace) :=
  match v with
  | .pointer none => some (dnil, [])
  | .pointer (some ⟨b, 0, none⟩) => some (dt b, [])
  | _ => none
theorem Rp_ptr (b : Nat) : Rp (fptr b) = some (dt b, []) := rfl
theorem Rp_nil : Rp (.pointer none) = some (dnil, []) := rfl
theorem Rp_inv {v : Value} {d : DataW Nat} {ps : List MemPlace} (h : Rp v = some (d, ps)) : (v = .pointer none ∧ d = dnil) ∨ ∃ b, v = fptr b ∧ d = dt b := by
  unfold Rp at h
  split at h
  · cases h; exact .inl ⟨rfl, rfl⟩
  · cases h; exact .inr ⟨_, rfl, rfl⟩
  · cases h
theorem dt_ne (b : Nat) : dt b ≠ dnil := by
  intro h
  unfold dt dnil at h
  injection h with h
  injection h with _ h
  omega
theorem Rp_at {v : Value} {ps : List MemPlace} (m : Nm) (k : List UInt8) (h : Rp v = some ((Dm m).atKey (.string k) dnil, ps)) : v = fptrO (findS m k) := by
  rw [Dm_at] at h
  cases hf : findS m k with
  | none =>
    rw [hf] at h
    rcases Rp_inv h with ⟨e, _⟩ | ⟨b, _, e⟩
    · exact e
    · exact absurd e.symm (dt_ne b)
  | some b =>
    rw [hf] at h
    rcases Rp_inv h with ⟨_, e⟩ | ⟨c, e, e2⟩
    · exact absurd e (dt_ne b)
    · have : b = c := by
        have e3 : (dt b : DataW Nat) = dt c := e2
        unfold dt at e3
        injection e3 with e3
        injection e3 with _ e3
        omega
      subst this
      exact e
end Go.Proofs.Ytcobjjaicckgpaa.Vf
/- Walks of the file system: lookup, apply. -/
namespace Go.Proofs.Ytcobjjaicckgpaa.Vf
open Go Go.RowKit Go.Maps Go.Proofs.Ytcobjjaicckgpaa Go.Proofs.Ytcobjjaicckgpaa.Bs
set_option linter.unusedVariables false

theorem law : Keyed Try.prog 9 := string_keyed Try.underlying9
theorem hkey (k : ByteArray) (hk : k.size ≤ 1000000) : keyOf Try.prog 9 (.string k) = some (.string k.data.toList) :=
  Go.WideMaps.keyOf_string_mk Try.underlying9 (by unfold maxLen; omega)
/-- Block b is the directory m. -/
def Dir (w : World) (b : Nat) (m : Nm) : Prop := ∃ n, w.ownsMap Try.prog 9 Rp b n (Dm m)
set_option maxRecDepth 100000 in
set_option maxHeartbeats 4000000 in
theorem lookup_is (F o b : Nat) (k : ByteArray) (m : Nm) (W : World) (hk : k.size ≤ 1000000) (hc : W.cell? ⟨F, o, none⟩ = some (.map (some b))) (hD : Dir W b m) :
    Calls Try.prog 35 #[.pointer (some ⟨F, o, none⟩), .string k] W fun e w' => e = .returned (.tuple #[fptrO (findS m k.data.toList), .bool (findS m k.data.toList).isSome]) ∧ w' = W := by
  obtain ⟨n, ho⟩ := hD
  obtain ⟨v, ps, hrun, hv⟩ := ho.look_ok (t := 58) law Try.underlying58 (z := .pointer none) (by kernel_rfl) Rp_nil (hkey k hk)
  have e := Rp_at m _ hv
  subst e
  rw [Dm_has] at hrun
  obtain ⟨V, hV⟩ : ∃ V, fptrO (findS m k.data.toList) = V := ⟨_, rfl⟩
  obtain ⟨B, hB⟩ : ∃ B, (findS m k.data.toList).isSome = B := ⟨_, rfl⟩
  rw [hV, hB] at hrun ⊢
  clear hV hB hv ho
  go_enter Try.func35, Try.ntmps35
  go_wp2_with fail
  go_ret2
  exact ⟨rfl, rfl⟩
theorem Dir.tight {w : World} {b : Nat} {m : Nm} (h : Dir w b m) : w.ownsMap Try.prog 9 Rp b m.length (Dm m) := by
  obtain ⟨n, es, clock, hb, F, hs, hD⟩ := h
  refine ⟨es, clock, hb, F, ?_, hD⟩
  have := congrArg Maps.size hD
  have e1 : Maps.size (Dm m) = m.length := by simp [Dm, Maps.size]
  rw [e1] at this
  simp [Maps.size, length_sorted] at this
  omega
theorem Dir.lt {w : World} {b : Nat} {m : Nm} (h : Dir w b m) : b < w.heap.size := by
  obtain ⟨n, h⟩ := h
  exact h.lt
theorem Dir.of_block {w w' : World} {b : Nat} {m : Nm} (h : Dir w b m) (hb : w'.heap[b]? = w.heap[b]?) : Dir w' b m := by
  obtain ⟨n, es, clock, hh, r⟩ := h
  exact ⟨n, es, clock, by rw [hb]; exact hh, r⟩
/-- Nothing but block b has turned; blocks may have been laid. -/
abbrev But (b : Nat) (w w' : World) : Prop := w.grownBy w' (some b)
theorem Dir.put {w : World} {b : Nat} {m : Nm} (h : Dir w b m) (k : ByteArray) (hk : k.size ≤ 1000000) (f : Nat) (hm : m.length ≤ 1000000) :
    ∃ w', (Instr.mapUpdate 58 (.map (some b)) (.string k) (fptr f)).run Try.prog w = .ok () w' ∧ Dir w' b (putS m k.data.toList f) ∧ But b w w' := by
  obtain ⟨w', h1, h2, h3⟩ := h.tight.update (t := 58) law Try.underlying58 (by unfold maxLen; omega) (hkey k hk) (Rp_ptr f)
  rw [Dm_put] at h2
  exact ⟨w', h1, ⟨_, h2⟩, h3⟩
theorem Dir.del {w : World} {b : Nat} {m : Nm} (h : Dir w b m) (k : ByteArray) (hk : k.size ≤ 1000000) (ty : TypeId) :
    ∃ w', (Builtin.delete_ #[58, 9] ty #[.map (some b), .string k]).run Try.prog w = .ok (.tuple #[]) w' ∧ Dir w' b (delS m k.data.toList) ∧ But b w w' := by
  obtain ⟨w', h1, h2, h3⟩ := h.tight.drop (t := 58) law Try.underlying58 (hkey k hk) ty
  rw [Dm_del] at h2
  exact ⟨w', h1, ⟨_, h2⟩, h3.grown⟩
theorem But.cell {b : Nat} {w w' : World} (h : But b w w') {a : Addr} {v : Value} (hc : w.cell? a = some v) (hn : a.block ≠ b) : w'.cell? a = some v := by
  have hlt := lt_of_cell hc
  unfold World.cell? at hc ⊢
  rw [h.block _ hlt (by simpa using hn)]
  exact hc
theorem But.trans {b : Nat} {u v w : World} (h : But b u v) (k : But b v w) : But b u w :=
  ⟨k.os.trans h.os, k.tape.trans h.tape, k.output.trans h.output, Nat.le_trans h.size k.size, fun i hi hn => (k.block i (Nat.lt_of_lt_of_le hi h.size) hn).trans (h.block i hi hn)⟩
theorem But.drew {b : Nat} {u v : World} (h : But b u v) : But b u v.drew := ⟨h.os, h.tape, h.output, h.size, h.block⟩
theorem Dir.ne {w : World} {b : Nat} {m : Nm} (h : Dir w b m) {a : Addr} {v : Value} (hc : w.cell? a = some v) : a.block ≠ b := by
  obtain ⟨n, es, clock, hh, r⟩ := h
  intro e
  unfold World.cell? at hc
  rw [e, hh] at hc
  simp at hc
def chg (c : ByteArray × ByteArray × Option Nat) : Value := .agg #[.string c.1, .string c.2.1, fptrO c.2.2]
def applyS (m : Nm) (f t : ByteArray) (x : Nat) : Nm :=
  let m1 := if f.toList.isEmpty = true then m else delS m f.data.toList
  if t.toList.isEmpty = true then m1 else putS m1 t.data.toList x
theorem del_len (m : Nm) (k : List UInt8) : (delS m k).length ≤ m.length := List.length_filter_le _ _
set_option maxRecDepth 100000 in
set_option maxHeartbeats 4000000 in
theorem apply_is (F o b x : Nat) (f t : ByteArray) (fv : Value) (m : Nm) (W : World) (hf : f.size ≤ 1000000) (ht : t.size ≤ 1000000) (hm : m.length ≤ 1000000) (hv : t.toList.isEmpty = false → fv = fptr x) (hc : W.cell? ⟨F, o, none⟩ = some (.map (some b))) (hD : Dir W b m) :
    Calls Try.prog 40 #[.pointer (some ⟨F, o, none⟩), .agg #[.string f, .string t, fv]] W fun e w' => e = .returned (.tuple #[]) ∧ Dir w' b (applyS m f t x) ∧ But b W w' := by
  have hlt := hD.lt
  have hB0 : But b W (W.alloc (.cells #[.string f, .string t, fv] 74)) := World.grownBy_alloc W _ _
  have hD0 : Dir (W.alloc (.cells #[.string f, .string t, fv] 74)) b m := hD.of_block (old_block _ _ _ hlt)
  have hF0 : (W.alloc (.cells #[.string f, .string t, fv] 74)).cell? ⟨F, o, none⟩ = some (.map (some b)) := hB0.cell hc (hD.ne hc)
  have hS := heap_alloc_new W (.cells #[.string f, .string t, fv] 74)
  have q0 : (W.alloc (.cells #[.string f, .string t, fv] 74)).cell? ⟨W.heap.size, 0, none⟩ = some (.string f) := by unfold World.cell?; simp only [hS]; rfl
  have q1 : (W.alloc (.cells #[.string f, .string t, fv] 74)).cell? ⟨W.heap.size, 1, none⟩ = some (.string t) := by unfold World.cell?; simp only [hS]; rfl
  have q2 : (W.alloc (.cells #[.string f, .string t, fv] 74)).cell? ⟨W.heap.size, 2, none⟩ = some fv := by unfold World.cell?; simp only [hS]; rfl
  have HB0 := Lib.hid hB0
  have HD0 := Lib.hid hD0
  have HN := Lib.hid (show W.heap.size ≠ b by omega)
  clear hS hB0 hD0 hc hD
  rcases g1 : f.toList.isEmpty with _ | _ <;> rcases g2 : t.toList.isEmpty with _ | _
  · have hv' := hv g2
    subst hv'
    go_enter Try.func40, Try.ntmps40
    go_wp2_with fail
    generalize (W.alloc (.cells #[.string f, .string t, fptr x] 74)) = w0 at hF0 q0 q1 q2 HB0 HD0 ⊢
    generalize W.heap.size = S at q0 q1 q2 HN ⊢
    go_still_tail 6, (by kernel_rfl)
    change wpList _ _ _ _ _ w0.drew
    obtain ⟨w1, hdel, hD1, hB1⟩ := Dir.del (w := w0.drew) (HD0.out.of_block rfl) f hf 0
    have hF1 := hB1.cell hF0 (HD0.out.ne hF0)
    have r1 := hB1.cell q1 HN.out
    have r2 := hB1.cell q2 HN.out
    have HB1 := Lib.hid (HB0.out.drew.trans hB1)
    have HD1 := Lib.hid hD1
    clear hF0 q0 q1 q2 HD0 HB0 hB1 hD1
    go_wp2_with fail
    go_still_tail 8, (by kernel_rfl)
    change wpList _ _ _ _ _ w1.drew
    obtain ⟨w2, hupd, hD2, hB2⟩ := Dir.put (w := w1.drew) (HD1.out.of_block rfl) t ht x (Nat.le_trans (del_len _ _) hm)
    clear hF1 r1 r2
    go_wp2_with fail
    go_end0
    exact ⟨rfl, by unfold applyS; rw [g1, g2]; exact hD2, HB1.out.drew.trans hB2⟩
  · go_enter Try.func40, Try.ntmps40
    go_wp2_with fail
    generalize (W.alloc (.cells #[.string f, .string t, fv] 74)) = w0 at hF0 q0 q1 q2 HB0 HD0 ⊢
    generalize W.heap.size = S at q0 q1 q2 HN ⊢
    go_still_tail 6, (by kernel_rfl)
    change wpList _ _ _ _ _ w0.drew
    obtain ⟨w1, hdel, hD1, hB1⟩ := Dir.del (w := w0.drew) (HD0.out.of_block rfl) f hf 0
    have r1 := hB1.cell q1 HN.out
    have HB1 := Lib.hid (HB0.out.drew.trans hB1)
    have HD1 := Lib.hid hD1
    clear hF0 q0 q1 q2 HD0 HB0 hB1 hD1
    go_wp2_with fail
    go_end0
    exact ⟨rfl, by unfold applyS; rw [g1, g2]; exact HD1.out, HB1.out⟩
  · have hv' := hv g2
    subst hv'
    go_enter Try.func40, Try.ntmps40
    go_wp2_with fail
    generalize (W.alloc (.cells #[.string f, .string t, fptr x] 74)) = w0 at hF0 q0 q1 q2 HB0 HD0 ⊢
    generalize W.heap.size = S at q0 q1 q2 HN ⊢
    go_still_tail 8, (by kernel_rfl)
    change wpList _ _ _ _ _ w0.drew
    obtain ⟨w2, hupd, hD2, hB2⟩ := Dir.put (w := w0.drew) (HD0.out.of_block rfl) t ht x hm
    clear hF0 q0 q1 q2
    go_wp2_with fail
    go_end0
    exact ⟨rfl, by unfold applyS; rw [g1, g2]; exact hD2, HB0.out.drew.trans hB2⟩
  · go_enter Try.func40, Try.ntmps40
    go_wp2_with fail
    go_end0
    exact ⟨rfl, by unfold applyS; rw [g1, g2]; exact HD0.out, HB0.out⟩
end Go.Proofs.Ytcobjjaicckgpaa.Vf
/- Walks of the file system: slices.Clone of bytes, the state, record. -/
namespace Go.Proofs.Ytcobjjaicckgpaa.Vf
open Go Go.RowKit Go.Maps Go.Proofs.Ytcobjjaicckgpaa Go.Proofs.Ytcobjjaicckgpaa.Bs
set_option linter.unusedVariables false

/-- The value reads as these bytes: nil, or a row of bytes at offset 0. -/
def Rd (w : World) (v : Value) (l : List UInt8) : Prop :=
  (v = .slice none 0 0 ∧ l = []) ∨ ∃ (g cap : Nat) (cur : Array Value) (fr : Nat × Nat), v = .slice (some ⟨g, 0, none⟩) l.length cap ∧ w.heap[g]? = some (Obj.cells cur 5 fr) ∧ l.length ≤ cap ∧ cur.toList.take l.length = Lib.byteCells l
theorem Rd.kept {w w' : World} {v : Value} {l : List UInt8} (h : Rd w v l) (hk : ∀ (g : Nat) (cur : Array Value) (fr : Nat × Nat), w.heap[g]? = some (Obj.cells cur 5 fr) → w'.heap[g]? = w.heap[g]?) : Rd w' v l := by
  rcases h with h | ⟨g, cap, cur, fr, h1, h2, h3, h4⟩
  · exact .inl h
  · exact .inr ⟨g, cap, cur, fr, h1, by rw [hk g cur fr h2]; exact h2, h3, h4⟩
theorem infoU : (Try.prog.info? 5).map (fun i => (i.zero, i.size, i.bytes)) = some (some (.int .u8 0), 1, 1) := by kernel_rfl
theorem info_parts {t : TypeId} {z : Value} {s b : Nat} (h : (Try.prog.info? t).map (fun i => (i.zero, i.size, i.bytes)) = some (some z, s, b)) : ∃ i, Try.prog.info? t = some i ∧ i.zero = some z ∧ i.size = s ∧ i.bytes = b := by
  cases e : Try.prog.info? t with
  | none => rw [e] at h; cases h
  | some i =>
    rw [e] at h
    simp only [Option.map_some, Option.some.injEq, Prod.mk.injEq] at h
    exact ⟨i, rfl, h.1, h.2.1, h.2.2⟩
theorem own_none (w : World) (t : TypeId) (n : Nat) (hn : 0 < n) : (w.alloc (.cells #[] t)).ownsRow w.heap.size t n (.slice (some ⟨w.heap.size, 0, none⟩) 0 0) 0 [] :=
  ⟨by simp, .inr ⟨w.heap.size, 0, _, rfl, Nat.le_refl _, new_block w _, Nat.le_refl _, by unfold maxLen; omega, by simp, by simp⟩⟩
theorem Rd.of_own {w : World} {base : Nat} {v : Value} {l : List UInt8} (h : w.ownsRow base 5 1 v l.length (Lib.byteCells l)) : Rd w v l := by
  rcases h.2 with ⟨rfl, h0⟩ | ⟨g, cap, cur, rfl, _, hg, hc, _, _, htk⟩
  · exact .inl ⟨rfl, List.eq_nil_of_length_eq_zero h0⟩
  · exact .inr ⟨g, cap, cur, _, rfl, hg, hc, by simpa using htk⟩
theorem Rd.cells {w : World} {g : Nat} {l : List UInt8} {cur : Array Value} {fr : Nat × Nat} (h : w.heap[g]? = some (.cells cur 5 fr)) (ht : cur.toList.take l.length = Lib.byteCells l) (j : Nat) (u : Value) (hu : (Lib.byteCells l)[j]? = some u) : w.cell? ((⟨g, 0, none⟩ : Addr).add j) = some u := by
  have e : ((⟨g, 0, none⟩ : Addr).add j) = ⟨g, j, none⟩ := by simp [Addr.add]; omega
  rw [e]
  unfold World.cell?
  simp only [h]
  have hj : j < l.length := by
    rcases Nat.lt_or_ge j l.length with h1 | h1
    · exact h1
    · rw [List.getElem?_eq_none (by simpa [Lib.byteCells] using h1)] at hu; cases hu
  rw [← ht, List.getElem?_take, if_pos hj] at hu
  simpa using hu
set_option maxRecDepth 100000 in
set_option maxHeartbeats 4000000 in
theorem clone_is (v : Value) (l : List UInt8) (W : World) (hl : l.length ≤ 1000000) (hv : Rd W v l) :
    Calls Try.prog 41 #[v] W fun e w' => ∃ v', e = .returned v' ∧ Rd w' v' l ∧ (∀ g, v'.ownBlock = some g → W.heap.size ≤ g) ∧ Below W.heap.size W w' := by
  have hnil : ∀ (w : World) (a : Option Addr) (n c : Nat), (binOp .eql 30 (.slice a n c) (.slice none 0 0)).run Try.prog w = .ok (.bool a.isNone) w := fun w a n c => Lib.run_eql_slice_nil w _ _ a n c 0 0 Try.underlying30
  rcases hv with ⟨rfl, rfl⟩ | ⟨g, cap, cur, fr, rfl, hg, hc, ht⟩
  · go_enter Try.func41, Try.ntmps41
    go_wp2_with fail
    go_ret
    exact ⟨_, rfl, .inl ⟨rfl, rfl⟩, fun g hg => by simp [Value.ownBlock] at hg, Below.refl _ _⟩
  · obtain ⟨i0, hi, hz0, hz1, hz2⟩ := info_parts infoU
    have hg' : (W.alloc (.cells #[] 5)).heap[g]? = some (.cells cur 5 fr) := by rw [old_block _ _ _ (lt_of_heap hg)]; exact hg
    have ho := own_none W 5 1 (by decide)
    have HB0 := Lib.hid ((Below.refl W.heap.size W).alloc (Nat.le_refl _) (.cells #[] 5))
    have hsz : W.heap.size ≤ (W.alloc (.cells #[] 5)).heap.size := HB0.out.size
    go_enter Try.func41, Try.ntmps41
    go_wp2_with (at_builtin; refine wpList_append_own _ rfl _ _ 30 rfl W.heap.size 5 i0 (.int .u8 0) 1 1 Try.underlying30 hi hz0 hz1 hz2 rfl (by decide) _ _ _ rfl ho ⟨g, 0, none⟩ l.length cap (Lib.byteCells l) rfl (by simp [Lib.byteCells]) (Rd.cells hg' ht) ?a2 ?a3 ?a4 ?a5 ?_)
    case a2 => intro u hu; simp only [Lib.byteCells, List.mem_map] at hu; obtain ⟨c, _, rfl⟩ := hu; rfl
    case a3 => unfold maxLen; omega
    case a4 => omega
    case a5 => exact hsz
    intro v1 w1 hown hgrow _
    have HB1 := Lib.hid (HB0.out.grown hgrow hsz (fun k hk => (ho.lt k hk).1))
    have HR := Lib.hid (Rd.of_own (l := l) (base := W.heap.size) (by simpa using hown))
    have HG := Lib.hid (fun g (hg : v1.ownBlock = some g) => (hown.lt g hg).1)
    go_wp2_with fail
    go_ret
    exact ⟨_, rfl, HR.out, HG.out, HB1.out⟩
end Go.Proofs.Ytcobjjaicckgpaa.Vf
/- The file system's state in a world; record. -/
namespace Go.Proofs.Ytcobjjaicckgpaa.Vf
open Go Go.RowKit Go.Maps Go.Proofs.Ytcobjjaicckgpaa Go.Proofs.Ytcobjjaicckgpaa.Bs
set_option linter.unusedVariables false

structure Fl where
  blk : Nat
  data : List UInt8
  dur : List UInt8
  synced : Bool
structure Ch where
  src : ByteArray
  dst : ByteArray
  file : Option Nat
structure St where
  files : List Fl
  names : Nm
  dur : Nm
  pend : List Ch
  down : Bool
  armed : Bool
  after : Int
  err : Int
/-- Where the parts lie. -/
structure Loc where
  F : Nat
  nb : Nat
  db : Nat
  fs : Value
  ps : Value
  Z : Nat → Prop
def chCells (c : Ch) : List Value := [.string c.src, .string c.dst, fptrO c.file]
def chVal (c : Ch) : Value := .agg (chCells c).toArray
def fsCells (o : Loc) (s : St) : Array Value := #[.map (some o.nb), .map (some o.db), o.fs, o.ps, .bool s.down, .bool s.armed, .int .i64 s.after, .int .i64 s.err]
/-- The value reads as these bytes, and does not lie in a block of Z. -/
def Rz (Z : Nat → Prop) (w : World) (v : Value) (l : List UInt8) : Prop := Rd w v l ∧ ∀ g, v.ownBlock = some g → ¬ Z g
def FileIs (Z : Nat → Prop) (w : World) (f : Fl) : Prop := ∃ dv rv, w.heap[f.blk]? = some (Obj.cells #[dv, rv, .bool f.synced] 70 (0, 0)) ∧ Rz Z w dv f.data ∧ Rz Z w rv f.dur
structure Is (w : World) (B : Nat) (o : Loc) (s : St) : Prop where
  fs : w.heap[o.F]? = some (Obj.cells (fsCells o s) 64 (0, 0))
  names : Dir w o.nb s.names
  dur : Dir w o.db s.dur
  nd : o.nb ≠ o.db
  files : w.ownsRow B 66 1 o.fs s.files.length (s.files.map fun f => fptr f.blk)
  pend : w.ownsRow B 74 3 o.ps s.pend.length (s.pend.flatMap chCells)
  each : ∀ f ∈ s.files, FileIs o.Z w f
  zl : ∀ k, o.Z k → ∃ cur fr, w.heap[k]? = some (Obj.cells cur 5 fr)
  dist : (s.files.map (·.blk)).Nodup
  bF : B ≤ o.F
  bn : B ≤ o.nb
  bd : B ≤ o.db
  bf : ∀ f ∈ s.files, B ≤ f.blk
/-- The blocks of a file system. -/
def foot (o : Loc) (s : St) (k : Nat) : Prop := k = o.F ∨ k = o.nb ∨ k = o.db ∨ o.fs.ownBlock = some k ∨ o.ps.ownBlock = some k ∨ ∃ f ∈ s.files, f.blk = k
/-- Nothing but the blocks of p has turned; blocks may have been laid. -/
structure Fr (w w' : World) (p : Nat → Prop) : Prop where
  os : w'.os = w.os
  tape : w'.tape = w.tape
  output : w'.output = w.output
  size : w.heap.size ≤ w'.heap.size
  block : ∀ k, k < w.heap.size → ¬ p k → w'.heap[k]? = w.heap[k]?
theorem Fr.of_but {b : Nat} {w w' : World} (h : But b w w') (p : Nat → Prop) (hp : p b) : Fr w w' p :=
  ⟨h.os, h.tape, h.output, h.size, fun k hk hn => h.block k hk (by intro e; injection e with e; subst e; exact hn hp)⟩
theorem Fr.of_below {w w' : World} (h : Below w.heap.size w w') (p : Nat → Prop) : Fr w w' p := ⟨h.os, h.tape, h.output, h.size, fun k hk _ => h.block k hk⟩
theorem Fr.trans {u v w : World} {p q : Nat → Prop} (h : Fr u v p) (g : Fr v w q) (hq : ∀ k, k < u.heap.size → q k → p k) : Fr u w p :=
  ⟨g.os.trans h.os, g.tape.trans h.tape, g.output.trans h.output, Nat.le_trans h.size g.size, fun k hk hn => (g.block k (Nat.lt_of_lt_of_le hk h.size) (fun e => hn (hq k hk e))).trans (h.block k hk hn)⟩
theorem Fr.mono {w w' : World} {p q : Nat → Prop} (h : Fr w w' p) (hq : ∀ k, p k → q k) : Fr w w' q := ⟨h.os, h.tape, h.output, h.size, fun k hk hn => h.block k hk fun e => hn (hq k e)⟩
theorem Fr.below {w w' : World} {p : Nat → Prop} {B : Nat} (h : Fr w w' p) (hB : ∀ k, p k → B ≤ k) (hs : B ≤ w.heap.size) : Below B w w' :=
  ⟨h.os, h.tape, h.output, h.size, fun k hk => h.block k (Nat.lt_of_lt_of_le hk hs) fun e => by have := hB k e; omega⟩
theorem Rz.kept {Z : Nat → Prop} {w w' : World} {v : Value} {l : List UInt8} (h : Rz Z w v l) (hk : ∀ (g : Nat) (cur : Array Value) (fr : Nat × Nat), w.heap[g]? = some (Obj.cells cur 5 fr) → w'.heap[g]? = w.heap[g]?) : Rz Z w' v l := ⟨h.1.kept hk, h.2⟩
theorem zl_kept {Z : Nat → Prop} {w w' : World} (h : ∀ k, Z k → ∃ cur fr, w.heap[k]? = some (Obj.cells cur 5 fr)) (hk : ∀ (g : Nat) (cur : Array Value) (fr : Nat × Nat), w.heap[g]? = some (Obj.cells cur 5 fr) → w'.heap[g]? = w.heap[g]?) : ∀ k, Z k → ∃ cur fr, w'.heap[k]? = some (Obj.cells cur 5 fr) := fun k hz => by
  obtain ⟨cur, fr, hc⟩ := h k hz
  exact ⟨cur, fr, by rw [hk k cur fr hc]; exact hc⟩
theorem FileIs.kept {Z : Nat → Prop} {w w' : World} {f : Fl} (h : FileIs Z w f) (hb : w'.heap[f.blk]? = w.heap[f.blk]?) (hk : ∀ (g : Nat) (cur : Array Value) (fr : Nat × Nat), w.heap[g]? = some (Obj.cells cur 5 fr) → w'.heap[g]? = w.heap[g]?) : FileIs Z w' f := by
  obtain ⟨dv, rv, h1, h2, h3⟩ := h
  exact ⟨dv, rv, by rw [hb]; exact h1, h2.kept hk, h3.kept hk⟩
theorem own_kept {w w' : World} {base n size : Nat} {e : TypeId} {v : Value} {xs : List Value} (h : w.ownsRow base e size v n xs) (hk : ∀ g, v.ownBlock = some g → w'.heap[g]? = w.heap[g]?) : w'.ownsRow base e size v n xs := by
  refine ⟨h.1, ?_⟩
  rcases h.2 with h0 | ⟨g, cap, cur, rfl, h1, hg, r⟩
  · exact .inl h0
  · exact .inr ⟨g, cap, cur, rfl, h1, by rw [hk g rfl]; exact hg, r⟩
/-- A world in which the state's blocks and all bytes are as before. -/
theorem Is.kept {w w' : World} {B : Nat} {o : Loc} {s : St} (h : Is w B o s) (hk : ∀ k, foot o s k → w'.heap[k]? = w.heap[k]?) (hb : ∀ (g : Nat) (cur : Array Value) (fr : Nat × Nat), w.heap[g]? = some (Obj.cells cur 5 fr) → w'.heap[g]? = w.heap[g]?) : Is w' B o s where
  fs := by rw [hk _ (.inl rfl)]; exact h.fs
  names := h.names.of_block (hk _ (.inr (.inl rfl)))
  dur := h.dur.of_block (hk _ (.inr (.inr (.inl rfl))))
  nd := h.nd
  files := own_kept h.files fun g hg => hk g (.inr (.inr (.inr (.inl hg))))
  pend := own_kept h.pend fun g hg => hk g (.inr (.inr (.inr (.inr (.inl hg)))))
  each := fun f hf => (h.each f hf).kept (hk _ (.inr (.inr (.inr (.inr (.inr ⟨f, hf, rfl⟩)))))) hb
  zl := zl_kept h.zl hb
  dist := h.dist
  bF := h.bF
  bn := h.bn
  bd := h.bd
  bf := h.bf
theorem Is.below {w w' : World} {B : Nat} {o : Loc} {s : St} (h : Is w B o s) (hb : Below w.heap.size w w') : Is w' B o s := by
  have hlt : ∀ k, foot o s k → k < w.heap.size := by
    rintro k (rfl | rfl | rfl | hk | hk | ⟨f, hf, rfl⟩)
    · exact lt_of_heap h.fs
    · exact h.names.lt
    · exact h.dur.lt
    · exact (h.files.lt k hk).2
    · exact (h.pend.lt k hk).2
    · obtain ⟨dv, rv, h1, _⟩ := h.each f hf
      exact lt_of_heap h1
  exact h.kept (fun k hk => hb.block k (hlt k hk)) (fun g cur fr hg => hb.block g (lt_of_heap hg))
end Go.Proofs.Ytcobjjaicckgpaa.Vf
/- record. -/
namespace Go.Proofs.Ytcobjjaicckgpaa.Vf
open Go Go.RowKit Go.Maps Go.Proofs.Ytcobjjaicckgpaa Go.Proofs.Ytcobjjaicckgpaa.Bs
set_option linter.unusedVariables false

theorem Dir.neB {w : World} {b k : Nat} {m : Nm} {cur : Array Value} {t : TypeId} {fr : Nat × Nat} (h : Dir w b m) (hc : w.heap[k]? = some (Obj.cells cur t fr)) : k ≠ b := by
  obtain ⟨n, es, clock, hh, r⟩ := h
  intro e
  rw [e, hh] at hc
  simp at hc
theorem own_block {w : World} {base n size : Nat} {e : TypeId} {v : Value} {xs : List Value} (h : w.ownsRow base e size v n xs) {g : Nat} (hg : v.ownBlock = some g) : ∃ cur, w.heap[g]? = some (Obj.cells cur e (0, 0)) := by
  rcases h.2 with ⟨rfl, _⟩ | ⟨g', cap, cur, rfl, h1, h2, r⟩
  · simp [Value.ownBlock] at hg
  · simp [Value.ownBlock] at hg
    subst hg
    exact ⟨cur, h2⟩
/-- The directory has turned, nothing else. -/
theorem Is.named {w w1 : World} {B : Nat} {o : Loc} {s : St} {m : Nm} (h : Is w B o s) (hB : But o.nb w w1) (hD : Dir w1 o.nb m) : Is w1 B o { s with names := m } := by
  have hk : ∀ k cur t fr, w.heap[k]? = some (Obj.cells cur t fr) → w1.heap[k]? = w.heap[k]? := fun k cur t fr hc => hB.block k (lt_of_heap hc) (by intro e; injection e with e; exact h.names.neB hc e)
  exact
    { fs := by rw [hk _ _ _ _ h.fs]; exact h.fs
      names := hD
      dur := h.dur.of_block (hB.block _ h.dur.lt (by intro e; injection e with e; exact h.nd e.symm))
      nd := h.nd
      files := own_kept h.files fun g hg => by obtain ⟨cur, hc⟩ := own_block h.files hg; exact hk _ _ _ _ hc
      pend := own_kept h.pend fun g hg => by obtain ⟨cur, hc⟩ := own_block h.pend hg; exact hk _ _ _ _ hc
      each := fun f hf => (h.each f hf).kept (by obtain ⟨dv, rv, h1, _⟩ := h.each f hf; exact hk _ _ _ _ h1) (fun g cur fr hc => hk _ _ _ _ hc)
      zl := zl_kept h.zl (fun k cur fr hc => hk k cur _ fr hc)
      dist := h.dist
      bF := h.bF
      bn := h.bn
      bd := h.bd
      bf := h.bf }
theorem infoC : (Try.prog.info? 74).map (fun i => (i.zero, i.size, i.bytes)) = some (some (.agg #[.string ByteArray.empty, .string ByteArray.empty, .pointer none]), 3, 40) := by kernel_rfl
theorem grow_at {w1 w2 : World} {x y : Obj} {row : Option Nat} {F : Nat} (h : (w1.drew.alloc x).grownBy w2 row) (hc : w1.heap[F]? = some y) (hne : row ≠ some F) : w2.heap[F]? = some y := by
  have hlt := lt_of_heap hc
  have hc2 : (w1.drew.alloc x).heap[F]? = some y := by rw [old_block w1.drew x F hlt]; exact hc
  rw [h.block F (lt_of_heap hc2) (fun e => hne e.symm)]
  exact hc2
theorem fs_at3 {w : World} {F : Nat} {o : Loc} {s : St} (h : w.heap[F]? = some (Obj.cells (fsCells o s) 64 (0, 0))) : w.cell? ⟨F, 3, none⟩ = some o.ps ∧ w.frozen? ⟨F, 3, none⟩ = false := by
  unfold World.cell? World.frozen?
  simp only [h]
  exact ⟨rfl, rfl⟩
theorem own_ne {w : World} {base n size F : Nat} {e t : TypeId} {v : Value} {xs : List Value} {cs : Array Value} {fr : Nat × Nat} (h : w.ownsRow base e size v n xs) (hF : w.heap[F]? = some (Obj.cells cs t fr)) (hne : t ≠ e) : v.ownBlock ≠ some F := by
  intro hg
  obtain ⟨cur, hc⟩ := own_block h hg
  rw [hF] at hc
  simp only [Option.some.injEq, Obj.cells.injEq] at hc
  exact hne hc.2.1
theorem ne_of {w : World} {k F : Nat} {cs ds : Array Value} {t u : TypeId} {fr gr : Nat × Nat} (h : w.heap[k]? = some (Obj.cells cs t fr)) (g : w.heap[F]? = some (Obj.cells ds u gr)) (hn : t ≠ u) : k ≠ F := by
  intro e
  subst e
  rw [h] at g
  simp only [Option.some.injEq, Obj.cells.injEq] at g
  exact hn g.2.1
theorem Dir.block {w : World} {b : Nat} {m : Nm} (h : Dir w b m) : ∃ es ck, w.heap[b]? = some (.map es ck) := by
  obtain ⟨n, es, clock, hh, r⟩ := h
  exact ⟨es, clock, hh⟩
theorem Is.pended {w1 w2 : World} {x : Obj} {B g cap : Nat} {o : Loc} {s : St} {c : Ch} (h : Is w1 B o s) (hg : (w1.drew.alloc x).grownBy w2 o.ps.ownBlock)
    (ho : w2.ownsRow B 74 3 (.slice (some ⟨g, 0, none⟩) (s.pend.length + 1) cap) (s.pend.length + 1) (s.pend.flatMap chCells ++ chCells c)) :
    Is (w2.setCell ⟨o.F, 3, none⟩ (.slice (some ⟨g, 0, none⟩) (s.pend.length + 1) cap)) B { o with ps := .slice (some ⟨g, 0, none⟩) (s.pend.length + 1) cap } { s with pend := s.pend ++ [c] } := by
  have K : ∀ k y, w1.heap[k]? = some y → o.ps.ownBlock ≠ some k → k ≠ o.F → (w2.setCell ⟨o.F, 3, none⟩ (.slice (some ⟨g, 0, none⟩) (s.pend.length + 1) cap)).heap[k]? = some y := fun k y hy hne hF => by
    rw [heap_setCell_other _ _ _ _ hF]; exact grow_at hg hy hne
  have KC : ∀ k cur t fr, w1.heap[k]? = some (Obj.cells cur t fr) → t ≠ 74 → t ≠ 64 → (w2.setCell ⟨o.F, 3, none⟩ (.slice (some ⟨g, 0, none⟩) (s.pend.length + 1) cap)).heap[k]? = w1.heap[k]? := fun k cur t fr hy h1 h2 => by
    rw [hy]; exact K k _ hy (own_ne h.pend hy h1) (ne_of hy h.fs h2)
  have KM : ∀ b m, Dir w1 b m → (w2.setCell ⟨o.F, 3, none⟩ (.slice (some ⟨g, 0, none⟩) (s.pend.length + 1) cap)).heap[b]? = w1.heap[b]? := fun b m hd => by
    obtain ⟨es, ck, hb⟩ := hd.block
    rw [hb]
    exact K b _ hb (fun e => by obtain ⟨cur, hc⟩ := own_block h.pend e; rw [hb] at hc; simp at hc) (fun e => hd.neB h.fs e.symm)
  have hF2 := grow_at hg h.fs (own_ne h.pend h.fs (by decide))
  exact
    { fs := by rw [heap_setCell_same _ _ _ _ _ _ hF2]; rfl
      names := h.names.of_block (KM _ _ h.names)
      dur := h.dur.of_block (KM _ _ h.dur)
      nd := h.nd
      files := own_kept h.files fun k hk => by obtain ⟨cur, hc⟩ := own_block h.files hk; exact KC _ _ _ _ hc (by decide) (by decide)
      pend := by
        have e1 : (s.pend ++ [c]).length = s.pend.length + 1 := by simp
        have e2 : (s.pend ++ [c]).flatMap chCells = s.pend.flatMap chCells ++ chCells c := by simp
        show World.ownsRow _ _ _ _ _ (s.pend ++ [c]).length ((s.pend ++ [c]).flatMap chCells)
        rw [e1, e2]
        refine own_kept ho fun k hk => ?_
        obtain ⟨cur, hc⟩ := own_block ho hk
        exact heap_setCell_other _ _ _ _ (ne_of hc hF2 (by decide))
      each := fun f hf => (h.each f hf).kept (by obtain ⟨dv, rv, h1, _⟩ := h.each f hf; exact KC _ _ _ _ h1 (by decide) (by decide)) (fun k cur fr hc => KC _ _ _ _ hc (by decide) (by decide))
      zl := zl_kept h.zl (fun k cur fr hc => KC k cur _ fr hc (by decide) (by decide))
      dist := h.dist
      bF := h.bF
      bn := h.bn
      bd := h.bd
      bf := h.bf }
theorem Fr.grow {w1 w2 : World} {x : Obj} {row : Option Nat} (h : (w1.drew.alloc x).grownBy w2 row) (p : Nat → Prop) (hp : ∀ k, row = some k → p k) : Fr w1 w2 p :=
  ⟨h.os, h.tape, h.output, Nat.le_trans (by show _ ≤ (World.alloc w1.drew x).heap.size; rw [alloc_sz]; exact Nat.le_succ _) h.size, fun k hk hn => by
    have hlt : k < (w1.drew.alloc x).heap.size := by show _ < (World.alloc w1.drew x).heap.size; rw [alloc_sz]; exact Nat.lt_succ_of_lt hk
    rw [h.block k hlt (fun e => hn (hp k e.symm))]
    exact old_block w1.drew x k hk⟩
theorem Fr.set (w : World) (a : Addr) (v : Value) (p : Nat → Prop) (hp : p a.block) : Fr w (w.setCell a v) p :=
  ⟨rfl, rfl, rfl, by simp, fun k hk hn => heap_setCell_other w a k v (fun e => hn (e ▸ hp))⟩
theorem new_cellC (w : World) (xs : List Value) (j : Nat) (u : Value) (hj : xs[j]? = some u) : (w.alloc (.cells xs.toArray 74)).cell? ((⟨w.heap.size, 0, none⟩ : Addr).add j) = some u := by
  have h2 := new_block w (.cells xs.toArray 74)
  have e : ((⟨w.heap.size, 0, none⟩ : Addr).add j) = ⟨w.heap.size, j, none⟩ := by simp [Addr.add]; omega
  rw [e]
  unfold World.cell?
  simp only [h2]
  simpa using hj
set_option maxRecDepth 100000 in
set_option maxHeartbeats 4000000 in
theorem record_is (B x : Nat) (o : Loc) (s : St) (c : Ch) (W : World) (h : Is W B o s) (h1 : c.src.size ≤ 1000000) (h2 : c.dst.size ≤ 1000000) (hm : s.names.length ≤ 1000000) (hp : s.pend.length ≤ 1000000) (hx : c.dst.toList.isEmpty = false → c.file = some x) :
    Calls Try.prog 39 #[.pointer (some ⟨o.F, 0, none⟩), .agg #[.string c.src, .string c.dst, fptrO c.file]] W fun e w' => e = .returned (.tuple #[]) ∧ ∃ ps', Is w' B { o with ps := ps' } { s with names := applyS s.names c.src c.dst x, pend := s.pend ++ [c] } ∧ Fr W w' (foot o s) ∧ (∀ g, ps'.ownBlock = some g → o.ps.ownBlock = some g ∨ W.heap.size ≤ g) := by
  obtain ⟨F, hF⟩ : ∃ F, o.F = F := ⟨_, rfl⟩
  obtain ⟨f, hf⟩ : ∃ f, c.src = f := ⟨_, rfl⟩
  obtain ⟨t, ht⟩ : ∃ t, c.dst = t := ⟨_, rfl⟩
  obtain ⟨fv, hfv⟩ : ∃ v, fptrO c.file = v := ⟨_, rfl⟩
  have hxv : t.toList.isEmpty = false → fv = fptr x := fun e => by rw [← hfv, hx (by rw [ht]; exact e)]; rfl
  rw [hF, hf, ht, hfv]
  rw [hf] at h1
  rw [ht] at h2
  have hI0 : Is (W.alloc (.cells #[.string f, .string t, fv] 74)) B o s := h.below ((Below.refl W.heap.size W).alloc (Nat.le_refl _) _)
  have hS := heap_alloc_new W (.cells #[.string f, .string t, fv] 74)
  have HB0 := Lib.hid ((Below.refl W.heap.size W).alloc (Nat.le_refl _) (.cells #[.string f, .string t, fv] 74))
  have q0 : (W.alloc (.cells #[.string f, .string t, fv] 74)).cell? ⟨W.heap.size, 0, none⟩ = some (.string f) := by unfold World.cell?; simp only [hS]; rfl
  have q1 : (W.alloc (.cells #[.string f, .string t, fv] 74)).cell? ⟨W.heap.size, 1, none⟩ = some (.string t) := by unfold World.cell?; simp only [hS]; rfl
  have q2 : (W.alloc (.cells #[.string f, .string t, fv] 74)).cell? ⟨W.heap.size, 2, none⟩ = some fv := by unfold World.cell?; simp only [hS]; rfl
  have HI := Lib.hid h
  have HI0 := Lib.hid hI0
  have HXV := Lib.hid hxv
  have HSS := Lib.hid hS
  clear h hI0 hxv hS hx
  go_enter Try.func39, Try.ntmps39
  go_wp2_with fail
  generalize (W.alloc (.cells #[.string f, .string t, fv] 74)) = w0 at q0 q1 q2 HB0 HI0 HSS ⊢
  go_still_tail 4, (by kernel_rfl)
  change wpList _ _ _ _ _ w0.drew
  go_wp2_with fail
  have hcF : w0.drew.cell? ⟨F, 0, none⟩ = some (.map (some o.nb)) := by
    have := HI0.out.fs
    rw [hF] at this
    show w0.cell? _ = _
    unfold World.cell?; simp only [this]; rfl
  refine (apply_is F 0 o.nb x f t fv s.names w0.drew h1 h2 hm HXV.out hcF (HI0.out.names.of_block rfl)).mono ?_
  rintro e w1 ⟨rfl, hD1, hB1'⟩
  have hB1 : But o.nb w0 w1 := ⟨hB1'.os, hB1'.tape, hB1'.output, hB1'.size, hB1'.block⟩
  clear hB1'
  have HI1 := Lib.hid (Is.named (w := w0) HI0.out hB1 hD1)
  have hneS : W.heap.size ≠ o.nb := HI0.out.names.neB HSS.out
  have r0 := hB1.cell q0 hneS
  have r1 := hB1.cell q1 hneS
  have r2 := hB1.cell q2 hneS
  have HF1 := Lib.hid ((Fr.of_below HB0.out (foot o s)).trans (Fr.of_but hB1 (fun k => k = o.nb) rfl) (fun k _ e => .inr (.inl e)))
  have cP : w1.cell? ⟨F, 3, none⟩ = some o.ps := by
    have := HI1.out.fs
    rw [hF] at this
    unfold World.cell?; simp only [this]; rfl
  have frF : w1.frozen? ⟨F, 3, none⟩ = false := by
    have := HI1.out.fs
    rw [hF] at this
    unfold World.frozen?; simp only [this]; rfl
  have hsz1 := HF1.out.size
  obtain ⟨i0, hi, hz0, hz1, hz2⟩ := info_parts infoC
  obtain ⟨pv, hpv⟩ : ∃ v, o.ps = v := ⟨_, rfl⟩
  have hown := HI1.out.pend
  rw [hpv] at hown cP
  have HOW := Lib.hid hown
  have HFB := Lib.hid (show w1.heap[F]? = _ from hF ▸ HI1.out.fs)
  have HNE := Lib.hid (own_ne hown HFB.out (by decide))
  have cPa : (w1.alloc (.cells #[.string f, .string t, fv] 74)).cell? ⟨F, 3, none⟩ = some pv := by
    have hlt := lt_of_cell cP
    unfold World.cell? at cP ⊢
    rw [old_block _ _ _ hlt]
    exact cP
  have HOC := Lib.hid (show ∀ u ∈ [Value.string f, .string t, fv], u.oneCell' = true by
    intro u hu
    simp only [List.mem_cons, List.not_mem_nil, or_false] at hu
    rcases hu with rfl | rfl | rfl
    · rfl
    · rfl
    · rw [← hfv]; cases c.file <;> rfl)
  have HBS := Lib.hid (show B ≤ w1.heap.size from Nat.le_trans HI1.out.bF (Nat.le_of_lt (lt_of_heap HI1.out.fs)))
  have II := Lib.hid (And.intro hi (And.intro hz0 (And.intro hz1 hz2)))
  clear hcF q0 q1 q2 hD1 hB1 hi hz0 hz1 hz2 hown hneS
  go_wp2_with fail
  go_region_law? (refine step_append_lies _ rfl (.tmp 13) (.tmp 15) 62 rfl B 74 i0 (.agg #[.string ByteArray.empty, .string ByteArray.empty, .pointer none]) 3 40 Try.underlying62 II.out.1 II.out.2.1 II.out.2.2.1 II.out.2.2.2 rfl (by decide) _ _ _ (by simp [Act.eval]) (HOW.out.drew.alloc _) ⟨w1.heap.size, 0, none⟩ 1 1 [.string f, .string t, fv] (by simp [Act.eval]) rfl (new_cellC w1.drew _) HOC.out (by decide) (by unfold maxLen; omega) (by omega) (by show _ ≤ (World.alloc _ _).heap.size; rw [alloc_sz]; have := HBS.out; show _ ≤ w1.heap.size + 1; omega) _ rfl ?_; intro g1 cap1 w2 hown1 hgrow1 hg1 hg2; have hfb2 := grow_at hgrow1 HFB.out HNE.out; have hc2 := (fs_at3 hfb2).1; have hz2 := (fs_at3 hfb2).2; rw [hpv] at hc2)
  all_goals
    have hgrow2 := hpv ▸ hgrow1
    have HR := Lib.hid (Is.pended (c := c) HI1.out (by rw [hpv]; exact hgrow1) (by rw [show chCells c = [.string f, .string t, fv] by unfold chCells; rw [hf, ht, hfv]]; exact hown1))
    have HFR := Lib.hid (HF1.out.trans ((Fr.grow hgrow1 (foot o s) (fun k e => .inr (.inr (.inr (.inr (.inl (by rw [hpv]; exact e))))))).trans (Fr.set w2 ⟨F, 3, none⟩ (.slice (some ⟨g1, 0, none⟩) (s.pend.length + 1) cap1) (foot o s) (.inl hF.symm)) (fun k _ e => e)) (fun k _ e => e))
    have HG := Lib.hid (show o.ps.ownBlock = some g1 ∨ W.heap.size ≤ g1 by
      rw [hpv]
      rcases hg1 with e | e
      · exact .inl e
      · right
        have e2 : (World.alloc w1.drew (Obj.cells #[.string f, .string t, fv] 74)).heap.size = w1.heap.size + 1 := by rw [alloc_sz]; rfl
        have e3 : (World.drew (World.alloc w1 (Obj.cells #[.string f, .string t, fv] 74))).heap.size = w1.heap.size + 1 := by show (World.alloc w1 _).heap.size = _; rw [alloc_sz]
        omega)
    rw [hF] at HR
    clear hown1 hgrow1 hg1 hg2 hfb2 hc2 hz2 hgrow2
    try go_wp2_with fail
    go_end0
    refine ⟨rfl, _, HR.out, HFR.out, ?_⟩
    intro g hg
    simp only [Value.ownBlock, Option.some.injEq] at hg
    subst hg
    have hgo := HG.out
    rw [hpv] at hgo
    exact hgo
end Go.Proofs.Ytcobjjaicckgpaa.Vf
/- put. -/
namespace Go.Proofs.Ytcobjjaicckgpaa.Vf
open Go Go.RowKit Go.Maps Go.Proofs.Ytcobjjaicckgpaa Go.Proofs.Ytcobjjaicckgpaa.Bs
set_option linter.unusedVariables false

def setFile (fs : List Fl) (b : Nat) (l : List UInt8) : List Fl := fs.map fun f => if f.blk = b then { f with data := l, synced := false } else f
/-- The contents of an old file are replaced. -/
theorem Is.wrote {w : World} {B b : Nat} {o : Loc} {s : St} {v : Value} {l : List UInt8} (h : Is w B o s) (f : Fl) (hf : f ∈ s.files) (hb : f.blk = b) (hv : Rz o.Z w v l) :
    Is ((w.setCell ⟨b, 0, none⟩ v).setCell ⟨b, 2, none⟩ (.bool false)) B o { s with files := setFile s.files b l } := by
  obtain ⟨dv, rv, hc, hd, hr⟩ := h.each f hf
  rw [hb] at hc
  have h1 := heap_setCell_same w b 0 _ _ v hc
  have h2 := heap_setCell_same _ b 2 _ _ (.bool false) h1
  have K : ∀ k, k ≠ b → ((w.setCell ⟨b, 0, none⟩ v).setCell ⟨b, 2, none⟩ (.bool false)).heap[k]? = w.heap[k]? := fun k hk => by
    rw [heap_setCell_other _ _ _ _ hk, heap_setCell_other _ _ _ _ hk]
  have KC : ∀ k cur t fr, w.heap[k]? = some (Obj.cells cur t fr) → t ≠ 70 → ((w.setCell ⟨b, 0, none⟩ v).setCell ⟨b, 2, none⟩ (.bool false)).heap[k]? = w.heap[k]? := fun k cur t fr hk ht => K k (ne_of hk hc ht)
  have KM : ∀ d m, Dir w d m → ((w.setCell ⟨b, 0, none⟩ v).setCell ⟨b, 2, none⟩ (.bool false)).heap[d]? = w.heap[d]? := fun d m hd => K d (fun e => hd.neB hc e.symm)
  have hbl : (setFile s.files b l).map (·.blk) = s.files.map (·.blk) := by
    unfold setFile
    rw [List.map_map]
    apply List.map_congr_left
    intro g _
    simp only [Function.comp]
    split <;> rfl
  have hE : ∀ g ∈ setFile s.files b l, FileIs o.Z ((w.setCell ⟨b, 0, none⟩ v).setCell ⟨b, 2, none⟩ (.bool false)) g := by
    intro g hg
    unfold setFile at hg
    obtain ⟨g0, hg0, rfl⟩ := List.mem_map.1 hg
    by_cases e : g0.blk = b
    · rw [if_pos e]
      obtain ⟨dv0, rv0, hc0, hd0, hr0⟩ := h.each g0 hg0
      rw [e, hc] at hc0
      have e3 : #[dv, rv, Value.bool f.synced] = #[dv0, rv0, Value.bool g0.synced] := by injection hc0 with hc0; injection hc0
      have e4 : rv = rv0 := by
        have := congrArg (fun a : Array Value => a[1]?) e3
        simpa using this
      subst e4
      refine ⟨v, rv, ?_, hv.kept (fun k cur fr hk => KC _ _ _ _ hk (by decide)), hr0.kept (fun k cur fr hk => KC _ _ _ _ hk (by decide))⟩
      simp only [e]
      rw [h2]
      rfl
    · rw [if_neg e]
      exact (h.each g0 hg0).kept (K _ e) (fun k cur fr hk => KC _ _ _ _ hk (by decide))
  exact
    { fs := by rw [KC _ _ _ _ h.fs (by decide)]; exact h.fs
      names := h.names.of_block (KM _ _ h.names)
      dur := h.dur.of_block (KM _ _ h.dur)
      nd := h.nd
      files := by
        have e1 : (setFile s.files b l).length = s.files.length := by simp [setFile]
        have e2 : (setFile s.files b l).map (fun f => fptr f.blk) = s.files.map fun f => fptr f.blk := by
          have := congrArg (List.map fptr) hbl
          rw [List.map_map, List.map_map] at this
          exact this
        show World.ownsRow _ _ _ _ _ (setFile s.files b l).length ((setFile s.files b l).map fun f => fptr f.blk)
        rw [e1, e2]
        exact own_kept h.files fun k hk => by obtain ⟨cur, hc2⟩ := own_block h.files hk; exact KC _ _ _ _ hc2 (by decide)
      pend := own_kept h.pend fun k hk => by obtain ⟨cur, hc2⟩ := own_block h.pend hk; exact KC _ _ _ _ hc2 (by decide)
      each := hE
      zl := zl_kept h.zl (fun k cur fr hk => KC _ _ _ _ hk (by decide))
      dist := by show ((setFile s.files b l).map (·.blk)).Nodup; rw [hbl]; exact h.dist
      bF := h.bF
      bn := h.bn
      bd := h.bd
      bf := fun g hg => by
        have hm : g.blk ∈ (setFile s.files b l).map (·.blk) := List.mem_map_of_mem hg
        rw [hbl] at hm
        obtain ⟨g0, hg0, e⟩ := List.mem_map.1 hm
        rw [← e]
        exact h.bf g0 hg0 }
theorem Rd.slice {w : World} {v : Value} {l : List UInt8} (h : Rd w v l) : ∃ a n c, v = .slice a n c := by
  rcases h with ⟨rfl, _⟩ | ⟨g, cap, cur, fr, rfl, _⟩
  · exact ⟨_, _, _, rfl⟩
  · exact ⟨_, _, _, rfl⟩
theorem fs_at0 {w : World} {F : Nat} {o : Loc} {s : St} (h : w.heap[F]? = some (Obj.cells (fsCells o s) 64 (0, 0))) : w.cell? ⟨F, 0, none⟩ = some (.map (some o.nb)) := by
  unfold World.cell?
  simp only [h]
  rfl
theorem file_cells {w : World} {b : Nat} {x y z : Value} (h : w.heap[b]? = some (Obj.cells #[x, y, z] 70 (0, 0))) : w.cell? ⟨b, 0, none⟩ = some x ∧ w.cell? ⟨b, 1, none⟩ = some y ∧ w.cell? ⟨b, 2, none⟩ = some z ∧ (∀ j, w.frozen? ⟨b, j, none⟩ = false) := by
  unfold World.cell? World.frozen?
  simp only [h]
  exact ⟨rfl, rfl, rfl, fun j => by simp⟩
set_option maxRecDepth 100000 in
set_option maxHeartbeats 4000000 in
theorem put_none (B : Nat) (o : Loc) (v : Value) (W : World) :
    Calls Try.prog 32 #[.pointer (some ⟨o.F, 0, none⟩), .string ⟨#[]⟩, v] W fun e w' => e = .returned (.int .i64 2) ∧ w' = W := by
  go_enter Try.func32, Try.ntmps32
  go_wp2_with fail
  go_ret
  exact ⟨rfl, rfl⟩
set_option maxRecDepth 100000 in
set_option maxHeartbeats 4000000 in
theorem put_old (B b : Nat) (o : Loc) (s : St) (k : ByteArray) (v : Value) (l : List UInt8) (f : Fl) (W : World) (h : Is W B o s) (hk : k.size ≤ 1000000) (k0 : k.toList.isEmpty = false) (hl : l.length ≤ 1000000) (hv : Rd W v l) (hf : findS s.names k.data.toList = some b) (hm : f ∈ s.files) (hb : f.blk = b) :
    Calls Try.prog 32 #[.pointer (some ⟨o.F, 0, none⟩), .string k, v] W fun e w' => e = .returned (.int .i64 0) ∧ Is w' B o { s with files := setFile s.files b l } ∧ Fr W w' (foot o s) := by
  have h0 := fs_at0 h.fs
  have HI := Lib.hid h
  have HV := Lib.hid hv
  have HF := Lib.hid hf
  obtain ⟨F, hF⟩ : ∃ F, o.F = F := ⟨_, rfl⟩
  rw [hF] at h0 ⊢
  clear h hv hf
  go_enter Try.func32, Try.ntmps32
  go_wp2_with fail
  refine (lookup_is F 0 o.nb k s.names W hk h0 HI.out.names).mono ?_
  rintro e w1 ⟨rfl, rfl⟩
  rw [HF.out]
  simp only [fptrO, fptr, Option.isSome_some]
  go_wp2_with fail
  refine (clone_is v l _ hl HV.out).mono ?_
  rintro e w2 ⟨v2, rfl, hr2', hg2, hb2⟩
  have hr2 : Rz o.Z w2 v2 l := ⟨hr2', fun g hg hz => by
    obtain ⟨cur, fr, hc⟩ := HI.out.zl g hz
    have e1 := lt_of_heap hc
    have e2 := hg2 g hg
    omega⟩
  clear hr2' hg2
  obtain ⟨a2, n2, cp2, hv2⟩ := hr2.1.slice
  subst hv2
  have HI2 := Lib.hid (HI.out.below hb2)
  obtain ⟨dv, rv, hc, -, -⟩ := HI2.out.each f hm
  rw [hb] at hc
  obtain ⟨c0, c1, c2, cf⟩ := file_cells hc
  have f0 := cf 0
  have f2 := cf 2
  have HR := Lib.hid (HI2.out.wrote f hm hb hr2)
  have HFR := Lib.hid (((Fr.of_below hb2 (foot o s)).trans (Fr.set w2 ⟨b, 0, none⟩ (.slice a2 n2 cp2) (foot o s) (.inr (.inr (.inr (.inr (.inr ⟨f, hm, hb⟩)))))) (fun _ _ e => e)).trans (Fr.set _ ⟨b, 2, none⟩ (.bool false) (foot o s) (.inr (.inr (.inr (.inr (.inr ⟨f, hm, hb⟩)))))) (fun _ _ e => e))
  clear hr2 hb2 hc cf
  go_wp2_with fail
  go_ret
  exact ⟨rfl, HR.out, HFR.out⟩
end Go.Proofs.Ytcobjjaicckgpaa.Vf
/- Read. -/
namespace Go.Proofs.Ytcobjjaicckgpaa.Vf
open Go Go.RowKit Go.Maps Go.Proofs.Ytcobjjaicckgpaa Go.Proofs.Ytcobjjaicckgpaa.Bs
set_option linter.unusedVariables false

theorem fs_flags {w : World} {F : Nat} {o : Loc} {s : St} (h : w.heap[F]? = some (Obj.cells (fsCells o s) 64 (0, 0))) :
    w.cell? ⟨F, 1, none⟩ = some (.map (some o.db)) ∧ w.cell? ⟨F, 2, none⟩ = some o.fs ∧ w.cell? ⟨F, 4, none⟩ = some (.bool s.down) ∧ w.cell? ⟨F, 5, none⟩ = some (.bool s.armed) ∧ w.cell? ⟨F, 6, none⟩ = some (.int .i64 s.after) ∧ w.cell? ⟨F, 7, none⟩ = some (.int .i64 s.err) ∧ ∀ j, w.frozen? ⟨F, j, none⟩ = false := by
  unfold World.cell? World.frozen?
  simp only [h]
  exact ⟨rfl, rfl, rfl, rfl, rfl, rfl, fun j => by simp⟩
set_option maxRecDepth 100000 in
set_option maxHeartbeats 4000000 in
theorem read_nil (k : ByteArray) (W : World) :
    Calls Try.prog 14 #[.pointer none, .string k] W fun e w' => e = .returned (.tuple #[.slice none 0 0, .int .i64 1]) ∧ w' = W := by
  go_enter Try.func14, Try.ntmps14
  go_wp2_with fail
  go_ret2
  exact ⟨rfl, rfl⟩
set_option maxRecDepth 100000 in
set_option maxHeartbeats 4000000 in
theorem read_down (B : Nat) (o : Loc) (s : St) (k : ByteArray) (W : World) (h : Is W B o s) (hd : s.down = true) :
    Calls Try.prog 14 #[.pointer (some ⟨o.F, 0, none⟩), .string k] W fun e w' => e = .returned (.tuple #[.slice none 0 0, .int .i64 24]) ∧ w' = W := by
  obtain ⟨-, -, c4, -⟩ := fs_flags h.fs
  rw [hd] at c4
  clear h
  go_enter Try.func14, Try.ntmps14
  go_wp2_with fail
  go_ret2
  exact ⟨rfl, rfl⟩
set_option maxRecDepth 100000 in
set_option maxHeartbeats 4000000 in
theorem read_none (B : Nat) (o : Loc) (s : St) (k : ByteArray) (W : World) (h : Is W B o s) (hd : s.down = false) (hk : k.size ≤ 1000000) (hf : findS s.names k.data.toList = none) :
    Calls Try.prog 14 #[.pointer (some ⟨o.F, 0, none⟩), .string k] W fun e w' => e = .returned (.tuple #[.slice none 0 0, .int .i64 23]) ∧ w' = W := by
  obtain ⟨-, -, c4, -⟩ := fs_flags h.fs
  rw [hd] at c4
  have h0 := fs_at0 h.fs
  have HN := Lib.hid h.names
  have HF := Lib.hid hf
  clear h hf
  go_enter Try.func14, Try.ntmps14
  go_wp2_with fail
  refine (lookup_is o.F 0 o.nb k s.names W hk h0 HN.out).mono ?_
  rintro e w1 ⟨rfl, rfl⟩
  rw [HF.out]
  simp only [fptrO, Option.isSome_none]
  go_wp2_with fail
  go_ret2
  exact ⟨rfl, rfl⟩
set_option maxRecDepth 100000 in
set_option maxHeartbeats 4000000 in
theorem read_some (B b : Nat) (o : Loc) (s : St) (k : ByteArray) (f : Fl) (W : World) (h : Is W B o s) (hd : s.down = false) (hk : k.size ≤ 1000000) (hf : findS s.names k.data.toList = some b) (hm : f ∈ s.files) (hb : f.blk = b) (hl : f.data.length ≤ 1000000) :
    Calls Try.prog 14 #[.pointer (some ⟨o.F, 0, none⟩), .string k] W fun e w' => ∃ v, e = .returned (.tuple #[v, .int .i64 0]) ∧ Rd w' v f.data ∧ (∀ g, v.ownBlock = some g → W.heap.size ≤ g) ∧ Below W.heap.size W w' := by
  obtain ⟨-, -, c4, -⟩ := fs_flags h.fs
  rw [hd] at c4
  have h0 := fs_at0 h.fs
  obtain ⟨dv, rv, hc, hr, -⟩ := h.each f hm
  rw [hb] at hc
  obtain ⟨c0, -, -, -⟩ := file_cells hc
  have HR := Lib.hid hr.1
  have HN := Lib.hid h.names
  have HF := Lib.hid hf
  obtain ⟨a1, n1, p1, hdv⟩ := hr.1.slice
  subst hdv
  clear h hf hc hr
  go_enter Try.func14, Try.ntmps14
  go_wp2_with fail
  refine (lookup_is o.F 0 o.nb k s.names W hk h0 HN.out).mono ?_
  rintro e w1 ⟨rfl, rfl⟩
  rw [HF.out]
  simp only [fptrO, fptr, Option.isSome_some]
  go_wp2_with fail
  refine (clone_is _ f.data _ hl HR.out).mono ?_
  rintro e w2 ⟨v2, rfl, hr2, hg2, hb2⟩
  have HR2 := Lib.hid hr2
  have HB2 := Lib.hid (And.intro hg2 hb2)
  clear hr2 hg2 hb2
  go_wp2_with fail
  go_ret2
  exact ⟨v2, rfl, HR2.out, HB2.out.1, HB2.out.2⟩
end Go.Proofs.Ytcobjjaicckgpaa.Vf
/- operate. -/
namespace Go.Proofs.Ytcobjjaicckgpaa.Vf
open Go Go.RowKit Go.Maps Go.Proofs.Ytcobjjaicckgpaa Go.Proofs.Ytcobjjaicckgpaa.Bs
set_option linter.unusedVariables false

set_option maxRecDepth 100000 in
set_option maxHeartbeats 4000000 in
theorem operate_nil (p q : Value) (W : World) :
    Calls Try.prog 30 #[.pointer none, p, q] W fun e w' => e = .returned (.int .i64 1) ∧ w' = W := by
  go_enter Try.func30, Try.ntmps30
  go_wp2_with fail
  go_ret
  exact ⟨rfl, rfl⟩
set_option maxRecDepth 100000 in
set_option maxHeartbeats 4000000 in
theorem operate_down (B : Nat) (o : Loc) (s : St) (p q : Value) (W : World) (h : Is W B o s) (hd : s.down = true) :
    Calls Try.prog 30 #[.pointer (some ⟨o.F, 0, none⟩), p, q] W fun e w' => e = .returned (.int .i64 24) ∧ w' = W := by
  obtain ⟨-, -, c4, -⟩ := fs_flags h.fs
  rw [hd] at c4
  clear h
  go_enter Try.func30, Try.ntmps30
  go_wp2_with fail
  go_ret
  exact ⟨rfl, rfl⟩
set_option maxRecDepth 100000 in
set_option maxHeartbeats 4000000 in
theorem plain_write (B : Nat) (o : Loc) (s : St) (x1 x2 x3 q : Value) (W : World) (Q : Int → World → Prop) (h : Is W B o s) (hd : s.down = false) (ha : s.armed = false)
    (hp : Calls Try.prog 31 #[x1, x2, x3] W fun e w' => ∃ r, e = .returned (.int .i64 r) ∧ Q r w') :
    Calls Try.prog 30 #[.pointer (some ⟨o.F, 0, none⟩), .func (.func 31) #[] #[x1, x2, x3], q] W fun e w' => ∃ r, e = .returned (.int .i64 r) ∧ Q r w' := by
  obtain ⟨-, -, c4, c5, -⟩ := fs_flags h.fs
  rw [hd] at c4
  rw [ha] at c5
  clear h
  have HP := Lib.hid hp
  clear hp
  go_enter Try.func30, Try.ntmps30
  go_wp2_with fail
  refine HP.out.mono ?_
  rintro e w1 ⟨r, rfl, hQ⟩
  have HQ := Lib.hid hQ
  clear hQ
  go_wp2_with fail
  go_ret
  exact ⟨r, rfl, HQ.out⟩
set_option maxRecDepth 100000 in
set_option maxHeartbeats 4000000 in
theorem plain_sync (B : Nat) (o : Loc) (s : St) (x1 x2 q : Value) (W : World) (Q : Int → World → Prop) (h : Is W B o s) (hd : s.down = false) (ha : s.armed = false)
    (hp : Calls Try.prog 34 #[x1, x2] W fun e w' => ∃ r, e = .returned (.int .i64 r) ∧ Q r w') :
    Calls Try.prog 30 #[.pointer (some ⟨o.F, 0, none⟩), .func (.func 34) #[] #[x1, x2], q] W fun e w' => ∃ r, e = .returned (.int .i64 r) ∧ Q r w' := by
  obtain ⟨-, -, c4, c5, -⟩ := fs_flags h.fs
  rw [hd] at c4
  rw [ha] at c5
  clear h
  have HP := Lib.hid hp
  clear hp
  go_enter Try.func30, Try.ntmps30
  go_wp2_with fail
  refine HP.out.mono ?_
  rintro e w1 ⟨r, rfl, hQ⟩
  have HQ := Lib.hid hQ
  clear hQ
  go_wp2_with fail
  go_ret
  exact ⟨r, rfl, HQ.out⟩
set_option maxRecDepth 100000 in
set_option maxHeartbeats 4000000 in
theorem plain_syncdir (B : Nat) (o : Loc) (s : St) (x1 q : Value) (W : World) (Q : Int → World → Prop) (h : Is W B o s) (hd : s.down = false) (ha : s.armed = false)
    (hp : Calls Try.prog 36 #[x1] W fun e w' => ∃ r, e = .returned (.int .i64 r) ∧ Q r w') :
    Calls Try.prog 30 #[.pointer (some ⟨o.F, 0, none⟩), .func (.func 36) #[] #[x1], q] W fun e w' => ∃ r, e = .returned (.int .i64 r) ∧ Q r w' := by
  obtain ⟨-, -, c4, c5, -⟩ := fs_flags h.fs
  rw [hd] at c4
  rw [ha] at c5
  clear h
  have HP := Lib.hid hp
  clear hp
  go_enter Try.func30, Try.ntmps30
  go_wp2_with fail
  refine HP.out.mono ?_
  rintro e w1 ⟨r, rfl, hQ⟩
  have HQ := Lib.hid hQ
  clear hQ
  go_wp2_with fail
  go_ret
  exact ⟨r, rfl, HQ.out⟩
set_option maxRecDepth 100000 in
set_option maxHeartbeats 4000000 in
theorem plain_rename (B : Nat) (o : Loc) (s : St) (x1 x2 x3 q : Value) (W : World) (Q : Int → World → Prop) (h : Is W B o s) (hd : s.down = false) (ha : s.armed = false)
    (hp : Calls Try.prog 38 #[x1, x2, x3] W fun e w' => ∃ r, e = .returned (.int .i64 r) ∧ Q r w') :
    Calls Try.prog 30 #[.pointer (some ⟨o.F, 0, none⟩), .func (.func 38) #[] #[x1, x2, x3], q] W fun e w' => ∃ r, e = .returned (.int .i64 r) ∧ Q r w' := by
  obtain ⟨-, -, c4, c5, -⟩ := fs_flags h.fs
  rw [hd] at c4
  rw [ha] at c5
  clear h
  have HP := Lib.hid hp
  clear hp
  go_enter Try.func30, Try.ntmps30
  go_wp2_with fail
  refine HP.out.mono ?_
  rintro e w1 ⟨r, rfl, hQ⟩
  have HQ := Lib.hid hQ
  clear hQ
  go_wp2_with fail
  go_ret
  exact ⟨r, rfl, HQ.out⟩
set_option maxRecDepth 100000 in
set_option maxHeartbeats 4000000 in
theorem plain_remove (B : Nat) (o : Loc) (s : St) (x1 x2 q : Value) (W : World) (Q : Int → World → Prop) (h : Is W B o s) (hd : s.down = false) (ha : s.armed = false)
    (hp : Calls Try.prog 51 #[x1, x2] W fun e w' => ∃ r, e = .returned (.int .i64 r) ∧ Q r w') :
    Calls Try.prog 30 #[.pointer (some ⟨o.F, 0, none⟩), .func (.func 51) #[] #[x1, x2], q] W fun e w' => ∃ r, e = .returned (.int .i64 r) ∧ Q r w' := by
  obtain ⟨-, -, c4, c5, -⟩ := fs_flags h.fs
  rw [hd] at c4
  rw [ha] at c5
  clear h
  have HP := Lib.hid hp
  clear hp
  go_enter Try.func30, Try.ntmps30
  go_wp2_with fail
  refine HP.out.mono ?_
  rintro e w1 ⟨r, rfl, hQ⟩
  have HQ := Lib.hid hQ
  clear hQ
  go_wp2_with fail
  go_ret
  exact ⟨r, rfl, HQ.out⟩
end Go.Proofs.Ytcobjjaicckgpaa.Vf
/- The closures' bodies: Sync. -/
namespace Go.Proofs.Ytcobjjaicckgpaa.Vf
open Go Go.RowKit Go.Maps Go.Proofs.Ytcobjjaicckgpaa Go.Proofs.Ytcobjjaicckgpaa.Bs
set_option linter.unusedVariables false

set_option maxRecDepth 100000 in
set_option maxHeartbeats 4000000 in
theorem sync1_none (B F p q : Nat) (o : Loc) (s : St) (k : ByteArray) (W : World) (h : Is W B o s) (hF : o.F = F) (hp : W.cell? ⟨p, 0, none⟩ = some (.pointer (some ⟨F, 0, none⟩))) (hq : W.cell? ⟨q, 0, none⟩ = some (.string k)) (hk : k.size ≤ 1000000) (hf : findS s.names k.data.toList = none) :
    Calls Try.prog 34 #[.pointer (some ⟨p, 0, none⟩), .pointer (some ⟨q, 0, none⟩)] W fun e w' => e = .returned (.int .i64 23) ∧ ∃ n, w' = W.drewN n := by
  have h0 := fs_at0 h.fs
  rw [hF] at h0
  have HN := Lib.hid h.names
  have cL := fun n => lookup_is F 0 o.nb k s.names (W.drewN n) hk (by exact h0) (HN.out.of_block rfl)
  rw [hf] at cL
  have CL := Lib.hid cL
  clear h hf cL
  go_enter Try.func34, Try.ntmps34
  go_wp2_with fail
  go_quiet ((exact Calls.quiet_of_same (CL.out _)))
  go_wp2_with fail
  go_ret
  exact ⟨rfl, nq, rfl⟩
/-- The files with file b turned. -/
def turnFile (fs : List Fl) (b : Nat) (g : Fl → Fl) : List Fl := fs.map fun f => if f.blk = b then g f else f
/-- A file's block has turned, nothing else. -/
theorem Is.turned {w w' : World} {B b : Nat} {o : Loc} {s : St} {g : Fl → Fl} (h : Is w B o s) (hg : ∀ f, (g f).blk = f.blk) (f : Fl) (hf : f ∈ s.files) (hb : f.blk = b) (K : ∀ k, k ≠ b → w'.heap[k]? = w.heap[k]?)
    (hn : ∀ f ∈ s.files, f.blk = b → FileIs o.Z w' (g f)) : Is w' B o { s with files := turnFile s.files b g } := by
  obtain ⟨dv, rv, hc, hd, hr⟩ := h.each f hf
  rw [hb] at hc
  have KC : ∀ k cur t fr, w.heap[k]? = some (Obj.cells cur t fr) → t ≠ 70 → w'.heap[k]? = w.heap[k]? := fun k cur t fr hk ht => K k (ne_of hk hc ht)
  have KM : ∀ d m, Dir w d m → w'.heap[d]? = w.heap[d]? := fun d m hd => K d (fun e => hd.neB hc e.symm)
  have hbl : (turnFile s.files b g).map (·.blk) = s.files.map (·.blk) := by
    unfold turnFile
    rw [List.map_map]
    apply List.map_congr_left
    intro x _
    simp only [Function.comp]
    split
    · exact hg x
    · rfl
  have hE : ∀ x ∈ turnFile s.files b g, FileIs o.Z w' x := by
    intro x hx
    unfold turnFile at hx
    obtain ⟨g0, hg0, rfl⟩ := List.mem_map.1 hx
    by_cases e : g0.blk = b
    · rw [if_pos e]; exact hn g0 hg0 e
    · rw [if_neg e]
      exact (h.each g0 hg0).kept (K _ e) (fun k cur fr hk => KC _ _ _ _ hk (by decide))
  exact
    { fs := by rw [KC _ _ _ _ h.fs (by decide)]; exact h.fs
      names := h.names.of_block (KM _ _ h.names)
      dur := h.dur.of_block (KM _ _ h.dur)
      nd := h.nd
      files := by
        have e1 : (turnFile s.files b g).length = s.files.length := by simp [turnFile]
        have e2 : (turnFile s.files b g).map (fun f => fptr f.blk) = s.files.map fun f => fptr f.blk := by
          have := congrArg (List.map fptr) hbl
          rw [List.map_map, List.map_map] at this
          exact this
        show World.ownsRow _ _ _ _ _ (turnFile s.files b g).length ((turnFile s.files b g).map fun f => fptr f.blk)
        rw [e1, e2]
        exact own_kept h.files fun k hk => by obtain ⟨cur, hc2⟩ := own_block h.files hk; exact KC _ _ _ _ hc2 (by decide)
      pend := own_kept h.pend fun k hk => by obtain ⟨cur, hc2⟩ := own_block h.pend hk; exact KC _ _ _ _ hc2 (by decide)
      each := hE
      zl := zl_kept h.zl (fun k cur fr hk => KC _ _ _ _ hk (by decide))
      dist := by show ((turnFile s.files b g).map (·.blk)).Nodup; rw [hbl]; exact h.dist
      bF := h.bF
      bn := h.bn
      bd := h.bd
      bf := fun x hx => by
        have hm : x.blk ∈ (turnFile s.files b g).map (·.blk) := List.mem_map_of_mem hx
        rw [hbl] at hm
        obtain ⟨g0, hg0, e⟩ := List.mem_map.1 hm
        rw [← e]
        exact h.bf g0 hg0 }
end Go.Proofs.Ytcobjjaicckgpaa.Vf
/- Sync's closure where the name is there. -/
namespace Go.Proofs.Ytcobjjaicckgpaa.Vf
open Go Go.RowKit Go.Maps Go.Proofs.Ytcobjjaicckgpaa Go.Proofs.Ytcobjjaicckgpaa.Bs
set_option linter.unusedVariables false

theorem Is.drewN {w : World} {B : Nat} {o : Loc} {s : St} (h : Is w B o s) (n : Nat) : Is (w.drewN n) B o s := h.kept (fun _ _ => rfl) (fun _ _ _ _ => rfl)
set_option maxRecDepth 100000 in
set_option maxHeartbeats 4000000 in
theorem sync1_some (B b F p q : Nat) (o : Loc) (s : St) (k : ByteArray) (f : Fl) (W : World) (h : Is W B o s) (hF : o.F = F) (hp : W.cell? ⟨p, 0, none⟩ = some (.pointer (some ⟨F, 0, none⟩))) (hq : W.cell? ⟨q, 0, none⟩ = some (.string k)) (hk : k.size ≤ 1000000) (hf : findS s.names k.data.toList = some b) (hm : f ∈ s.files) (hb : f.blk = b) :
    Calls Try.prog 34 #[.pointer (some ⟨p, 0, none⟩), .pointer (some ⟨q, 0, none⟩)] W fun e w' => e = .returned (.int .i64 0) ∧ Is w' B o { s with files := turnFile s.files b fun x => { x with dur := x.data, synced := true } } ∧ Fr W w' (foot o s) := by
  have h0 := fs_at0 h.fs
  rw [hF] at h0
  have HN := Lib.hid h.names
  have HI := Lib.hid h
  have cL := fun n => lookup_is F 0 o.nb k s.names (W.drewN n) hk (by exact h0) (HN.out.of_block rfl)
  rw [hf] at cL
  have CL := Lib.hid cL
  clear h hf cL
  go_enter Try.func34, Try.ntmps34
  go_wp2_with fail
  go_quiet ((exact Calls.quiet_of_same (CL.out _)))
  simp only [fptrO, fptr, Option.isSome_some]
  have HI2 := Lib.hid (HI.out.drewN nq)
  have HB0 := Lib.hid (show Fr W (W.drewN nq) (foot o s) from ⟨rfl, rfl, rfl, Nat.le_refl _, fun _ _ _ => rfl⟩)
  generalize W.drewN nq = w1 at HI2 HB0 ⊢
  obtain ⟨dv, rv, hc, hd, hr⟩ := HI2.out.each f hm
  rw [hb] at hc
  obtain ⟨c0, c1, c2, cf⟩ := file_cells hc
  have f1 := cf 1
  have f2 := cf 2
  obtain ⟨a1, n1, p1, hdv⟩ := hd.1.slice
  subst hdv
  have HC := Lib.hid hc
  have HD := Lib.hid hd
  clear hc hd hr cf hp hq h0
  go_wp2_with fail
  go_ret
  refine ⟨rfl, ?_, ?_⟩
  · have h1 := heap_setCell_same w1 b 1 _ _ (.slice a1 n1 p1) HC.out
    have h2 := heap_setCell_same _ b 2 _ _ (.bool true) h1
    have K : ∀ k, k ≠ b → ((w1.setCell ⟨b, 1, none⟩ (.slice a1 n1 p1)).setCell ⟨b, 2, none⟩ (.bool true)).heap[k]? = w1.heap[k]? := fun k hk => by
      rw [heap_setCell_other _ _ _ _ hk, heap_setCell_other _ _ _ _ hk]
    refine HI2.out.turned (fun _ => rfl) f hm hb K ?_
    intro g hg hgb
    obtain ⟨dv0, rv0, hc0, hd0, hr0⟩ := HI2.out.each g hg
    rw [hgb, HC.out] at hc0
    have e3 : #[Value.slice a1 n1 p1, rv, Value.bool f.synced] = #[dv0, rv0, Value.bool g.synced] := by injection hc0 with hc0; injection hc0
    have e4 : Value.slice a1 n1 p1 = dv0 := by
      have := congrArg (fun a : Array Value => a[0]?) e3
      simpa using this
    subst e4
    have hk2 := hd0.kept (w' := (w1.setCell ⟨b, 1, none⟩ (.slice a1 n1 p1)).setCell ⟨b, 2, none⟩ (.bool true)) (fun k cur fr hk => K k (ne_of hk HC.out (by decide)))
    refine ⟨_, _, ?_, hk2, hk2⟩
    simp only [hgb]
    rw [h2]
    rfl
  · exact (HB0.out.trans (Fr.set w1 ⟨b, 1, none⟩ (.slice a1 n1 p1) (foot o s) (.inr (.inr (.inr (.inr (.inr ⟨f, hm, hb⟩)))))) (fun _ _ e => e)).trans (Fr.set _ ⟨b, 2, none⟩ (.bool true) (foot o s) (.inr (.inr (.inr (.inr (.inr ⟨f, hm, hb⟩)))))) (fun _ _ e => e)
end Go.Proofs.Ytcobjjaicckgpaa.Vf
/- Remove's closure. -/
namespace Go.Proofs.Ytcobjjaicckgpaa.Vf
open Go Go.RowKit Go.Maps Go.Proofs.Ytcobjjaicckgpaa Go.Proofs.Ytcobjjaicckgpaa.Bs
set_option linter.unusedVariables false

set_option maxRecDepth 100000 in
set_option maxHeartbeats 4000000 in
theorem remove1_none (B F p q : Nat) (o : Loc) (s : St) (k : ByteArray) (W : World) (h : Is W B o s) (hF : o.F = F) (hp : W.cell? ⟨p, 0, none⟩ = some (.pointer (some ⟨F, 0, none⟩))) (hq : W.cell? ⟨q, 0, none⟩ = some (.string k)) (hk : k.size ≤ 1000000) (hf : findS s.names k.data.toList = none) :
    Calls Try.prog 51 #[.pointer (some ⟨p, 0, none⟩), .pointer (some ⟨q, 0, none⟩)] W fun e w' => e = .returned (.int .i64 23) ∧ ∃ n, w' = W.drewN n := by
  have h0 := fs_at0 h.fs
  rw [hF] at h0
  have HN := Lib.hid h.names
  have cL := fun n => lookup_is F 0 o.nb k s.names (W.drewN n) hk (by exact h0) (HN.out.of_block rfl)
  rw [hf] at cL
  have CL := Lib.hid cL
  clear h hf cL
  go_enter Try.func51, Try.ntmps51
  go_wp2_with fail
  go_quiet ((exact Calls.quiet_of_same (CL.out _)))
  go_wp2_with fail
  go_ret
  exact ⟨rfl, nq, rfl⟩
set_option maxRecDepth 100000 in
set_option maxHeartbeats 4000000 in
theorem remove1_some (B b F p q : Nat) (o : Loc) (s : St) (k : ByteArray) (W : World) (h : Is W B o s) (hF : o.F = F) (hp : W.cell? ⟨p, 0, none⟩ = some (.pointer (some ⟨F, 0, none⟩))) (hq : W.cell? ⟨q, 0, none⟩ = some (.string k)) (hk : k.size ≤ 1000000) (hf : findS s.names k.data.toList = some b) (hn : s.names.length ≤ 1000000) (hpl : s.pend.length ≤ 1000000) :
    Calls Try.prog 51 #[.pointer (some ⟨p, 0, none⟩), .pointer (some ⟨q, 0, none⟩)] W fun e w' => e = .returned (.int .i64 0) ∧ ∃ ps', Is w' B { o with ps := ps' } { s with names := applyS s.names k ⟨#[]⟩ 0, pend := s.pend ++ [⟨k, ⟨#[]⟩, none⟩] } ∧ Fr W w' (foot o s) ∧ (∀ g, ps'.ownBlock = some g → o.ps.ownBlock = some g ∨ W.heap.size ≤ g) := by
  have h0 := fs_at0 h.fs
  rw [hF] at h0
  have HN := Lib.hid h.names
  have HI := Lib.hid h
  have cL := fun n => lookup_is F 0 o.nb k s.names (W.drewN n) hk (by exact h0) (HN.out.of_block rfl)
  rw [hf] at cL
  have CL := Lib.hid cL
  have cR := fun n => record_is B 0 o s ⟨k, ⟨#[]⟩, none⟩ (W.drewN n) (HI.out.drewN n) hk (show (⟨#[]⟩ : ByteArray).size ≤ 1000000 by decide) hn hpl (fun e => absurd (show (⟨#[]⟩ : ByteArray).toList.isEmpty = false from e) (by rw [Lib.toList_data]; decide))
  rw [hF] at cR
  have CR := Lib.hid cR
  clear h hf cL cR
  go_enter Try.func51, Try.ntmps51
  go_wp2_with fail
  go_quiet ((exact Calls.quiet_of_same (CL.out _)))
  simp only [fptrO, fptr, Option.isSome_some]
  go_wp2_with fail
  refine (CR.out nq).mono ?_
  rintro e w2 ⟨rfl, ps', hi, hfr, hg⟩
  have H2 := Lib.hid (And.intro hi (And.intro hfr hg))
  clear hi hfr hg
  go_wp2_with fail
  go_ret
  have hi2 := H2.out.1
  subst hF
  exact ⟨rfl, ps', hi2, ⟨H2.out.2.1.os, H2.out.2.1.tape, H2.out.2.1.output, H2.out.2.1.size, H2.out.2.1.block⟩, H2.out.2.2⟩
end Go.Proofs.Ytcobjjaicckgpaa.Vf
/- Rename's closure. -/
namespace Go.Proofs.Ytcobjjaicckgpaa.Vf
open Go Go.RowKit Go.Maps Go.Proofs.Ytcobjjaicckgpaa Go.Proofs.Ytcobjjaicckgpaa.Bs
set_option linter.unusedVariables false

set_option maxRecDepth 100000 in
set_option maxHeartbeats 4000000 in
theorem rename1_none (B b F p q r : Nat) (o : Loc) (s : St) (k t : ByteArray) (W : World) (h : Is W B o s) (hF : o.F = F) (hp : W.cell? ⟨p, 0, none⟩ = some (.pointer (some ⟨F, 0, none⟩))) (hq : W.cell? ⟨q, 0, none⟩ = some (.string k)) (hr : W.cell? ⟨r, 0, none⟩ = some (.string t)) (hk : k.size ≤ 1000000) (hf : findS s.names k.data.toList = none) :
    Calls Try.prog 38 #[.pointer (some ⟨p, 0, none⟩), .pointer (some ⟨q, 0, none⟩), .pointer (some ⟨r, 0, none⟩)] W fun e w' => e = .returned (.int .i64 23) ∧ ∃ n, w' = W.drewN n := by
  have h0 := fs_at0 h.fs
  rw [hF] at h0
  have HN := Lib.hid h.names
  have HI := Lib.hid h
  have cL := fun n => lookup_is F 0 o.nb k s.names (W.drewN n) hk (by exact h0) (HN.out.of_block rfl)
  rw [hf] at cL
  have CL := Lib.hid cL
  clear h hf cL
  go_enter Try.func38, Try.ntmps38
  go_wp2_with fail
  go_quiet ((exact Calls.quiet_of_same (CL.out _)))
  simp only [fptrO, Option.isSome_none]
  go_wp2_with fail
  go_ret
  exact ⟨rfl, nq, rfl⟩
set_option maxRecDepth 100000 in
set_option maxHeartbeats 4000000 in
theorem rename1_empty (B b F p q r : Nat) (o : Loc) (s : St) (k t : ByteArray) (W : World) (h : Is W B o s) (hF : o.F = F) (hp : W.cell? ⟨p, 0, none⟩ = some (.pointer (some ⟨F, 0, none⟩))) (hq : W.cell? ⟨q, 0, none⟩ = some (.string k)) (hr : W.cell? ⟨r, 0, none⟩ = some (.string t)) (hk : k.size ≤ 1000000) (hf : findS s.names k.data.toList = some b) (t0 : t.toList.isEmpty = true) :
    Calls Try.prog 38 #[.pointer (some ⟨p, 0, none⟩), .pointer (some ⟨q, 0, none⟩), .pointer (some ⟨r, 0, none⟩)] W fun e w' => e = .returned (.int .i64 2) ∧ ∃ n, w' = W.drewN n := by
  have h0 := fs_at0 h.fs
  rw [hF] at h0
  have HN := Lib.hid h.names
  have HI := Lib.hid h
  have cL := fun n => lookup_is F 0 o.nb k s.names (W.drewN n) hk (by exact h0) (HN.out.of_block rfl)
  rw [hf] at cL
  have CL := Lib.hid cL
  clear h hf cL
  go_enter Try.func38, Try.ntmps38
  go_wp2_with fail
  go_quiet ((exact Calls.quiet_of_same (CL.out _)))
  simp only [fptrO, fptr, Option.isSome_some]
  go_wp2_with fail
  go_ret
  exact ⟨rfl, nq, rfl⟩
set_option maxRecDepth 100000 in
set_option maxHeartbeats 4000000 in
theorem rename1_same (B b F p q r : Nat) (o : Loc) (s : St) (k t : ByteArray) (W : World) (h : Is W B o s) (hF : o.F = F) (hp : W.cell? ⟨p, 0, none⟩ = some (.pointer (some ⟨F, 0, none⟩))) (hq : W.cell? ⟨q, 0, none⟩ = some (.string k)) (hr : W.cell? ⟨r, 0, none⟩ = some (.string t)) (hk : k.size ≤ 1000000) (hf : findS s.names k.data.toList = some b) (t0 : t.toList.isEmpty = false) (tk : (k.toList == t.toList) = true) :
    Calls Try.prog 38 #[.pointer (some ⟨p, 0, none⟩), .pointer (some ⟨q, 0, none⟩), .pointer (some ⟨r, 0, none⟩)] W fun e w' => e = .returned (.int .i64 0) ∧ ∃ n, w' = W.drewN n := by
  have h0 := fs_at0 h.fs
  rw [hF] at h0
  have HN := Lib.hid h.names
  have HI := Lib.hid h
  have cL := fun n => lookup_is F 0 o.nb k s.names (W.drewN n) hk (by exact h0) (HN.out.of_block rfl)
  rw [hf] at cL
  have CL := Lib.hid cL
  clear h hf cL
  go_enter Try.func38, Try.ntmps38
  go_wp2_with fail
  go_quiet ((exact Calls.quiet_of_same (CL.out _)))
  simp only [fptrO, fptr, Option.isSome_some]
  go_wp2_with fail
  go_ret
  exact ⟨rfl, nq, rfl⟩
set_option maxRecDepth 100000 in
set_option maxHeartbeats 4000000 in
theorem rename1_some (B b F p q r : Nat) (o : Loc) (s : St) (k t : ByteArray) (W : World) (h : Is W B o s) (hF : o.F = F) (hp : W.cell? ⟨p, 0, none⟩ = some (.pointer (some ⟨F, 0, none⟩))) (hq : W.cell? ⟨q, 0, none⟩ = some (.string k)) (hr : W.cell? ⟨r, 0, none⟩ = some (.string t)) (hk : k.size ≤ 1000000) (ht : t.size ≤ 1000000) (hf : findS s.names k.data.toList = some b) (t0 : t.toList.isEmpty = false) (tk : (k.toList == t.toList) = false) (hn : s.names.length ≤ 1000000) (hpl : s.pend.length ≤ 1000000) :
    Calls Try.prog 38 #[.pointer (some ⟨p, 0, none⟩), .pointer (some ⟨q, 0, none⟩), .pointer (some ⟨r, 0, none⟩)] W fun e w' => e = .returned (.int .i64 0) ∧ ∃ ps', Is w' B { o with ps := ps' } { s with names := applyS s.names k t b, pend := s.pend ++ [⟨k, t, some b⟩] } ∧ Fr W w' (foot o s) ∧ (∀ g, ps'.ownBlock = some g → o.ps.ownBlock = some g ∨ W.heap.size ≤ g) := by
  have h0 := fs_at0 h.fs
  rw [hF] at h0
  have HN := Lib.hid h.names
  have HI := Lib.hid h
  have cL := fun n => lookup_is F 0 o.nb k s.names (W.drewN n) hk (by exact h0) (HN.out.of_block rfl)
  rw [hf] at cL
  have CL := Lib.hid cL
  have cR := fun n => record_is B b o s ⟨k, t, some b⟩ (W.drewN n) (HI.out.drewN n) hk ht hn hpl (fun _ => rfl)
  rw [hF] at cR
  have CR := Lib.hid cR
  clear cR
  clear h hf cL
  go_enter Try.func38, Try.ntmps38
  go_wp2_with fail
  go_quiet ((exact Calls.quiet_of_same (CL.out _)))
  simp only [fptrO, fptr, Option.isSome_some]
  go_wp2_with fail
  refine (CR.out nq).mono ?_
  rintro e w2 ⟨rfl, ps', hi, hfr, hg⟩
  have H2 := Lib.hid (And.intro hi (And.intro hfr hg))
  clear hi hfr hg
  go_wp2_with fail
  go_ret
  have hi2 := H2.out.1
  subst hF
  exact ⟨rfl, ps', hi2, ⟨H2.out.2.1.os, H2.out.2.1.tape, H2.out.2.1.output, H2.out.2.1.size, H2.out.2.1.block⟩, H2.out.2.2⟩
end Go.Proofs.Ytcobjjaicckgpaa.Vf
/- SyncDir's closure. -/
namespace Go.Proofs.Ytcobjjaicckgpaa.Vf
open Go Go.RowKit Go.Maps Go.Proofs.Ytcobjjaicckgpaa Go.Proofs.Ytcobjjaicckgpaa.Bs
set_option linter.unusedVariables false

theorem mclone_is (b : Nat) (es : Array MapEntry) (ck : Nat) (w : World) (h : w.heap[b]? = some (.map es ck)) :
    Calls Try.prog 37 #[.map (some b)] w fun e w' => e = .returned (.map (some w.heap.size)) ∧ w' = w.alloc (.map es ck) := AnyW.maps_Clone Try.clone37 b es ck w h
/-- The state with the durable directory and the list of changes anew. -/
theorem Is.synced {w : World} {B : Nat} {o : Loc} {s : St} (h : Is w B o s) (es : Array MapEntry) (ck : Nat) (hm : w.heap[o.nb]? = some (.map es ck)) (hB : B ≤ w.heap.size) :
    Is (((w.alloc (.map es ck)).setCell ⟨o.F, 1, none⟩ (.map (some w.heap.size))).setCell ⟨o.F, 3, none⟩ (.slice none 0 0)) B { o with db := w.heap.size, ps := .slice none 0 0 } { s with dur := s.names, pend := [] } := by
  have hF := lt_of_heap h.fs
  have hF0 : (w.alloc (.map es ck)).heap[o.F]? = some (Obj.cells (fsCells o s) 64 (0, 0)) := by rw [old_block _ _ _ hF]; exact h.fs
  have h1 := heap_setCell_same _ o.F 1 _ _ (.map (some w.heap.size)) hF0
  have h2 := heap_setCell_same _ o.F 3 _ _ (.slice none 0 0) h1
  have K : ∀ k, k < w.heap.size → k ≠ o.F → (((w.alloc (.map es ck)).setCell ⟨o.F, 1, none⟩ (.map (some w.heap.size))).setCell ⟨o.F, 3, none⟩ (.slice none 0 0)).heap[k]? = w.heap[k]? := fun k hk hn => by
    rw [heap_setCell_other _ _ _ _ hn, heap_setCell_other _ _ _ _ hn, old_block _ _ _ hk]
  have KC : ∀ k cur t fr, w.heap[k]? = some (Obj.cells cur t fr) → t ≠ 64 → (((w.alloc (.map es ck)).setCell ⟨o.F, 1, none⟩ (.map (some w.heap.size))).setCell ⟨o.F, 3, none⟩ (.slice none 0 0)).heap[k]? = w.heap[k]? := fun k cur t fr hk ht => K k (lt_of_heap hk) (ne_of hk h.fs ht)
  have KN := K o.nb h.names.lt (fun e => h.names.neB h.fs e.symm)
  have hD : Dir (((w.alloc (.map es ck)).setCell ⟨o.F, 1, none⟩ (.map (some w.heap.size))).setCell ⟨o.F, 3, none⟩ (.slice none 0 0)) w.heap.size s.names := by
    obtain ⟨n, es', ck', hh, r⟩ := h.names
    rw [hm] at hh
    simp only [Option.some.injEq, Obj.map.injEq] at hh
    obtain ⟨rfl, rfl⟩ := hh
    refine ⟨n, es, ck, ?_, r⟩
    have hn : w.heap.size ≠ o.F := by omega
    rw [heap_setCell_other _ _ _ _ hn, heap_setCell_other _ _ _ _ hn]
    exact new_block w _
  exact
    { fs := by rw [h2]; rfl
      names := h.names.of_block KN
      dur := hD
      nd := by have := h.names.lt; show o.nb ≠ w.heap.size; omega
      files := own_kept h.files fun k hk => by obtain ⟨cur, hc⟩ := own_block h.files hk; exact KC _ _ _ _ hc (by decide)
      pend := ⟨rfl, .inl ⟨rfl, rfl⟩⟩
      each := fun f hf => (h.each f hf).kept (by obtain ⟨dv, rv, h1, _⟩ := h.each f hf; exact KC _ _ _ _ h1 (by decide)) (fun k cur fr hc => KC _ _ _ _ hc (by decide))
      zl := zl_kept h.zl (fun k cur fr hc => KC _ _ _ _ hc (by decide))
      dist := h.dist
      bF := h.bF
      bn := h.bn
      bd := hB
      bf := h.bf }
end Go.Proofs.Ytcobjjaicckgpaa.Vf
/- SyncDir's closure. -/
namespace Go.Proofs.Ytcobjjaicckgpaa.Vf
open Go Go.RowKit Go.Maps Go.Proofs.Ytcobjjaicckgpaa Go.Proofs.Ytcobjjaicckgpaa.Bs
set_option linter.unusedVariables false
attribute [local go_sem ↓] Go.wp_at_zero Go.wp_at_succ

set_option maxRecDepth 100000 in
set_option maxHeartbeats 4000000 in
theorem syncdir1_walk (F p nb : Nat) (W : World) (x1 x3 : Value) (es : Array MapEntry) (ck : Nat) (hp : W.cell? ⟨p, 0, none⟩ = some (.pointer (some ⟨F, 0, none⟩))) (h0 : W.cell? ⟨F, 0, none⟩ = some (.map (some nb))) (h1 : W.cell? ⟨F, 1, none⟩ = some x1) (h3 : W.cell? ⟨F, 3, none⟩ = some x3) (f1 : W.frozen? ⟨F, 1, none⟩ = false) (f3 : W.frozen? ⟨F, 3, none⟩ = false) (hm : W.heap[nb]? = some (.map es ck)) :
    Calls Try.prog 36 #[.pointer (some ⟨p, 0, none⟩)] W fun e w' => e = .returned (.int .i64 0) ∧ w' = ((W.drew.alloc (.map es ck)).setCell ⟨F, 1, none⟩ (.map (some W.heap.size))).setCell ⟨F, 3, none⟩ (.slice none 0 0) := by
  have cC : Calls Try.prog 37 #[.map (some nb)] W.drew fun e w' => e = .returned (.map (some W.heap.size)) ∧ w'.cell? ⟨p, 0, none⟩ = some (.pointer (some ⟨F, 0, none⟩)) ∧ w'.cell? ⟨F, 0, none⟩ = some (.map (some nb)) ∧ w'.cell? ⟨F, 1, none⟩ = some x1 ∧ w'.cell? ⟨F, 3, none⟩ = some x3 ∧ w'.frozen? ⟨F, 1, none⟩ = false ∧ w'.frozen? ⟨F, 3, none⟩ = false ∧ Hid (w' = W.drew.alloc (.map es ck)) := by
    refine (mclone_is nb es ck W.drew hm).mono ?_
    rintro e w' ⟨rfl, rfl⟩
    have hb := old_block W.drew (.map es ck) F (lt_of_cell h1)
    have hb2 := old_block W.drew (.map es ck) p (lt_of_cell hp)
    refine ⟨rfl, ?_, ?_, ?_, ?_, ?_, ?_, rfl⟩
    · unfold World.cell? at hp ⊢; rw [hb2]; exact hp
    · unfold World.cell? at h0 ⊢; rw [hb]; exact h0
    · unfold World.cell? at h1 ⊢; rw [hb]; exact h1
    · unfold World.cell? at h3 ⊢; rw [hb]; exact h3
    · unfold World.frozen? at f1 ⊢; rw [hb]; exact f1
    · unfold World.frozen? at f3 ⊢; rw [hb]; exact f3
  have CC := Lib.hid cC
  clear cC hm
  go_enter Try.func36, Try.ntmps36
  go_wp2_with fail
  go_region_held3 (fun w' => w'.cell? ⟨p, 0, none⟩ = some (.pointer (some ⟨F, 0, none⟩)) ∧ w'.cell? ⟨F, 0, none⟩ = some (.map (some nb))) (first | go_keep | ((try dsimp only); refine ⟨?_, ?_⟩ <;> (first | exact (World.cell?_setCell_other _ _ _ _ (by simp)).trans (by assumption) | exact (World.cell?_setCell_other _ _ _ _ (by simp)).trans ((World.cell?_setCell_other _ _ _ _ (by simp)).trans (by assumption)))))
    (first
      | (go_at_call 37; refine CC.out.mono ?_; rintro e w2 ⟨rfl, q1, q2, q3, q4, q5, q6, HW⟩; clear h0 h1 h3 f1 f3))
  all_goals go_wp2_with fail
  all_goals go_ret
  all_goals exact ⟨rfl, by rw [HW.out]⟩
end Go.Proofs.Ytcobjjaicckgpaa.Vf
/- put where the name is not there. -/
namespace Go.Proofs.Ytcobjjaicckgpaa.Vf
open Go Go.RowKit Go.Maps Go.Proofs.Ytcobjjaicckgpaa Go.Proofs.Ytcobjjaicckgpaa.Bs
set_option linter.unusedVariables false

/-- The post of an operation: the result, the state behind it, and what it has left alone. -/
def Stp (B : Nat) (o : Loc) (s : St) (W : World) (R : Int → St → Prop) (e : Ending) (w' : World) : Prop :=
  ∃ r s' o', e = .returned (.int .i64 r) ∧ R r s' ∧ o'.F = o.F ∧ o'.Z = o.Z ∧ Is w' B o' s' ∧ Fr W w' (foot o s) ∧ ∀ k, foot o' s' k → foot o s k ∨ W.heap.size ≤ k
theorem infoP : (Try.prog.info? 66).map (fun i => (i.zero, i.size, i.bytes)) = some (some (.pointer none), 1, 8) := by kernel_rfl
theorem grow_atP {w1 w2 : World} {x y : Obj} {row : Option Nat} {F : Nat} (h : (w1.alloc x).grownBy w2 row) (hc : w1.heap[F]? = some y) (hne : row ≠ some F) : w2.heap[F]? = some y := by
  have hlt := lt_of_heap hc
  have hc2 : (w1.alloc x).heap[F]? = some y := by rw [old_block w1 x F hlt]; exact hc
  rw [h.block F (lt_of_heap hc2) (fun e => hne e.symm)]
  exact hc2
/-- A file is appended. -/
theorem Is.filed {w1 w2 : World} {x : Obj} {B g cap b : Nat} {o : Loc} {s : St} (h : Is w1 B o s) (hbB : B ≤ b) (hb : w1.heap[b]? = some (Obj.cells #[.slice none 0 0, .slice none 0 0, .bool false] 70 (0, 0))) (hn : ∀ f ∈ s.files, f.blk ≠ b) (hg : (w1.alloc x).grownBy w2 o.fs.ownBlock)
    (ho : w2.ownsRow B 66 1 (.slice (some ⟨g, 0, none⟩) (s.files.length + 1) cap) (s.files.length + 1) (s.files.map (fun f => fptr f.blk) ++ [fptr b])) :
    Is (w2.setCell ⟨o.F, 2, none⟩ (.slice (some ⟨g, 0, none⟩) (s.files.length + 1) cap)) B { o with fs := .slice (some ⟨g, 0, none⟩) (s.files.length + 1) cap } { s with files := s.files ++ [⟨b, [], [], false⟩] } := by
  have K : ∀ k y, w1.heap[k]? = some y → o.fs.ownBlock ≠ some k → k ≠ o.F → (w2.setCell ⟨o.F, 2, none⟩ (.slice (some ⟨g, 0, none⟩) (s.files.length + 1) cap)).heap[k]? = some y := fun k y hy hne hF => by
    rw [heap_setCell_other _ _ _ _ hF]; exact grow_atP hg hy hne
  have KC : ∀ k cur t fr, w1.heap[k]? = some (Obj.cells cur t fr) → t ≠ 66 → t ≠ 64 → (w2.setCell ⟨o.F, 2, none⟩ (.slice (some ⟨g, 0, none⟩) (s.files.length + 1) cap)).heap[k]? = w1.heap[k]? := fun k cur t fr hy h1 h2 => by
    rw [hy]; exact K k _ hy (own_ne h.files hy h1) (ne_of hy h.fs h2)
  have KM : ∀ b m, Dir w1 b m → (w2.setCell ⟨o.F, 2, none⟩ (.slice (some ⟨g, 0, none⟩) (s.files.length + 1) cap)).heap[b]? = w1.heap[b]? := fun b m hd => by
    obtain ⟨es, ck, hb⟩ := hd.block
    rw [hb]
    exact K b _ hb (fun e => by obtain ⟨cur, hc⟩ := own_block h.files e; rw [hb] at hc; simp at hc) (fun e => hd.neB h.fs e.symm)
  have hF2 := grow_atP hg h.fs (own_ne h.files h.fs (by decide))
  exact
    { fs := by rw [heap_setCell_same _ _ _ _ _ _ hF2]; rfl
      names := h.names.of_block (KM _ _ h.names)
      dur := h.dur.of_block (KM _ _ h.dur)
      nd := h.nd
      pend := own_kept h.pend fun k hk => by obtain ⟨cur, hc⟩ := own_block h.pend hk; exact KC _ _ _ _ hc (by decide) (by decide)
      files := by
        have e1 : (s.files ++ [(⟨b, [], [], false⟩ : Fl)]).length = s.files.length + 1 := by simp
        have e2 : (s.files ++ [(⟨b, [], [], false⟩ : Fl)]).map (fun f => fptr f.blk) = s.files.map (fun f => fptr f.blk) ++ [fptr b] := by simp
        show World.ownsRow _ _ _ _ _ (s.files ++ [(⟨b, [], [], false⟩ : Fl)]).length ((s.files ++ [(⟨b, [], [], false⟩ : Fl)]).map fun f => fptr f.blk)
        rw [e1, e2]
        refine own_kept ho fun k hk => ?_
        obtain ⟨cur, hc⟩ := own_block ho hk
        exact heap_setCell_other _ _ _ _ (ne_of hc hF2 (by decide))
      each := fun f hf => by
        rcases List.mem_append.1 hf with hf | hf
        · exact (h.each f hf).kept (by obtain ⟨dv, rv, h1, _⟩ := h.each f hf; exact KC _ _ _ _ h1 (by decide) (by decide)) (fun k cur fr hc => KC _ _ _ _ hc (by decide) (by decide))
        · obtain rfl := List.mem_singleton.1 hf
          exact ⟨.slice none 0 0, .slice none 0 0, (KC _ _ _ _ hb (by decide) (by decide)).trans hb, ⟨.inl ⟨rfl, rfl⟩, fun g hg => by simp [Value.ownBlock] at hg⟩, ⟨.inl ⟨rfl, rfl⟩, fun g hg => by simp [Value.ownBlock] at hg⟩⟩
      zl := zl_kept h.zl (fun k cur fr hc => KC k cur _ fr hc (by decide) (by decide))
      dist := by
        show ((s.files ++ [(⟨b, [], [], false⟩ : Fl)]).map (·.blk)).Nodup
        rw [List.map_append, List.nodup_append]
        refine ⟨h.dist, by simp, ?_⟩
        intro a ha c hc
        simp only [List.map_cons, List.map_nil, List.mem_singleton] at hc
        subst hc
        obtain ⟨f, hf, rfl⟩ := List.mem_map.1 ha
        exact hn f hf
      bF := h.bF
      bn := h.bn
      bd := h.bd
      bf := fun f hf => by
        rcases List.mem_append.1 hf with hf | hf
        · exact h.bf f hf
        · obtain rfl := List.mem_singleton.1 hf
          exact hbB }
theorem Fr.growP {w1 w2 : World} {x : Obj} {row : Option Nat} (h : (w1.alloc x).grownBy w2 row) (p : Nat → Prop) (hp : ∀ k, row = some k → p k) : Fr w1 w2 p :=
  ⟨h.os, h.tape, h.output, Nat.le_trans (by rw [alloc_sz]; exact Nat.le_succ _) h.size, fun k hk hn => by
    have hlt : k < (w1.alloc x).heap.size := by rw [alloc_sz]; exact Nat.lt_succ_of_lt hk
    rw [h.block k hlt (fun e => hn (hp k e.symm))]
    exact old_block w1 x k hk⟩
theorem new_cellP (w : World) (xs : List Value) (j : Nat) (u : Value) (hj : xs[j]? = some u) : (w.alloc (.cells xs.toArray 66)).cell? ((⟨w.heap.size, 0, none⟩ : Addr).add j) = some u := by
  have h2 := new_block w (.cells xs.toArray 66)
  have e : ((⟨w.heap.size, 0, none⟩ : Addr).add j) = ⟨w.heap.size, j, none⟩ := by simp [Addr.add]; omega
  rw [e]
  unfold World.cell?
  simp only [h2]
  simpa using hj
theorem Is.foot_ne {w : World} {B k : Nat} {o : Loc} {s : St} (h : Is w B o s) (hk : foot o s k) (cur : Array Value) (fr : Nat × Nat) : w.heap[k]? ≠ some (Obj.cells cur 5 fr) := by
  intro hc
  rcases hk with rfl | rfl | rfl | hk | hk | ⟨f, hf, rfl⟩
  · exact ne_of hc h.fs (by decide) rfl
  · exact h.names.neB hc rfl
  · exact h.dur.neB hc rfl
  · exact own_ne h.files hc (by decide) hk
  · exact own_ne h.pend hc (by decide) hk
  · obtain ⟨dv, rv, h1, _⟩ := h.each f hf
    exact ne_of hc h1 (by decide) rfl
theorem Fr.bytes {w w' : World} {B : Nat} {o : Loc} {s : St} (g : Fr w w' (foot o s)) (h : Is w B o s) : ∀ (k : Nat) (cur : Array Value) (fr : Nat × Nat), w.heap[k]? = some (Obj.cells cur 5 fr) → w'.heap[k]? = w.heap[k]? :=
  fun k cur fr hc => g.block k (lt_of_heap hc) fun hk => h.foot_ne hk cur fr hc
/-- The state behind a new file. -/
def St.filed (s : St) (b : Nat) (k : ByteArray) : St := { s with files := s.files ++ [⟨b, [], [], false⟩], names := applyS s.names ⟨#[]⟩ k b, pend := s.pend ++ [⟨⟨#[]⟩, k, some b⟩] }
def St.put (s : St) (b : Nat) (l : List UInt8) : St := { s with files := setFile s.files b l }
set_option maxRecDepth 100000 in
set_option maxHeartbeats 4000000 in
theorem put_new (B : Nat) (o : Loc) (s : St) (k : ByteArray) (v : Value) (l : List UInt8) (W : World) (h : Is W B o s) (hk : k.size ≤ 1000000) (k0 : k.toList.isEmpty = false) (hl : l.length ≤ 1000000) (hv : Rd W v l) (hf : findS s.names k.data.toList = none) (hfl : s.files.length ≤ 1000000) (hn : s.names.length ≤ 1000000) (hpl : s.pend.length ≤ 1000000) :
    Calls Try.prog 32 #[.pointer (some ⟨o.F, 0, none⟩), .string k, v] W (Stp B o s W fun r s' => r = 0 ∧ ∃ b, (∀ f ∈ s.files, f.blk ≠ b) ∧ s' = (s.filed b k).put b l) := by
  have h0 := fs_at0 h.fs
  have HI := Lib.hid h
  have HV := Lib.hid hv
  have HF := Lib.hid hf
  obtain ⟨F, hF⟩ : ∃ F, o.F = F := ⟨_, rfl⟩
  rw [hF] at h0 ⊢
  have HS := Lib.hid hF
  have hBW := Nat.le_trans h.bF (Nat.le_of_lt (lt_of_heap h.fs))
  -- the new file's block
  have hI1 : Is (W.alloc (.cells #[.slice none 0 0, .slice none 0 0, .bool false] 70)) B o s := h.below ((Below.refl W.heap.size W).alloc (Nat.le_refl _) _)
  have hb1 := heap_alloc_new W (.cells #[.slice none 0 0, .slice none 0 0, .bool false] 70)
  obtain ⟨i0, hi, hz0, hz1, hz2⟩ := info_parts infoP
  have hne : ∀ f ∈ s.files, f.blk ≠ W.heap.size := fun f hm e => by
    obtain ⟨dv, rv, hc, _⟩ := h.each f hm
    have := lt_of_heap hc
    omega
  have HNE := Lib.hid hne
  have HI1 := Lib.hid hI1
  have HB1 := Lib.hid hb1
  have HFR1 := Lib.hid (Fr.of_below ((Below.refl W.heap.size W).alloc (Nat.le_refl _) (.cells #[.slice none 0 0, .slice none 0 0, .bool false] 70)) (foot o s))
  have hsz1 : (W.alloc (.cells #[.slice none 0 0, .slice none 0 0, .bool false] 70)).heap.size = W.heap.size + 1 := alloc_sz _ _
  have hfs1 := (fs_flags hI1.fs).2.1
  rw [hF] at hfs1
  have II := Lib.hid (And.intro hi (And.intro hz0 (And.intro hz1 hz2)))
  have HN0 := Lib.hid h.names
  clear h hv hf hne hI1 hb1 hF hi hz0 hz1 hz2
  go_enter Try.func32, Try.ntmps32
  go_wp2_with fail
  refine (lookup_is F 0 o.nb k s.names W hk h0 HN0.out).mono ?_
  rintro e w1 ⟨rfl, rfl⟩
  rw [HF.out]
  simp only [fptrO, Option.isSome_none]
  clear h0
  have hown := HI1.out.files.alloc (.cells #[fptr w1.heap.size] 66)
  have hnc : ∀ (j : Nat) (u : Value), [fptr w1.heap.size][j]? = some u → ((w1.alloc (.cells #[.slice none 0 0, .slice none 0 0, .bool false] 70)).alloc (.cells #[fptr w1.heap.size] 66)).cell? ((⟨w1.heap.size + 1, 0, none⟩ : Addr).add j) = some u := by
    rw [← hsz1]; exact new_cellP _ [fptr w1.heap.size]
  have HOW := Lib.hid (And.intro hown hnc)
  have HSZ := Lib.hid hsz1
  clear hown hnc hsz1
  go_wp2_with (at_builtin; refine wpList_append_lies _ rfl _ _ 61 rfl B 66 i0 (.pointer none) 1 8 Try.underlying61 II.out.1 II.out.2.1 II.out.2.2.1 II.out.2.2.2 rfl (by decide) _ _ _ rfl HOW.out.1 ⟨w1.heap.size + 1, 0, none⟩ 1 1 [fptr w1.heap.size] rfl rfl HOW.out.2 ?a1 (by decide) ?a2 ?a3 ?a4 (w1.heap.size + 2) ?a5 ?_)
  case a1 => intro u hu; obtain rfl := List.mem_singleton.1 hu; rfl
  case a2 => unfold maxLen; omega
  case a3 => omega
  case a4 => show _ ≤ (World.alloc _ _).heap.size; rw [alloc_sz, HSZ.out]; omega
  case a5 => show (World.alloc _ _).heap.size = _; rw [alloc_sz, HSZ.out]
  intro g1 cap1 w2 hown2 hgrow2 hg1 hg2
  have hne2 := own_ne HI1.out.files HI1.out.fs (by decide)
  have hfb2 := grow_atP hgrow2 HI1.out.fs hne2
  rw [HS.out] at hfb2
  obtain ⟨-, hc2, -, -, -, -, hz2⟩ := fs_flags hfb2
  have hz2 := hz2 2
  have HR := Lib.hid (HI1.out.filed hBW HB1.out HNE.out hgrow2 hown2)
  have HFR2 := Lib.hid ((HFR1.out.trans (Fr.growP hgrow2 (foot o s) (fun k e => .inr (.inr (.inr (.inl e))))) (fun _ _ e => e)).trans (Fr.set w2 ⟨o.F, 2, none⟩ (.slice (some ⟨g1, 0, none⟩) (s.files.length + 1) cap1) (foot o s) (.inl rfl)) (fun _ _ e => e))
  have HFT : Hid (∀ k', foot { o with fs := .slice (some ⟨g1, 0, none⟩) (s.files.length + 1) cap1 } { s with files := s.files ++ [⟨w1.heap.size, [], [], false⟩] } k' → foot o s k' ∨ w1.heap.size ≤ k') := by
    rintro k' (rfl | rfl | rfl | hk' | hk' | ⟨f, hf, rfl⟩)
    · exact .inl (.inl rfl)
    · exact .inl (.inr (.inl rfl))
    · exact .inl (.inr (.inr (.inl rfl)))
    · simp only [Value.ownBlock, Option.some.injEq] at hk'
      subst hk'
      rcases hg1 with e | e
      · exact .inl (.inr (.inr (.inr (.inl e))))
      · exact .inr (by omega)
    · exact .inl (.inr (.inr (.inr (.inr (.inl hk')))))
    · rcases List.mem_append.1 hf with hf | hf
      · exact .inl (.inr (.inr (.inr (.inr (.inr ⟨f, hf, rfl⟩)))))
      · obtain rfl := List.mem_singleton.1 hf
        exact .inr (Nat.le_refl _)
  have eW : w2.setCell ⟨o.F, 2, none⟩ (.slice (some ⟨g1, 0, none⟩) (s.files.length + 1) cap1) = w2.setCell ⟨F, 2, none⟩ (.slice (some ⟨g1, 0, none⟩) (s.files.length + 1) cap1) := by rw [HS.out]
  rw [eW] at HR HFR2
  clear eW
  clear hown2 hgrow2 hfb2 hne2 hg1 hg2
  go_wp2_with fail
  clear hc2 hz2
  generalize (w2.setCell ⟨F, 2, none⟩ (.slice (some ⟨g1, 0, none⟩) (s.files.length + 1) cap1)) = w3 at *
  generalize ho2 : ({ o with fs := .slice (some ⟨g1, 0, none⟩) (s.files.length + 1) cap1 } : Loc) = o2 at *
  have HO2 : Hid (o2.F = o.F ∧ o2.Z = o.Z) := by subst ho2; exact ⟨rfl, rfl⟩
  have hF2 : o2.F = F := HO2.out.1.trans HS.out
  have cR := record_is B w1.heap.size o2 { s with files := s.files ++ [⟨w1.heap.size, [], [], false⟩] } ⟨⟨#[]⟩, k, some w1.heap.size⟩ w3 HR.out (show (⟨#[]⟩ : ByteArray).size ≤ 1000000 by decide) hk hn hpl (fun _ => rfl)
  rw [hF2] at cR
  have HF2 := Lib.hid hF2
  clear ho2 hF2
  refine cR.mono ?_
  clear cR
  rintro e w4 ⟨rfl, ps', hI4, hF4, hG4⟩
  have HI4 := Lib.hid hI4
  have HF4 := Lib.hid (HFR2.out.trans hF4 (fun k' hk' e => by rcases HFT.out k' e with e | e; exact e; omega))
  have HG4 : Hid (∀ k', foot { o2 with ps := ps' } (s.filed w1.heap.size k) k' → foot o s k' ∨ w1.heap.size ≤ k') := by
    rintro k' (rfl | rfl | rfl | hk' | hk' | ⟨f, hf, rfl⟩)
    · exact HFT.out _ (.inl rfl)
    · exact HFT.out _ (.inr (.inl rfl))
    · exact HFT.out _ (.inr (.inr (.inl rfl)))
    · exact HFT.out _ (.inr (.inr (.inr (.inl hk'))))
    · rcases hG4 k' hk' with e | e
      · exact HFT.out _ (.inr (.inr (.inr (.inr (.inl e)))))
      · exact .inr (Nat.le_trans HFR2.out.size e)
    · exact HFT.out _ (.inr (.inr (.inr (.inr (.inr ⟨f, hf, rfl⟩)))))
  have HV4 := Lib.hid (HV.out.kept (HF4.out.bytes HI.out))
  clear hI4 hF4 hG4
  go_wp2_with fail
  refine (clone_is v l _ hl HV4.out).mono ?_
  rintro e w5 ⟨v5, rfl, hr5', hg5, hb5⟩
  have hr5 : Rz o2.Z w5 v5 l := ⟨hr5', fun g hg hz => by
    obtain ⟨cur, fr, hc⟩ := HI4.out.zl g hz
    have e1 := lt_of_heap hc
    have e2 := hg5 g hg
    omega⟩
  clear hr5' hg5
  obtain ⟨a5, n5, cp5, hv5⟩ := hr5.1.slice
  subst hv5
  have HI5 := Lib.hid (HI4.out.below hb5)
  have hm : (⟨w1.heap.size, [], [], false⟩ : Fl) ∈ (s.filed w1.heap.size k).files := List.mem_append.2 (.inr (List.mem_singleton.2 rfl))
  obtain ⟨dv, rv, hc, -, -⟩ := HI5.out.each _ hm
  obtain ⟨c0, c1, c2, cf⟩ := file_cells hc
  have f0 := cf 0
  have f2 := cf 2
  have HR5 := Lib.hid (HI5.out.wrote _ hm rfl hr5)
  have HFR5 := Lib.hid (((HF4.out.trans (Fr.of_below hb5 (foot o s)) (fun _ _ e => e)).trans (Fr.set w5 ⟨w1.heap.size, 0, none⟩ (.slice a5 n5 cp5) (fun k' => k' = w1.heap.size) rfl) (fun k' hk' e => by omega)).trans (Fr.set _ ⟨w1.heap.size, 2, none⟩ (.bool false) (fun k' => k' = w1.heap.size) rfl) (fun k' hk' e => by omega))
  have HM := Lib.hid hm
  clear hr5 hb5 hc cf hm
  go_wp2_with fail
  go_ret
  refine ⟨0, _, { o2 with F := F, ps := ps' }, rfl, ⟨rfl, _, HNE.out, rfl⟩, HS.out.symm, HO2.out.2, HR5.out, HFR5.out, ?_⟩
  rintro k' (rfl | rfl | rfl | hk' | hk' | ⟨f, hf, rfl⟩)
  · exact HG4.out _ (.inl HF2.out.symm)
  · exact HG4.out _ (.inr (.inl rfl))
  · exact HG4.out _ (.inr (.inr (.inl rfl)))
  · exact HG4.out _ (.inr (.inr (.inr (.inl hk'))))
  · exact HG4.out _ (.inr (.inr (.inr (.inr (.inl hk')))))
  · obtain ⟨f0, hf0, rfl⟩ := List.mem_map.1 (show f ∈ setFile _ _ _ from hf)
    have e : (if f0.blk = w1.heap.size then { f0 with data := l, synced := false } else f0 : Fl).blk = f0.blk := by split <;> rfl
    rw [e]
    exact HG4.out _ (.inr (.inr (.inr (.inr (.inr ⟨f0, hf0, rfl⟩)))))
end Go.Proofs.Ytcobjjaicckgpaa.Vf
