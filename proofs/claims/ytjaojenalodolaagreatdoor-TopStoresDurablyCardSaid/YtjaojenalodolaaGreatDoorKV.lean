/- Parts of this proof, joined: Bs, Vf, VfW1, VfW2, VfW3, VfW4, VfW5, VfW6, VfW7, VfW8, VfW9, VfW10, VfW11, VfW12, VfW13, VfW14, Vf2, VfW15, VfW16, VfW17, VfW18, VfW19, VfW20, VfW21, VfW22, VfW23, VfW24, VfW25, VfW26, Vf3, VfW27, VfW28, VfW29, VfW30, VfW31. -/
import Derived.Test.YtjaojenalodolaaGreatDoorProg
import Derived.WalkKit
import Derived.Outline
import Derived.Below
import Derived.OneCell
import Derived.OwnWalk
import Derived.Lib.Hide
import Derived.RegionTactic
import Derived.BigQuiet
import Derived.Deep.QuietTactic
import Derived.ChangeAlike
import Derived.Laws.Rows
import Derived.Laws.Externs
import Derived.Lib.Builder
import Derived.Lib.AppendStr
import Derived.Lib.UnsafeStr
import Derived.IntWalk
import Derived.Lib.BufferRead
import Derived.WalkMore
import Derived.WalkSpells
import Derived.WalkLawsBesides
import Derived.Maps.OwnSet
import Derived.StringKeys
import Derived.StillTailTactics
import Derived.Laws.AppendOwn
import Derived.BigRegion
import Derived.Deep.RegionLaw
import Derived.Deep.AppendLies
import Derived.Test.YtjaojenalodolaaGreatDoorShelf
import Derived.Deep.RegionHeld3
import Derived.Deep.DrawnRows
import Derived.Test.YtjaojenalodolaaGreatDoorIter
import Derived.Maps.RangeWalk
import Derived.Maps.Ext
import Derived.LaidEql
import Derived.Deep.RegionWith
import Derived.Lib.ConvBytes
/- Small facts that every walk uses: strings as lists of bytes, worlds, slices of bytes that the call owns. -/
namespace Go.Proofs.YtjaojenalodolaaGreatDoor.Bs
open Go Go.RowKit Go.Proofs.YtjaojenalodolaaGreatDoor
theorem below_trans {a b c : World} (h : Below a.heap.size a b) (k : Below b.heap.size b c) : Below a.heap.size a c := h.trans (k.mono h.size)
theorem alloc_sz (w : World) (o : Obj) : (w.alloc o).heap.size = w.heap.size + 1 := by show (w.heap.push o).size = _; exact Array.size_push _
theorem new_block (w : World) (o : Obj) : (w.alloc o).heap[w.heap.size]? = some o := by
  show (w.heap.push o)[w.heap.size]? = _
  rw [Array.getElem?_push, if_pos rfl]
theorem old_block (w : World) (o : Obj) (k : Nat) (h : k < w.heap.size) : (w.alloc o).heap[k]? = w.heap[k]? := by
  show (w.heap.push o)[k]? = _
  rw [Array.getElem?_push, if_neg (by omega)]
theorem lt_of_heap {w : World} {g : Nat} {o : Obj} (h : w.heap[g]? = some o) : g < w.heap.size := (Array.getElem?_eq_some_iff.1 h).1
theorem lt_of_cell {w : World} {a : Addr} {v : Value} (h : w.cell? a = some v) : a.block < w.heap.size := by
  unfold World.cell? at h
  cases e : w.heap[a.block]? with
  | none => rw [e] at h; simp at h
  | some o => exact lt_of_heap e
theorem ba_of {A : ByteArray} {l : List UInt8} (h : A.data.toList = l) : (⟨l.toArray⟩ : ByteArray) = A := by
  obtain ⟨⟨d⟩⟩ := A
  subst h
  rfl
theorem ba_eq {A B : ByteArray} (h : A.data.toList = B.data.toList) : A = B := by rw [← ba_of (A := A) rfl, h, ba_of (A := B) rfl]
end Go.Proofs.YtjaojenalodolaaGreatDoor.Bs
/- Plain facts on the file system's directories. No program in sight. -/
namespace Go.Proofs.YtjaojenalodolaaGreatDoor.Vf
open Go Go.Maps
set_option linter.unusedVariables false
abbrev Nm := List (List UInt8 × Nat)
def dt (b : Nat) : DataW Nat := .lit (.int .i64 b)
def dnil : DataW Nat := .lit (.int .i64 (-1))
def Dm (m : Nm) : DataW Nat := .map (m.map fun p => (.string p.1, dt p.2))
def insS (x : List UInt8 × Nat) : Nm → Nm
  | [] => [x]
  | y :: r => if bytesBefore x.1 y.1 then x :: y :: r else y :: insS x r
def delS (m : Nm) (k : List UInt8) : Nm := m.filter fun p => !(p.1 == k)
def putS (m : Nm) (k : List UInt8) (b : Nat) : Nm := insS (k, b) (delS m k)
def findS (m : Nm) (k : List UInt8) : Option Nat := (m.find? fun p => p.1 == k).map (·.2)
theorem ins_map (x : List UInt8 × Nat) : ∀ m : Nm, (insS x m).map (fun p => (Lit.string p.1, dt p.2)) = DataW.insert (Lit.string x.1, dt x.2) (m.map fun p => (Lit.string p.1, dt p.2))
  | [] => rfl
  | y :: r => by
    have ih := ins_map x r
    simp only [insS, List.map_cons, DataW.insert]
    have e : Lit.before (Lit.string x.1) (Lit.string y.1) = bytesBefore x.1 y.1 := rfl
    rw [e]
    split
    · rfl
    · simp only [List.map_cons, ih]
theorem del_map (m : Nm) (k : List UInt8) : (delS m k).map (fun p => (Lit.string p.1, dt p.2)) = (m.map fun p => (Lit.string p.1, dt p.2)).filter fun p => !p.1.sameKey (.string k) := by
  unfold delS
  induction m with
  | nil => rfl
  | cons y r ih =>
    simp only [List.filter_cons, List.map_cons]
    have e : Lit.sameKey (Lit.string y.1) (.string k) = (y.1 == k) := rfl
    rw [e]
    split
    · simp only [List.map_cons, ih]
    · exact ih
theorem Dm_put (m : Nm) (k : List UInt8) (b : Nat) : (Dm m).put (.string k) (dt b) = Dm (putS m k b) := by
  unfold Dm putS DataW.put
  simp only
  rw [ins_map, del_map]
theorem Dm_del (m : Nm) (k : List UInt8) : (Dm m).del (.string k) = Dm (delS m k) := by
  unfold Dm DataW.del
  simp only
  rw [del_map]
theorem Dm_at (m : Nm) (k : List UInt8) (z : DataW Nat) : (Dm m).atKey (.string k) z = match findS m k with | some b => dt b | none => z := by
  unfold Dm DataW.atKey findS
  simp only
  induction m with
  | nil => rfl
  | cons y r ih =>
    simp only [List.map_cons, List.find?_cons]
    have e : Lit.sameKey (Lit.string y.1) (.string k) = (y.1 == k) := rfl
    rw [e]
    cases y.1 == k with
    | true => rfl
    | false => exact ih
theorem Dm_has (m : Nm) (k : List UInt8) : Maps.has (Dm m) (.string k) = (findS m k).isSome := by
  unfold Dm findS
  rw [Maps.has_eq]
  induction m with
  | nil => rfl
  | cons y r ih =>
    simp only [List.map_cons, List.any_cons, List.find?_cons]
    have e : Lit.sameKey (Lit.string y.1) (.string k) = (y.1 == k) := rfl
    rw [e]
    cases y.1 == k with
    | true => rfl
    | false => simpa using ih
def fptr (b : Nat) : Value := .pointer (some ⟨b, 0, none⟩)
def fptrO : Option Nat → Value
  | some b => fptr b
  | none => .pointer none
def Rp (v : Value) : Option (DataW Nat × List MemPlace) :=
  match v with
  | .pointer none => some (dnil, [])
  | .pointer (some ⟨b, 0, none⟩) => some (dt b, [])
  | _ => none
theorem Rp_ptr (b : Nat) : Rp (fptr b) = some (dt b, []) := rfl
theorem Rp_nil : Rp (.pointer none) = some (dnil, []) := rfl
theorem Rp_inv {v : Value} {d : DataW Nat} {ps : List MemPlace} (h : Rp v = some (d, ps)) : (v = .pointer none ∧ d = dnil) ∨ ∃ b, v = fptr b ∧ d = dt b := by
  unfold Rp at h
  split at h
  · cases h; exact .inl ⟨rfl, rfl⟩
  · cases h; exact .inr ⟨_, rfl, rfl⟩
  · cases h
theorem dt_ne (b : Nat) : dt b ≠ dnil := by
  intro h
  unfold dt dnil at h
  injection h with h
  injection h with _ h
  omega
theorem Rp_at {v : Value} {ps : List MemPlace} (m : Nm) (k : List UInt8) (h : Rp v = some ((Dm m).atKey (.string k) dnil, ps)) : v = fptrO (findS m k) := by
  rw [Dm_at] at h
  cases hf : findS m k with
  | none =>
    rw [hf] at h
    rcases Rp_inv h with ⟨e, _⟩ | ⟨b, _, e⟩
    · exact e
    · exact absurd e.symm (dt_ne b)
  | some b =>
    rw [hf] at h
    rcases Rp_inv h with ⟨_, e⟩ | ⟨c, e, e2⟩
    · exact absurd e (dt_ne b)
    · have : b = c := by
        have e3 : (dt b : DataW Nat) = dt c := e2
        unfold dt at e3
        injection e3 with e3
        injection e3 with _ e3
        omega
      subst this
      exact e
end Go.Proofs.YtjaojenalodolaaGreatDoor.Vf
/- Walks of the file system: lookup, apply. -/
namespace Go.Proofs.YtjaojenalodolaaGreatDoor.Vf
open Go Go.RowKit Go.Maps Go.Proofs.YtjaojenalodolaaGreatDoor Go.Proofs.YtjaojenalodolaaGreatDoor.Bs
set_option linter.unusedVariables false
theorem law : Keyed Tryz.prog 9 := string_keyed Tryz.underlying9
theorem hkey (k : ByteArray) (hk : k.size ≤ 1000000) : keyOf Tryz.prog 9 (.string k) = some (.string k.data.toList) :=
  Go.WideMaps.keyOf_string_mk Tryz.underlying9 (by unfold maxLen; omega)
def Dir (w : World) (b : Nat) (m : Nm) : Prop := ∃ n, w.ownsMap Tryz.prog 9 Rp b n (Dm m)
set_option maxRecDepth 100000 in
set_option maxHeartbeats 4000000 in
theorem lookup_is (F o b : Nat) (k : ByteArray) (m : Nm) (W : World) (hk : k.size ≤ 1000000) (hc : W.cell? ⟨F, o, none⟩ = some (.map (some b))) (hD : Dir W b m) :
    Calls Tryz.prog 51 #[.pointer (some ⟨F, o, none⟩), .string k] W fun e w' => e = .returned (.tuple #[fptrO (findS m k.data.toList), .bool (findS m k.data.toList).isSome]) ∧ w' = W := by
  obtain ⟨n, ho⟩ := hD
  obtain ⟨v, ps, hrun, hv⟩ := ho.look_ok (t := 62) law Tryz.underlying62 (z := .pointer none) (by kernel_rfl) Rp_nil (hkey k hk)
  have e := Rp_at m _ hv
  subst e
  rw [Dm_has] at hrun
  obtain ⟨V, hV⟩ : ∃ V, fptrO (findS m k.data.toList) = V := ⟨_, rfl⟩
  obtain ⟨B, hB⟩ : ∃ B, (findS m k.data.toList).isSome = B := ⟨_, rfl⟩
  rw [hV, hB] at hrun ⊢
  clear hV hB hv ho
  go_enter Tryz.func51, Tryz.ntmps51
  go_wp2_with fail
  go_ret2
  exact ⟨rfl, rfl⟩
theorem Dir.tight {w : World} {b : Nat} {m : Nm} (h : Dir w b m) : w.ownsMap Tryz.prog 9 Rp b m.length (Dm m) := by
  obtain ⟨n, es, clock, hb, F, hs, hD⟩ := h
  refine ⟨es, clock, hb, F, ?_, hD⟩
  have := congrArg Maps.size hD
  have e1 : Maps.size (Dm m) = m.length := by simp [Dm, Maps.size]
  rw [e1] at this
  simp [Maps.size, length_sorted] at this
  omega
theorem Dir.lt {w : World} {b : Nat} {m : Nm} (h : Dir w b m) : b < w.heap.size := by
  obtain ⟨n, h⟩ := h
  exact h.lt
theorem Dir.of_block {w w' : World} {b : Nat} {m : Nm} (h : Dir w b m) (hb : w'.heap[b]? = w.heap[b]?) : Dir w' b m := by
  obtain ⟨n, es, clock, hh, r⟩ := h
  exact ⟨n, es, clock, by rw [hb]; exact hh, r⟩
abbrev But (b : Nat) (w w' : World) : Prop := w.grownBy w' (some b)
theorem Dir.put {w : World} {b : Nat} {m : Nm} (h : Dir w b m) (k : ByteArray) (hk : k.size ≤ 1000000) (f : Nat) (hm : m.length ≤ 1000000) :
    ∃ w', (Instr.mapUpdate 62 (.map (some b)) (.string k) (fptr f)).run Tryz.prog w = .ok () w' ∧ Dir w' b (putS m k.data.toList f) ∧ But b w w' := by
  obtain ⟨w', h1, h2, h3⟩ := h.tight.update (t := 62) law Tryz.underlying62 (by unfold maxLen; omega) (hkey k hk) (Rp_ptr f)
  rw [Dm_put] at h2
  exact ⟨w', h1, ⟨_, h2⟩, h3⟩
theorem Dir.del {w : World} {b : Nat} {m : Nm} (h : Dir w b m) (k : ByteArray) (hk : k.size ≤ 1000000) (ty : TypeId) :
    ∃ w', (Builtin.delete_ #[62, 9] ty #[.map (some b), .string k]).run Tryz.prog w = .ok (.tuple #[]) w' ∧ Dir w' b (delS m k.data.toList) ∧ But b w w' := by
  obtain ⟨w', h1, h2, h3⟩ := h.tight.drop (t := 62) law Tryz.underlying62 (hkey k hk) ty
  rw [Dm_del] at h2
  exact ⟨w', h1, ⟨_, h2⟩, h3.grown⟩
theorem But.cell {b : Nat} {w w' : World} (h : But b w w') {a : Addr} {v : Value} (hc : w.cell? a = some v) (hn : a.block ≠ b) : w'.cell? a = some v := by
  have hlt := lt_of_cell hc
  unfold World.cell? at hc ⊢
  rw [h.block _ hlt (by simpa using hn)]
  exact hc
theorem But.trans {b : Nat} {u v w : World} (h : But b u v) (k : But b v w) : But b u w :=
  ⟨k.os.trans h.os, k.tape.trans h.tape, k.output.trans h.output, Nat.le_trans h.size k.size, fun i hi hn => (k.block i (Nat.lt_of_lt_of_le hi h.size) hn).trans (h.block i hi hn)⟩
theorem But.drew {b : Nat} {u v : World} (h : But b u v) : But b u v.drew := ⟨h.os, h.tape, h.output, h.size, h.block⟩
theorem Dir.ne {w : World} {b : Nat} {m : Nm} (h : Dir w b m) {a : Addr} {v : Value} (hc : w.cell? a = some v) : a.block ≠ b := by
  obtain ⟨n, es, clock, hh, r⟩ := h
  intro e
  unfold World.cell? at hc
  rw [e, hh] at hc
  simp at hc
def chg (c : ByteArray × ByteArray × Option Nat) : Value := .agg #[.string c.1, .string c.2.1, fptrO c.2.2]
def applyS (m : Nm) (f t : ByteArray) (x : Nat) : Nm :=
  let m1 := if f.toList.isEmpty = true then m else delS m f.data.toList
  if t.toList.isEmpty = true then m1 else putS m1 t.data.toList x
theorem del_len (m : Nm) (k : List UInt8) : (delS m k).length ≤ m.length := List.length_filter_le _ _
set_option maxRecDepth 100000 in
set_option maxHeartbeats 4000000 in
theorem apply_is (F o b x : Nat) (f t : ByteArray) (fv : Value) (m : Nm) (W : World) (hf : f.size ≤ 1000000) (ht : t.size ≤ 1000000) (hm : m.length ≤ 1000000) (hv : t.toList.isEmpty = false → fv = fptr x) (hc : W.cell? ⟨F, o, none⟩ = some (.map (some b))) (hD : Dir W b m) :
    Calls Tryz.prog 22 #[.pointer (some ⟨F, o, none⟩), .agg #[.string f, .string t, fv]] W fun e w' => e = .returned (.tuple #[]) ∧ Dir w' b (applyS m f t x) ∧ But b W w' := by
  have hlt := hD.lt
  have hB0 : But b W (W.alloc (.cells #[.string f, .string t, fv] 71)) := World.grownBy_alloc W _ _
  have hD0 : Dir (W.alloc (.cells #[.string f, .string t, fv] 71)) b m := hD.of_block (old_block _ _ _ hlt)
  have hF0 : (W.alloc (.cells #[.string f, .string t, fv] 71)).cell? ⟨F, o, none⟩ = some (.map (some b)) := hB0.cell hc (hD.ne hc)
  have hS := heap_alloc_new W (.cells #[.string f, .string t, fv] 71)
  have q0 : (W.alloc (.cells #[.string f, .string t, fv] 71)).cell? ⟨W.heap.size, 0, none⟩ = some (.string f) := by unfold World.cell?; simp only [hS]; rfl
  have q1 : (W.alloc (.cells #[.string f, .string t, fv] 71)).cell? ⟨W.heap.size, 1, none⟩ = some (.string t) := by unfold World.cell?; simp only [hS]; rfl
  have q2 : (W.alloc (.cells #[.string f, .string t, fv] 71)).cell? ⟨W.heap.size, 2, none⟩ = some fv := by unfold World.cell?; simp only [hS]; rfl
  have HB0 := Lib.hid hB0
  have HD0 := Lib.hid hD0
  have HN := Lib.hid (show W.heap.size ≠ b by omega)
  clear hS hB0 hD0 hc hD
  rcases g1 : f.toList.isEmpty with _ | _ <;> rcases g2 : t.toList.isEmpty with _ | _
  · have hv' := hv g2
    subst hv'
    go_enter Tryz.func22, Tryz.ntmps22
    go_wp2_with fail
    generalize (W.alloc (.cells #[.string f, .string t, fptr x] 71)) = w0 at hF0 q0 q1 q2 HB0 HD0 ⊢
    generalize W.heap.size = S at q0 q1 q2 HN ⊢
    go_still_tail 6, (by kernel_rfl)
    change wpList _ _ _ _ _ w0.drew
    obtain ⟨w1, hdel, hD1, hB1⟩ := Dir.del (w := w0.drew) (HD0.out.of_block rfl) f hf 0
    have hF1 := hB1.cell hF0 (HD0.out.ne hF0)
    have r1 := hB1.cell q1 HN.out
    have r2 := hB1.cell q2 HN.out
    have HB1 := Lib.hid (HB0.out.drew.trans hB1)
    have HD1 := Lib.hid hD1
    clear hF0 q0 q1 q2 HD0 HB0 hB1 hD1
    go_wp2_with fail
    go_still_tail 8, (by kernel_rfl)
    change wpList _ _ _ _ _ w1.drew
    obtain ⟨w2, hupd, hD2, hB2⟩ := Dir.put (w := w1.drew) (HD1.out.of_block rfl) t ht x (Nat.le_trans (del_len _ _) hm)
    clear hF1 r1 r2
    go_wp2_with fail
    go_end0
    exact ⟨rfl, by unfold applyS; rw [g1, g2]; exact hD2, HB1.out.drew.trans hB2⟩
  · go_enter Tryz.func22, Tryz.ntmps22
    go_wp2_with fail
    generalize (W.alloc (.cells #[.string f, .string t, fv] 71)) = w0 at hF0 q0 q1 q2 HB0 HD0 ⊢
    generalize W.heap.size = S at q0 q1 q2 HN ⊢
    go_still_tail 6, (by kernel_rfl)
    change wpList _ _ _ _ _ w0.drew
    obtain ⟨w1, hdel, hD1, hB1⟩ := Dir.del (w := w0.drew) (HD0.out.of_block rfl) f hf 0
    have r1 := hB1.cell q1 HN.out
    have HB1 := Lib.hid (HB0.out.drew.trans hB1)
    have HD1 := Lib.hid hD1
    clear hF0 q0 q1 q2 HD0 HB0 hB1 hD1
    go_wp2_with fail
    go_end0
    exact ⟨rfl, by unfold applyS; rw [g1, g2]; exact HD1.out, HB1.out⟩
  · have hv' := hv g2
    subst hv'
    go_enter Tryz.func22, Tryz.ntmps22
    go_wp2_with fail
    generalize (W.alloc (.cells #[.string f, .string t, fptr x] 71)) = w0 at hF0 q0 q1 q2 HB0 HD0 ⊢
    generalize W.heap.size = S at q0 q1 q2 HN ⊢
    go_still_tail 8, (by kernel_rfl)
    change wpList _ _ _ _ _ w0.drew
    obtain ⟨w2, hupd, hD2, hB2⟩ := Dir.put (w := w0.drew) (HD0.out.of_block rfl) t ht x hm
    clear hF0 q0 q1 q2
    go_wp2_with fail
    go_end0
    exact ⟨rfl, by unfold applyS; rw [g1, g2]; exact hD2, HB0.out.drew.trans hB2⟩
  · go_enter Tryz.func22, Tryz.ntmps22
    go_wp2_with fail
    go_end0
    exact ⟨rfl, by unfold applyS; rw [g1, g2]; exact HD0.out, HB0.out⟩
end Go.Proofs.YtjaojenalodolaaGreatDoor.Vf
/- Walks of the file system: slices.Clone of bytes, the state, record. -/
namespace Go.Proofs.YtjaojenalodolaaGreatDoor.Vf
open Go Go.RowKit Go.Maps Go.Proofs.YtjaojenalodolaaGreatDoor Go.Proofs.YtjaojenalodolaaGreatDoor.Bs
set_option linter.unusedVariables false
def Rd (w : World) (v : Value) (l : List UInt8) : Prop :=
  (v = .slice none 0 0 ∧ l = []) ∨ ∃ (g cap : Nat) (cur : Array Value) (fr : Nat × Nat), v = .slice (some ⟨g, 0, none⟩) l.length cap ∧ w.heap[g]? = some (Obj.cells cur 5 fr) ∧ l.length ≤ cap ∧ cur.toList.take l.length = Lib.byteCells l
theorem Rd.kept {w w' : World} {v : Value} {l : List UInt8} (h : Rd w v l) (hk : ∀ (g : Nat) (cur : Array Value) (fr : Nat × Nat), w.heap[g]? = some (Obj.cells cur 5 fr) → w'.heap[g]? = w.heap[g]?) : Rd w' v l := by
  rcases h with h | ⟨g, cap, cur, fr, h1, h2, h3, h4⟩
  · exact .inl h
  · exact .inr ⟨g, cap, cur, fr, h1, by rw [hk g cur fr h2]; exact h2, h3, h4⟩
theorem infoU : (Tryz.prog.info? 5).map (fun i => (i.zero, i.size, i.bytes)) = some (some (.int .u8 0), 1, 1) := by kernel_rfl
theorem info_parts {t : TypeId} {z : Value} {s b : Nat} (h : (Tryz.prog.info? t).map (fun i => (i.zero, i.size, i.bytes)) = some (some z, s, b)) : ∃ i, Tryz.prog.info? t = some i ∧ i.zero = some z ∧ i.size = s ∧ i.bytes = b := by
  cases e : Tryz.prog.info? t with
  | none => rw [e] at h; cases h
  | some i =>
    rw [e] at h
    simp only [Option.map_some, Option.some.injEq, Prod.mk.injEq] at h
    exact ⟨i, rfl, h.1, h.2.1, h.2.2⟩
theorem own_none (w : World) (t : TypeId) (n : Nat) (hn : 0 < n) : (w.alloc (.cells #[] t)).ownsRow w.heap.size t n (.slice (some ⟨w.heap.size, 0, none⟩) 0 0) 0 [] :=
  ⟨by simp, .inr ⟨w.heap.size, 0, _, rfl, Nat.le_refl _, new_block w _, Nat.le_refl _, by unfold maxLen; omega, by simp, by simp⟩⟩
theorem Rd.of_own {w : World} {base : Nat} {v : Value} {l : List UInt8} (h : w.ownsRow base 5 1 v l.length (Lib.byteCells l)) : Rd w v l := by
  rcases h.2 with ⟨rfl, h0⟩ | ⟨g, cap, cur, rfl, _, hg, hc, _, _, htk⟩
  · exact .inl ⟨rfl, List.eq_nil_of_length_eq_zero h0⟩
  · exact .inr ⟨g, cap, cur, _, rfl, hg, hc, by simpa using htk⟩
theorem Rd.cells {w : World} {g : Nat} {l : List UInt8} {cur : Array Value} {fr : Nat × Nat} (h : w.heap[g]? = some (.cells cur 5 fr)) (ht : cur.toList.take l.length = Lib.byteCells l) (j : Nat) (u : Value) (hu : (Lib.byteCells l)[j]? = some u) : w.cell? ((⟨g, 0, none⟩ : Addr).add j) = some u := by
  have e : ((⟨g, 0, none⟩ : Addr).add j) = ⟨g, j, none⟩ := by simp [Addr.add]; omega
  rw [e]
  unfold World.cell?
  simp only [h]
  have hj : j < l.length := by
    rcases Nat.lt_or_ge j l.length with h1 | h1
    · exact h1
    · rw [List.getElem?_eq_none (by simpa [Lib.byteCells] using h1)] at hu; cases hu
  rw [← ht, List.getElem?_take, if_pos hj] at hu
  simpa using hu
set_option maxRecDepth 100000 in
set_option maxHeartbeats 4000000 in
theorem clone_is (v : Value) (l : List UInt8) (W : World) (hl : l.length ≤ 1000000) (hv : Rd W v l) :
    Calls Tryz.prog 52 #[v] W fun e w' => ∃ v', e = .returned v' ∧ Rd w' v' l ∧ (∀ g, v'.ownBlock = some g → W.heap.size ≤ g) ∧ Below W.heap.size W w' := by
  have hnil : ∀ (w : World) (a : Option Addr) (n c : Nat), (binOp .eql 74 (.slice a n c) (.slice none 0 0)).run Tryz.prog w = .ok (.bool a.isNone) w := fun w a n c => Lib.run_eql_slice_nil w _ _ a n c 0 0 Tryz.underlying74
  rcases hv with ⟨rfl, rfl⟩ | ⟨g, cap, cur, fr, rfl, hg, hc, ht⟩
  · go_enter Tryz.func52, Tryz.ntmps52
    go_wp2_with fail
    go_ret
    exact ⟨_, rfl, .inl ⟨rfl, rfl⟩, fun g hg => by simp [Value.ownBlock] at hg, Below.refl _ _⟩
  · obtain ⟨i0, hi, hz0, hz1, hz2⟩ := info_parts infoU
    have hg' : (W.alloc (.cells #[] 5)).heap[g]? = some (.cells cur 5 fr) := by rw [old_block _ _ _ (lt_of_heap hg)]; exact hg
    have ho := own_none W 5 1 (by decide)
    have HB0 := Lib.hid ((Below.refl W.heap.size W).alloc (Nat.le_refl _) (.cells #[] 5))
    have hsz : W.heap.size ≤ (W.alloc (.cells #[] 5)).heap.size := HB0.out.size
    go_enter Tryz.func52, Tryz.ntmps52
    go_wp2_with (at_builtin; refine wpList_append_own _ rfl _ _ 74 rfl W.heap.size 5 i0 (.int .u8 0) 1 1 Tryz.underlying74 hi hz0 hz1 hz2 rfl (by decide) _ _ _ rfl ho ⟨g, 0, none⟩ l.length cap (Lib.byteCells l) rfl (by simp [Lib.byteCells]) (Rd.cells hg' ht) ?a2 ?a3 ?a4 ?a5 ?_)
    case a2 => intro u hu; simp only [Lib.byteCells, List.mem_map] at hu; obtain ⟨c, _, rfl⟩ := hu; rfl
    case a3 => unfold maxLen; omega
    case a4 => omega
    case a5 => exact hsz
    intro v1 w1 hown hgrow _
    have HB1 := Lib.hid (HB0.out.grown hgrow hsz (fun k hk => (ho.lt k hk).1))
    have HR := Lib.hid (Rd.of_own (l := l) (base := W.heap.size) (by simpa using hown))
    have HG := Lib.hid (fun g (hg : v1.ownBlock = some g) => (hown.lt g hg).1)
    go_wp2_with fail
    go_ret
    exact ⟨_, rfl, HR.out, HG.out, HB1.out⟩
end Go.Proofs.YtjaojenalodolaaGreatDoor.Vf
/- The file system's state in a world; record. -/
namespace Go.Proofs.YtjaojenalodolaaGreatDoor.Vf
open Go Go.RowKit Go.Maps Go.Proofs.YtjaojenalodolaaGreatDoor Go.Proofs.YtjaojenalodolaaGreatDoor.Bs
set_option linter.unusedVariables false
structure Fl where
  blk : Nat
  data : List UInt8
  dur : List UInt8
  synced : Bool
structure Ch where
  src : ByteArray
  dst : ByteArray
  file : Option Nat
structure St where
  files : List Fl
  names : Nm
  dur : Nm
  pend : List Ch
  down : Bool
  armed : Bool
  after : Int
  err : Int
structure Loc where
  F : Nat
  nb : Nat
  db : Nat
  fs : Value
  ps : Value
  Z : Nat → Prop
def chCells (c : Ch) : List Value := [.string c.src, .string c.dst, fptrO c.file]
def chVal (c : Ch) : Value := .agg (chCells c).toArray
def fsCells (o : Loc) (s : St) : Array Value := #[.map (some o.nb), .map (some o.db), o.fs, o.ps, .bool s.down, .bool s.armed, .int .i64 s.after, .int .i64 s.err]
def Rz (Z : Nat → Prop) (w : World) (v : Value) (l : List UInt8) : Prop := Rd w v l ∧ ∀ g, v.ownBlock = some g → ¬ Z g
def FileIs (Z : Nat → Prop) (w : World) (f : Fl) : Prop := ∃ dv rv, w.heap[f.blk]? = some (Obj.cells #[dv, rv, .bool f.synced] 76 (0, 0)) ∧ Rz Z w dv f.data ∧ Rz Z w rv f.dur
structure Is (w : World) (B : Nat) (o : Loc) (s : St) : Prop where
  fs : w.heap[o.F]? = some (Obj.cells (fsCells o s) 68 (0, 0))
  names : Dir w o.nb s.names
  dur : Dir w o.db s.dur
  nd : o.nb ≠ o.db
  files : w.ownsRow B 69 1 o.fs s.files.length (s.files.map fun f => fptr f.blk)
  pend : w.ownsRow B 71 3 o.ps s.pend.length (s.pend.flatMap chCells)
  each : ∀ f ∈ s.files, FileIs o.Z w f
  zl : ∀ k, o.Z k → ∃ cur fr, w.heap[k]? = some (Obj.cells cur 5 fr)
  dist : (s.files.map (·.blk)).Nodup
  bF : B ≤ o.F
  bn : B ≤ o.nb
  bd : B ≤ o.db
  bf : ∀ f ∈ s.files, B ≤ f.blk
def foot (o : Loc) (s : St) (k : Nat) : Prop := k = o.F ∨ k = o.nb ∨ k = o.db ∨ o.fs.ownBlock = some k ∨ o.ps.ownBlock = some k ∨ ∃ f ∈ s.files, f.blk = k
structure Fr (w w' : World) (p : Nat → Prop) : Prop where
  os : w'.os = w.os
  tape : w'.tape = w.tape
  output : w'.output = w.output
  size : w.heap.size ≤ w'.heap.size
  block : ∀ k, k < w.heap.size → ¬ p k → w'.heap[k]? = w.heap[k]?
theorem Fr.of_but {b : Nat} {w w' : World} (h : But b w w') (p : Nat → Prop) (hp : p b) : Fr w w' p :=
  ⟨h.os, h.tape, h.output, h.size, fun k hk hn => h.block k hk (by intro e; injection e with e; subst e; exact hn hp)⟩
theorem Fr.of_below {w w' : World} (h : Below w.heap.size w w') (p : Nat → Prop) : Fr w w' p := ⟨h.os, h.tape, h.output, h.size, fun k hk _ => h.block k hk⟩
theorem Fr.trans {u v w : World} {p q : Nat → Prop} (h : Fr u v p) (g : Fr v w q) (hq : ∀ k, k < u.heap.size → q k → p k) : Fr u w p :=
  ⟨g.os.trans h.os, g.tape.trans h.tape, g.output.trans h.output, Nat.le_trans h.size g.size, fun k hk hn => (g.block k (Nat.lt_of_lt_of_le hk h.size) (fun e => hn (hq k hk e))).trans (h.block k hk hn)⟩
theorem Fr.below {w w' : World} {p : Nat → Prop} {B : Nat} (h : Fr w w' p) (hB : ∀ k, p k → B ≤ k) (hs : B ≤ w.heap.size) : Below B w w' :=
  ⟨h.os, h.tape, h.output, h.size, fun k hk => h.block k (Nat.lt_of_lt_of_le hk hs) fun e => by have := hB k e; omega⟩
theorem Rz.kept {Z : Nat → Prop} {w w' : World} {v : Value} {l : List UInt8} (h : Rz Z w v l) (hk : ∀ (g : Nat) (cur : Array Value) (fr : Nat × Nat), w.heap[g]? = some (Obj.cells cur 5 fr) → w'.heap[g]? = w.heap[g]?) : Rz Z w' v l := ⟨h.1.kept hk, h.2⟩
theorem zl_kept {Z : Nat → Prop} {w w' : World} (h : ∀ k, Z k → ∃ cur fr, w.heap[k]? = some (Obj.cells cur 5 fr)) (hk : ∀ (g : Nat) (cur : Array Value) (fr : Nat × Nat), w.heap[g]? = some (Obj.cells cur 5 fr) → w'.heap[g]? = w.heap[g]?) : ∀ k, Z k → ∃ cur fr, w'.heap[k]? = some (Obj.cells cur 5 fr) := fun k hz => by
  obtain ⟨cur, fr, hc⟩ := h k hz
  exact ⟨cur, fr, by rw [hk k cur fr hc]; exact hc⟩
theorem FileIs.kept {Z : Nat → Prop} {w w' : World} {f : Fl} (h : FileIs Z w f) (hb : w'.heap[f.blk]? = w.heap[f.blk]?) (hk : ∀ (g : Nat) (cur : Array Value) (fr : Nat × Nat), w.heap[g]? = some (Obj.cells cur 5 fr) → w'.heap[g]? = w.heap[g]?) : FileIs Z w' f := by
  obtain ⟨dv, rv, h1, h2, h3⟩ := h
  exact ⟨dv, rv, by rw [hb]; exact h1, h2.kept hk, h3.kept hk⟩
theorem own_kept {w w' : World} {base n size : Nat} {e : TypeId} {v : Value} {xs : List Value} (h : w.ownsRow base e size v n xs) (hk : ∀ g, v.ownBlock = some g → w'.heap[g]? = w.heap[g]?) : w'.ownsRow base e size v n xs := by
  refine ⟨h.1, ?_⟩
  rcases h.2 with h0 | ⟨g, cap, cur, rfl, h1, hg, r⟩
  · exact .inl h0
  · exact .inr ⟨g, cap, cur, rfl, h1, by rw [hk g rfl]; exact hg, r⟩
theorem Is.kept {w w' : World} {B : Nat} {o : Loc} {s : St} (h : Is w B o s) (hk : ∀ k, foot o s k → w'.heap[k]? = w.heap[k]?) (hb : ∀ (g : Nat) (cur : Array Value) (fr : Nat × Nat), w.heap[g]? = some (Obj.cells cur 5 fr) → w'.heap[g]? = w.heap[g]?) : Is w' B o s where
  fs := by rw [hk _ (.inl rfl)]; exact h.fs
  names := h.names.of_block (hk _ (.inr (.inl rfl)))
  dur := h.dur.of_block (hk _ (.inr (.inr (.inl rfl))))
  nd := h.nd
  files := own_kept h.files fun g hg => hk g (.inr (.inr (.inr (.inl hg))))
  pend := own_kept h.pend fun g hg => hk g (.inr (.inr (.inr (.inr (.inl hg)))))
  each := fun f hf => (h.each f hf).kept (hk _ (.inr (.inr (.inr (.inr (.inr ⟨f, hf, rfl⟩)))))) hb
  zl := zl_kept h.zl hb
  dist := h.dist
  bF := h.bF
  bn := h.bn
  bd := h.bd
  bf := h.bf
theorem Is.below {w w' : World} {B : Nat} {o : Loc} {s : St} (h : Is w B o s) (hb : Below w.heap.size w w') : Is w' B o s := by
  have hlt : ∀ k, foot o s k → k < w.heap.size := by
    rintro k (rfl | rfl | rfl | hk | hk | ⟨f, hf, rfl⟩)
    · exact lt_of_heap h.fs
    · exact h.names.lt
    · exact h.dur.lt
    · exact (h.files.lt k hk).2
    · exact (h.pend.lt k hk).2
    · obtain ⟨dv, rv, h1, _⟩ := h.each f hf
      exact lt_of_heap h1
  exact h.kept (fun k hk => hb.block k (hlt k hk)) (fun g cur fr hg => hb.block g (lt_of_heap hg))
end Go.Proofs.YtjaojenalodolaaGreatDoor.Vf
/- record. -/
namespace Go.Proofs.YtjaojenalodolaaGreatDoor.Vf
open Go Go.RowKit Go.Maps Go.Proofs.YtjaojenalodolaaGreatDoor Go.Proofs.YtjaojenalodolaaGreatDoor.Bs
set_option linter.unusedVariables false
theorem Dir.neB {w : World} {b k : Nat} {m : Nm} {cur : Array Value} {t : TypeId} {fr : Nat × Nat} (h : Dir w b m) (hc : w.heap[k]? = some (Obj.cells cur t fr)) : k ≠ b := by
  obtain ⟨n, es, clock, hh, r⟩ := h
  intro e
  rw [e, hh] at hc
  simp at hc
theorem own_block {w : World} {base n size : Nat} {e : TypeId} {v : Value} {xs : List Value} (h : w.ownsRow base e size v n xs) {g : Nat} (hg : v.ownBlock = some g) : ∃ cur, w.heap[g]? = some (Obj.cells cur e (0, 0)) := by
  rcases h.2 with ⟨rfl, _⟩ | ⟨g', cap, cur, rfl, h1, h2, r⟩
  · simp [Value.ownBlock] at hg
  · simp [Value.ownBlock] at hg
    subst hg
    exact ⟨cur, h2⟩
theorem Is.named {w w1 : World} {B : Nat} {o : Loc} {s : St} {m : Nm} (h : Is w B o s) (hB : But o.nb w w1) (hD : Dir w1 o.nb m) : Is w1 B o { s with names := m } := by
  have hk : ∀ k cur t fr, w.heap[k]? = some (Obj.cells cur t fr) → w1.heap[k]? = w.heap[k]? := fun k cur t fr hc => hB.block k (lt_of_heap hc) (by intro e; injection e with e; exact h.names.neB hc e)
  exact
    { fs := by rw [hk _ _ _ _ h.fs]; exact h.fs
      names := hD
      dur := h.dur.of_block (hB.block _ h.dur.lt (by intro e; injection e with e; exact h.nd e.symm))
      nd := h.nd
      files := own_kept h.files fun g hg => by obtain ⟨cur, hc⟩ := own_block h.files hg; exact hk _ _ _ _ hc
      pend := own_kept h.pend fun g hg => by obtain ⟨cur, hc⟩ := own_block h.pend hg; exact hk _ _ _ _ hc
      each := fun f hf => (h.each f hf).kept (by obtain ⟨dv, rv, h1, _⟩ := h.each f hf; exact hk _ _ _ _ h1) (fun g cur fr hc => hk _ _ _ _ hc)
      zl := zl_kept h.zl (fun k cur fr hc => hk k cur _ fr hc)
      dist := h.dist
      bF := h.bF
      bn := h.bn
      bd := h.bd
      bf := h.bf }
theorem infoC : (Tryz.prog.info? 71).map (fun i => (i.zero, i.size, i.bytes)) = some (some (.agg #[.string ByteArray.empty, .string ByteArray.empty, .pointer none]), 3, 40) := by kernel_rfl
theorem grow_at {w1 w2 : World} {x y : Obj} {row : Option Nat} {F : Nat} (h : (w1.drew.alloc x).grownBy w2 row) (hc : w1.heap[F]? = some y) (hne : row ≠ some F) : w2.heap[F]? = some y := by
  have hlt := lt_of_heap hc
  have hc2 : (w1.drew.alloc x).heap[F]? = some y := by rw [old_block w1.drew x F hlt]; exact hc
  rw [h.block F (lt_of_heap hc2) (fun e => hne e.symm)]
  exact hc2
theorem fs_at3 {w : World} {F : Nat} {o : Loc} {s : St} (h : w.heap[F]? = some (Obj.cells (fsCells o s) 68 (0, 0))) : w.cell? ⟨F, 3, none⟩ = some o.ps ∧ w.frozen? ⟨F, 3, none⟩ = false := by
  unfold World.cell? World.frozen?
  simp only [h]
  exact ⟨rfl, rfl⟩
theorem own_ne {w : World} {base n size F : Nat} {e t : TypeId} {v : Value} {xs : List Value} {cs : Array Value} {fr : Nat × Nat} (h : w.ownsRow base e size v n xs) (hF : w.heap[F]? = some (Obj.cells cs t fr)) (hne : t ≠ e) : v.ownBlock ≠ some F := by
  intro hg
  obtain ⟨cur, hc⟩ := own_block h hg
  rw [hF] at hc
  simp only [Option.some.injEq, Obj.cells.injEq] at hc
  exact hne hc.2.1
theorem ne_of {w : World} {k F : Nat} {cs ds : Array Value} {t u : TypeId} {fr gr : Nat × Nat} (h : w.heap[k]? = some (Obj.cells cs t fr)) (g : w.heap[F]? = some (Obj.cells ds u gr)) (hn : t ≠ u) : k ≠ F := by
  intro e
  subst e
  rw [h] at g
  simp only [Option.some.injEq, Obj.cells.injEq] at g
  exact hn g.2.1
theorem Dir.block {w : World} {b : Nat} {m : Nm} (h : Dir w b m) : ∃ es ck, w.heap[b]? = some (.map es ck) := by
  obtain ⟨n, es, clock, hh, r⟩ := h
  exact ⟨es, clock, hh⟩
theorem Is.pended {w1 w2 : World} {x : Obj} {B g cap : Nat} {o : Loc} {s : St} {c : Ch} (h : Is w1 B o s) (hg : (w1.drew.alloc x).grownBy w2 o.ps.ownBlock)
    (ho : w2.ownsRow B 71 3 (.slice (some ⟨g, 0, none⟩) (s.pend.length + 1) cap) (s.pend.length + 1) (s.pend.flatMap chCells ++ chCells c)) :
    Is (w2.setCell ⟨o.F, 3, none⟩ (.slice (some ⟨g, 0, none⟩) (s.pend.length + 1) cap)) B { o with ps := .slice (some ⟨g, 0, none⟩) (s.pend.length + 1) cap } { s with pend := s.pend ++ [c] } := by
  have K : ∀ k y, w1.heap[k]? = some y → o.ps.ownBlock ≠ some k → k ≠ o.F → (w2.setCell ⟨o.F, 3, none⟩ (.slice (some ⟨g, 0, none⟩) (s.pend.length + 1) cap)).heap[k]? = some y := fun k y hy hne hF => by
    rw [heap_setCell_other _ _ _ _ hF]; exact grow_at hg hy hne
  have KC : ∀ k cur t fr, w1.heap[k]? = some (Obj.cells cur t fr) → t ≠ 71 → t ≠ 68 → (w2.setCell ⟨o.F, 3, none⟩ (.slice (some ⟨g, 0, none⟩) (s.pend.length + 1) cap)).heap[k]? = w1.heap[k]? := fun k cur t fr hy h1 h2 => by
    rw [hy]; exact K k _ hy (own_ne h.pend hy h1) (ne_of hy h.fs h2)
  have KM : ∀ b m, Dir w1 b m → (w2.setCell ⟨o.F, 3, none⟩ (.slice (some ⟨g, 0, none⟩) (s.pend.length + 1) cap)).heap[b]? = w1.heap[b]? := fun b m hd => by
    obtain ⟨es, ck, hb⟩ := hd.block
    rw [hb]
    exact K b _ hb (fun e => by obtain ⟨cur, hc⟩ := own_block h.pend e; rw [hb] at hc; simp at hc) (fun e => hd.neB h.fs e.symm)
  have hF2 := grow_at hg h.fs (own_ne h.pend h.fs (by decide))
  exact
    { fs := by rw [heap_setCell_same _ _ _ _ _ _ hF2]; rfl
      names := h.names.of_block (KM _ _ h.names)
      dur := h.dur.of_block (KM _ _ h.dur)
      nd := h.nd
      files := own_kept h.files fun k hk => by obtain ⟨cur, hc⟩ := own_block h.files hk; exact KC _ _ _ _ hc (by decide) (by decide)
      pend := by
        have e1 : (s.pend ++ [c]).length = s.pend.length + 1 := by simp
        have e2 : (s.pend ++ [c]).flatMap chCells = s.pend.flatMap chCells ++ chCells c := by simp
        show World.ownsRow _ _ _ _ _ (s.pend ++ [c]).length ((s.pend ++ [c]).flatMap chCells)
        rw [e1, e2]
        refine own_kept ho fun k hk => ?_
        obtain ⟨cur, hc⟩ := own_block ho hk
        exact heap_setCell_other _ _ _ _ (ne_of hc hF2 (by decide))
      each := fun f hf => (h.each f hf).kept (by obtain ⟨dv, rv, h1, _⟩ := h.each f hf; exact KC _ _ _ _ h1 (by decide) (by decide)) (fun k cur fr hc => KC _ _ _ _ hc (by decide) (by decide))
      zl := zl_kept h.zl (fun k cur fr hc => KC k cur _ fr hc (by decide) (by decide))
      dist := h.dist
      bF := h.bF
      bn := h.bn
      bd := h.bd
      bf := h.bf }
theorem Fr.grow {w1 w2 : World} {x : Obj} {row : Option Nat} (h : (w1.drew.alloc x).grownBy w2 row) (p : Nat → Prop) (hp : ∀ k, row = some k → p k) : Fr w1 w2 p :=
  ⟨h.os, h.tape, h.output, Nat.le_trans (by show _ ≤ (World.alloc w1.drew x).heap.size; rw [alloc_sz]; exact Nat.le_succ _) h.size, fun k hk hn => by
    have hlt : k < (w1.drew.alloc x).heap.size := by show _ < (World.alloc w1.drew x).heap.size; rw [alloc_sz]; exact Nat.lt_succ_of_lt hk
    rw [h.block k hlt (fun e => hn (hp k e.symm))]
    exact old_block w1.drew x k hk⟩
theorem Fr.set (w : World) (a : Addr) (v : Value) (p : Nat → Prop) (hp : p a.block) : Fr w (w.setCell a v) p :=
  ⟨rfl, rfl, rfl, by simp, fun k hk hn => heap_setCell_other w a k v (fun e => hn (e ▸ hp))⟩
theorem new_cellC (w : World) (xs : List Value) (j : Nat) (u : Value) (hj : xs[j]? = some u) : (w.alloc (.cells xs.toArray 71)).cell? ((⟨w.heap.size, 0, none⟩ : Addr).add j) = some u := by
  have h2 := new_block w (.cells xs.toArray 71)
  have e : ((⟨w.heap.size, 0, none⟩ : Addr).add j) = ⟨w.heap.size, j, none⟩ := by simp [Addr.add]; omega
  rw [e]
  unfold World.cell?
  simp only [h2]
  simpa using hj
set_option maxRecDepth 100000 in
set_option maxHeartbeats 4000000 in
theorem record_is (B x : Nat) (o : Loc) (s : St) (c : Ch) (W : World) (h : Is W B o s) (h1 : c.src.size ≤ 1000000) (h2 : c.dst.size ≤ 1000000) (hm : s.names.length ≤ 1000000) (hp : s.pend.length ≤ 1000000) (hx : c.dst.toList.isEmpty = false → c.file = some x) :
    Calls Tryz.prog 92 #[.pointer (some ⟨o.F, 0, none⟩), .agg #[.string c.src, .string c.dst, fptrO c.file]] W fun e w' => e = .returned (.tuple #[]) ∧ ∃ ps', Is w' B { o with ps := ps' } { s with names := applyS s.names c.src c.dst x, pend := s.pend ++ [c] } ∧ Fr W w' (foot o s) ∧ (∀ g, ps'.ownBlock = some g → o.ps.ownBlock = some g ∨ W.heap.size ≤ g) := by
  obtain ⟨F, hF⟩ : ∃ F, o.F = F := ⟨_, rfl⟩
  obtain ⟨f, hf⟩ : ∃ f, c.src = f := ⟨_, rfl⟩
  obtain ⟨t, ht⟩ : ∃ t, c.dst = t := ⟨_, rfl⟩
  obtain ⟨fv, hfv⟩ : ∃ v, fptrO c.file = v := ⟨_, rfl⟩
  have hxv : t.toList.isEmpty = false → fv = fptr x := fun e => by rw [← hfv, hx (by rw [ht]; exact e)]; rfl
  rw [hF, hf, ht, hfv]
  rw [hf] at h1
  rw [ht] at h2
  have hI0 : Is (W.alloc (.cells #[.string f, .string t, fv] 71)) B o s := h.below ((Below.refl W.heap.size W).alloc (Nat.le_refl _) _)
  have hS := heap_alloc_new W (.cells #[.string f, .string t, fv] 71)
  have HB0 := Lib.hid ((Below.refl W.heap.size W).alloc (Nat.le_refl _) (.cells #[.string f, .string t, fv] 71))
  have q0 : (W.alloc (.cells #[.string f, .string t, fv] 71)).cell? ⟨W.heap.size, 0, none⟩ = some (.string f) := by unfold World.cell?; simp only [hS]; rfl
  have q1 : (W.alloc (.cells #[.string f, .string t, fv] 71)).cell? ⟨W.heap.size, 1, none⟩ = some (.string t) := by unfold World.cell?; simp only [hS]; rfl
  have q2 : (W.alloc (.cells #[.string f, .string t, fv] 71)).cell? ⟨W.heap.size, 2, none⟩ = some fv := by unfold World.cell?; simp only [hS]; rfl
  have HI := Lib.hid h
  have HI0 := Lib.hid hI0
  have HXV := Lib.hid hxv
  have HSS := Lib.hid hS
  clear h hI0 hxv hS hx
  go_enter Tryz.func92, Tryz.ntmps92
  go_wp2_with fail
  generalize (W.alloc (.cells #[.string f, .string t, fv] 71)) = w0 at q0 q1 q2 HB0 HI0 HSS ⊢
  go_still_tail 4, (by kernel_rfl)
  change wpList _ _ _ _ _ w0.drew
  go_wp2_with fail
  have hcF : w0.drew.cell? ⟨F, 0, none⟩ = some (.map (some o.nb)) := by
    have := HI0.out.fs
    rw [hF] at this
    show w0.cell? _ = _
    unfold World.cell?; simp only [this]; rfl
  refine (apply_is F 0 o.nb x f t fv s.names w0.drew h1 h2 hm HXV.out hcF (HI0.out.names.of_block rfl)).mono ?_
  rintro e w1 ⟨rfl, hD1, hB1'⟩
  have hB1 : But o.nb w0 w1 := ⟨hB1'.os, hB1'.tape, hB1'.output, hB1'.size, hB1'.block⟩
  clear hB1'
  have HI1 := Lib.hid (Is.named (w := w0) HI0.out hB1 hD1)
  have hneS : W.heap.size ≠ o.nb := HI0.out.names.neB HSS.out
  have r0 := hB1.cell q0 hneS
  have r1 := hB1.cell q1 hneS
  have r2 := hB1.cell q2 hneS
  have HF1 := Lib.hid ((Fr.of_below HB0.out (foot o s)).trans (Fr.of_but hB1 (fun k => k = o.nb) rfl) (fun k _ e => .inr (.inl e)))
  have cP : w1.cell? ⟨F, 3, none⟩ = some o.ps := by
    have := HI1.out.fs
    rw [hF] at this
    unfold World.cell?; simp only [this]; rfl
  have frF : w1.frozen? ⟨F, 3, none⟩ = false := by
    have := HI1.out.fs
    rw [hF] at this
    unfold World.frozen?; simp only [this]; rfl
  have hsz1 := HF1.out.size
  obtain ⟨i0, hi, hz0, hz1, hz2⟩ := info_parts infoC
  obtain ⟨pv, hpv⟩ : ∃ v, o.ps = v := ⟨_, rfl⟩
  have hown := HI1.out.pend
  rw [hpv] at hown cP
  have HOW := Lib.hid hown
  have HFB := Lib.hid (show w1.heap[F]? = _ from hF ▸ HI1.out.fs)
  have HNE := Lib.hid (own_ne hown HFB.out (by decide))
  have cPa : (w1.alloc (.cells #[.string f, .string t, fv] 71)).cell? ⟨F, 3, none⟩ = some pv := by
    have hlt := lt_of_cell cP
    unfold World.cell? at cP ⊢
    rw [old_block _ _ _ hlt]
    exact cP
  have HOC := Lib.hid (show ∀ u ∈ [Value.string f, .string t, fv], u.oneCell' = true by
    intro u hu
    simp only [List.mem_cons, List.not_mem_nil, or_false] at hu
    rcases hu with rfl | rfl | rfl
    · rfl
    · rfl
    · rw [← hfv]; cases c.file <;> rfl)
  have HBS := Lib.hid (show B ≤ w1.heap.size from Nat.le_trans HI1.out.bF (Nat.le_of_lt (lt_of_heap HI1.out.fs)))
  have II := Lib.hid (And.intro hi (And.intro hz0 (And.intro hz1 hz2)))
  clear hcF q0 q1 q2 hD1 hB1 hi hz0 hz1 hz2 hown hneS
  go_wp2_with fail
  go_region_law? (refine step_append_lies _ rfl (.tmp 13) (.tmp 15) 66 rfl B 71 i0 (.agg #[.string ByteArray.empty, .string ByteArray.empty, .pointer none]) 3 40 Tryz.underlying66 II.out.1 II.out.2.1 II.out.2.2.1 II.out.2.2.2 rfl (by decide) _ _ _ (by simp [Act.eval]) (HOW.out.drew.alloc _) ⟨w1.heap.size, 0, none⟩ 1 1 [.string f, .string t, fv] (by simp [Act.eval]) rfl (new_cellC w1.drew _) HOC.out (by decide) (by unfold maxLen; omega) (by omega) (by show _ ≤ (World.alloc _ _).heap.size; rw [alloc_sz]; have := HBS.out; show _ ≤ w1.heap.size + 1; omega) _ rfl ?_; intro g1 cap1 w2 hown1 hgrow1 hg1 hg2; have hfb2 := grow_at hgrow1 HFB.out HNE.out; have hc2 := (fs_at3 hfb2).1; have hz2 := (fs_at3 hfb2).2; rw [hpv] at hc2)
  all_goals
    have hgrow2 := hpv ▸ hgrow1
    have HR := Lib.hid (Is.pended (c := c) HI1.out (by rw [hpv]; exact hgrow1) (by rw [show chCells c = [.string f, .string t, fv] by unfold chCells; rw [hf, ht, hfv]]; exact hown1))
    have HFR := Lib.hid (HF1.out.trans ((Fr.grow hgrow1 (foot o s) (fun k e => .inr (.inr (.inr (.inr (.inl (by rw [hpv]; exact e))))))).trans (Fr.set w2 ⟨F, 3, none⟩ (.slice (some ⟨g1, 0, none⟩) (s.pend.length + 1) cap1) (foot o s) (.inl hF.symm)) (fun k _ e => e)) (fun k _ e => e))
    have HG := Lib.hid (show o.ps.ownBlock = some g1 ∨ W.heap.size ≤ g1 by
      rw [hpv]
      rcases hg1 with e | e
      · exact .inl e
      · right
        have e2 : (World.alloc w1.drew (Obj.cells #[.string f, .string t, fv] 71)).heap.size = w1.heap.size + 1 := by rw [alloc_sz]; rfl
        have e3 : (World.drew (World.alloc w1 (Obj.cells #[.string f, .string t, fv] 71))).heap.size = w1.heap.size + 1 := by show (World.alloc w1 _).heap.size = _; rw [alloc_sz]
        omega)
    rw [hF] at HR
    clear hown1 hgrow1 hg1 hg2 hfb2 hc2 hz2 hgrow2
    try go_wp2_with fail
    go_end0
    refine ⟨rfl, _, HR.out, HFR.out, ?_⟩
    intro g hg
    simp only [Value.ownBlock, Option.some.injEq] at hg
    subst hg
    have hgo := HG.out
    rw [hpv] at hgo
    exact hgo
end Go.Proofs.YtjaojenalodolaaGreatDoor.Vf
/- put. -/
namespace Go.Proofs.YtjaojenalodolaaGreatDoor.Vf
open Go Go.RowKit Go.Maps Go.Proofs.YtjaojenalodolaaGreatDoor Go.Proofs.YtjaojenalodolaaGreatDoor.Bs
set_option linter.unusedVariables false
def setFile (fs : List Fl) (b : Nat) (l : List UInt8) : List Fl := fs.map fun f => if f.blk = b then { f with data := l, synced := false } else f
theorem Is.wrote {w : World} {B b : Nat} {o : Loc} {s : St} {v : Value} {l : List UInt8} (h : Is w B o s) (f : Fl) (hf : f ∈ s.files) (hb : f.blk = b) (hv : Rz o.Z w v l) :
    Is ((w.setCell ⟨b, 0, none⟩ v).setCell ⟨b, 2, none⟩ (.bool false)) B o { s with files := setFile s.files b l } := by
  obtain ⟨dv, rv, hc, hd, hr⟩ := h.each f hf
  rw [hb] at hc
  have h1 := heap_setCell_same w b 0 _ _ v hc
  have h2 := heap_setCell_same _ b 2 _ _ (.bool false) h1
  have K : ∀ k, k ≠ b → ((w.setCell ⟨b, 0, none⟩ v).setCell ⟨b, 2, none⟩ (.bool false)).heap[k]? = w.heap[k]? := fun k hk => by
    rw [heap_setCell_other _ _ _ _ hk, heap_setCell_other _ _ _ _ hk]
  have KC : ∀ k cur t fr, w.heap[k]? = some (Obj.cells cur t fr) → t ≠ 76 → ((w.setCell ⟨b, 0, none⟩ v).setCell ⟨b, 2, none⟩ (.bool false)).heap[k]? = w.heap[k]? := fun k cur t fr hk ht => K k (ne_of hk hc ht)
  have KM : ∀ d m, Dir w d m → ((w.setCell ⟨b, 0, none⟩ v).setCell ⟨b, 2, none⟩ (.bool false)).heap[d]? = w.heap[d]? := fun d m hd => K d (fun e => hd.neB hc e.symm)
  have hbl : (setFile s.files b l).map (·.blk) = s.files.map (·.blk) := by
    unfold setFile
    rw [List.map_map]
    apply List.map_congr_left
    intro g _
    simp only [Function.comp]
    split <;> rfl
  have hE : ∀ g ∈ setFile s.files b l, FileIs o.Z ((w.setCell ⟨b, 0, none⟩ v).setCell ⟨b, 2, none⟩ (.bool false)) g := by
    intro g hg
    unfold setFile at hg
    obtain ⟨g0, hg0, rfl⟩ := List.mem_map.1 hg
    by_cases e : g0.blk = b
    · rw [if_pos e]
      obtain ⟨dv0, rv0, hc0, hd0, hr0⟩ := h.each g0 hg0
      rw [e, hc] at hc0
      have e3 : #[dv, rv, Value.bool f.synced] = #[dv0, rv0, Value.bool g0.synced] := by injection hc0 with hc0; injection hc0
      have e4 : rv = rv0 := by
        have := congrArg (fun a : Array Value => a[1]?) e3
        simpa using this
      subst e4
      refine ⟨v, rv, ?_, hv.kept (fun k cur fr hk => KC _ _ _ _ hk (by decide)), hr0.kept (fun k cur fr hk => KC _ _ _ _ hk (by decide))⟩
      simp only [e]
      rw [h2]
      rfl
    · rw [if_neg e]
      exact (h.each g0 hg0).kept (K _ e) (fun k cur fr hk => KC _ _ _ _ hk (by decide))
  exact
    { fs := by rw [KC _ _ _ _ h.fs (by decide)]; exact h.fs
      names := h.names.of_block (KM _ _ h.names)
      dur := h.dur.of_block (KM _ _ h.dur)
      nd := h.nd
      files := by
        have e1 : (setFile s.files b l).length = s.files.length := by simp [setFile]
        have e2 : (setFile s.files b l).map (fun f => fptr f.blk) = s.files.map fun f => fptr f.blk := by
          have := congrArg (List.map fptr) hbl
          rw [List.map_map, List.map_map] at this
          exact this
        show World.ownsRow _ _ _ _ _ (setFile s.files b l).length ((setFile s.files b l).map fun f => fptr f.blk)
        rw [e1, e2]
        exact own_kept h.files fun k hk => by obtain ⟨cur, hc2⟩ := own_block h.files hk; exact KC _ _ _ _ hc2 (by decide)
      pend := own_kept h.pend fun k hk => by obtain ⟨cur, hc2⟩ := own_block h.pend hk; exact KC _ _ _ _ hc2 (by decide)
      each := hE
      zl := zl_kept h.zl (fun k cur fr hk => KC _ _ _ _ hk (by decide))
      dist := by show ((setFile s.files b l).map (·.blk)).Nodup; rw [hbl]; exact h.dist
      bF := h.bF
      bn := h.bn
      bd := h.bd
      bf := fun g hg => by
        have hm : g.blk ∈ (setFile s.files b l).map (·.blk) := List.mem_map_of_mem hg
        rw [hbl] at hm
        obtain ⟨g0, hg0, e⟩ := List.mem_map.1 hm
        rw [← e]
        exact h.bf g0 hg0 }
theorem Rd.slice {w : World} {v : Value} {l : List UInt8} (h : Rd w v l) : ∃ a n c, v = .slice a n c := by
  rcases h with ⟨rfl, _⟩ | ⟨g, cap, cur, fr, rfl, _⟩
  · exact ⟨_, _, _, rfl⟩
  · exact ⟨_, _, _, rfl⟩
theorem fs_at0 {w : World} {F : Nat} {o : Loc} {s : St} (h : w.heap[F]? = some (Obj.cells (fsCells o s) 68 (0, 0))) : w.cell? ⟨F, 0, none⟩ = some (.map (some o.nb)) := by
  unfold World.cell?
  simp only [h]
  rfl
theorem file_cells {w : World} {b : Nat} {x y z : Value} (h : w.heap[b]? = some (Obj.cells #[x, y, z] 76 (0, 0))) : w.cell? ⟨b, 0, none⟩ = some x ∧ w.cell? ⟨b, 1, none⟩ = some y ∧ w.cell? ⟨b, 2, none⟩ = some z ∧ (∀ j, w.frozen? ⟨b, j, none⟩ = false) := by
  unfold World.cell? World.frozen?
  simp only [h]
  exact ⟨rfl, rfl, rfl, fun j => by simp⟩
set_option maxRecDepth 100000 in
set_option maxHeartbeats 4000000 in
theorem put_none (B : Nat) (o : Loc) (v : Value) (W : World) :
    Calls Tryz.prog 133 #[.pointer (some ⟨o.F, 0, none⟩), .string ⟨#[]⟩, v] W fun e w' => e = .returned (.int .i64 2) ∧ w' = W := by
  go_enter Tryz.func133, Tryz.ntmps133
  go_wp2_with fail
  go_ret
  exact ⟨rfl, rfl⟩
set_option maxRecDepth 100000 in
set_option maxHeartbeats 4000000 in
theorem put_old (B b : Nat) (o : Loc) (s : St) (k : ByteArray) (v : Value) (l : List UInt8) (f : Fl) (W : World) (h : Is W B o s) (hk : k.size ≤ 1000000) (k0 : k.toList.isEmpty = false) (hl : l.length ≤ 1000000) (hv : Rd W v l) (hf : findS s.names k.data.toList = some b) (hm : f ∈ s.files) (hb : f.blk = b) :
    Calls Tryz.prog 133 #[.pointer (some ⟨o.F, 0, none⟩), .string k, v] W fun e w' => e = .returned (.int .i64 0) ∧ Is w' B o { s with files := setFile s.files b l } ∧ Fr W w' (foot o s) := by
  have h0 := fs_at0 h.fs
  have HI := Lib.hid h
  have HV := Lib.hid hv
  have HF := Lib.hid hf
  obtain ⟨F, hF⟩ : ∃ F, o.F = F := ⟨_, rfl⟩
  rw [hF] at h0 ⊢
  clear h hv hf
  go_enter Tryz.func133, Tryz.ntmps133
  go_wp2_with fail
  refine (lookup_is F 0 o.nb k s.names W hk h0 HI.out.names).mono ?_
  rintro e w1 ⟨rfl, rfl⟩
  rw [HF.out]
  simp only [fptrO, fptr, Option.isSome_some]
  go_wp2_with fail
  refine (clone_is v l _ hl HV.out).mono ?_
  rintro e w2 ⟨v2, rfl, hr2', hg2, hb2⟩
  have hr2 : Rz o.Z w2 v2 l := ⟨hr2', fun g hg hz => by
    obtain ⟨cur, fr, hc⟩ := HI.out.zl g hz
    have e1 := lt_of_heap hc
    have e2 := hg2 g hg
    omega⟩
  clear hr2' hg2
  obtain ⟨a2, n2, cp2, hv2⟩ := hr2.1.slice
  subst hv2
  have HI2 := Lib.hid (HI.out.below hb2)
  obtain ⟨dv, rv, hc, -, -⟩ := HI2.out.each f hm
  rw [hb] at hc
  obtain ⟨c0, c1, c2, cf⟩ := file_cells hc
  have f0 := cf 0
  have f2 := cf 2
  have HR := Lib.hid (HI2.out.wrote f hm hb hr2)
  have HFR := Lib.hid (((Fr.of_below hb2 (foot o s)).trans (Fr.set w2 ⟨b, 0, none⟩ (.slice a2 n2 cp2) (foot o s) (.inr (.inr (.inr (.inr (.inr ⟨f, hm, hb⟩)))))) (fun _ _ e => e)).trans (Fr.set _ ⟨b, 2, none⟩ (.bool false) (foot o s) (.inr (.inr (.inr (.inr (.inr ⟨f, hm, hb⟩)))))) (fun _ _ e => e))
  clear hr2 hb2 hc cf
  go_wp2_with fail
  go_ret
  exact ⟨rfl, HR.out, HFR.out⟩
end Go.Proofs.YtjaojenalodolaaGreatDoor.Vf
/- Read. -/
namespace Go.Proofs.YtjaojenalodolaaGreatDoor.Vf
open Go Go.RowKit Go.Maps Go.Proofs.YtjaojenalodolaaGreatDoor Go.Proofs.YtjaojenalodolaaGreatDoor.Bs
set_option linter.unusedVariables false
theorem fs_flags {w : World} {F : Nat} {o : Loc} {s : St} (h : w.heap[F]? = some (Obj.cells (fsCells o s) 68 (0, 0))) :
    w.cell? ⟨F, 1, none⟩ = some (.map (some o.db)) ∧ w.cell? ⟨F, 2, none⟩ = some o.fs ∧ w.cell? ⟨F, 4, none⟩ = some (.bool s.down) ∧ w.cell? ⟨F, 5, none⟩ = some (.bool s.armed) ∧ w.cell? ⟨F, 6, none⟩ = some (.int .i64 s.after) ∧ w.cell? ⟨F, 7, none⟩ = some (.int .i64 s.err) ∧ ∀ j, w.frozen? ⟨F, j, none⟩ = false := by
  unfold World.cell? World.frozen?
  simp only [h]
  exact ⟨rfl, rfl, rfl, rfl, rfl, rfl, fun j => by simp⟩
set_option maxRecDepth 100000 in
set_option maxHeartbeats 4000000 in
theorem read_down (B : Nat) (o : Loc) (s : St) (k : ByteArray) (W : World) (h : Is W B o s) (hd : s.down = true) :
    Calls Tryz.prog 24 #[.pointer (some ⟨o.F, 0, none⟩), .string k] W fun e w' => e = .returned (.tuple #[.slice none 0 0, .int .i64 24]) ∧ w' = W := by
  obtain ⟨-, -, c4, -⟩ := fs_flags h.fs
  rw [hd] at c4
  clear h
  go_enter Tryz.func24, Tryz.ntmps24
  go_wp2_with fail
  go_ret2
  exact ⟨rfl, rfl⟩
set_option maxRecDepth 100000 in
set_option maxHeartbeats 4000000 in
theorem read_none (B : Nat) (o : Loc) (s : St) (k : ByteArray) (W : World) (h : Is W B o s) (hd : s.down = false) (hk : k.size ≤ 1000000) (hf : findS s.names k.data.toList = none) :
    Calls Tryz.prog 24 #[.pointer (some ⟨o.F, 0, none⟩), .string k] W fun e w' => e = .returned (.tuple #[.slice none 0 0, .int .i64 23]) ∧ w' = W := by
  obtain ⟨-, -, c4, -⟩ := fs_flags h.fs
  rw [hd] at c4
  have h0 := fs_at0 h.fs
  have HN := Lib.hid h.names
  have HF := Lib.hid hf
  clear h hf
  go_enter Tryz.func24, Tryz.ntmps24
  go_wp2_with fail
  refine (lookup_is o.F 0 o.nb k s.names W hk h0 HN.out).mono ?_
  rintro e w1 ⟨rfl, rfl⟩
  rw [HF.out]
  simp only [fptrO, Option.isSome_none]
  go_wp2_with fail
  go_ret2
  exact ⟨rfl, rfl⟩
set_option maxRecDepth 100000 in
set_option maxHeartbeats 4000000 in
theorem read_some (B b : Nat) (o : Loc) (s : St) (k : ByteArray) (f : Fl) (W : World) (h : Is W B o s) (hd : s.down = false) (hk : k.size ≤ 1000000) (hf : findS s.names k.data.toList = some b) (hm : f ∈ s.files) (hb : f.blk = b) (hl : f.data.length ≤ 1000000) :
    Calls Tryz.prog 24 #[.pointer (some ⟨o.F, 0, none⟩), .string k] W fun e w' => ∃ v, e = .returned (.tuple #[v, .int .i64 0]) ∧ Rd w' v f.data ∧ (∀ g, v.ownBlock = some g → W.heap.size ≤ g) ∧ Below W.heap.size W w' := by
  obtain ⟨-, -, c4, -⟩ := fs_flags h.fs
  rw [hd] at c4
  have h0 := fs_at0 h.fs
  obtain ⟨dv, rv, hc, hr, -⟩ := h.each f hm
  rw [hb] at hc
  obtain ⟨c0, -, -, -⟩ := file_cells hc
  have HR := Lib.hid hr.1
  have HN := Lib.hid h.names
  have HF := Lib.hid hf
  obtain ⟨a1, n1, p1, hdv⟩ := hr.1.slice
  subst hdv
  clear h hf hc hr
  go_enter Tryz.func24, Tryz.ntmps24
  go_wp2_with fail
  refine (lookup_is o.F 0 o.nb k s.names W hk h0 HN.out).mono ?_
  rintro e w1 ⟨rfl, rfl⟩
  rw [HF.out]
  simp only [fptrO, fptr, Option.isSome_some]
  go_wp2_with fail
  refine (clone_is _ f.data _ hl HR.out).mono ?_
  rintro e w2 ⟨v2, rfl, hr2, hg2, hb2⟩
  have HR2 := Lib.hid hr2
  have HB2 := Lib.hid (And.intro hg2 hb2)
  clear hr2 hg2 hb2
  go_wp2_with fail
  go_ret2
  exact ⟨v2, rfl, HR2.out, HB2.out.1, HB2.out.2⟩
end Go.Proofs.YtjaojenalodolaaGreatDoor.Vf
/- operate. -/
namespace Go.Proofs.YtjaojenalodolaaGreatDoor.Vf
open Go Go.RowKit Go.Maps Go.Proofs.YtjaojenalodolaaGreatDoor Go.Proofs.YtjaojenalodolaaGreatDoor.Bs
set_option linter.unusedVariables false
set_option maxRecDepth 100000 in
set_option maxHeartbeats 4000000 in
theorem operate_down (B : Nat) (o : Loc) (s : St) (p q : Value) (W : World) (h : Is W B o s) (hd : s.down = true) :
    Calls Tryz.prog 90 #[.pointer (some ⟨o.F, 0, none⟩), p, q] W fun e w' => e = .returned (.int .i64 24) ∧ w' = W := by
  obtain ⟨-, -, c4, -⟩ := fs_flags h.fs
  rw [hd] at c4
  clear h
  go_enter Tryz.func90, Tryz.ntmps90
  go_wp2_with fail
  go_ret
  exact ⟨rfl, rfl⟩
set_option maxRecDepth 100000 in
set_option maxHeartbeats 4000000 in
theorem plain_write (B : Nat) (o : Loc) (s : St) (x1 x2 x3 q : Value) (W : World) (Q : Int → World → Prop) (h : Is W B o s) (hd : s.down = false) (ha : s.armed = false)
    (hp : Calls Tryz.prog 132 #[x1, x2, x3] W fun e w' => ∃ r, e = .returned (.int .i64 r) ∧ Q r w') :
    Calls Tryz.prog 90 #[.pointer (some ⟨o.F, 0, none⟩), .func (.func 132) #[] #[x1, x2, x3], q] W fun e w' => ∃ r, e = .returned (.int .i64 r) ∧ Q r w' := by
  obtain ⟨-, -, c4, c5, -⟩ := fs_flags h.fs
  rw [hd] at c4
  rw [ha] at c5
  clear h
  have HP := Lib.hid hp
  clear hp
  go_enter Tryz.func90, Tryz.ntmps90
  go_wp2_with fail
  refine HP.out.mono ?_
  rintro e w1 ⟨r, rfl, hQ⟩
  have HQ := Lib.hid hQ
  clear hQ
  go_wp2_with fail
  go_ret
  exact ⟨r, rfl, HQ.out⟩
set_option maxRecDepth 100000 in
set_option maxHeartbeats 4000000 in
theorem plain_sync (B : Nat) (o : Loc) (s : St) (x1 x2 q : Value) (W : World) (Q : Int → World → Prop) (h : Is W B o s) (hd : s.down = false) (ha : s.armed = false)
    (hp : Calls Tryz.prog 135 #[x1, x2] W fun e w' => ∃ r, e = .returned (.int .i64 r) ∧ Q r w') :
    Calls Tryz.prog 90 #[.pointer (some ⟨o.F, 0, none⟩), .func (.func 135) #[] #[x1, x2], q] W fun e w' => ∃ r, e = .returned (.int .i64 r) ∧ Q r w' := by
  obtain ⟨-, -, c4, c5, -⟩ := fs_flags h.fs
  rw [hd] at c4
  rw [ha] at c5
  clear h
  have HP := Lib.hid hp
  clear hp
  go_enter Tryz.func90, Tryz.ntmps90
  go_wp2_with fail
  refine HP.out.mono ?_
  rintro e w1 ⟨r, rfl, hQ⟩
  have HQ := Lib.hid hQ
  clear hQ
  go_wp2_with fail
  go_ret
  exact ⟨r, rfl, HQ.out⟩
set_option maxRecDepth 100000 in
set_option maxHeartbeats 4000000 in
theorem plain_syncdir (B : Nat) (o : Loc) (s : St) (x1 q : Value) (W : World) (Q : Int → World → Prop) (h : Is W B o s) (hd : s.down = false) (ha : s.armed = false)
    (hp : Calls Tryz.prog 93 #[x1] W fun e w' => ∃ r, e = .returned (.int .i64 r) ∧ Q r w') :
    Calls Tryz.prog 90 #[.pointer (some ⟨o.F, 0, none⟩), .func (.func 93) #[] #[x1], q] W fun e w' => ∃ r, e = .returned (.int .i64 r) ∧ Q r w' := by
  obtain ⟨-, -, c4, c5, -⟩ := fs_flags h.fs
  rw [hd] at c4
  rw [ha] at c5
  clear h
  have HP := Lib.hid hp
  clear hp
  go_enter Tryz.func90, Tryz.ntmps90
  go_wp2_with fail
  refine HP.out.mono ?_
  rintro e w1 ⟨r, rfl, hQ⟩
  have HQ := Lib.hid hQ
  clear hQ
  go_wp2_with fail
  go_ret
  exact ⟨r, rfl, HQ.out⟩
set_option maxRecDepth 100000 in
set_option maxHeartbeats 4000000 in
theorem plain_rename (B : Nat) (o : Loc) (s : St) (x1 x2 x3 q : Value) (W : World) (Q : Int → World → Prop) (h : Is W B o s) (hd : s.down = false) (ha : s.armed = false)
    (hp : Calls Tryz.prog 136 #[x1, x2, x3] W fun e w' => ∃ r, e = .returned (.int .i64 r) ∧ Q r w') :
    Calls Tryz.prog 90 #[.pointer (some ⟨o.F, 0, none⟩), .func (.func 136) #[] #[x1, x2, x3], q] W fun e w' => ∃ r, e = .returned (.int .i64 r) ∧ Q r w' := by
  obtain ⟨-, -, c4, c5, -⟩ := fs_flags h.fs
  rw [hd] at c4
  rw [ha] at c5
  clear h
  have HP := Lib.hid hp
  clear hp
  go_enter Tryz.func90, Tryz.ntmps90
  go_wp2_with fail
  refine HP.out.mono ?_
  rintro e w1 ⟨r, rfl, hQ⟩
  have HQ := Lib.hid hQ
  clear hQ
  go_wp2_with fail
  go_ret
  exact ⟨r, rfl, HQ.out⟩
end Go.Proofs.YtjaojenalodolaaGreatDoor.Vf
/- The closures' bodies: Sync. -/
namespace Go.Proofs.YtjaojenalodolaaGreatDoor.Vf
open Go Go.RowKit Go.Maps Go.Proofs.YtjaojenalodolaaGreatDoor Go.Proofs.YtjaojenalodolaaGreatDoor.Bs
set_option linter.unusedVariables false
set_option maxRecDepth 100000 in
set_option maxHeartbeats 4000000 in
theorem sync1_none (B F p q : Nat) (o : Loc) (s : St) (k : ByteArray) (W : World) (h : Is W B o s) (hF : o.F = F) (hp : W.cell? ⟨p, 0, none⟩ = some (.pointer (some ⟨F, 0, none⟩))) (hq : W.cell? ⟨q, 0, none⟩ = some (.string k)) (hk : k.size ≤ 1000000) (hf : findS s.names k.data.toList = none) :
    Calls Tryz.prog 135 #[.pointer (some ⟨p, 0, none⟩), .pointer (some ⟨q, 0, none⟩)] W fun e w' => e = .returned (.int .i64 23) ∧ ∃ n, w' = W.drewN n := by
  have h0 := fs_at0 h.fs
  rw [hF] at h0
  have HN := Lib.hid h.names
  have cL := fun n => lookup_is F 0 o.nb k s.names (W.drewN n) hk (by exact h0) (HN.out.of_block rfl)
  rw [hf] at cL
  have CL := Lib.hid cL
  clear h hf cL
  go_enter Tryz.func135, Tryz.ntmps135
  go_wp2_with fail
  go_quiet ((exact Calls.quiet_of_same (CL.out _)))
  go_wp2_with fail
  go_ret
  exact ⟨rfl, nq, rfl⟩
def turnFile (fs : List Fl) (b : Nat) (g : Fl → Fl) : List Fl := fs.map fun f => if f.blk = b then g f else f
theorem Is.turned {w w' : World} {B b : Nat} {o : Loc} {s : St} {g : Fl → Fl} (h : Is w B o s) (hg : ∀ f, (g f).blk = f.blk) (f : Fl) (hf : f ∈ s.files) (hb : f.blk = b) (K : ∀ k, k ≠ b → w'.heap[k]? = w.heap[k]?)
    (hn : ∀ f ∈ s.files, f.blk = b → FileIs o.Z w' (g f)) : Is w' B o { s with files := turnFile s.files b g } := by
  obtain ⟨dv, rv, hc, hd, hr⟩ := h.each f hf
  rw [hb] at hc
  have KC : ∀ k cur t fr, w.heap[k]? = some (Obj.cells cur t fr) → t ≠ 76 → w'.heap[k]? = w.heap[k]? := fun k cur t fr hk ht => K k (ne_of hk hc ht)
  have KM : ∀ d m, Dir w d m → w'.heap[d]? = w.heap[d]? := fun d m hd => K d (fun e => hd.neB hc e.symm)
  have hbl : (turnFile s.files b g).map (·.blk) = s.files.map (·.blk) := by
    unfold turnFile
    rw [List.map_map]
    apply List.map_congr_left
    intro x _
    simp only [Function.comp]
    split
    · exact hg x
    · rfl
  have hE : ∀ x ∈ turnFile s.files b g, FileIs o.Z w' x := by
    intro x hx
    unfold turnFile at hx
    obtain ⟨g0, hg0, rfl⟩ := List.mem_map.1 hx
    by_cases e : g0.blk = b
    · rw [if_pos e]; exact hn g0 hg0 e
    · rw [if_neg e]
      exact (h.each g0 hg0).kept (K _ e) (fun k cur fr hk => KC _ _ _ _ hk (by decide))
  exact
    { fs := by rw [KC _ _ _ _ h.fs (by decide)]; exact h.fs
      names := h.names.of_block (KM _ _ h.names)
      dur := h.dur.of_block (KM _ _ h.dur)
      nd := h.nd
      files := by
        have e1 : (turnFile s.files b g).length = s.files.length := by simp [turnFile]
        have e2 : (turnFile s.files b g).map (fun f => fptr f.blk) = s.files.map fun f => fptr f.blk := by
          have := congrArg (List.map fptr) hbl
          rw [List.map_map, List.map_map] at this
          exact this
        show World.ownsRow _ _ _ _ _ (turnFile s.files b g).length ((turnFile s.files b g).map fun f => fptr f.blk)
        rw [e1, e2]
        exact own_kept h.files fun k hk => by obtain ⟨cur, hc2⟩ := own_block h.files hk; exact KC _ _ _ _ hc2 (by decide)
      pend := own_kept h.pend fun k hk => by obtain ⟨cur, hc2⟩ := own_block h.pend hk; exact KC _ _ _ _ hc2 (by decide)
      each := hE
      zl := zl_kept h.zl (fun k cur fr hk => KC _ _ _ _ hk (by decide))
      dist := by show ((turnFile s.files b g).map (·.blk)).Nodup; rw [hbl]; exact h.dist
      bF := h.bF
      bn := h.bn
      bd := h.bd
      bf := fun x hx => by
        have hm : x.blk ∈ (turnFile s.files b g).map (·.blk) := List.mem_map_of_mem hx
        rw [hbl] at hm
        obtain ⟨g0, hg0, e⟩ := List.mem_map.1 hm
        rw [← e]
        exact h.bf g0 hg0 }
end Go.Proofs.YtjaojenalodolaaGreatDoor.Vf
/- Sync's closure where the name is there. -/
namespace Go.Proofs.YtjaojenalodolaaGreatDoor.Vf
open Go Go.RowKit Go.Maps Go.Proofs.YtjaojenalodolaaGreatDoor Go.Proofs.YtjaojenalodolaaGreatDoor.Bs
set_option linter.unusedVariables false
theorem Is.drewN {w : World} {B : Nat} {o : Loc} {s : St} (h : Is w B o s) (n : Nat) : Is (w.drewN n) B o s := h.kept (fun _ _ => rfl) (fun _ _ _ _ => rfl)
set_option maxRecDepth 100000 in
set_option maxHeartbeats 4000000 in
theorem sync1_some (B b F p q : Nat) (o : Loc) (s : St) (k : ByteArray) (f : Fl) (W : World) (h : Is W B o s) (hF : o.F = F) (hp : W.cell? ⟨p, 0, none⟩ = some (.pointer (some ⟨F, 0, none⟩))) (hq : W.cell? ⟨q, 0, none⟩ = some (.string k)) (hk : k.size ≤ 1000000) (hf : findS s.names k.data.toList = some b) (hm : f ∈ s.files) (hb : f.blk = b) :
    Calls Tryz.prog 135 #[.pointer (some ⟨p, 0, none⟩), .pointer (some ⟨q, 0, none⟩)] W fun e w' => e = .returned (.int .i64 0) ∧ Is w' B o { s with files := turnFile s.files b fun x => { x with dur := x.data, synced := true } } ∧ Fr W w' (foot o s) := by
  have h0 := fs_at0 h.fs
  rw [hF] at h0
  have HN := Lib.hid h.names
  have HI := Lib.hid h
  have cL := fun n => lookup_is F 0 o.nb k s.names (W.drewN n) hk (by exact h0) (HN.out.of_block rfl)
  rw [hf] at cL
  have CL := Lib.hid cL
  clear h hf cL
  go_enter Tryz.func135, Tryz.ntmps135
  go_wp2_with fail
  go_quiet ((exact Calls.quiet_of_same (CL.out _)))
  simp only [fptrO, fptr, Option.isSome_some]
  have HI2 := Lib.hid (HI.out.drewN nq)
  have HB0 := Lib.hid (show Fr W (W.drewN nq) (foot o s) from ⟨rfl, rfl, rfl, Nat.le_refl _, fun _ _ _ => rfl⟩)
  generalize W.drewN nq = w1 at HI2 HB0 ⊢
  obtain ⟨dv, rv, hc, hd, hr⟩ := HI2.out.each f hm
  rw [hb] at hc
  obtain ⟨c0, c1, c2, cf⟩ := file_cells hc
  have f1 := cf 1
  have f2 := cf 2
  obtain ⟨a1, n1, p1, hdv⟩ := hd.1.slice
  subst hdv
  have HC := Lib.hid hc
  have HD := Lib.hid hd
  clear hc hd hr cf hp hq h0
  go_wp2_with fail
  go_ret
  refine ⟨rfl, ?_, ?_⟩
  · have h1 := heap_setCell_same w1 b 1 _ _ (.slice a1 n1 p1) HC.out
    have h2 := heap_setCell_same _ b 2 _ _ (.bool true) h1
    have K : ∀ k, k ≠ b → ((w1.setCell ⟨b, 1, none⟩ (.slice a1 n1 p1)).setCell ⟨b, 2, none⟩ (.bool true)).heap[k]? = w1.heap[k]? := fun k hk => by
      rw [heap_setCell_other _ _ _ _ hk, heap_setCell_other _ _ _ _ hk]
    refine HI2.out.turned (fun _ => rfl) f hm hb K ?_
    intro g hg hgb
    obtain ⟨dv0, rv0, hc0, hd0, hr0⟩ := HI2.out.each g hg
    rw [hgb, HC.out] at hc0
    have e3 : #[Value.slice a1 n1 p1, rv, Value.bool f.synced] = #[dv0, rv0, Value.bool g.synced] := by injection hc0 with hc0; injection hc0
    have e4 : Value.slice a1 n1 p1 = dv0 := by
      have := congrArg (fun a : Array Value => a[0]?) e3
      simpa using this
    subst e4
    have hk2 := hd0.kept (w' := (w1.setCell ⟨b, 1, none⟩ (.slice a1 n1 p1)).setCell ⟨b, 2, none⟩ (.bool true)) (fun k cur fr hk => K k (ne_of hk HC.out (by decide)))
    refine ⟨_, _, ?_, hk2, hk2⟩
    simp only [hgb]
    rw [h2]
    rfl
  · exact (HB0.out.trans (Fr.set w1 ⟨b, 1, none⟩ (.slice a1 n1 p1) (foot o s) (.inr (.inr (.inr (.inr (.inr ⟨f, hm, hb⟩)))))) (fun _ _ e => e)).trans (Fr.set _ ⟨b, 2, none⟩ (.bool true) (foot o s) (.inr (.inr (.inr (.inr (.inr ⟨f, hm, hb⟩)))))) (fun _ _ e => e)
end Go.Proofs.YtjaojenalodolaaGreatDoor.Vf
/- Remove's closure. -/
namespace Go.Proofs.YtjaojenalodolaaGreatDoor.Vf
open Go Go.RowKit Go.Maps Go.Proofs.YtjaojenalodolaaGreatDoor Go.Proofs.YtjaojenalodolaaGreatDoor.Bs
set_option linter.unusedVariables false
end Go.Proofs.YtjaojenalodolaaGreatDoor.Vf
/- Rename's closure. -/
namespace Go.Proofs.YtjaojenalodolaaGreatDoor.Vf
open Go Go.RowKit Go.Maps Go.Proofs.YtjaojenalodolaaGreatDoor Go.Proofs.YtjaojenalodolaaGreatDoor.Bs
set_option linter.unusedVariables false
set_option maxRecDepth 100000 in
set_option maxHeartbeats 4000000 in
theorem rename1_none (B b F p q r : Nat) (o : Loc) (s : St) (k t : ByteArray) (W : World) (h : Is W B o s) (hF : o.F = F) (hp : W.cell? ⟨p, 0, none⟩ = some (.pointer (some ⟨F, 0, none⟩))) (hq : W.cell? ⟨q, 0, none⟩ = some (.string k)) (hr : W.cell? ⟨r, 0, none⟩ = some (.string t)) (hk : k.size ≤ 1000000) (hf : findS s.names k.data.toList = none) :
    Calls Tryz.prog 136 #[.pointer (some ⟨p, 0, none⟩), .pointer (some ⟨q, 0, none⟩), .pointer (some ⟨r, 0, none⟩)] W fun e w' => e = .returned (.int .i64 23) ∧ ∃ n, w' = W.drewN n := by
  have h0 := fs_at0 h.fs
  rw [hF] at h0
  have HN := Lib.hid h.names
  have HI := Lib.hid h
  have cL := fun n => lookup_is F 0 o.nb k s.names (W.drewN n) hk (by exact h0) (HN.out.of_block rfl)
  rw [hf] at cL
  have CL := Lib.hid cL
  clear h hf cL
  go_enter Tryz.func136, Tryz.ntmps136
  go_wp2_with fail
  go_quiet ((exact Calls.quiet_of_same (CL.out _)))
  simp only [fptrO, Option.isSome_none]
  go_wp2_with fail
  go_ret
  exact ⟨rfl, nq, rfl⟩
set_option maxRecDepth 100000 in
set_option maxHeartbeats 4000000 in
theorem rename1_empty (B b F p q r : Nat) (o : Loc) (s : St) (k t : ByteArray) (W : World) (h : Is W B o s) (hF : o.F = F) (hp : W.cell? ⟨p, 0, none⟩ = some (.pointer (some ⟨F, 0, none⟩))) (hq : W.cell? ⟨q, 0, none⟩ = some (.string k)) (hr : W.cell? ⟨r, 0, none⟩ = some (.string t)) (hk : k.size ≤ 1000000) (hf : findS s.names k.data.toList = some b) (t0 : t.toList.isEmpty = true) :
    Calls Tryz.prog 136 #[.pointer (some ⟨p, 0, none⟩), .pointer (some ⟨q, 0, none⟩), .pointer (some ⟨r, 0, none⟩)] W fun e w' => e = .returned (.int .i64 2) ∧ ∃ n, w' = W.drewN n := by
  have h0 := fs_at0 h.fs
  rw [hF] at h0
  have HN := Lib.hid h.names
  have HI := Lib.hid h
  have cL := fun n => lookup_is F 0 o.nb k s.names (W.drewN n) hk (by exact h0) (HN.out.of_block rfl)
  rw [hf] at cL
  have CL := Lib.hid cL
  clear h hf cL
  go_enter Tryz.func136, Tryz.ntmps136
  go_wp2_with fail
  go_quiet ((exact Calls.quiet_of_same (CL.out _)))
  simp only [fptrO, fptr, Option.isSome_some]
  go_wp2_with fail
  go_ret
  exact ⟨rfl, nq, rfl⟩
set_option maxRecDepth 100000 in
set_option maxHeartbeats 4000000 in
theorem rename1_same (B b F p q r : Nat) (o : Loc) (s : St) (k t : ByteArray) (W : World) (h : Is W B o s) (hF : o.F = F) (hp : W.cell? ⟨p, 0, none⟩ = some (.pointer (some ⟨F, 0, none⟩))) (hq : W.cell? ⟨q, 0, none⟩ = some (.string k)) (hr : W.cell? ⟨r, 0, none⟩ = some (.string t)) (hk : k.size ≤ 1000000) (hf : findS s.names k.data.toList = some b) (t0 : t.toList.isEmpty = false) (tk : (k.toList == t.toList) = true) :
    Calls Tryz.prog 136 #[.pointer (some ⟨p, 0, none⟩), .pointer (some ⟨q, 0, none⟩), .pointer (some ⟨r, 0, none⟩)] W fun e w' => e = .returned (.int .i64 0) ∧ ∃ n, w' = W.drewN n := by
  have h0 := fs_at0 h.fs
  rw [hF] at h0
  have HN := Lib.hid h.names
  have HI := Lib.hid h
  have cL := fun n => lookup_is F 0 o.nb k s.names (W.drewN n) hk (by exact h0) (HN.out.of_block rfl)
  rw [hf] at cL
  have CL := Lib.hid cL
  clear h hf cL
  go_enter Tryz.func136, Tryz.ntmps136
  go_wp2_with fail
  go_quiet ((exact Calls.quiet_of_same (CL.out _)))
  simp only [fptrO, fptr, Option.isSome_some]
  go_wp2_with fail
  go_ret
  exact ⟨rfl, nq, rfl⟩
set_option maxRecDepth 100000 in
set_option maxHeartbeats 4000000 in
theorem rename1_some (B b F p q r : Nat) (o : Loc) (s : St) (k t : ByteArray) (W : World) (h : Is W B o s) (hF : o.F = F) (hp : W.cell? ⟨p, 0, none⟩ = some (.pointer (some ⟨F, 0, none⟩))) (hq : W.cell? ⟨q, 0, none⟩ = some (.string k)) (hr : W.cell? ⟨r, 0, none⟩ = some (.string t)) (hk : k.size ≤ 1000000) (ht : t.size ≤ 1000000) (hf : findS s.names k.data.toList = some b) (t0 : t.toList.isEmpty = false) (tk : (k.toList == t.toList) = false) (hn : s.names.length ≤ 1000000) (hpl : s.pend.length ≤ 1000000) :
    Calls Tryz.prog 136 #[.pointer (some ⟨p, 0, none⟩), .pointer (some ⟨q, 0, none⟩), .pointer (some ⟨r, 0, none⟩)] W fun e w' => e = .returned (.int .i64 0) ∧ ∃ ps', Is w' B { o with ps := ps' } { s with names := applyS s.names k t b, pend := s.pend ++ [⟨k, t, some b⟩] } ∧ Fr W w' (foot o s) ∧ (∀ g, ps'.ownBlock = some g → o.ps.ownBlock = some g ∨ W.heap.size ≤ g) := by
  have h0 := fs_at0 h.fs
  rw [hF] at h0
  have HN := Lib.hid h.names
  have HI := Lib.hid h
  have cL := fun n => lookup_is F 0 o.nb k s.names (W.drewN n) hk (by exact h0) (HN.out.of_block rfl)
  rw [hf] at cL
  have CL := Lib.hid cL
  have cR := fun n => record_is B b o s ⟨k, t, some b⟩ (W.drewN n) (HI.out.drewN n) hk ht hn hpl (fun _ => rfl)
  rw [hF] at cR
  have CR := Lib.hid cR
  clear cR
  clear h hf cL
  go_enter Tryz.func136, Tryz.ntmps136
  go_wp2_with fail
  go_quiet ((exact Calls.quiet_of_same (CL.out _)))
  simp only [fptrO, fptr, Option.isSome_some]
  go_wp2_with fail
  refine (CR.out nq).mono ?_
  rintro e w2 ⟨rfl, ps', hi, hfr, hg⟩
  have H2 := Lib.hid (And.intro hi (And.intro hfr hg))
  clear hi hfr hg
  go_wp2_with fail
  go_ret
  have hi2 := H2.out.1
  subst hF
  exact ⟨rfl, ps', hi2, ⟨H2.out.2.1.os, H2.out.2.1.tape, H2.out.2.1.output, H2.out.2.1.size, H2.out.2.1.block⟩, H2.out.2.2⟩
end Go.Proofs.YtjaojenalodolaaGreatDoor.Vf
/- SyncDir's closure. -/
namespace Go.Proofs.YtjaojenalodolaaGreatDoor.Vf
open Go Go.RowKit Go.Maps Go.Proofs.YtjaojenalodolaaGreatDoor Go.Proofs.YtjaojenalodolaaGreatDoor.Bs
set_option linter.unusedVariables false
theorem mclone_is (b : Nat) (es : Array MapEntry) (ck : Nat) (w : World) (h : w.heap[b]? = some (.map es ck)) :
    Calls Tryz.prog 23 #[.map (some b)] w fun e w' => e = .returned (.map (some w.heap.size)) ∧ w' = w.alloc (.map es ck) := AnyW.maps_Clone Tryz.clone23 b es ck w h
theorem Is.synced {w : World} {B : Nat} {o : Loc} {s : St} (h : Is w B o s) (es : Array MapEntry) (ck : Nat) (hm : w.heap[o.nb]? = some (.map es ck)) (hB : B ≤ w.heap.size) :
    Is (((w.alloc (.map es ck)).setCell ⟨o.F, 1, none⟩ (.map (some w.heap.size))).setCell ⟨o.F, 3, none⟩ (.slice none 0 0)) B { o with db := w.heap.size, ps := .slice none 0 0 } { s with dur := s.names, pend := [] } := by
  have hF := lt_of_heap h.fs
  have hF0 : (w.alloc (.map es ck)).heap[o.F]? = some (Obj.cells (fsCells o s) 68 (0, 0)) := by rw [old_block _ _ _ hF]; exact h.fs
  have h1 := heap_setCell_same _ o.F 1 _ _ (.map (some w.heap.size)) hF0
  have h2 := heap_setCell_same _ o.F 3 _ _ (.slice none 0 0) h1
  have K : ∀ k, k < w.heap.size → k ≠ o.F → (((w.alloc (.map es ck)).setCell ⟨o.F, 1, none⟩ (.map (some w.heap.size))).setCell ⟨o.F, 3, none⟩ (.slice none 0 0)).heap[k]? = w.heap[k]? := fun k hk hn => by
    rw [heap_setCell_other _ _ _ _ hn, heap_setCell_other _ _ _ _ hn, old_block _ _ _ hk]
  have KC : ∀ k cur t fr, w.heap[k]? = some (Obj.cells cur t fr) → t ≠ 68 → (((w.alloc (.map es ck)).setCell ⟨o.F, 1, none⟩ (.map (some w.heap.size))).setCell ⟨o.F, 3, none⟩ (.slice none 0 0)).heap[k]? = w.heap[k]? := fun k cur t fr hk ht => K k (lt_of_heap hk) (ne_of hk h.fs ht)
  have KN := K o.nb h.names.lt (fun e => h.names.neB h.fs e.symm)
  have hD : Dir (((w.alloc (.map es ck)).setCell ⟨o.F, 1, none⟩ (.map (some w.heap.size))).setCell ⟨o.F, 3, none⟩ (.slice none 0 0)) w.heap.size s.names := by
    obtain ⟨n, es', ck', hh, r⟩ := h.names
    rw [hm] at hh
    simp only [Option.some.injEq, Obj.map.injEq] at hh
    obtain ⟨rfl, rfl⟩ := hh
    refine ⟨n, es, ck, ?_, r⟩
    have hn : w.heap.size ≠ o.F := by omega
    rw [heap_setCell_other _ _ _ _ hn, heap_setCell_other _ _ _ _ hn]
    exact new_block w _
  exact
    { fs := by rw [h2]; rfl
      names := h.names.of_block KN
      dur := hD
      nd := by have := h.names.lt; show o.nb ≠ w.heap.size; omega
      files := own_kept h.files fun k hk => by obtain ⟨cur, hc⟩ := own_block h.files hk; exact KC _ _ _ _ hc (by decide)
      pend := ⟨rfl, .inl ⟨rfl, rfl⟩⟩
      each := fun f hf => (h.each f hf).kept (by obtain ⟨dv, rv, h1, _⟩ := h.each f hf; exact KC _ _ _ _ h1 (by decide)) (fun k cur fr hc => KC _ _ _ _ hc (by decide))
      zl := zl_kept h.zl (fun k cur fr hc => KC _ _ _ _ hc (by decide))
      dist := h.dist
      bF := h.bF
      bn := h.bn
      bd := hB
      bf := h.bf }
end Go.Proofs.YtjaojenalodolaaGreatDoor.Vf
/- SyncDir's closure. -/
namespace Go.Proofs.YtjaojenalodolaaGreatDoor.Vf
open Go Go.RowKit Go.Maps Go.Proofs.YtjaojenalodolaaGreatDoor Go.Proofs.YtjaojenalodolaaGreatDoor.Bs
set_option linter.unusedVariables false
attribute [local go_sem ↓] Go.wp_at_zero Go.wp_at_succ
set_option maxRecDepth 100000 in
set_option maxHeartbeats 4000000 in
theorem syncdir1_walk (F p nb : Nat) (W : World) (x1 x3 : Value) (es : Array MapEntry) (ck : Nat) (hp : W.cell? ⟨p, 0, none⟩ = some (.pointer (some ⟨F, 0, none⟩))) (h0 : W.cell? ⟨F, 0, none⟩ = some (.map (some nb))) (h1 : W.cell? ⟨F, 1, none⟩ = some x1) (h3 : W.cell? ⟨F, 3, none⟩ = some x3) (f1 : W.frozen? ⟨F, 1, none⟩ = false) (f3 : W.frozen? ⟨F, 3, none⟩ = false) (hm : W.heap[nb]? = some (.map es ck)) :
    Calls Tryz.prog 93 #[.pointer (some ⟨p, 0, none⟩)] W fun e w' => e = .returned (.int .i64 0) ∧ w' = ((W.drew.alloc (.map es ck)).setCell ⟨F, 1, none⟩ (.map (some W.heap.size))).setCell ⟨F, 3, none⟩ (.slice none 0 0) := by
  have cC : Calls Tryz.prog 23 #[.map (some nb)] W.drew fun e w' => e = .returned (.map (some W.heap.size)) ∧ w'.cell? ⟨p, 0, none⟩ = some (.pointer (some ⟨F, 0, none⟩)) ∧ w'.cell? ⟨F, 0, none⟩ = some (.map (some nb)) ∧ w'.cell? ⟨F, 1, none⟩ = some x1 ∧ w'.cell? ⟨F, 3, none⟩ = some x3 ∧ w'.frozen? ⟨F, 1, none⟩ = false ∧ w'.frozen? ⟨F, 3, none⟩ = false ∧ Hid (w' = W.drew.alloc (.map es ck)) := by
    refine (mclone_is nb es ck W.drew hm).mono ?_
    rintro e w' ⟨rfl, rfl⟩
    have hb := old_block W.drew (.map es ck) F (lt_of_cell h1)
    have hb2 := old_block W.drew (.map es ck) p (lt_of_cell hp)
    refine ⟨rfl, ?_, ?_, ?_, ?_, ?_, ?_, rfl⟩
    · unfold World.cell? at hp ⊢; rw [hb2]; exact hp
    · unfold World.cell? at h0 ⊢; rw [hb]; exact h0
    · unfold World.cell? at h1 ⊢; rw [hb]; exact h1
    · unfold World.cell? at h3 ⊢; rw [hb]; exact h3
    · unfold World.frozen? at f1 ⊢; rw [hb]; exact f1
    · unfold World.frozen? at f3 ⊢; rw [hb]; exact f3
  have CC := Lib.hid cC
  clear cC hm
  go_enter Tryz.func93, Tryz.ntmps93
  go_wp2_with fail
  go_region_held3 (fun w' => w'.cell? ⟨p, 0, none⟩ = some (.pointer (some ⟨F, 0, none⟩)) ∧ w'.cell? ⟨F, 0, none⟩ = some (.map (some nb))) (first | go_keep | ((try dsimp only); refine ⟨?_, ?_⟩ <;> (first | exact (World.cell?_setCell_other _ _ _ _ (by simp)).trans (by assumption) | exact (World.cell?_setCell_other _ _ _ _ (by simp)).trans ((World.cell?_setCell_other _ _ _ _ (by simp)).trans (by assumption)))))
    (first
      | (go_at_call 23; refine CC.out.mono ?_; rintro e w2 ⟨rfl, q1, q2, q3, q4, q5, q6, HW⟩; clear h0 h1 h3 f1 f3))
  all_goals go_wp2_with fail
  all_goals go_ret
  all_goals exact ⟨rfl, by rw [HW.out]⟩
end Go.Proofs.YtjaojenalodolaaGreatDoor.Vf
/- put where the name is not there. -/
namespace Go.Proofs.YtjaojenalodolaaGreatDoor.Vf
open Go Go.RowKit Go.Maps Go.Proofs.YtjaojenalodolaaGreatDoor Go.Proofs.YtjaojenalodolaaGreatDoor.Bs
set_option linter.unusedVariables false
def Stp (B : Nat) (o : Loc) (s : St) (W : World) (R : Int → St → Prop) (e : Ending) (w' : World) : Prop :=
  ∃ r s' o', e = .returned (.int .i64 r) ∧ R r s' ∧ o'.F = o.F ∧ o'.Z = o.Z ∧ Is w' B o' s' ∧ Fr W w' (foot o s) ∧ ∀ k, foot o' s' k → foot o s k ∨ W.heap.size ≤ k
theorem infoP : (Tryz.prog.info? 69).map (fun i => (i.zero, i.size, i.bytes)) = some (some (.pointer none), 1, 8) := by kernel_rfl
theorem grow_atP {w1 w2 : World} {x y : Obj} {row : Option Nat} {F : Nat} (h : (w1.alloc x).grownBy w2 row) (hc : w1.heap[F]? = some y) (hne : row ≠ some F) : w2.heap[F]? = some y := by
  have hlt := lt_of_heap hc
  have hc2 : (w1.alloc x).heap[F]? = some y := by rw [old_block w1 x F hlt]; exact hc
  rw [h.block F (lt_of_heap hc2) (fun e => hne e.symm)]
  exact hc2
theorem Is.filed {w1 w2 : World} {x : Obj} {B g cap b : Nat} {o : Loc} {s : St} (h : Is w1 B o s) (hbB : B ≤ b) (hb : w1.heap[b]? = some (Obj.cells #[.slice none 0 0, .slice none 0 0, .bool false] 76 (0, 0))) (hn : ∀ f ∈ s.files, f.blk ≠ b) (hg : (w1.alloc x).grownBy w2 o.fs.ownBlock)
    (ho : w2.ownsRow B 69 1 (.slice (some ⟨g, 0, none⟩) (s.files.length + 1) cap) (s.files.length + 1) (s.files.map (fun f => fptr f.blk) ++ [fptr b])) :
    Is (w2.setCell ⟨o.F, 2, none⟩ (.slice (some ⟨g, 0, none⟩) (s.files.length + 1) cap)) B { o with fs := .slice (some ⟨g, 0, none⟩) (s.files.length + 1) cap } { s with files := s.files ++ [⟨b, [], [], false⟩] } := by
  have K : ∀ k y, w1.heap[k]? = some y → o.fs.ownBlock ≠ some k → k ≠ o.F → (w2.setCell ⟨o.F, 2, none⟩ (.slice (some ⟨g, 0, none⟩) (s.files.length + 1) cap)).heap[k]? = some y := fun k y hy hne hF => by
    rw [heap_setCell_other _ _ _ _ hF]; exact grow_atP hg hy hne
  have KC : ∀ k cur t fr, w1.heap[k]? = some (Obj.cells cur t fr) → t ≠ 69 → t ≠ 68 → (w2.setCell ⟨o.F, 2, none⟩ (.slice (some ⟨g, 0, none⟩) (s.files.length + 1) cap)).heap[k]? = w1.heap[k]? := fun k cur t fr hy h1 h2 => by
    rw [hy]; exact K k _ hy (own_ne h.files hy h1) (ne_of hy h.fs h2)
  have KM : ∀ b m, Dir w1 b m → (w2.setCell ⟨o.F, 2, none⟩ (.slice (some ⟨g, 0, none⟩) (s.files.length + 1) cap)).heap[b]? = w1.heap[b]? := fun b m hd => by
    obtain ⟨es, ck, hb⟩ := hd.block
    rw [hb]
    exact K b _ hb (fun e => by obtain ⟨cur, hc⟩ := own_block h.files e; rw [hb] at hc; simp at hc) (fun e => hd.neB h.fs e.symm)
  have hF2 := grow_atP hg h.fs (own_ne h.files h.fs (by decide))
  exact
    { fs := by rw [heap_setCell_same _ _ _ _ _ _ hF2]; rfl
      names := h.names.of_block (KM _ _ h.names)
      dur := h.dur.of_block (KM _ _ h.dur)
      nd := h.nd
      pend := own_kept h.pend fun k hk => by obtain ⟨cur, hc⟩ := own_block h.pend hk; exact KC _ _ _ _ hc (by decide) (by decide)
      files := by
        have e1 : (s.files ++ [(⟨b, [], [], false⟩ : Fl)]).length = s.files.length + 1 := by simp
        have e2 : (s.files ++ [(⟨b, [], [], false⟩ : Fl)]).map (fun f => fptr f.blk) = s.files.map (fun f => fptr f.blk) ++ [fptr b] := by simp
        show World.ownsRow _ _ _ _ _ (s.files ++ [(⟨b, [], [], false⟩ : Fl)]).length ((s.files ++ [(⟨b, [], [], false⟩ : Fl)]).map fun f => fptr f.blk)
        rw [e1, e2]
        refine own_kept ho fun k hk => ?_
        obtain ⟨cur, hc⟩ := own_block ho hk
        exact heap_setCell_other _ _ _ _ (ne_of hc hF2 (by decide))
      each := fun f hf => by
        rcases List.mem_append.1 hf with hf | hf
        · exact (h.each f hf).kept (by obtain ⟨dv, rv, h1, _⟩ := h.each f hf; exact KC _ _ _ _ h1 (by decide) (by decide)) (fun k cur fr hc => KC _ _ _ _ hc (by decide) (by decide))
        · obtain rfl := List.mem_singleton.1 hf
          exact ⟨.slice none 0 0, .slice none 0 0, (KC _ _ _ _ hb (by decide) (by decide)).trans hb, ⟨.inl ⟨rfl, rfl⟩, fun g hg => by simp [Value.ownBlock] at hg⟩, ⟨.inl ⟨rfl, rfl⟩, fun g hg => by simp [Value.ownBlock] at hg⟩⟩
      zl := zl_kept h.zl (fun k cur fr hc => KC k cur _ fr hc (by decide) (by decide))
      dist := by
        show ((s.files ++ [(⟨b, [], [], false⟩ : Fl)]).map (·.blk)).Nodup
        rw [List.map_append, List.nodup_append]
        refine ⟨h.dist, by simp, ?_⟩
        intro a ha c hc
        simp only [List.map_cons, List.map_nil, List.mem_singleton] at hc
        subst hc
        obtain ⟨f, hf, rfl⟩ := List.mem_map.1 ha
        exact hn f hf
      bF := h.bF
      bn := h.bn
      bd := h.bd
      bf := fun f hf => by
        rcases List.mem_append.1 hf with hf | hf
        · exact h.bf f hf
        · obtain rfl := List.mem_singleton.1 hf
          exact hbB }
theorem Fr.growP {w1 w2 : World} {x : Obj} {row : Option Nat} (h : (w1.alloc x).grownBy w2 row) (p : Nat → Prop) (hp : ∀ k, row = some k → p k) : Fr w1 w2 p :=
  ⟨h.os, h.tape, h.output, Nat.le_trans (by rw [alloc_sz]; exact Nat.le_succ _) h.size, fun k hk hn => by
    have hlt : k < (w1.alloc x).heap.size := by rw [alloc_sz]; exact Nat.lt_succ_of_lt hk
    rw [h.block k hlt (fun e => hn (hp k e.symm))]
    exact old_block w1 x k hk⟩
theorem new_cellP (w : World) (xs : List Value) (j : Nat) (u : Value) (hj : xs[j]? = some u) : (w.alloc (.cells xs.toArray 69)).cell? ((⟨w.heap.size, 0, none⟩ : Addr).add j) = some u := by
  have h2 := new_block w (.cells xs.toArray 69)
  have e : ((⟨w.heap.size, 0, none⟩ : Addr).add j) = ⟨w.heap.size, j, none⟩ := by simp [Addr.add]; omega
  rw [e]
  unfold World.cell?
  simp only [h2]
  simpa using hj
theorem Is.foot_ne {w : World} {B k : Nat} {o : Loc} {s : St} (h : Is w B o s) (hk : foot o s k) (cur : Array Value) (fr : Nat × Nat) : w.heap[k]? ≠ some (Obj.cells cur 5 fr) := by
  intro hc
  rcases hk with rfl | rfl | rfl | hk | hk | ⟨f, hf, rfl⟩
  · exact ne_of hc h.fs (by decide) rfl
  · exact h.names.neB hc rfl
  · exact h.dur.neB hc rfl
  · exact own_ne h.files hc (by decide) hk
  · exact own_ne h.pend hc (by decide) hk
  · obtain ⟨dv, rv, h1, _⟩ := h.each f hf
    exact ne_of hc h1 (by decide) rfl
theorem Fr.bytes {w w' : World} {B : Nat} {o : Loc} {s : St} (g : Fr w w' (foot o s)) (h : Is w B o s) : ∀ (k : Nat) (cur : Array Value) (fr : Nat × Nat), w.heap[k]? = some (Obj.cells cur 5 fr) → w'.heap[k]? = w.heap[k]? :=
  fun k cur fr hc => g.block k (lt_of_heap hc) fun hk => h.foot_ne hk cur fr hc
def St.filed (s : St) (b : Nat) (k : ByteArray) : St := { s with files := s.files ++ [⟨b, [], [], false⟩], names := applyS s.names ⟨#[]⟩ k b, pend := s.pend ++ [⟨⟨#[]⟩, k, some b⟩] }
def St.put (s : St) (b : Nat) (l : List UInt8) : St := { s with files := setFile s.files b l }
set_option maxRecDepth 100000 in
set_option maxHeartbeats 4000000 in
theorem put_new (B : Nat) (o : Loc) (s : St) (k : ByteArray) (v : Value) (l : List UInt8) (W : World) (h : Is W B o s) (hk : k.size ≤ 1000000) (k0 : k.toList.isEmpty = false) (hl : l.length ≤ 1000000) (hv : Rd W v l) (hf : findS s.names k.data.toList = none) (hfl : s.files.length ≤ 1000000) (hn : s.names.length ≤ 1000000) (hpl : s.pend.length ≤ 1000000) :
    Calls Tryz.prog 133 #[.pointer (some ⟨o.F, 0, none⟩), .string k, v] W (Stp B o s W fun r s' => r = 0 ∧ ∃ b, (∀ f ∈ s.files, f.blk ≠ b) ∧ s' = (s.filed b k).put b l) := by
  have h0 := fs_at0 h.fs
  have HI := Lib.hid h
  have HV := Lib.hid hv
  have HF := Lib.hid hf
  obtain ⟨F, hF⟩ : ∃ F, o.F = F := ⟨_, rfl⟩
  rw [hF] at h0 ⊢
  have HS := Lib.hid hF
  have hBW := Nat.le_trans h.bF (Nat.le_of_lt (lt_of_heap h.fs))
  -- the new file's block
  have hI1 : Is (W.alloc (.cells #[.slice none 0 0, .slice none 0 0, .bool false] 76)) B o s := h.below ((Below.refl W.heap.size W).alloc (Nat.le_refl _) _)
  have hb1 := heap_alloc_new W (.cells #[.slice none 0 0, .slice none 0 0, .bool false] 76)
  obtain ⟨i0, hi, hz0, hz1, hz2⟩ := info_parts infoP
  have hne : ∀ f ∈ s.files, f.blk ≠ W.heap.size := fun f hm e => by
    obtain ⟨dv, rv, hc, _⟩ := h.each f hm
    have := lt_of_heap hc
    omega
  have HNE := Lib.hid hne
  have HI1 := Lib.hid hI1
  have HB1 := Lib.hid hb1
  have HFR1 := Lib.hid (Fr.of_below ((Below.refl W.heap.size W).alloc (Nat.le_refl _) (.cells #[.slice none 0 0, .slice none 0 0, .bool false] 76)) (foot o s))
  have hsz1 : (W.alloc (.cells #[.slice none 0 0, .slice none 0 0, .bool false] 76)).heap.size = W.heap.size + 1 := alloc_sz _ _
  have hfs1 := (fs_flags hI1.fs).2.1
  rw [hF] at hfs1
  have II := Lib.hid (And.intro hi (And.intro hz0 (And.intro hz1 hz2)))
  have HN0 := Lib.hid h.names
  clear h hv hf hne hI1 hb1 hF hi hz0 hz1 hz2
  go_enter Tryz.func133, Tryz.ntmps133
  go_wp2_with fail
  refine (lookup_is F 0 o.nb k s.names W hk h0 HN0.out).mono ?_
  rintro e w1 ⟨rfl, rfl⟩
  rw [HF.out]
  simp only [fptrO, Option.isSome_none]
  clear h0
  have hown := HI1.out.files.alloc (.cells #[fptr w1.heap.size] 69)
  have hnc : ∀ (j : Nat) (u : Value), [fptr w1.heap.size][j]? = some u → ((w1.alloc (.cells #[.slice none 0 0, .slice none 0 0, .bool false] 76)).alloc (.cells #[fptr w1.heap.size] 69)).cell? ((⟨w1.heap.size + 1, 0, none⟩ : Addr).add j) = some u := by
    rw [← hsz1]; exact new_cellP _ [fptr w1.heap.size]
  have HOW := Lib.hid (And.intro hown hnc)
  have HSZ := Lib.hid hsz1
  clear hown hnc hsz1
  go_wp2_with (at_builtin; refine wpList_append_lies _ rfl _ _ 65 rfl B 69 i0 (.pointer none) 1 8 Tryz.underlying65 II.out.1 II.out.2.1 II.out.2.2.1 II.out.2.2.2 rfl (by decide) _ _ _ rfl HOW.out.1 ⟨w1.heap.size + 1, 0, none⟩ 1 1 [fptr w1.heap.size] rfl rfl HOW.out.2 ?a1 (by decide) ?a2 ?a3 ?a4 (w1.heap.size + 2) ?a5 ?_)
  case a1 => intro u hu; obtain rfl := List.mem_singleton.1 hu; rfl
  case a2 => unfold maxLen; omega
  case a3 => omega
  case a4 => show _ ≤ (World.alloc _ _).heap.size; rw [alloc_sz, HSZ.out]; omega
  case a5 => show (World.alloc _ _).heap.size = _; rw [alloc_sz, HSZ.out]
  intro g1 cap1 w2 hown2 hgrow2 hg1 hg2
  have hne2 := own_ne HI1.out.files HI1.out.fs (by decide)
  have hfb2 := grow_atP hgrow2 HI1.out.fs hne2
  rw [HS.out] at hfb2
  obtain ⟨-, hc2, -, -, -, -, hz2⟩ := fs_flags hfb2
  have hz2 := hz2 2
  have HR := Lib.hid (HI1.out.filed hBW HB1.out HNE.out hgrow2 hown2)
  have HFR2 := Lib.hid ((HFR1.out.trans (Fr.growP hgrow2 (foot o s) (fun k e => .inr (.inr (.inr (.inl e))))) (fun _ _ e => e)).trans (Fr.set w2 ⟨o.F, 2, none⟩ (.slice (some ⟨g1, 0, none⟩) (s.files.length + 1) cap1) (foot o s) (.inl rfl)) (fun _ _ e => e))
  have HFT : Hid (∀ k', foot { o with fs := .slice (some ⟨g1, 0, none⟩) (s.files.length + 1) cap1 } { s with files := s.files ++ [⟨w1.heap.size, [], [], false⟩] } k' → foot o s k' ∨ w1.heap.size ≤ k') := by
    rintro k' (rfl | rfl | rfl | hk' | hk' | ⟨f, hf, rfl⟩)
    · exact .inl (.inl rfl)
    · exact .inl (.inr (.inl rfl))
    · exact .inl (.inr (.inr (.inl rfl)))
    · simp only [Value.ownBlock, Option.some.injEq] at hk'
      subst hk'
      rcases hg1 with e | e
      · exact .inl (.inr (.inr (.inr (.inl e))))
      · exact .inr (by omega)
    · exact .inl (.inr (.inr (.inr (.inr (.inl hk')))))
    · rcases List.mem_append.1 hf with hf | hf
      · exact .inl (.inr (.inr (.inr (.inr (.inr ⟨f, hf, rfl⟩)))))
      · obtain rfl := List.mem_singleton.1 hf
        exact .inr (Nat.le_refl _)
  have eW : w2.setCell ⟨o.F, 2, none⟩ (.slice (some ⟨g1, 0, none⟩) (s.files.length + 1) cap1) = w2.setCell ⟨F, 2, none⟩ (.slice (some ⟨g1, 0, none⟩) (s.files.length + 1) cap1) := by rw [HS.out]
  rw [eW] at HR HFR2
  clear eW
  clear hown2 hgrow2 hfb2 hne2 hg1 hg2
  go_wp2_with fail
  clear hc2 hz2
  generalize (w2.setCell ⟨F, 2, none⟩ (.slice (some ⟨g1, 0, none⟩) (s.files.length + 1) cap1)) = w3 at *
  generalize ho2 : ({ o with fs := .slice (some ⟨g1, 0, none⟩) (s.files.length + 1) cap1 } : Loc) = o2 at *
  have HO2 : Hid (o2.F = o.F ∧ o2.Z = o.Z) := by subst ho2; exact ⟨rfl, rfl⟩
  have hF2 : o2.F = F := HO2.out.1.trans HS.out
  have cR := record_is B w1.heap.size o2 { s with files := s.files ++ [⟨w1.heap.size, [], [], false⟩] } ⟨⟨#[]⟩, k, some w1.heap.size⟩ w3 HR.out (show (⟨#[]⟩ : ByteArray).size ≤ 1000000 by decide) hk hn hpl (fun _ => rfl)
  rw [hF2] at cR
  have HF2 := Lib.hid hF2
  clear ho2 hF2
  refine cR.mono ?_
  clear cR
  rintro e w4 ⟨rfl, ps', hI4, hF4, hG4⟩
  have HI4 := Lib.hid hI4
  have HF4 := Lib.hid (HFR2.out.trans hF4 (fun k' hk' e => by rcases HFT.out k' e with e | e; exact e; omega))
  have HG4 : Hid (∀ k', foot { o2 with ps := ps' } (s.filed w1.heap.size k) k' → foot o s k' ∨ w1.heap.size ≤ k') := by
    rintro k' (rfl | rfl | rfl | hk' | hk' | ⟨f, hf, rfl⟩)
    · exact HFT.out _ (.inl rfl)
    · exact HFT.out _ (.inr (.inl rfl))
    · exact HFT.out _ (.inr (.inr (.inl rfl)))
    · exact HFT.out _ (.inr (.inr (.inr (.inl hk'))))
    · rcases hG4 k' hk' with e | e
      · exact HFT.out _ (.inr (.inr (.inr (.inr (.inl e)))))
      · exact .inr (Nat.le_trans HFR2.out.size e)
    · exact HFT.out _ (.inr (.inr (.inr (.inr (.inr ⟨f, hf, rfl⟩)))))
  have HV4 := Lib.hid (HV.out.kept (HF4.out.bytes HI.out))
  clear hI4 hF4 hG4
  go_wp2_with fail
  refine (clone_is v l _ hl HV4.out).mono ?_
  rintro e w5 ⟨v5, rfl, hr5', hg5, hb5⟩
  have hr5 : Rz o2.Z w5 v5 l := ⟨hr5', fun g hg hz => by
    obtain ⟨cur, fr, hc⟩ := HI4.out.zl g hz
    have e1 := lt_of_heap hc
    have e2 := hg5 g hg
    omega⟩
  clear hr5' hg5
  obtain ⟨a5, n5, cp5, hv5⟩ := hr5.1.slice
  subst hv5
  have HI5 := Lib.hid (HI4.out.below hb5)
  have hm : (⟨w1.heap.size, [], [], false⟩ : Fl) ∈ (s.filed w1.heap.size k).files := List.mem_append.2 (.inr (List.mem_singleton.2 rfl))
  obtain ⟨dv, rv, hc, -, -⟩ := HI5.out.each _ hm
  obtain ⟨c0, c1, c2, cf⟩ := file_cells hc
  have f0 := cf 0
  have f2 := cf 2
  have HR5 := Lib.hid (HI5.out.wrote _ hm rfl hr5)
  have HFR5 := Lib.hid (((HF4.out.trans (Fr.of_below hb5 (foot o s)) (fun _ _ e => e)).trans (Fr.set w5 ⟨w1.heap.size, 0, none⟩ (.slice a5 n5 cp5) (fun k' => k' = w1.heap.size) rfl) (fun k' hk' e => by omega)).trans (Fr.set _ ⟨w1.heap.size, 2, none⟩ (.bool false) (fun k' => k' = w1.heap.size) rfl) (fun k' hk' e => by omega))
  have HM := Lib.hid hm
  clear hr5 hb5 hc cf hm
  go_wp2_with fail
  go_ret
  refine ⟨0, _, { o2 with F := F, ps := ps' }, rfl, ⟨rfl, _, HNE.out, rfl⟩, HS.out.symm, HO2.out.2, HR5.out, HFR5.out, ?_⟩
  rintro k' (rfl | rfl | rfl | hk' | hk' | ⟨f, hf, rfl⟩)
  · exact HG4.out _ (.inl HF2.out.symm)
  · exact HG4.out _ (.inr (.inl rfl))
  · exact HG4.out _ (.inr (.inr (.inl rfl)))
  · exact HG4.out _ (.inr (.inr (.inr (.inl hk'))))
  · exact HG4.out _ (.inr (.inr (.inr (.inr (.inl hk')))))
  · obtain ⟨f0, hf0, rfl⟩ := List.mem_map.1 (show f ∈ setFile _ _ _ from hf)
    have e : (if f0.blk = w1.heap.size then { f0 with data := l, synced := false } else f0 : Fl).blk = f0.blk := by split <;> rfl
    rw [e]
    exact HG4.out _ (.inr (.inr (.inr (.inr (.inr ⟨f0, hf0, rfl⟩)))))
end Go.Proofs.YtjaojenalodolaaGreatDoor.Vf
/- The file system in plain words: files by number. -/
namespace Go.Proofs.YtjaojenalodolaaGreatDoor.Vf
open Go Go.RowKit Go.Maps Go.Proofs.YtjaojenalodolaaGreatDoor Go.Proofs.YtjaojenalodolaaGreatDoor.Bs
set_option linter.unusedVariables false
structure AF where
  data : List UInt8
  dur : List UInt8
  synced : Bool
structure AC where
  src : ByteArray
  dst : ByteArray
  file : Nat
structure AS where
  files : List AF
  names : Nm
  dur : Nm
  pend : List AC
  down : Bool
  armed : Bool
  after : Int
  err : Int
def cf (bl : Nat → Nat) (i : Nat) (f : AF) : Fl := ⟨bl i, f.data, f.dur, f.synced⟩
def cn (bl : Nat → Nat) (m : Nm) : Nm := m.map fun p => (p.1, bl p.2)
def cc (bl : Nat → Nat) (c : AC) : Ch := ⟨c.src, c.dst, if c.dst.toList.isEmpty = true then none else some (bl c.file)⟩
def conc (bl : Nat → Nat) (a : AS) : St := ⟨a.files.mapIdx (cf bl), cn bl a.names, cn bl a.dur, a.pend.map (cc bl), a.down, a.armed, a.after, a.err⟩
def Ab (a : AS) (s : St) : Prop := ∃ bl, s = conc bl a
theorem cn_len (bl : Nat → Nat) (m : Nm) : (cn bl m).length = m.length := by simp [cn]
theorem cn_find (bl : Nat → Nat) (m : Nm) (k : List UInt8) : findS (cn bl m) k = (findS m k).map bl := by
  unfold findS cn
  induction m with
  | nil => rfl
  | cons y r ih =>
    simp only [List.map_cons, List.find?_cons]
    cases y.1 == k with
    | true => rfl
    | false => exact ih
theorem cn_del (bl : Nat → Nat) (m : Nm) (k : List UInt8) : delS (cn bl m) k = cn bl (delS m k) := by
  unfold delS cn
  induction m with
  | nil => rfl
  | cons y r ih =>
    simp only [List.map_cons, List.filter_cons]
    split
    · simp only [List.map_cons, ih]
    · exact ih
theorem cn_ins (bl : Nat → Nat) (k : List UInt8) (i : Nat) : ∀ m : Nm, insS (k, bl i) (cn bl m) = cn bl (insS (k, i) m)
  | [] => rfl
  | y :: r => by
    have ih := cn_ins bl k i r
    unfold cn at ih ⊢
    simp only [insS, List.map_cons]
    split
    · rfl
    · simp only [List.map_cons, ih]
theorem cn_put (bl : Nat → Nat) (m : Nm) (k : List UInt8) (i : Nat) : putS (cn bl m) k (bl i) = cn bl (putS m k i) := by
  unfold putS
  rw [cn_del, cn_ins]
theorem cn_apply (bl : Nat → Nat) (m : Nm) (f t : ByteArray) (i : Nat) : applyS (cn bl m) f t (bl i) = cn bl (applyS m f t i) := by
  unfold applyS
  simp only
  split <;> split <;> simp only [cn_del, cn_put]
theorem turn_conc (bl : Nat → Nat) (l : List AF) (hd : ((l.mapIdx (cf bl)).map (·.blk)).Nodup) (i : Nat) (hi : i < l.length) (g : Fl → Fl) (g' : AF → AF) (hg : ∀ j f, g (cf bl j f) = cf bl j (g' f)) :
    turnFile (l.mapIdx (cf bl)) (bl i) g = (l.modify i g').mapIdx (cf bl) := by
  have hinj : ∀ j, j < l.length → bl j = bl i → j = i := by
    intro j hj e
    have h1 : ((l.mapIdx (cf bl)).map (·.blk))[j]'(by simpa using hj) = bl j := by simp [cf]
    have h2 : ((l.mapIdx (cf bl)).map (·.blk))[i]'(by simpa using hi) = bl i := by simp [cf]
    rcases Nat.lt_trichotomy j i with hlt | heq | hlt
    · exact absurd (h1.trans (e.trans h2.symm)) (List.pairwise_iff_getElem.1 hd j i _ _ hlt)
    · exact heq
    · exact absurd (h2.trans (e.symm.trans h1.symm)) (List.pairwise_iff_getElem.1 hd i j _ _ hlt)
  unfold turnFile
  apply List.ext_getElem
  · simp
  intro j h1 h2
  have hj : j < l.length := by simpa using h1
  simp only [List.getElem_map, List.getElem_mapIdx, List.getElem_modify]
  by_cases e : i = j
  · subst e
    rw [if_pos rfl, if_pos (by rfl), hg]
  · rw [if_neg (fun e2 : (cf bl j l[j]).blk = bl i => e (hinj j hj e2).symm), if_neg e]
theorem setFile_turn (fs : List Fl) (b : Nat) (l : List UInt8) : setFile fs b l = turnFile fs b fun f => { f with data := l, synced := false } := rfl
def AS.record (a : AS) (c : AC) : AS := { a with names := applyS a.names c.src c.dst c.file, pend := a.pend ++ [c] }
def AS.sync (k : ByteArray) (a : AS) : Int × AS :=
  match findS a.names k.data.toList with
  | none => (23, a)
  | some i => (0, { a with files := a.files.modify i fun f => { f with dur := f.data, synced := true } })
def AS.rename (k t : ByteArray) (a : AS) : Int × AS :=
  match findS a.names k.data.toList with
  | none => (23, a)
  | some i => if t.toList.isEmpty = true then (2, a) else if (k.toList == t.toList) = true then (0, a) else (0, a.record ⟨k, t, i⟩)
def AS.remove (k : ByteArray) (a : AS) : Int × AS :=
  match findS a.names k.data.toList with
  | none => (23, a)
  | some i => (0, a.record ⟨k, ⟨#[]⟩, 0⟩)
def AS.syncdir (a : AS) : Int × AS := (0, { a with dur := a.names, pend := [] })
def AS.put (k : ByteArray) (l : List UInt8) (a : AS) : Int × AS :=
  if k.toList.isEmpty = true then (2, a) else
  match findS a.names k.data.toList with
  | some i => (0, { a with files := a.files.modify i fun f => { f with data := l, synced := false } })
  | none => (0, AS.record { a with files := a.files ++ [⟨l, [], false⟩] } ⟨⟨#[]⟩, k, a.files.length⟩)
def AS.op (p : AS → Int × AS) (q : AS → AS) (a : AS) : Int × AS :=
  if a.down = true then (24, a) else if a.armed = false then p a else if 0 < a.after then p { a with after := a.after - 1 } else (a.err, { q { a with armed := false } with down := a.err == 24 })
structure AS.Wf (a : AS) : Prop where
  names : ∀ p ∈ a.names, p.2 < a.files.length
  dur : ∀ p ∈ a.dur, p.2 < a.files.length
  pend : ∀ c ∈ a.pend, c.dst.toList.isEmpty = false → c.file < a.files.length
theorem find_mem {m : Nm} {k : List UInt8} {i : Nat} (h : findS m k = some i) : (k, i) ∈ m := by
  unfold findS at h
  cases e : m.find? fun p => p.1 == k with
  | none => rw [e] at h; cases h
  | some p =>
    rw [e] at h
    have h1 := List.mem_of_find?_eq_some e
    have h2 := List.find?_some e
    simp only [Option.map_some, Option.some.injEq] at h
    have h3 : p.1 = k := by simpa using h2
    obtain ⟨p1, p2⟩ := p
    simp only at h h3
    subst h h3
    exact h1
theorem AS.Wf.find {a : AS} (h : a.Wf) {k : List UInt8} {i : Nat} (e : findS a.names k = some i) : i < a.files.length := h.names _ (find_mem e)
theorem Ab.sync {a : AS} {bl : Nat → Nat} (h : a.Wf) (hd : ((conc bl a).files.map (·.blk)).Nodup) {k : ByteArray} {i : Nat} (e : findS a.names k.data.toList = some i) :
    { conc bl a with files := turnFile (conc bl a).files (bl i) fun x => { x with dur := x.data, synced := true } } = conc bl (a.sync k).2 := by
  unfold AS.sync
  rw [e]
  simp only [conc] at hd ⊢
  rw [turn_conc bl a.files hd i (h.find e) _ (fun f => { f with dur := f.data, synced := true }) (fun j f => rfl)]
theorem Ab.put_old {a : AS} {bl : Nat → Nat} (h : a.Wf) (hd : ((conc bl a).files.map (·.blk)).Nodup) {k : ByteArray} {l : List UInt8} {i : Nat} (k0 : k.toList.isEmpty = false) (e : findS a.names k.data.toList = some i) :
    { conc bl a with files := setFile (conc bl a).files (bl i) l } = conc bl (a.put k l).2 := by
  unfold AS.put
  rw [e, k0]
  simp only [conc] at hd ⊢
  rw [setFile_turn, turn_conc bl a.files hd i (h.find e) _ (fun f => { f with data := l, synced := false }) (fun j f => rfl)]
  rfl
theorem Ab.record {a : AS} {bl : Nat → Nat} (c : AC) : { conc bl a with names := applyS (conc bl a).names c.src c.dst (bl c.file), pend := (conc bl a).pend ++ [cc bl c] } = conc bl (a.record c) := by
  unfold AS.record
  simp only [conc, cn_apply, List.map_append, List.map_cons, List.map_nil]
def upd (bl : Nat → Nat) (n b : Nat) : Nat → Nat := fun i => if i = n then b else bl i
theorem mapIdx_upd (bl : Nat → Nat) (l : List AF) (b : Nat) : l.mapIdx (cf (upd bl l.length b)) = l.mapIdx (cf bl) := by
  apply List.ext_getElem
  · simp
  intro j h1 h2
  have hj : j < l.length := by simpa using h1
  simp only [List.getElem_mapIdx, cf, upd]
  rw [if_neg (by omega)]
theorem cn_upd (bl : Nat → Nat) (m : Nm) (n b : Nat) (h : ∀ p ∈ m, p.2 < n) : cn (upd bl n b) m = cn bl m := by
  unfold cn
  apply List.map_congr_left
  intro p hp
  simp only [upd]
  rw [if_neg (by have := h p hp; omega)]
theorem cc_upd (bl : Nat → Nat) (l : List AC) (n b : Nat) (h : ∀ c ∈ l, c.dst.toList.isEmpty = false → c.file < n) : l.map (cc (upd bl n b)) = l.map (cc bl) := by
  apply List.map_congr_left
  intro c hc
  unfold cc
  cases e : c.dst.toList.isEmpty with
  | true => rfl
  | false =>
    have h1 := h c hc e
    have h2 : upd bl n b c.file = bl c.file := by
      unfold upd
      rw [if_neg (by omega)]
    rw [h2]
theorem Ab.put_new {a : AS} {bl : Nat → Nat} (h : a.Wf) {k : ByteArray} {l : List UInt8} {b : Nat} (hb : ∀ f ∈ (conc bl a).files, f.blk ≠ b) (k0 : k.toList.isEmpty = false) (e : findS a.names k.data.toList = none) :
    ((conc bl a).filed b k).put b l = conc (upd bl a.files.length b) (a.put k l).2 := by
  have hset : setFile ((conc bl a).files ++ [(⟨b, [], [], false⟩ : Fl)]) b l = (conc bl a).files ++ [⟨b, l, [], false⟩] := by
    unfold setFile
    rw [List.map_append]
    congr 1
    · conv => rhs; rw [← List.map_id (conc bl a).files]
      apply List.map_congr_left
      intro f hf
      rw [if_neg (hb f hf)]
      rfl
    · simp
  unfold AS.put
  rw [e, k0]
  unfold St.put St.filed
  simp only
  rw [hset]
  have e1 : (conc bl a).files ++ [(⟨b, l, [], false⟩ : Fl)] = (a.files ++ [(⟨l, [], false⟩ : AF)]).mapIdx (cf (upd bl a.files.length b)) := by
    rw [List.mapIdx_append, mapIdx_upd]
    simp [conc, cf, upd]
  have e2 := cn_upd bl a.names a.files.length b h.names
  have e3 := cn_upd bl a.dur a.files.length b h.dur
  have e4 := cc_upd bl a.pend a.files.length b h.pend
  have e5 : upd bl a.files.length b a.files.length = b := by simp [upd]
  simp only [conc, AS.record, Bool.false_eq_true, if_false] at e1 ⊢
  rw [e1, ← cn_apply, e2, e3, List.map_append, e4, e5]
  simp only [List.map_cons, List.map_nil, cc, e5, k0, Bool.false_eq_true, if_false]
end Go.Proofs.YtjaojenalodolaaGreatDoor.Vf
/- The closures, in plain words. -/
namespace Go.Proofs.YtjaojenalodolaaGreatDoor.Vf
open Go Go.RowKit Go.Maps Go.Proofs.YtjaojenalodolaaGreatDoor Go.Proofs.YtjaojenalodolaaGreatDoor.Bs
set_option linter.unusedVariables false
def ARes (p : AS → Int × AS) (a : AS) : Int → St → Prop := fun r s' => r = (p a).1 ∧ Ab (p a).2 s'
abbrev Did (B : Nat) (o : Loc) (s : St) (W : World) (p : AS → Int × AS) (a : AS) : Ending → World → Prop := Stp B o s W (ARes p a)
structure AS.Sm (a : AS) : Prop where
  files : a.files.length ≤ 1000000
  names : a.names.length ≤ 1000000
  pend : a.pend.length ≤ 1000000
theorem Fr.drewN (W : World) (n : Nat) (p : Nat → Prop) : Fr W (W.drewN n) p := ⟨rfl, rfl, rfl, Nat.le_refl _, fun _ _ _ => rfl⟩
theorem Did.quiet {B r : Nat} {o : Loc} {s : St} {W : World} {p : AS → Int × AS} {a : AS} (h : Is W B o s) (ha : Ab a s) (n : Nat) (h1 : (p a).1 = r) (h2 : (p a).2 = a) : Did B o s W p a (.returned (.int .i64 r)) (W.drewN n) :=
  ⟨r, s, o, rfl, ⟨h1.symm, by rw [h2]; exact ha⟩, rfl, rfl, h.drewN n, Fr.drewN _ _ _, fun _ hk => .inl hk⟩
theorem Did.ps {B : Nat} {o : Loc} {s s' : St} {W w' : World} {p : AS → Int × AS} {a : AS} {r : Int} {ps' : Value} (hi : Is w' B { o with ps := ps' } s') (hf : Fr W w' (foot o s)) (hg : ∀ g, ps'.ownBlock = some g → o.ps.ownBlock = some g ∨ W.heap.size ≤ g) (hs : s'.files = s.files)
    (h1 : (p a).1 = r) (h2 : Ab (p a).2 s') : Did B o s W p a (.returned (.int .i64 r)) w' := by
  refine ⟨r, s', { o with ps := ps' }, rfl, ⟨h1.symm, h2⟩, rfl, rfl, hi, hf, ?_⟩
  rintro k' (rfl | rfl | rfl | hk' | hk' | ⟨f, hf, rfl⟩)
  · exact .inl (.inl rfl)
  · exact .inl (.inr (.inl rfl))
  · exact .inl (.inr (.inr (.inl rfl)))
  · exact .inl (.inr (.inr (.inr (.inl hk'))))
  · rcases hg k' hk' with e | e
    · exact .inl (.inr (.inr (.inr (.inr (.inl e)))))
    · exact .inr e
  · rw [hs] at hf
    exact .inl (.inr (.inr (.inr (.inr (.inr ⟨f, hf, rfl⟩)))))
theorem foot_turn {o : Loc} {s : St} {b k : Nat} {g : Fl → Fl} (hg : ∀ f, (g f).blk = f.blk) (h : foot o { s with files := turnFile s.files b g } k) : foot o s k := by
  rcases h with h | h | h | h | h | ⟨f, hf, rfl⟩
  · exact .inl h
  · exact .inr (.inl h)
  · exact .inr (.inr (.inl h))
  · exact .inr (.inr (.inr (.inl h)))
  · exact .inr (.inr (.inr (.inr (.inl h))))
  · obtain ⟨f0, hf0, rfl⟩ := List.mem_map.1 (show f ∈ turnFile _ _ _ from hf)
    have e : (if f0.blk = b then g f0 else f0 : Fl).blk = f0.blk := by split <;> simp [hg]
    rw [e]
    exact .inr (.inr (.inr (.inr (.inr ⟨f0, hf0, rfl⟩))))
theorem Ab.find_none {bl : Nat → Nat} {a : AS} {k : List UInt8} (e : findS a.names k = none) : findS (conc bl a).names k = none := by
  show findS (cn bl a.names) k = none
  rw [cn_find, e]
  rfl
theorem Ab.find_some {bl : Nat → Nat} {a : AS} {k : List UInt8} {i : Nat} (e : findS a.names k = some i) : findS (conc bl a).names k = some (bl i) := by
  show findS (cn bl a.names) k = _
  rw [cn_find, e]
  rfl
theorem Ab.file {bl : Nat → Nat} {a : AS} {i : Nat} (h : i < a.files.length) : ∃ f ∈ (conc bl a).files, f.blk = bl i := by
  refine ⟨(a.files.mapIdx (cf bl))[i]'(by simpa using h), List.getElem_mem _, ?_⟩
  simp [cf]
theorem sync1_is (B F p q : Nat) (o : Loc) (s : St) (a : AS) (k : ByteArray) (W : World) (h : Is W B o s) (ha : Ab a s) (hw : a.Wf) (hF : o.F = F) (hp : W.cell? ⟨p, 0, none⟩ = some (.pointer (some ⟨F, 0, none⟩))) (hq : W.cell? ⟨q, 0, none⟩ = some (.string k)) (hk : k.size ≤ 1000000) :
    Calls Tryz.prog 135 #[.pointer (some ⟨p, 0, none⟩), .pointer (some ⟨q, 0, none⟩)] W (Did B o s W (AS.sync k) a) := by
  obtain ⟨bl, rfl⟩ := id ha
  cases e : findS a.names k.data.toList with
  | none =>
    refine (sync1_none B F p q o _ k W h hF hp hq hk (Ab.find_none e)).mono ?_
    rintro e w' ⟨rfl, n, rfl⟩
    exact Did.quiet h ha n (by unfold AS.sync; rw [e]; rfl) (by unfold AS.sync; rw [e])
  | some i =>
    obtain ⟨f, hm, hb⟩ := Ab.file (bl := bl) (hw.find e)
    refine (sync1_some B (bl i) F p q o _ k f W h hF hp hq hk (Ab.find_some e) hm hb).mono ?_
    rintro e w' ⟨rfl, hi, hf⟩
    exact ⟨0, _, o, rfl, ⟨by unfold AS.sync; rw [e], bl, Ab.sync hw h.dist e⟩, rfl, rfl, hi, hf, fun k' hk' => .inl (foot_turn (b := bl i) (g := fun x => { x with dur := x.data, synced := true }) (fun _ => rfl) hk')⟩
theorem rename1_is (B F p q r : Nat) (o : Loc) (s : St) (a : AS) (k t : ByteArray) (W : World) (h : Is W B o s) (ha : Ab a s) (hw : a.Wf) (hs : a.Sm) (hF : o.F = F) (hp : W.cell? ⟨p, 0, none⟩ = some (.pointer (some ⟨F, 0, none⟩))) (hq : W.cell? ⟨q, 0, none⟩ = some (.string k)) (hr : W.cell? ⟨r, 0, none⟩ = some (.string t)) (hk : k.size ≤ 1000000) (ht : t.size ≤ 1000000) :
    Calls Tryz.prog 136 #[.pointer (some ⟨p, 0, none⟩), .pointer (some ⟨q, 0, none⟩), .pointer (some ⟨r, 0, none⟩)] W (Did B o s W (AS.rename k t) a) := by
  obtain ⟨bl, rfl⟩ := id ha
  cases e : findS a.names k.data.toList with
  | none =>
    refine (rename1_none B 0 F p q r o _ k t W h hF hp hq hr hk (Ab.find_none e)).mono ?_
    rintro e w' ⟨rfl, n, rfl⟩
    exact Did.quiet h ha n (by unfold AS.rename; rw [e]; rfl) (by unfold AS.rename; rw [e])
  | some i =>
    cases t0 : t.toList.isEmpty with
    | true =>
      refine (rename1_empty B (bl i) F p q r o _ k t W h hF hp hq hr hk (Ab.find_some e) t0).mono ?_
      rintro e w' ⟨rfl, n, rfl⟩
      exact Did.quiet h ha n (by unfold AS.rename; rw [e]; simp only [t0]; rfl) (by unfold AS.rename; rw [e]; simp only [t0]; rfl)
    | false =>
      cases tk : k.toList == t.toList with
      | true =>
        refine (rename1_same B (bl i) F p q r o _ k t W h hF hp hq hr hk (Ab.find_some e) t0 tk).mono ?_
        rintro e w' ⟨rfl, n, rfl⟩
        exact Did.quiet h ha n (by unfold AS.rename; rw [e]; simp only [t0, tk]; rfl) (by unfold AS.rename; rw [e]; simp only [t0, tk]; rfl)
      | false =>
        refine (rename1_some B (bl i) F p q r o _ k t W h hF hp hq hr hk ht (Ab.find_some e) t0 tk (by simpa [conc, cn_len] using hs.names) (by simpa [conc] using hs.pend)).mono ?_
        rintro e w' ⟨rfl, ps', hi, hf, hg⟩
        have eR : AS.rename k t a = (0, a.record ⟨k, t, i⟩) := by
          unfold AS.rename
          rw [e]
          simp only [t0, tk, Bool.false_eq_true, if_false]
        refine Did.ps hi hf hg rfl (by rw [eR]) ⟨bl, ?_⟩
        rw [eR]
        simp only
        rw [← Ab.record]
        have e2 : cc bl ⟨k, t, i⟩ = ⟨k, t, some (bl i)⟩ := by
          unfold cc
          simp only [t0, Bool.false_eq_true, if_false]
        rw [e2]
theorem syncdir1_is (B F p : Nat) (o : Loc) (s : St) (a : AS) (W : World) (h : Is W B o s) (ha : Ab a s) (hF : o.F = F) (hp : W.cell? ⟨p, 0, none⟩ = some (.pointer (some ⟨F, 0, none⟩))) :
    Calls Tryz.prog 93 #[.pointer (some ⟨p, 0, none⟩)] W (Did B o s W AS.syncdir a) := by
  obtain ⟨bl, rfl⟩ := id ha
  obtain ⟨es, ck, hm⟩ := h.names.block
  subst hF
  obtain ⟨c1, -, -, -, -, -, fz⟩ := fs_flags h.fs
  obtain ⟨c3, -⟩ := fs_at3 h.fs
  have hB := Nat.le_trans h.bF (Nat.le_of_lt (lt_of_heap h.fs))
  refine (syncdir1_walk o.F p o.nb W _ _ es ck hp (fs_at0 h.fs) c1 c3 (fz 1) (fz 3) hm).mono ?_
  rintro e w' ⟨rfl, rfl⟩
  have hi := Is.synced (w := W.drewN 1) (h.drewN 1) es ck hm hB
  have f1 : Fr W (W.drew.alloc (.map es ck)) (foot o (conc bl a)) := (Fr.drewN W 1 _).trans (Fr.of_below ((Below.refl (W.drewN 1).heap.size (W.drewN 1)).alloc (Nat.le_refl _) (.map es ck)) (foot o (conc bl a))) (fun _ _ e => e)
  have f2 := (f1.trans (Fr.set _ ⟨o.F, 1, none⟩ (.map (some W.heap.size)) (foot o (conc bl a)) (.inl rfl)) (fun _ _ e => e)).trans (Fr.set _ ⟨o.F, 3, none⟩ (.slice none 0 0) (foot o (conc bl a)) (.inl rfl)) (fun _ _ e => e)
  refine ⟨0, _, { o with db := W.heap.size, ps := .slice none 0 0 }, rfl, ⟨rfl, bl, rfl⟩, rfl, rfl, hi, f2, ?_⟩
  rintro k' (rfl | rfl | rfl | hk' | hk' | ⟨f, hf, rfl⟩)
  · exact .inl (.inl rfl)
  · exact .inl (.inr (.inl rfl))
  · exact .inr (Nat.le_refl _)
  · exact .inl (.inr (.inr (.inr (.inl hk'))))
  · simp [Value.ownBlock] at hk'
  · exact .inl (.inr (.inr (.inr (.inr (.inr ⟨f, hf, rfl⟩)))))
theorem empty_data {k : ByteArray} (h : k.toList.isEmpty = true) : k = ⟨#[]⟩ := by
  rw [Lib.toList_data] at h
  obtain ⟨⟨l⟩⟩ := k
  simp only [List.isEmpty_iff] at h
  subst h
  rfl
theorem put_is (B F : Nat) (o : Loc) (s : St) (a : AS) (k : ByteArray) (v : Value) (l : List UInt8) (W : World) (h : Is W B o s) (ha : Ab a s) (hw : a.Wf) (hs : a.Sm) (hF : o.F = F) (hk : k.size ≤ 1000000) (hl : l.length ≤ 1000000) (hv : Rd W v l) :
    Calls Tryz.prog 133 #[.pointer (some ⟨F, 0, none⟩), .string k, v] W (Did B o s W (AS.put k l) a) := by
  obtain ⟨bl, rfl⟩ := id ha
  subst hF
  cases k0 : k.toList.isEmpty with
  | true =>
    have ek := empty_data k0
    subst ek
    refine (put_none B o v W).mono ?_
    rintro e w' ⟨rfl, rfl⟩
    have e1 : AS.put ⟨#[]⟩ l a = (2, a) := by unfold AS.put; rw [if_pos k0]
    exact Did.quiet (r := 2) h ha 0 (by rw [e1]; rfl) (by rw [e1])
  | false =>
    cases e : findS a.names k.data.toList with
    | none =>
      refine (put_new B o _ k v l W h hk k0 hl hv (Ab.find_none e) (by simpa [conc] using hs.files) (by simpa [conc, cn_len] using hs.names) (by simpa [conc] using hs.pend)).mono ?_
      rintro e w' ⟨r, s', o', rfl, ⟨rfl, b, hb, rfl⟩, h1, h2, h3, h4, h5⟩
      refine ⟨0, _, o', rfl, ⟨?_, ⟨_, Ab.put_new hw hb k0 e⟩⟩, h1, h2, h3, h4, h5⟩
      unfold AS.put
      rw [k0, e]
      rfl
    | some i =>
      obtain ⟨f, hm, hb⟩ := Ab.file (bl := bl) (hw.find e)
      refine (put_old B (bl i) o _ k v l f W h hk k0 hl hv (Ab.find_some e) hm hb).mono ?_
      rintro e w' ⟨rfl, hi, hf⟩
      refine ⟨0, _, o, rfl, ⟨?_, bl, Ab.put_old hw h.dist k0 e⟩, rfl, rfl, hi, hf, fun k' hk' => .inl (foot_turn (b := bl i) (g := fun x => { x with data := l, synced := false }) (fun _ => rfl) hk')⟩
      unfold AS.put
      rw [k0, e]
      rfl
end Go.Proofs.YtjaojenalodolaaGreatDoor.Vf
/- Write's closures; the flags. -/
namespace Go.Proofs.YtjaojenalodolaaGreatDoor.Vf
open Go Go.RowKit Go.Maps Go.Proofs.YtjaojenalodolaaGreatDoor Go.Proofs.YtjaojenalodolaaGreatDoor.Bs
set_option linter.unusedVariables false
set_option maxRecDepth 100000 in
set_option maxHeartbeats 4000000 in
theorem write1_is (B F p q r : Nat) (o : Loc) (s : St) (a : AS) (k : ByteArray) (v : Value) (l : List UInt8) (W : World) (h : Is W B o s) (ha : Ab a s) (hw : a.Wf) (hs : a.Sm) (hF : o.F = F) (hp : W.cell? ⟨p, 0, none⟩ = some (.pointer (some ⟨F, 0, none⟩))) (hq : W.cell? ⟨q, 0, none⟩ = some (.string k)) (hr : W.cell? ⟨r, 0, none⟩ = some v) (hk : k.size ≤ 1000000) (hl : l.length ≤ 1000000) (hv : Rd W v l) :
    Calls Tryz.prog 132 #[.pointer (some ⟨p, 0, none⟩), .pointer (some ⟨q, 0, none⟩), .pointer (some ⟨r, 0, none⟩)] W (Did B o s W (AS.put k l) a) := by
  have cP := Lib.hid (put_is B F o s a k v l W h ha hw hs hF hk hl hv)
  obtain ⟨a1, n1, p1, hdv⟩ := hv.slice
  subst hdv
  clear h ha hw hs hv
  go_enter Tryz.func132, Tryz.ntmps132
  go_wp2_with fail
  refine cP.out.mono ?_
  rintro e w1 ⟨r, s', o', rfl, hR⟩
  have HR := Lib.hid hR
  clear hR
  go_wp2_with fail
  go_ret
  exact ⟨r, s', o', rfl, HR.out⟩
theorem Did.from {B : Nat} {o : Loc} {s : St} {W W1 w' : World} {p : AS → Int × AS} {a : AS} {e : Ending} (hf : Fr W W1 (foot o s)) (h : Did B o s W1 p a e w') : Did B o s W p a e w' := by
  obtain ⟨r, s', o', h0, h1, h2, h3, h4, h5, h6⟩ := h
  exact ⟨r, s', o', h0, h1, h2, h3, h4, hf.trans h5 (fun _ _ e => e), fun k hk => (h6 k hk).imp id (fun e => Nat.le_trans hf.size e)⟩
theorem Rd.half {w : World} {ad : Option Addr} {n c : Nat} {l : List UInt8} (h : Rd w (.slice ad n c) l) : n = l.length ∧ n ≤ c ∧ Rd w (.slice ad (n / 2) c) (l.take (l.length / 2)) := by
  rcases h with ⟨h1, rfl⟩ | ⟨g, cap, cur, fr, h1, h2, h3, h4⟩
  · injection h1 with e1 e2 e3
    subst e1 e2 e3
    exact ⟨rfl, Nat.le_refl _, .inl ⟨rfl, rfl⟩⟩
  · injection h1 with e1 e2 e3
    subst e1 e2 e3
    refine ⟨rfl, h3, .inr ⟨g, c, cur, fr, ?_, h2, ?_, ?_⟩⟩
    · rw [List.length_take, Nat.min_eq_left (Nat.div_le_self _ _)]
    · rw [List.length_take]; omega
    · rw [List.length_take, Nat.min_eq_left (Nat.div_le_self _ _)]
      have := congrArg (List.take (l.length / 2)) h4
      rw [List.take_take, Nat.min_eq_left (Nat.div_le_self _ _)] at this
      rw [this]
      simp [Lib.byteCells, List.map_take]
set_option maxRecDepth 100000 in
set_option maxHeartbeats 4000000 in
theorem write2_is (B F p q r : Nat) (o : Loc) (s : St) (a : AS) (k : ByteArray) (v : Value) (l : List UInt8) (W : World) (h : Is W B o s) (ha : Ab a s) (hw : a.Wf) (hs : a.Sm) (hF : o.F = F) (hp : W.cell? ⟨p, 0, none⟩ = some (.pointer (some ⟨F, 0, none⟩))) (hq : W.cell? ⟨q, 0, none⟩ = some (.string k)) (hr : W.cell? ⟨r, 0, none⟩ = some v) (hk : k.size ≤ 1000000) (hl : l.length ≤ 1000000) (hv : Rd W v l) :
    Calls Tryz.prog 134 #[.pointer (some ⟨p, 0, none⟩), .pointer (some ⟨q, 0, none⟩), .pointer (some ⟨r, 0, none⟩)] W fun e w' => e = .returned (.tuple #[]) ∧ ∃ e', Did B o s W (AS.put k (l.take (l.length / 2))) a e' w' := by
  obtain ⟨a1, n1, p1, hdv⟩ := hv.slice
  subst hdv
  obtain ⟨hn, hc, hv2⟩ := hv.half
  have hv3 : Rd W.drew (.slice a1 (n1 / 2) p1) (l.take (l.length / 2)) := hv2.kept (fun _ _ _ _ => rfl)
  have cP := Lib.hid (put_is B F o s a k (.slice a1 (n1 / 2) p1) (l.take (l.length / 2)) W.drew (h.drewN 1) ha hw hs hF hk (by rw [List.length_take]; omega) hv3)
  obtain ⟨m, hm⟩ : ∃ m, n1 / 2 = m := ⟨_, rfl⟩
  rw [hm] at cP
  have i4 : IntKind.i64.wrap ((n1 : Int) / 2) = (m : Int) := by
    rw [IntKind.wrap_i64]
    omega
  have i1 : (0 : Int) ≤ (m : Int) := by omega
  have i2 : (m : Int) ≤ (p1 : Int) := by omega
  clear h ha hw hs hv hn hv2 hv3 hm hl hc
  go_enter Tryz.func134, Tryz.ntmps134
  go_still_tail 7, (by kernel_rfl)
  change wpList _ _ _ _ _ W.drew
  go_wp2_with fail
  refine cP.out.mono ?_
  rintro e w1 ⟨r, s', o', rfl, hR⟩
  have HR := Lib.hid hR
  clear hR
  go_wp2_with fail
  go_end0
  exact ⟨rfl, _, Did.from (Fr.drewN W 1 _) ⟨r, s', o', rfl, HR.out⟩⟩
end Go.Proofs.YtjaojenalodolaaGreatDoor.Vf
/- operate, over each of the closures. -/
namespace Go.Proofs.YtjaojenalodolaaGreatDoor.Vf
open Go Go.RowKit Go.Maps Go.Proofs.YtjaojenalodolaaGreatDoor Go.Proofs.YtjaojenalodolaaGreatDoor.Bs
set_option linter.unusedVariables false
theorem Is.flag {w : World} {B j : Nat} {o : Loc} {s s' : St} {v : Value} (h : Is w B o s) (h1 : s'.files = s.files) (h2 : s'.names = s.names) (h3 : s'.dur = s.dur) (h4 : s'.pend = s.pend) (hc : (fsCells o s).setIfInBounds j v = fsCells o s') : Is (w.setCell ⟨o.F, j, none⟩ v) B o s' := by
  have hF := heap_setCell_same w o.F j _ _ v h.fs
  have K : ∀ k, k ≠ o.F → (w.setCell ⟨o.F, j, none⟩ v).heap[k]? = w.heap[k]? := fun k hk => heap_setCell_other _ _ _ _ hk
  have KC : ∀ k cur t fr, w.heap[k]? = some (Obj.cells cur t fr) → t ≠ 68 → (w.setCell ⟨o.F, j, none⟩ v).heap[k]? = w.heap[k]? := fun k cur t fr hk ht => K k (ne_of hk h.fs ht)
  have KM : ∀ b m, Dir w b m → (w.setCell ⟨o.F, j, none⟩ v).heap[b]? = w.heap[b]? := fun b m hd => K b (fun e => hd.neB h.fs e.symm)
  exact
    { fs := by rw [hF]; rw [← hc]
      names := by rw [h2]; exact h.names.of_block (KM _ _ h.names)
      dur := by rw [h3]; exact h.dur.of_block (KM _ _ h.dur)
      nd := h.nd
      files := by rw [h1]; exact own_kept h.files fun k hk => by obtain ⟨cur, hc⟩ := own_block h.files hk; exact KC _ _ _ _ hc (by decide)
      pend := by rw [h4]; exact own_kept h.pend fun k hk => by obtain ⟨cur, hc⟩ := own_block h.pend hk; exact KC _ _ _ _ hc (by decide)
      each := fun f hf => by
        rw [h1] at hf
        exact (h.each f hf).kept (by obtain ⟨dv, rv, h1, _⟩ := h.each f hf; exact KC _ _ _ _ h1 (by decide)) (fun k cur fr hc => KC _ _ _ _ hc (by decide))
      zl := zl_kept h.zl (fun k cur fr hc => KC _ _ _ _ hc (by decide))
      dist := by rw [h1]; exact h.dist
      bF := h.bF
      bn := h.bn
      bd := h.bd
      bf := by rw [h1]; exact h.bf }
theorem run_neq_func {P : Program} (w : World) (t : TypeId) (fn : Fn) (fi ca : Array Value) {ps rs : Array TypeId} {vd : Bool} (ht : P.underlying t = some (.func ps rs vd)) :
    (binOp .neq t (.func fn fi ca) .nilFunc).run P w = .ok (.bool true) w := by
  have h : ∀ d : Nat, (Op.equalIn (d + 1) t (.func fn fi ca) .nilFunc).run P w = .ok false w := fun d => by
    simp [Op.equalIn, run_underlying ht]
  simp only [binOp]
  simp [Op.equal, Op.maxDepth, h 9999]
theorem run_neq_nilfunc {P : Program} (w : World) (t : TypeId) {ps rs : Array TypeId} {vd : Bool} (ht : P.underlying t = some (.func ps rs vd)) :
    (binOp .neq t .nilFunc .nilFunc).run P w = .ok (.bool false) w := by
  have h : ∀ d : Nat, (Op.equalIn (d + 1) t .nilFunc .nilFunc).run P w = .ok true w := fun d => by
    simp [Op.equalIn, run_underlying ht]
  simp only [binOp]
  simp [Op.equal, Op.maxDepth, h 9999]
theorem op_down {B : Nat} {o : Loc} {s : St} {a : AS} {W : World} {P : AS → Int × AS} {Q : AS → AS} (p q : Value) (h : Is W B o s) (ha : Ab a s) (hd : a.down = true) :
    Calls Tryz.prog 90 #[.pointer (some ⟨o.F, 0, none⟩), p, q] W (Did B o s W (AS.op P Q) a) := by
  obtain ⟨bl, rfl⟩ := id ha
  refine (operate_down B o _ p q W h hd).mono ?_
  rintro e w' ⟨rfl, rfl⟩
  have e1 : AS.op P Q a = (24, a) := by unfold AS.op; rw [if_pos hd]
  exact Did.quiet (r := 24) h ha 0 (by rw [e1]; rfl) (by rw [e1])
theorem Did.weak {B : Nat} {o : Loc} {s : St} {a : AS} {W w' : World} {p p' : AS → Int × AS} {e : Ending} (h : Did B o s W p a e w') (hp : p' a = p a) : Did B o s W p' a e w' := by
  obtain ⟨r, s', o', h0, ⟨h1, h2⟩, h3⟩ := h
  exact ⟨r, s', o', h0, ⟨by rw [hp]; exact h1, by rw [hp]; exact h2⟩, h3⟩
set_option maxRecDepth 100000 in
set_option maxHeartbeats 4000000 in
theorem after_write (B : Nat) (o : Loc) (s : St) (z : Int) (x1 x2 x3 q : Value) (W : World) (Q : Int → World → Prop) (h : Is W B o s) (hd : s.down = false) (ha : s.armed = true) (hz : (0 : Int) < s.after) (hw : IntKind.i64.wrap (s.after - 1) = z)
    (hp : Calls Tryz.prog 132 #[x1, x2, x3] (W.setCell ⟨o.F, 6, none⟩ (.int .i64 z)) fun e w' => ∃ r, e = .returned (.int .i64 r) ∧ Q r w') :
    Calls Tryz.prog 90 #[.pointer (some ⟨o.F, 0, none⟩), .func (.func 132) #[] #[x1, x2, x3], q] W fun e w' => ∃ r, e = .returned (.int .i64 r) ∧ Q r w' := by
  obtain ⟨-, -, c4, c5, c6, -, fz⟩ := fs_flags h.fs
  have f6 := fz 6
  rw [hd] at c4
  rw [ha] at c5
  generalize s.after = x at c6 hz hw
  clear h fz
  have HP := Lib.hid hp
  clear hp
  go_enter Tryz.func90, Tryz.ntmps90
  go_wp2_with fail
  refine HP.out.mono ?_
  rintro e w1 ⟨r, rfl, hQ⟩
  have HQ := Lib.hid hQ
  clear hQ
  go_wp2_with fail
  go_ret
  exact ⟨r, rfl, HQ.out⟩
set_option maxRecDepth 100000 in
set_option maxHeartbeats 4000000 in
theorem after_sync (B : Nat) (o : Loc) (s : St) (z : Int) (x1 x2 q : Value) (W : World) (Q : Int → World → Prop) (h : Is W B o s) (hd : s.down = false) (ha : s.armed = true) (hz : (0 : Int) < s.after) (hw : IntKind.i64.wrap (s.after - 1) = z)
    (hp : Calls Tryz.prog 135 #[x1, x2] (W.setCell ⟨o.F, 6, none⟩ (.int .i64 z)) fun e w' => ∃ r, e = .returned (.int .i64 r) ∧ Q r w') :
    Calls Tryz.prog 90 #[.pointer (some ⟨o.F, 0, none⟩), .func (.func 135) #[] #[x1, x2], q] W fun e w' => ∃ r, e = .returned (.int .i64 r) ∧ Q r w' := by
  obtain ⟨-, -, c4, c5, c6, -, fz⟩ := fs_flags h.fs
  have f6 := fz 6
  rw [hd] at c4
  rw [ha] at c5
  generalize s.after = x at c6 hz hw
  clear h fz
  have HP := Lib.hid hp
  clear hp
  go_enter Tryz.func90, Tryz.ntmps90
  go_wp2_with fail
  refine HP.out.mono ?_
  rintro e w1 ⟨r, rfl, hQ⟩
  have HQ := Lib.hid hQ
  clear hQ
  go_wp2_with fail
  go_ret
  exact ⟨r, rfl, HQ.out⟩
set_option maxRecDepth 100000 in
set_option maxHeartbeats 4000000 in
theorem after_syncdir (B : Nat) (o : Loc) (s : St) (z : Int) (x1 q : Value) (W : World) (Q : Int → World → Prop) (h : Is W B o s) (hd : s.down = false) (ha : s.armed = true) (hz : (0 : Int) < s.after) (hw : IntKind.i64.wrap (s.after - 1) = z)
    (hp : Calls Tryz.prog 93 #[x1] (W.setCell ⟨o.F, 6, none⟩ (.int .i64 z)) fun e w' => ∃ r, e = .returned (.int .i64 r) ∧ Q r w') :
    Calls Tryz.prog 90 #[.pointer (some ⟨o.F, 0, none⟩), .func (.func 93) #[] #[x1], q] W fun e w' => ∃ r, e = .returned (.int .i64 r) ∧ Q r w' := by
  obtain ⟨-, -, c4, c5, c6, -, fz⟩ := fs_flags h.fs
  have f6 := fz 6
  rw [hd] at c4
  rw [ha] at c5
  generalize s.after = x at c6 hz hw
  clear h fz
  have HP := Lib.hid hp
  clear hp
  go_enter Tryz.func90, Tryz.ntmps90
  go_wp2_with fail
  refine HP.out.mono ?_
  rintro e w1 ⟨r, rfl, hQ⟩
  have HQ := Lib.hid hQ
  clear hQ
  go_wp2_with fail
  go_ret
  exact ⟨r, rfl, HQ.out⟩
set_option maxRecDepth 100000 in
set_option maxHeartbeats 4000000 in
theorem after_rename (B : Nat) (o : Loc) (s : St) (z : Int) (x1 x2 x3 q : Value) (W : World) (Q : Int → World → Prop) (h : Is W B o s) (hd : s.down = false) (ha : s.armed = true) (hz : (0 : Int) < s.after) (hw : IntKind.i64.wrap (s.after - 1) = z)
    (hp : Calls Tryz.prog 136 #[x1, x2, x3] (W.setCell ⟨o.F, 6, none⟩ (.int .i64 z)) fun e w' => ∃ r, e = .returned (.int .i64 r) ∧ Q r w') :
    Calls Tryz.prog 90 #[.pointer (some ⟨o.F, 0, none⟩), .func (.func 136) #[] #[x1, x2, x3], q] W fun e w' => ∃ r, e = .returned (.int .i64 r) ∧ Q r w' := by
  obtain ⟨-, -, c4, c5, c6, -, fz⟩ := fs_flags h.fs
  have f6 := fz 6
  rw [hd] at c4
  rw [ha] at c5
  generalize s.after = x at c6 hz hw
  clear h fz
  have HP := Lib.hid hp
  clear hp
  go_enter Tryz.func90, Tryz.ntmps90
  go_wp2_with fail
  refine HP.out.mono ?_
  rintro e w1 ⟨r, rfl, hQ⟩
  have HQ := Lib.hid hQ
  clear hQ
  go_wp2_with fail
  go_ret
  exact ⟨r, rfl, HQ.out⟩
set_option maxRecDepth 100000 in
set_option maxHeartbeats 4000000 in
theorem fail_nil (B : Nat) (o : Loc) (s : St) (dn : Bool) (p : Value) (W : World) (h : Is W B o s) (hd : s.down = false) (ha : s.armed = true) (hz : decide ((0 : Int) < s.after) = false) (he : (s.err == 24) = dn) :
    Calls Tryz.prog 90 #[.pointer (some ⟨o.F, 0, none⟩), p, .nilFunc] W fun e w' => e = .returned (.int .i64 s.err) ∧ w' = (W.setCell ⟨o.F, 5, none⟩ (.bool false)).setCell ⟨o.F, 4, none⟩ (.bool dn) := by
  obtain ⟨-, -, c4, c5, c6, c7, fz⟩ := fs_flags h.fs
  have f5 := fz 5
  have f4 := fz 4
  rw [hd] at c4
  rw [ha] at c5
  generalize s.after = x at c6 hz
  generalize s.err = y at c7 he ⊢
  clear h fz
  have hN : ∀ w : World, (binOp .neq 1 .nilFunc .nilFunc).run Tryz.prog w = .ok (.bool false) w := fun w => run_neq_nilfunc w _ Tryz.underlying1
  go_enter Tryz.func90, Tryz.ntmps90
  go_wp2_with fail
  go_ret
  exact ⟨rfl, rfl⟩
set_option maxRecDepth 100000 in
set_option maxHeartbeats 4000000 in
theorem fail_write (B : Nat) (o : Loc) (s : St) (dn : Bool) (p x1 x2 x3 : Value) (W : World) (Q : World → Prop) (h : Is W B o s) (hd : s.down = false) (ha : s.armed = true) (hz : decide ((0 : Int) < s.after) = false) (he : (s.err == 24) = dn)
    (hq : Calls Tryz.prog 134 #[x1, x2, x3] (W.setCell ⟨o.F, 5, none⟩ (.bool false)) fun e w' => e = .returned (.tuple #[]) ∧ Q w' ∧ w'.cell? ⟨o.F, 7, none⟩ = some (.int .i64 s.err) ∧ w'.cell? ⟨o.F, 4, none⟩ = some (.bool false) ∧ w'.frozen? ⟨o.F, 4, none⟩ = false) :
    Calls Tryz.prog 90 #[.pointer (some ⟨o.F, 0, none⟩), p, .func (.func 134) #[] #[x1, x2, x3]] W fun e w' => e = .returned (.int .i64 s.err) ∧ ∃ w1, Q w1 ∧ w' = w1.setCell ⟨o.F, 4, none⟩ (.bool dn) := by
  obtain ⟨-, -, c4, c5, c6, c7, fz⟩ := fs_flags h.fs
  have f5 := fz 5
  rw [hd] at c4
  rw [ha] at c5
  generalize s.after = x at c6 hz
  generalize s.err = y at c7 he hq ⊢
  have HQ := Lib.hid hq
  clear h fz hq
  have hN : ∀ w : World, (binOp .neq 1 (.func (.func 134) #[] #[x1, x2, x3]) .nilFunc).run Tryz.prog w = .ok (.bool true) w := fun w => run_neq_func w _ _ _ _ Tryz.underlying1
  go_enter Tryz.func90, Tryz.ntmps90
  go_wp2_with fail
  refine HQ.out.mono ?_
  clear c4 c5 c6 c7 f5
  rintro e w1 ⟨rfl, hR, c7, c4, f4⟩
  have HR := Lib.hid hR
  clear hR
  go_wp2_with fail
  go_ret
  exact ⟨rfl, w1, HR.out, rfl⟩
end Go.Proofs.YtjaojenalodolaaGreatDoor.Vf
/- The operations. -/
namespace Go.Proofs.YtjaojenalodolaaGreatDoor.Vf
open Go Go.RowKit Go.Maps Go.Proofs.YtjaojenalodolaaGreatDoor Go.Proofs.YtjaojenalodolaaGreatDoor.Bs
set_option linter.unusedVariables false
theorem Did.split {B : Nat} {o : Loc} {s : St} {W : World} {p : AS → Int × AS} {a : AS} {e : Ending} {w' : World} (h : Did B o s W p a e w') : ∃ r, e = .returned (.int .i64 r) ∧ Did B o s W p a (.returned (.int .i64 r)) w' := by
  obtain ⟨r, s', o', rfl, h⟩ := h
  exact ⟨r, rfl, r, s', o', rfl, h⟩
def AS.Af (a : AS) : Prop := 0 ≤ a.after ∧ a.after ≤ 9223372036854775807
theorem wrap_pred {x : Int} (h0 : 0 < x) (h1 : x ≤ 9223372036854775807) : IntKind.i64.wrap (x - 1) = x - 1 := by rw [IntKind.wrap_i64]; omega
theorem fail_done {B : Nat} {o : Loc} {s : St} {a : AS} {W : World} {P : AS → Int × AS} (h : Is W B o s) (ha : Ab a s) (hd : a.down = false) (hr : a.armed = true) (hz : ¬ 0 < a.after) :
    Did B o s W (AS.op P id) a (.returned (.int .i64 s.err)) ((W.setCell ⟨o.F, 5, none⟩ (.bool false)).setCell ⟨o.F, 4, none⟩ (.bool (a.err == 24))) := by
  obtain ⟨bl, rfl⟩ := id ha
  have h1 : Is (W.setCell ⟨o.F, 5, none⟩ (.bool false)) B o { conc bl a with armed := false } := h.flag rfl rfl rfl rfl rfl
  have h2 : Is ((W.setCell ⟨o.F, 5, none⟩ (.bool false)).setCell ⟨o.F, 4, none⟩ (.bool (a.err == 24))) B o { conc bl a with armed := false, down := a.err == 24 } := h1.flag rfl rfl rfl rfl rfl
  have e1 : AS.op P id a = (a.err, { a with armed := false, down := a.err == 24 }) := by
    unfold AS.op
    simp only [hd, hr, hz, Bool.false_eq_true, Bool.true_eq_false, if_false, id]
  refine ⟨_, _, o, rfl, ⟨by rw [e1]; rfl, bl, by rw [e1]; rfl⟩, rfl, rfl, h2, (Fr.set _ _ _ _ (.inl rfl)).trans (Fr.set _ _ _ (foot o (conc bl a)) (.inl rfl)) (fun _ _ e => e), fun k hk => .inl hk⟩
theorem op_nil {B : Nat} {o : Loc} {s : St} {a : AS} {W : World} {P : AS → Int × AS} {p : Value} (C : World → (Ending → World → Prop) → Prop) (h : Is W B o s) (ha : Ab a s) (hw : a.Wf) (hs : a.Sm) (hf : a.Af)
    (plain : ∀ Q : Int → World → Prop, s.down = false → s.armed = false → C W (fun e w' => ∃ r, e = .returned (.int .i64 r) ∧ Q r w') → Calls Tryz.prog 90 #[.pointer (some ⟨o.F, 0, none⟩), p, .nilFunc] W fun e w' => ∃ r, e = .returned (.int .i64 r) ∧ Q r w')
    (after : ∀ (z : Int) (Q : Int → World → Prop), s.down = false → s.armed = true → (0 : Int) < s.after → IntKind.i64.wrap (s.after - 1) = z → C (W.setCell ⟨o.F, 6, none⟩ (.int .i64 z)) (fun e w' => ∃ r, e = .returned (.int .i64 r) ∧ Q r w') → Calls Tryz.prog 90 #[.pointer (some ⟨o.F, 0, none⟩), p, .nilFunc] W fun e w' => ∃ r, e = .returned (.int .i64 r) ∧ Q r w')
    (mono : ∀ (w : World) (Q Q' : Ending → World → Prop), C w Q → (∀ e w', Q e w' → Q' e w') → C w Q')
    (hc : ∀ (W' : World) (s' : St) (a' : AS), Is W' B o s' → Ab a' s' → a'.Wf → a'.Sm → (∀ k, k ≠ o.F → W'.heap[k]? = W.heap[k]?) → C W' (Did B o s' W' P a')) :
    Calls Tryz.prog 90 #[.pointer (some ⟨o.F, 0, none⟩), p, .nilFunc] W (Did B o s W (AS.op P id) a) := by
  obtain ⟨bl, rfl⟩ := id ha
  cases hd : a.down with
  | true => exact op_down p .nilFunc h ha hd
  | false =>
    cases hr : a.armed with
    | false =>
      refine (plain (fun r w' => Did B o (conc bl a) W P a (.returned (.int .i64 r)) w') hd hr (mono _ _ _ (hc W _ a h ha hw hs fun _ _ => rfl) fun e w' hD => hD.split)).mono ?_
      rintro e w' ⟨r, rfl, hD⟩
      exact hD.weak (by unfold AS.op; simp only [hd, hr, Bool.false_eq_true, if_false, if_true])
    | true =>
      by_cases hz : 0 < a.after
      · have h1 : Is (W.setCell ⟨o.F, 6, none⟩ (.int .i64 (a.after - 1))) B o { conc bl a with after := a.after - 1 } := h.flag rfl rfl rfl rfl rfl
        have ha1 : Ab { a with after := a.after - 1 } { conc bl a with after := a.after - 1 } := ⟨bl, rfl⟩
        refine (after (a.after - 1) (fun r w' => Did B o { conc bl a with after := a.after - 1 } (W.setCell ⟨o.F, 6, none⟩ (.int .i64 (a.after - 1))) P { a with after := a.after - 1 } (.returned (.int .i64 r)) w') hd hr hz (wrap_pred hz hf.2) (mono _ _ _ (hc _ _ _ h1 ha1 ⟨hw.names, hw.dur, hw.pend⟩ ⟨hs.files, hs.names, hs.pend⟩ fun k hk => heap_setCell_other _ _ _ _ hk) fun e w' hD => hD.split)).mono ?_
        rintro e w' ⟨r, rfl, hD⟩
        have e1 : AS.op P id a = P { a with after := a.after - 1 } := by
          unfold AS.op
          simp only [hd, hr, hz, Bool.false_eq_true, Bool.true_eq_false, if_false, if_true]
        obtain ⟨r', s', o', g0, ⟨g1, g2⟩, g3, g4, g5, g6, g7⟩ := Did.from (s := { conc bl a with after := a.after - 1 }) (Fr.set W ⟨o.F, 6, none⟩ (.int .i64 (a.after - 1)) (foot o { conc bl a with after := a.after - 1 }) (.inl rfl)) hD
        exact ⟨r', s', o', g0, ⟨by rw [e1]; exact g1, by rw [e1]; exact g2⟩, g3, g4, g5, g6, g7⟩
      · refine (fail_nil B o _ (a.err == 24) p W h hd hr (decide_eq_false hz) rfl).mono ?_
        rintro e w' ⟨rfl, rfl⟩
        exact fail_done h ha hd hr hz
theorem keep_cell {W W' : World} {F p : Nat} {v : Value} (hn : p ≠ F) (hK : ∀ k, k ≠ F → W'.heap[k]? = W.heap[k]?) (h : W.cell? ⟨p, 0, none⟩ = some v) : W'.cell? ⟨p, 0, none⟩ = some v := by
  unfold World.cell? at h ⊢
  rw [hK p hn]
  exact h
theorem cell_alloc {w : World} {p : Nat} {v : Value} (h : w.cell? ⟨p, 0, none⟩ = some v) (x : Obj) : (w.alloc x).cell? ⟨p, 0, none⟩ = some v := by
  have hlt := lt_of_cell h
  unfold World.cell? at h ⊢
  rw [old_block _ _ _ hlt]
  exact h
theorem op_sync {B p q : Nat} {o : Loc} {s : St} {a : AS} {W : World} {k : ByteArray} (h : Is W B o s) (ha : Ab a s) (hw : a.Wf) (hs : a.Sm) (hf : a.Af) (hp : W.cell? ⟨p, 0, none⟩ = some (.pointer (some ⟨o.F, 0, none⟩))) (hq : W.cell? ⟨q, 0, none⟩ = some (.string k)) (np : p ≠ o.F) (nq : q ≠ o.F) (hk : k.size ≤ 1000000) :
    Calls Tryz.prog 90 #[.pointer (some ⟨o.F, 0, none⟩), .func (.func 135) #[] #[.pointer (some ⟨p, 0, none⟩), .pointer (some ⟨q, 0, none⟩)], .nilFunc] W (Did B o s W (AS.op (AS.sync k) id) a) :=
  op_nil (fun w Q => Calls Tryz.prog 135 #[.pointer (some ⟨p, 0, none⟩), .pointer (some ⟨q, 0, none⟩)] w Q) h ha hw hs hf
    (fun Q hd hr hp => plain_sync B o s _ _ .nilFunc W Q h hd hr hp)
    (fun z Q hd hr hz hwr hp => after_sync B o s z _ _ .nilFunc W Q h hd hr hz hwr hp)
    (fun w Q Q' hq hm => hq.mono fun e w' => hm e w')
    (fun W' s' a' hI hA hw' hs' hK => sync1_is B o.F p q o s' a' k W' hI hA hw' rfl (keep_cell np hK hp) (keep_cell nq hK hq) hk)
set_option maxRecDepth 100000 in
set_option maxHeartbeats 4000000 in
theorem sync_is (B : Nat) (o : Loc) (s : St) (a : AS) (k : ByteArray) (W : World) (h : Is W B o s) (ha : Ab a s) (hw : a.Wf) (hs : a.Sm) (hf : a.Af) (hk : k.size ≤ 1000000) :
    Calls Tryz.prog 87 #[.pointer (some ⟨o.F, 0, none⟩), .string k] W (Did B o s W (AS.op (AS.sync k) id) a) := by
  obtain ⟨F, hF⟩ : ∃ F, o.F = F := ⟨_, rfl⟩
  have hlt := lt_of_heap h.fs
  rw [hF] at hlt ⊢
  have b0 : Below W.heap.size W (W.alloc (.cells #[.pointer (some ⟨F, 0, none⟩)] 28)) := (Below.refl W.heap.size W).alloc (Nat.le_refl _) (.cells #[.pointer (some ⟨F, 0, none⟩)] 28)
  have s0 : W.heap.size = W.heap.size := rfl
  have c0 : (W.alloc (.cells #[.pointer (some ⟨F, 0, none⟩)] 28)).cell? ⟨W.heap.size, 0, none⟩ = some (.pointer (some ⟨F, 0, none⟩)) := by unfold World.cell?; simp only [heap_alloc_new]; rfl
  have b1 : Below W.heap.size W ((W.alloc (.cells #[.pointer (some ⟨F, 0, none⟩)] 28)).alloc (.cells #[.string k] 9)) := b0.alloc (b0.size) (.cells #[.string k] 9)
  have s1 : (W.alloc (.cells #[.pointer (some ⟨F, 0, none⟩)] 28)).heap.size = W.heap.size + 1 := by rw [alloc_sz, s0]
  have c1 : ((W.alloc (.cells #[.pointer (some ⟨F, 0, none⟩)] 28)).alloc (.cells #[.string k] 9)).cell? ⟨W.heap.size + 1, 0, none⟩ = some (.string k) := by rw [← s1]; unfold World.cell?; simp only [heap_alloc_new]; rfl
  have c0_ := cell_alloc c0 (.cells #[.string k] 9)
  have cO := op_sync (o := o) (h.below b1) ha hw hs hf (by rw [hF]; exact c0_) c1 (by omega) (by omega) hk
  rw [hF] at cO
  have HO := Lib.hid cO
  have HF := Lib.hid (Fr.of_below b1 (foot o s))
  clear h cO b0 b1 s0 s1 c0 hF
  go_enter Tryz.func87, Tryz.ntmps87
  go_wp2_with fail
  refine HO.out.mono ?_
  rintro e w1 hD
  obtain ⟨r, rfl, hD⟩ := hD.split
  have HD := Lib.hid hD
  clear hD
  go_wp2_with fail
  go_ret
  exact HD.out.from HF.out
theorem op_rename {B p q r : Nat} {o : Loc} {s : St} {a : AS} {W : World} {k t : ByteArray} (h : Is W B o s) (ha : Ab a s) (hw : a.Wf) (hs : a.Sm) (hf : a.Af) (hp : W.cell? ⟨p, 0, none⟩ = some (.pointer (some ⟨o.F, 0, none⟩))) (hq : W.cell? ⟨q, 0, none⟩ = some (.string k)) (hr : W.cell? ⟨r, 0, none⟩ = some (.string t)) (np : p ≠ o.F) (nq : q ≠ o.F) (nr : r ≠ o.F) (hk : k.size ≤ 1000000) (ht : t.size ≤ 1000000) :
    Calls Tryz.prog 90 #[.pointer (some ⟨o.F, 0, none⟩), .func (.func 136) #[] #[.pointer (some ⟨p, 0, none⟩), .pointer (some ⟨q, 0, none⟩), .pointer (some ⟨r, 0, none⟩)], .nilFunc] W (Did B o s W (AS.op (AS.rename k t) id) a) :=
  op_nil (fun w Q => Calls Tryz.prog 136 #[.pointer (some ⟨p, 0, none⟩), .pointer (some ⟨q, 0, none⟩), .pointer (some ⟨r, 0, none⟩)] w Q) h ha hw hs hf
    (fun Q hd hr hp => plain_rename B o s _ _ _ .nilFunc W Q h hd hr hp)
    (fun z Q hd hr hz hwr hp => after_rename B o s z _ _ _ .nilFunc W Q h hd hr hz hwr hp)
    (fun w Q Q' hq hm => hq.mono fun e w' => hm e w')
    (fun W' s' a' hI hA hw' hs' hK => rename1_is B o.F p q r o s' a' k t W' hI hA hw' hs' rfl (keep_cell np hK hp) (keep_cell nq hK hq) (keep_cell nr hK hr) hk ht)
set_option maxRecDepth 100000 in
set_option maxHeartbeats 4000000 in
theorem rename_is (B : Nat) (o : Loc) (s : St) (a : AS) (k t : ByteArray) (W : World) (h : Is W B o s) (ha : Ab a s) (hw : a.Wf) (hs : a.Sm) (hf : a.Af) (hk : k.size ≤ 1000000) (ht : t.size ≤ 1000000) :
    Calls Tryz.prog 89 #[.pointer (some ⟨o.F, 0, none⟩), .string k, .string t] W (Did B o s W (AS.op (AS.rename k t) id) a) := by
  obtain ⟨F, hF⟩ : ∃ F, o.F = F := ⟨_, rfl⟩
  have hlt := lt_of_heap h.fs
  rw [hF] at hlt ⊢
  have b0 : Below W.heap.size W (W.alloc (.cells #[.pointer (some ⟨F, 0, none⟩)] 28)) := (Below.refl W.heap.size W).alloc (Nat.le_refl _) (.cells #[.pointer (some ⟨F, 0, none⟩)] 28)
  have s0 : W.heap.size = W.heap.size := rfl
  have c0 : (W.alloc (.cells #[.pointer (some ⟨F, 0, none⟩)] 28)).cell? ⟨W.heap.size, 0, none⟩ = some (.pointer (some ⟨F, 0, none⟩)) := by unfold World.cell?; simp only [heap_alloc_new]; rfl
  have b1 : Below W.heap.size W ((W.alloc (.cells #[.pointer (some ⟨F, 0, none⟩)] 28)).alloc (.cells #[.string k] 9)) := b0.alloc (b0.size) (.cells #[.string k] 9)
  have s1 : (W.alloc (.cells #[.pointer (some ⟨F, 0, none⟩)] 28)).heap.size = W.heap.size + 1 := by rw [alloc_sz, s0]
  have c1 : ((W.alloc (.cells #[.pointer (some ⟨F, 0, none⟩)] 28)).alloc (.cells #[.string k] 9)).cell? ⟨W.heap.size + 1, 0, none⟩ = some (.string k) := by rw [← s1]; unfold World.cell?; simp only [heap_alloc_new]; rfl
  have b2 : Below W.heap.size W (((W.alloc (.cells #[.pointer (some ⟨F, 0, none⟩)] 28)).alloc (.cells #[.string k] 9)).alloc (.cells #[.string t] 9)) := b1.alloc (b1.size) (.cells #[.string t] 9)
  have s2 : ((W.alloc (.cells #[.pointer (some ⟨F, 0, none⟩)] 28)).alloc (.cells #[.string k] 9)).heap.size = W.heap.size + 2 := by rw [alloc_sz, s1]
  have c2 : (((W.alloc (.cells #[.pointer (some ⟨F, 0, none⟩)] 28)).alloc (.cells #[.string k] 9)).alloc (.cells #[.string t] 9)).cell? ⟨W.heap.size + 2, 0, none⟩ = some (.string t) := by rw [← s2]; unfold World.cell?; simp only [heap_alloc_new]; rfl
  have c0_ := cell_alloc c0 (.cells #[.string k] 9)
  have c0__ := cell_alloc c0_ (.cells #[.string t] 9)
  have c1_ := cell_alloc c1 (.cells #[.string t] 9)
  have cO := op_rename (o := o) (h.below b2) ha hw hs hf (by rw [hF]; exact c0__) c1_ c2 (by omega) (by omega) (by omega) hk ht
  rw [hF] at cO
  have HO := Lib.hid cO
  have HF := Lib.hid (Fr.of_below b2 (foot o s))
  clear h cO b0 b1 b2 s0 s1 s2 c0 c0_ c1 hF
  go_enter Tryz.func89, Tryz.ntmps89
  go_wp2_with fail
  refine HO.out.mono ?_
  rintro e w1 hD
  obtain ⟨r, rfl, hD⟩ := hD.split
  have HD := Lib.hid hD
  clear hD
  go_wp2_with fail
  go_ret
  exact HD.out.from HF.out
theorem op_syncdir {B p : Nat} {o : Loc} {s : St} {a : AS} {W : World}  (h : Is W B o s) (ha : Ab a s) (hw : a.Wf) (hs : a.Sm) (hf : a.Af) (hp : W.cell? ⟨p, 0, none⟩ = some (.pointer (some ⟨o.F, 0, none⟩))) (np : p ≠ o.F)  :
    Calls Tryz.prog 90 #[.pointer (some ⟨o.F, 0, none⟩), .func (.func 93) #[] #[.pointer (some ⟨p, 0, none⟩)], .nilFunc] W (Did B o s W (AS.op AS.syncdir id) a) :=
  op_nil (fun w Q => Calls Tryz.prog 93 #[.pointer (some ⟨p, 0, none⟩)] w Q) h ha hw hs hf
    (fun Q hd hr hp => plain_syncdir B o s _ .nilFunc W Q h hd hr hp)
    (fun z Q hd hr hz hwr hp => after_syncdir B o s z _ .nilFunc W Q h hd hr hz hwr hp)
    (fun w Q Q' hq hm => hq.mono fun e w' => hm e w')
    (fun W' s' a' hI hA hw' hs' hK => syncdir1_is B o.F p o s' a' W' hI hA rfl (keep_cell np hK hp))
set_option maxRecDepth 100000 in
set_option maxHeartbeats 4000000 in
theorem syncdir_is (B : Nat) (o : Loc) (s : St) (a : AS)  (W : World) (h : Is W B o s) (ha : Ab a s) (hw : a.Wf) (hs : a.Sm) (hf : a.Af)  :
    Calls Tryz.prog 49 #[.pointer (some ⟨o.F, 0, none⟩)] W (Did B o s W (AS.op AS.syncdir id) a) := by
  obtain ⟨F, hF⟩ : ∃ F, o.F = F := ⟨_, rfl⟩
  have hlt := lt_of_heap h.fs
  rw [hF] at hlt ⊢
  have b0 : Below W.heap.size W (W.alloc (.cells #[.pointer (some ⟨F, 0, none⟩)] 28)) := (Below.refl W.heap.size W).alloc (Nat.le_refl _) (.cells #[.pointer (some ⟨F, 0, none⟩)] 28)
  have s0 : W.heap.size = W.heap.size := rfl
  have c0 : (W.alloc (.cells #[.pointer (some ⟨F, 0, none⟩)] 28)).cell? ⟨W.heap.size, 0, none⟩ = some (.pointer (some ⟨F, 0, none⟩)) := by unfold World.cell?; simp only [heap_alloc_new]; rfl
  have cO := op_syncdir (o := o) (h.below b0) ha hw hs hf (by rw [hF]; exact c0) (by omega) 
  rw [hF] at cO
  have HO := Lib.hid cO
  have HF := Lib.hid (Fr.of_below b0 (foot o s))
  clear h cO b0 s0 hF
  go_enter Tryz.func49, Tryz.ntmps49
  go_wp2_with fail
  refine HO.out.mono ?_
  rintro e w1 hD
  obtain ⟨r, rfl, hD⟩ := hD.split
  have HD := Lib.hid hD
  clear hD
  go_wp2_with fail
  go_ret
  exact HD.out.from HF.out
end Go.Proofs.YtjaojenalodolaaGreatDoor.Vf
/- Write. -/
namespace Go.Proofs.YtjaojenalodolaaGreatDoor.Vf
open Go Go.RowKit Go.Maps Go.Proofs.YtjaojenalodolaaGreatDoor Go.Proofs.YtjaojenalodolaaGreatDoor.Bs
set_option linter.unusedVariables false
theorem AS.put_flags (k : ByteArray) (l : List UInt8) (a : AS) : (AS.put k l a).2.err = a.err ∧ (AS.put k l a).2.down = a.down ∧ (AS.put k l a).2.armed = a.armed ∧ (AS.put k l a).2.after = a.after := by
  unfold AS.put
  split
  · exact ⟨rfl, rfl, rfl, rfl⟩
  · split <;> exact ⟨rfl, rfl, rfl, rfl⟩
def AS.tear (k : ByteArray) (l : List UInt8) (a : AS) : AS := (AS.put k (l.take (l.length / 2)) a).2
theorem op_write {B p q r : Nat} {o : Loc} {s : St} {a : AS} {W : World} {k : ByteArray} {v : Value} {l : List UInt8} (h : Is W B o s) (ha : Ab a s) (hw : a.Wf) (hs : a.Sm) (hf : a.Af) (hp : W.cell? ⟨p, 0, none⟩ = some (.pointer (some ⟨o.F, 0, none⟩))) (hq : W.cell? ⟨q, 0, none⟩ = some (.string k)) (hr : W.cell? ⟨r, 0, none⟩ = some v) (np : p ≠ o.F) (nq : q ≠ o.F) (nr : r ≠ o.F) (hk : k.size ≤ 1000000) (hl : l.length ≤ 1000000) (hv : Rd W v l) :
    Calls Tryz.prog 90 #[.pointer (some ⟨o.F, 0, none⟩), .func (.func 132) #[] #[.pointer (some ⟨p, 0, none⟩), .pointer (some ⟨q, 0, none⟩), .pointer (some ⟨r, 0, none⟩)], .func (.func 134) #[] #[.pointer (some ⟨p, 0, none⟩), .pointer (some ⟨q, 0, none⟩), .pointer (some ⟨r, 0, none⟩)]] W (Did B o s W (AS.op (AS.put k l) (AS.tear k l)) a) := by
  obtain ⟨bl, rfl⟩ := id ha
  have KV : ∀ (j : Nat) (x : Value), Rd (W.setCell ⟨o.F, j, none⟩ x) v l := fun j x => hv.kept fun g cur fr hc => heap_setCell_other _ _ _ _ (ne_of hc h.fs (by decide))
  cases hd : a.down with
  | true => exact op_down _ _ h ha hd
  | false =>
    cases hr' : a.armed with
    | false =>
      refine (plain_write B o _ _ _ _ _ W (fun r w' => Did B o (conc bl a) W (AS.put k l) a (.returned (.int .i64 r)) w') h hd hr' ((write1_is B o.F p q r o _ a k v l W h ha hw hs rfl hp hq hr hk hl hv).mono fun e w' hD => hD.split)).mono ?_
      rintro e w' ⟨r, rfl, hD⟩
      exact hD.weak (by unfold AS.op; simp only [hd, hr', Bool.false_eq_true, if_false, if_true])
    | true =>
      by_cases hz : 0 < a.after
      · have h1 : Is (W.setCell ⟨o.F, 6, none⟩ (.int .i64 (a.after - 1))) B o { conc bl a with after := a.after - 1 } := h.flag rfl rfl rfl rfl rfl
        have ha1 : Ab { a with after := a.after - 1 } { conc bl a with after := a.after - 1 } := ⟨bl, rfl⟩
        have hK : ∀ k, k ≠ o.F → (W.setCell ⟨o.F, 6, none⟩ (.int .i64 (a.after - 1))).heap[k]? = W.heap[k]? := fun k hk => heap_setCell_other _ _ _ _ hk
        refine (after_write B o _ (a.after - 1) _ _ _ _ W (fun r w' => Did B o { conc bl a with after := a.after - 1 } (W.setCell ⟨o.F, 6, none⟩ (.int .i64 (a.after - 1))) (AS.put k l) { a with after := a.after - 1 } (.returned (.int .i64 r)) w') h hd hr' hz (wrap_pred hz hf.2)
          ((write1_is B o.F p q r o _ _ k v l _ h1 ha1 ⟨hw.names, hw.dur, hw.pend⟩ ⟨hs.files, hs.names, hs.pend⟩ rfl (keep_cell np hK hp) (keep_cell nq hK hq) (keep_cell nr hK hr) hk hl (KV 6 _)).mono fun e w' hD => hD.split)).mono ?_
        rintro e w' ⟨r, rfl, hD⟩
        have e1 : AS.op (AS.put k l) (AS.tear k l) a = AS.put k l { a with after := a.after - 1 } := by
          unfold AS.op
          simp only [hd, hr', hz, Bool.false_eq_true, Bool.true_eq_false, if_false, if_true]
        obtain ⟨r', s', o', g0, ⟨g1, g2⟩, g3, g4, g5, g6, g7⟩ := Did.from (s := { conc bl a with after := a.after - 1 }) (Fr.set W ⟨o.F, 6, none⟩ (.int .i64 (a.after - 1)) (foot o { conc bl a with after := a.after - 1 }) (.inl rfl)) hD
        exact ⟨r', s', o', g0, ⟨by rw [e1]; exact g1, by rw [e1]; exact g2⟩, g3, g4, g5, g6, g7⟩
      · have h1 : Is (W.setCell ⟨o.F, 5, none⟩ (.bool false)) B o { conc bl a with armed := false } := h.flag rfl rfl rfl rfl rfl
        have ha1 : Ab { a with armed := false } { conc bl a with armed := false } := ⟨bl, rfl⟩
        have hK : ∀ k, k ≠ o.F → (W.setCell ⟨o.F, 5, none⟩ (.bool false)).heap[k]? = W.heap[k]? := fun k hk => heap_setCell_other _ _ _ _ hk
        have hfl := AS.put_flags k (l.take (l.length / 2)) { a with armed := false }
        refine (fail_write B o _ (a.err == 24) _ _ _ _ W (fun w' => ∃ e', Did B o { conc bl a with armed := false } (W.setCell ⟨o.F, 5, none⟩ (.bool false)) (AS.put k (l.take (l.length / 2))) { a with armed := false } e' w') h hd hr' (decide_eq_false hz) rfl
          ((write2_is B o.F p q r o _ _ k v l _ h1 ha1 ⟨hw.names, hw.dur, hw.pend⟩ ⟨hs.files, hs.names, hs.pend⟩ rfl (keep_cell np hK hp) (keep_cell nq hK hq) (keep_cell nr hK hr) hk hl (KV 5 _)).mono ?_)).mono ?_
        · rintro e w' ⟨rfl, e', hD⟩
          refine ⟨rfl, ⟨e', hD⟩, ?_⟩
          obtain ⟨r', s', o', g0, ⟨g1, bl', g2⟩, g3, g4, g5, g6, g7⟩ := hD
          obtain ⟨-, -, c4, -, -, c7, fz⟩ := fs_flags g5.fs
          rw [g3] at c4 c7 fz
          subst g2
          refine ⟨?_, ?_, fz 4⟩
          · rw [c7]; exact congrArg (fun x => some (Value.int .i64 x)) hfl.1
          · rw [c4]; exact congrArg (fun x => some (Value.bool x)) (hfl.2.1.trans hd)
        · rintro e w' ⟨rfl, w1, ⟨e', r', s', o', g0, ⟨g1, bl', g2⟩, g3, g4, g5, g6, g7⟩, rfl⟩
          subst g2
          have h2 : Is (w1.setCell ⟨o'.F, 4, none⟩ (.bool (a.err == 24))) B o' { conc bl' (AS.put k (l.take (l.length / 2)) { a with armed := false }).2 with down := a.err == 24 } := g5.flag rfl rfl rfl rfl rfl
          rw [g3] at h2
          have e1 : AS.op (AS.put k l) (AS.tear k l) a = (a.err, { AS.tear k l { a with armed := false } with down := a.err == 24 }) := by
            unfold AS.op
            simp only [hd, hr', hz, Bool.false_eq_true, Bool.true_eq_false, if_false]
          have f1 := ((Fr.set W ⟨o.F, 5, none⟩ (.bool false) (foot o (conc bl a)) (.inl rfl)).trans g6 (fun _ _ e => e)).trans (Fr.set w1 ⟨o.F, 4, none⟩ (.bool (a.err == 24)) (foot o (conc bl a)) (.inl rfl)) (fun _ _ e => e)
          refine ⟨_, _, o', rfl, ⟨by rw [e1]; rfl, bl', by rw [e1]; rfl⟩, g3, g4, h2, f1, fun k hk => ?_⟩
          rcases g7 k hk with e | e
          · exact .inl e
          · exact .inr (by simpa using e)
set_option maxRecDepth 100000 in
set_option maxHeartbeats 4000000 in
theorem write_is (B : Nat) (o : Loc) (s : St) (a : AS) (k : ByteArray) (v : Value) (l : List UInt8) (W : World) (h : Is W B o s) (ha : Ab a s) (hw : a.Wf) (hs : a.Sm) (hf : a.Af) (hk : k.size ≤ 1000000) (hl : l.length ≤ 1000000) (hv : Rd W v l) :
    Calls Tryz.prog 85 #[.pointer (some ⟨o.F, 0, none⟩), .string k, v] W (Did B o s W (AS.op (AS.put k l) (AS.tear k l)) a) := by
  obtain ⟨F, hF⟩ : ∃ F, o.F = F := ⟨_, rfl⟩
  have hlt := lt_of_heap h.fs
  rw [hF] at hlt ⊢
  obtain ⟨a1, n1, p1, hdv⟩ := hv.slice
  subst hdv
  have b0 : Below W.heap.size W (W.alloc (.cells #[.pointer (some ⟨F, 0, none⟩)] 28)) := (Below.refl W.heap.size W).alloc (Nat.le_refl _) (.cells #[.pointer (some ⟨F, 0, none⟩)] 28)
  have c0 : (W.alloc (.cells #[.pointer (some ⟨F, 0, none⟩)] 28)).cell? ⟨W.heap.size, 0, none⟩ = some (.pointer (some ⟨F, 0, none⟩)) := by unfold World.cell?; simp only [heap_alloc_new]; rfl
  have b1 : Below W.heap.size W ((W.alloc (.cells #[.pointer (some ⟨F, 0, none⟩)] 28)).alloc (.cells #[.string k] 9)) := b0.alloc b0.size (.cells #[.string k] 9)
  have s1 : (W.alloc (.cells #[.pointer (some ⟨F, 0, none⟩)] 28)).heap.size = W.heap.size + 1 := by rw [alloc_sz]
  have c1 : ((W.alloc (.cells #[.pointer (some ⟨F, 0, none⟩)] 28)).alloc (.cells #[.string k] 9)).cell? ⟨W.heap.size + 1, 0, none⟩ = some (.string k) := by rw [← s1]; unfold World.cell?; simp only [heap_alloc_new]; rfl
  have c0_ := cell_alloc c0 (.cells #[.string k] 9)
  have b2 : Below W.heap.size W (((W.alloc (.cells #[.pointer (some ⟨F, 0, none⟩)] 28)).alloc (.cells #[.string k] 9)).alloc (.cells #[.slice a1 n1 p1] 74)) := b1.alloc b1.size (.cells #[.slice a1 n1 p1] 74)
  have s2 : ((W.alloc (.cells #[.pointer (some ⟨F, 0, none⟩)] 28)).alloc (.cells #[.string k] 9)).heap.size = W.heap.size + 2 := by rw [alloc_sz, s1]
  have c2 : (((W.alloc (.cells #[.pointer (some ⟨F, 0, none⟩)] 28)).alloc (.cells #[.string k] 9)).alloc (.cells #[.slice a1 n1 p1] 74)).cell? ⟨W.heap.size + 2, 0, none⟩ = some (.slice a1 n1 p1) := by rw [← s2]; unfold World.cell?; simp only [heap_alloc_new]; rfl
  have c1_ := cell_alloc c1 (.cells #[.slice a1 n1 p1] 74)
  have c0__ := cell_alloc c0_ (.cells #[.slice a1 n1 p1] 74)
  have hv2 := hv.kept (fun g cur fr hc => b2.block g (lt_of_heap hc))
  have cO := op_write (o := o) (h.below b2) ha hw hs hf (by rw [hF]; exact c0__) c1_ c2 (by omega) (by omega) (by omega) hk hl hv2
  rw [hF] at cO
  have HO := Lib.hid cO
  have HF := Lib.hid (Fr.of_below b2 (foot o s))
  clear h cO b0 b1 b2 s1 s2 c0 c1 c2 c0_ c0__ c1_ hF hv hv2
  go_enter Tryz.func85, Tryz.ntmps85
  go_wp2_with fail
  refine HO.out.mono ?_
  rintro e w1 hD
  obtain ⟨r, rfl, hD⟩ := hD.split
  have HD := Lib.hid hD
  clear hD
  go_wp2_with fail
  go_ret
  exact HD.out.from HF.out
end Go.Proofs.YtjaojenalodolaaGreatDoor.Vf
/- New, Arm, Down. -/
namespace Go.Proofs.YtjaojenalodolaaGreatDoor.Vf
open Go Go.RowKit Go.Maps Go.Proofs.YtjaojenalodolaaGreatDoor Go.Proofs.YtjaojenalodolaaGreatDoor.Bs
set_option linter.unusedVariables false
def AS.new : AS := ⟨[], [], [], [], false, false, 0, 0⟩
set_option maxRecDepth 100000 in
set_option maxHeartbeats 4000000 in
theorem new_is (W : World) :
    Calls Tryz.prog 14 #[] W fun e w' => ∃ o s, e = .returned (.pointer (some ⟨o.F, 0, none⟩)) ∧ Is w' W.heap.size o s ∧ Ab AS.new s ∧ (o.Z = fun _ => False) ∧ Below W.heap.size W w' ∧ ∀ k, foot o s k → W.heap.size ≤ k := by
  have b0 := (Below.refl W.heap.size W).alloc (Nat.le_refl _) (.map #[] 0)
  have b1 := b0.alloc b0.size (.map #[] 0)
  have s1 : (W.alloc (.map #[] 0)).heap.size = W.heap.size + 1 := alloc_sz _ _
  have s2 : ((W.alloc (.map #[] 0)).alloc (.map #[] 0)).heap.size = W.heap.size + 2 := by rw [alloc_sz, s1]
  have b2 := b1.alloc b1.size (.cells #[.map (some W.heap.size), .map (some (W.heap.size + 1)), .slice none 0 0, .slice none 0 0, .bool false, .bool false, .int .i64 0, .int .i64 0] 68)
  have hF := new_block ((W.alloc (.map #[] 0)).alloc (.map #[] 0)) (.cells #[.map (some W.heap.size), .map (some (W.heap.size + 1)), .slice none 0 0, .slice none 0 0, .bool false, .bool false, .int .i64 0, .int .i64 0] 68)
  rw [s2] at hF
  have hN : Dir (W.alloc (.map #[] 0)) W.heap.size [] := ⟨0, World.ownsMap_made W Tryz.prog 9 Rp⟩
  have hD : Dir ((W.alloc (.map #[] 0)).alloc (.map #[] 0)) (W.heap.size + 1) [] := by
    have := World.ownsMap_made (W.alloc (.map #[] 0)) Tryz.prog 9 Rp
    rw [s1] at this
    exact ⟨0, this⟩
  have HI : Hid (Is (((W.alloc (.map #[] 0)).alloc (.map #[] 0)).alloc (.cells #[.map (some W.heap.size), .map (some (W.heap.size + 1)), .slice none 0 0, .slice none 0 0, .bool false, .bool false, .int .i64 0, .int .i64 0] 68)) W.heap.size ⟨W.heap.size + 2, W.heap.size, W.heap.size + 1, .slice none 0 0, .slice none 0 0, fun _ => False⟩ (conc id AS.new)) :=
    { fs := hF
      names := (hN.of_block (old_block _ _ _ (by omega))).of_block (old_block _ _ _ (by omega))
      dur := hD.of_block (old_block _ _ _ (by omega))
      nd := by show W.heap.size ≠ W.heap.size + 1; omega
      files := ⟨rfl, .inl ⟨rfl, rfl⟩⟩
      pend := ⟨rfl, .inl ⟨rfl, rfl⟩⟩
      each := fun f hf => by cases hf
      zl := fun k hk => hk.elim
      dist := List.nodup_nil
      bF := by show W.heap.size ≤ W.heap.size + 2; omega
      bn := Nat.le_refl _
      bd := by show W.heap.size ≤ W.heap.size + 1; omega
      bf := fun f hf => by cases hf }
  have HB := Lib.hid b2
  clear b0 b1 b2 s1 s2 hF hN hD
  have hM : ∀ w : World, (Instr.makeMap 62 none).run Tryz.prog w = .ok (.map (some w.heap.size)) (w.alloc (.map #[] 0)) := fun w => rfl
  go_enter Tryz.func14, Tryz.ntmps14
  go_wp2_with fail
  go_ret
  refine ⟨⟨W.heap.size + 2, W.heap.size, W.heap.size + 1, .slice none 0 0, .slice none 0 0, fun _ => False⟩, _, rfl, HI.out, ⟨id, rfl⟩, rfl, HB.out, ?_⟩
  rintro k (rfl | rfl | rfl | hk | hk | ⟨f, hf, rfl⟩)
  · show W.heap.size ≤ W.heap.size + 2; omega
  · exact Nat.le_refl _
  · show W.heap.size ≤ W.heap.size + 1; omega
  · simp [Value.ownBlock] at hk
  · simp [Value.ownBlock] at hk
  · cases hf
set_option maxRecDepth 100000 in
set_option maxHeartbeats 4000000 in
theorem down_is (B : Nat) (o : Loc) (s : St) (W : World) (h : Is W B o s) :
    Calls Tryz.prog 20 #[.pointer (some ⟨o.F, 0, none⟩)] W fun e w' => e = .returned (.bool s.down) ∧ w' = W := by
  obtain ⟨-, -, c4, -⟩ := fs_flags h.fs
  generalize s.down = x at c4 ⊢
  clear h
  cases x
  all_goals
    go_enter Tryz.func20, Tryz.ntmps20
    go_wp2_with fail
    go_ret
    exact ⟨rfl, rfl⟩
def AS.arm (n e : Int) (a : AS) : Int × AS := if n < 0 ∨ ¬ (e = 25 ∨ e = 26 ∨ e = 24) then (2, a) else if a.down = true then (24, a) else (0, { a with armed := true, after := n, err := e })
end Go.Proofs.YtjaojenalodolaaGreatDoor.Vf
/- Read and Pending in plain words. -/
namespace Go.Proofs.YtjaojenalodolaaGreatDoor.Vf
open Go Go.RowKit Go.Maps Go.Proofs.YtjaojenalodolaaGreatDoor Go.Proofs.YtjaojenalodolaaGreatDoor.Bs
set_option linter.unusedVariables false
def AS.read (k : ByteArray) (a : AS) : List UInt8 × Int :=
  if a.down = true then ([], 24) else match findS a.names k.data.toList with | none => ([], 23) | some i => ((a.files.getD i ⟨[], [], true⟩).data, 0)
def AS.Dl (a : AS) : Prop := ∀ f ∈ a.files, f.data.length ≤ 1000000
theorem Ab.fileD {bl : Nat → Nat} {a : AS} {i : Nat} (h : i < a.files.length) : ∃ f ∈ (conc bl a).files, f.blk = bl i ∧ f.data = (a.files.getD i ⟨[], [], true⟩).data := by
  refine ⟨(a.files.mapIdx (cf bl))[i]'(by simpa using h), List.getElem_mem _, ?_, ?_⟩
  · simp [cf]
  · simp [cf, List.getD_eq_getElem?_getD, List.getElem?_eq_getElem h]
theorem read_is (B : Nat) (o : Loc) (s : St) (a : AS) (k : ByteArray) (W : World) (h : Is W B o s) (ha : Ab a s) (hw : a.Wf) (hl : a.Dl) (hk : k.size ≤ 1000000) :
    Calls Tryz.prog 24 #[.pointer (some ⟨o.F, 0, none⟩), .string k] W fun e w' => ∃ v, e = .returned (.tuple #[v, .int .i64 (a.read k).2]) ∧ Rd w' v (a.read k).1 ∧ (∀ g, v.ownBlock = some g → W.heap.size ≤ g) ∧ Below W.heap.size W w' := by
  obtain ⟨bl, rfl⟩ := id ha
  unfold AS.read
  cases hd : a.down with
  | true =>
    refine (read_down B o _ k W h hd).mono ?_
    rintro e w' ⟨rfl, rfl⟩
    exact ⟨_, rfl, .inl ⟨rfl, rfl⟩, fun g hg => by simp [Value.ownBlock] at hg, Below.refl _ _⟩
  | false =>
    rw [if_neg (by decide)]
    cases e : findS a.names k.data.toList with
    | none =>
      refine (read_none B o _ k W h hd hk (Ab.find_none e)).mono ?_
      rintro e w' ⟨rfl, rfl⟩
      exact ⟨_, rfl, .inl ⟨rfl, rfl⟩, fun g hg => by simp [Value.ownBlock] at hg, Below.refl _ _⟩
    | some i =>
      obtain ⟨f, hm, hb, hf⟩ := Ab.fileD (bl := bl) (hw.find e)
      have hi := hw.find e
      have hlen : f.data.length ≤ 1000000 := by
        rw [hf, List.getD_eq_getElem?_getD, List.getElem?_eq_getElem hi]
        exact hl _ (List.getElem_mem _)
      refine (read_some B (bl i) o _ k f W h hd hk (Ab.find_some e) hm hb hlen).mono ?_
      rintro e w' ⟨v, rfl, h1, h2, h3⟩
      exact ⟨v, rfl, (show Rd w' v (a.files.getD i ⟨[], [], true⟩).data by rw [← hf]; exact h1), h2, h3⟩
def Flag (v : Value) (b : Bool) : Prop := v = .bool b
theorem Is.filesAt {w : World} {B : Nat} {o : Loc} {s : St} (h : Is w B o s) : ∃ g ad cap, o.fs = .slice ad s.files.length cap ∧ (0 < s.files.length → ad = some ⟨g, 0, none⟩) ∧ ∀ j (hj : j < s.files.length), w.cell? ⟨g, j, none⟩ = some (fptr s.files[j].blk) := by
  rcases h.files.2 with ⟨e, h0⟩ | ⟨g, cap, cur, e, _, hg, hc, _, _, ht⟩
  · exact ⟨0, none, 0, by rw [e, h0], fun hp => by omega, fun j hj => by omega⟩
  · refine ⟨g, _, cap, e, fun _ => rfl, fun j hj => ?_⟩
    unfold World.cell?
    simp only [hg]
    have := congrArg (fun l : List Value => l[j]?) ht
    simp only [Nat.mul_one, List.getElem?_take, if_pos hj, List.getElem?_map, List.getElem?_eq_getElem hj, Option.map_some] at this
    simpa using this
def dirty (fs : List Fl) : Nat := (fs.filter fun f => !f.synced).length
end Go.Proofs.YtjaojenalodolaaGreatDoor.Vf
/- List. -/
namespace Go.Proofs.YtjaojenalodolaaGreatDoor.Vf
open Go Go.RowKit Go.Maps Go.Proofs.YtjaojenalodolaaGreatDoor Go.Proofs.YtjaojenalodolaaGreatDoor.Bs
set_option linter.unusedVariables false
theorem lt_of_before : ∀ (a b : List UInt8), bytesBefore a b = true → a < b
  | [], [], h => by cases h
  | [], _ :: _, _ => List.nil_lt_cons _ _
  | _ :: _, [], h => by cases h
  | a :: r, b :: s, h => by
    simp only [bytesBefore, Bool.or_eq_true, decide_eq_true_eq, Bool.and_eq_true, beq_iff_eq] at h
    rw [List.cons_lt_cons_iff]
    rcases h with h | ⟨h1, h2⟩
    · exact .inl h
    · exact .inr ⟨h1, lt_of_before r s h2⟩
def So (m : Nm) : Prop := m.Pairwise fun p q => bytesBefore p.1 q.1 = true
theorem sort_names (m : Nm) (h : So m) (ss : List (List UInt8)) (hp : ss.Perm (strKeys (Dm m))) : ss.mergeSort (fun x y => decide (x ≤ y)) = m.map (·.1) := by
  have hk : strKeys (Dm m) = m.map (·.1) := by
    unfold Dm strKeys
    simp only [List.map_map]
    rfl
  rw [hk] at hp
  refine (Go.mergeSort_of_perm hp).trans ?_
  have tr : ∀ a b c : List UInt8, leB a b = true → leB b c = true → leB a c = true := fun a b c h1 h2 => by simp only [leB, decide_eq_true_eq] at *; exact List.le_trans h1 h2
  have tot : ∀ a b : List UInt8, (leB a b || leB b a) = true := fun a b => by simp only [leB, Bool.or_eq_true, decide_eq_true_eq]; exact List.le_total a b
  have hs : (m.map (·.1)).Pairwise fun a b => leB a b = true := by
    rw [List.pairwise_map]
    refine h.imp fun {p q} hpq => ?_
    simp only [leB, decide_eq_true_eq]
    exact List.le_of_lt (lt_of_before _ _ hpq)
  refine List.Perm.eq_of_pairwise (le := fun a b => leB a b = true) (fun a b _ _ h1 h2 => ?_) (List.pairwise_mergeSort tr tot _) hs (List.mergeSort_perm _ _)
  simp only [leB, decide_eq_true_eq] at h1 h2
  exact List.le_antisymm h1 h2
theorem own_base {w : World} {b c n size : Nat} {e : TypeId} {v : Value} {xs : List Value} (h : w.ownsRow c e size v n xs) (hb : b ≤ c) : w.ownsRow b e size v n xs := by
  refine ⟨h.1, ?_⟩
  rcases h.2 with h0 | ⟨g, cap, cur, e1, h1, r⟩
  · exact .inl h0
  · exact .inr ⟨g, cap, cur, e1, Nat.le_trans hb h1, r⟩
set_option maxRecDepth 100000 in
set_option maxHeartbeats 4000000 in
theorem sorted_is (F o b : Nat) (m : Nm) (W : World) (hs : So m) (hm : m.length ≤ 1000000) (hc : W.cell? ⟨F, o, none⟩ = some (.map (some b))) (hD : Dir W b m) :
    Calls Tryz.prog 61 #[.pointer (some ⟨F, o, none⟩)] W fun e w' => ∃ v, e = .returned v ∧ w'.ownsRow W.heap.size 9 1 v m.length (m.map fun p => encStr p.1) ∧ Below W.heap.size W w' := by
  have hsz : Maps.size (Dm m) = m.length := by simp [Dm, Maps.size]
  have cK := Lib.hid (callsIn_wide.1 (Tryz.maps_Keys_103 (some b) W))
  have cS := Lib.hid (callsIn_wide.1 (Tryz.slices_Sorted_keys_102_103 b m.length (Dm m) Rp W hD.tight (by rw [hsz]; unfold maxLen; omega) (by rw [hsz]; omega)))
  have HB := Lib.hid ((Below.refl W.heap.size W).alloc (Nat.le_refl _) (.cells #[.map (some b)] 62))
  clear hD
  go_enter Tryz.func61, Tryz.ntmps61
  go_wp2_with fail
  refine cK.out.mono ?_
  rintro e w1 ⟨rfl, rfl⟩
  go_wp2_with fail
  refine cS.out.mono ?_
  rintro e w2 ⟨v, ss, rfl, hp, ho, -, hb⟩
  rw [sort_names m hs ss hp] at ho
  have hlen : ss.length = m.length := by
    rw [hp.length_eq]
    unfold Dm strKeys
    simp
  rw [hlen, List.map_map] at ho
  have H := Lib.hid (And.intro (own_base (b := W.heap.size) ho HB.out.size) (below_trans HB.out hb))
  clear hp ho hb
  go_wp2_with fail
  go_ret
  exact ⟨v, rfl, H.out.1, H.out.2⟩
set_option maxRecDepth 100000 in
set_option maxHeartbeats 4000000 in
theorem list_down (B : Nat) (o : Loc) (s : St) (W : World) (h : Is W B o s) (hd : s.down = true) :
    Calls Tryz.prog 29 #[.pointer (some ⟨o.F, 0, none⟩)] W fun e w' => e = .returned (.slice none 0 0) ∧ w' = W := by
  obtain ⟨-, -, c4, -⟩ := fs_flags h.fs
  rw [hd] at c4
  clear h
  go_enter Tryz.func29, Tryz.ntmps29
  go_wp2_with fail
  go_ret
  exact ⟨rfl, rfl⟩
set_option maxRecDepth 100000 in
set_option maxHeartbeats 4000000 in
theorem list_up (B : Nat) (o : Loc) (s : St) (W : World) (h : Is W B o s) (hd : s.down = false) (hs : So s.names) (hm : s.names.length ≤ 1000000) :
    Calls Tryz.prog 29 #[.pointer (some ⟨o.F, 0, none⟩)] W fun e w' => ∃ v, e = .returned v ∧ w'.ownsRow W.heap.size 9 1 v s.names.length (s.names.map fun p => encStr p.1) ∧ Below W.heap.size W w' := by
  obtain ⟨-, -, c4, -⟩ := fs_flags h.fs
  rw [hd] at c4
  have cS := Lib.hid (sorted_is o.F 0 o.nb s.names W hs hm (fs_at0 h.fs) h.names)
  clear h
  go_enter Tryz.func29, Tryz.ntmps29
  go_wp2_with fail
  refine cS.out.mono ?_
  rintro e w2 ⟨v, rfl, H⟩
  have HH := Lib.hid H
  clear H
  go_wp2_with fail
  go_ret
  exact ⟨v, rfl, HH.out⟩
def AS.list (a : AS) : List (List UInt8) := if a.down = true then [] else a.names.map (·.1)
theorem list_is (B : Nat) (o : Loc) (s : St) (a : AS) (W : World) (h : Is W B o s) (ha : Ab a s) (hs : So a.names) (hm : a.names.length ≤ 1000000) :
    Calls Tryz.prog 29 #[.pointer (some ⟨o.F, 0, none⟩)] W fun e w' => ∃ v, e = .returned v ∧ w'.ownsRow W.heap.size 9 1 v a.list.length (a.list.map encStr) ∧ Below W.heap.size W w' := by
  obtain ⟨bl, rfl⟩ := id ha
  unfold AS.list
  cases hd : a.down with
  | true =>
    refine (list_down B o _ W h hd).mono ?_
    rintro e w' ⟨rfl, rfl⟩
    exact ⟨_, rfl, ⟨rfl, .inl ⟨rfl, rfl⟩⟩, Below.refl _ _⟩
  | false =>
    have hso : So (conc bl a).names := by
      show So (cn bl a.names)
      unfold So cn
      rw [List.pairwise_map]
      exact hs
    refine (list_up B o _ W h hd hso (by simpa [conc, cn_len] using hm)).mono ?_
    rintro e w' ⟨v, rfl, h1, h2⟩
    refine ⟨v, rfl, ?_, h2⟩
    rw [if_neg (by decide)]
    have e1 : (conc bl a).names.length = (a.names.map (·.1)).length := by simp [conc, cn]
    have e2 : ((conc bl a).names.map fun p => encStr p.1) = (a.names.map (·.1)).map encStr := by simp [conc, cn]
    rw [e1, e2] at h1
    exact h1
end Go.Proofs.YtjaojenalodolaaGreatDoor.Vf
/- Crash: what it computes, and what its loops need. -/
namespace Go.Proofs.YtjaojenalodolaaGreatDoor.Vf
open Go Go.RowKit Go.Maps Go.Proofs.YtjaojenalodolaaGreatDoor Go.Proofs.YtjaojenalodolaaGreatDoor.Bs
set_option linter.unusedVariables false
def AS.durK (a : AS) (ch : List Bool) : Nat → Nm
  | 0 => a.dur
  | k + 1 => match a.pend[k]? with
    | none => a.durK ch k
    | some c => if ch.getD k false = true then applyS (a.durK ch k) c.src c.dst c.file else a.durK ch k
def crashF (n : Int) (f : AF) : AF :=
  if f.synced = true then f else
  let d := if n < 0 then f.dur else if n < f.data.length then f.data.take n.toNat else f.data
  ⟨d, d, true⟩
def dirtyA (fs : List AF) : Nat := (fs.filter fun f => !f.synced).length
def AS.filesK (a : AS) (ls : List Int) : Nat → List AF
  | 0 => a.files
  | k + 1 => (a.filesK ls k).modify k (crashF (ls.getD (dirtyA (a.files.take k)) (-1)))
def AS.crash (ch : List Bool) (ls : List Int) (a : AS) : AS :=
  let d := a.durK ch a.pend.length
  ⟨a.filesK ls a.files.length, d, d, [], false, false, a.after, a.err⟩
theorem ins_len (x : List UInt8 × Nat) : ∀ m : Nm, (insS x m).length = m.length + 1
  | [] => rfl
  | y :: r => by
    unfold insS
    split
    · rfl
    · simp [ins_len x r]
theorem apply_len (m : Nm) (f t : ByteArray) (x : Nat) : (applyS m f t x).length ≤ m.length + 1 := by
  unfold applyS putS
  have h := del_len m f.data.toList
  simp only
  split <;> split
  · omega
  · omega
  · rw [ins_len]; have := del_len m t.data.toList; omega
  · rw [ins_len]; have := del_len (delS m f.data.toList) t.data.toList; omega
theorem AS.durK_len (a : AS) (ch : List Bool) : ∀ k, (a.durK ch k).length ≤ a.dur.length + k
  | 0 => Nat.le_refl _
  | k + 1 => by
    have ih := a.durK_len ch k
    unfold AS.durK
    split
    · omega
    · rename_i c _
      split
      · have := apply_len (a.durK ch k) c.src c.dst c.file; omega
      · omega
theorem AS.filesK_len (a : AS) (ls : List Int) : ∀ k, (a.filesK ls k).length = a.files.length
  | 0 => rfl
  | k + 1 => by
    unfold AS.filesK
    rw [List.length_modify, a.filesK_len ls k]
theorem AS.filesK_at (a : AS) (ls : List Int) (j : Nat) : ∀ k, k ≤ j → (a.filesK ls k)[j]? = a.files[j]?
  | 0, _ => rfl
  | k + 1, h => by
    unfold AS.filesK
    rw [List.getElem?_modify, a.filesK_at ls j k (by omega)]
    have hne : ¬ k = j := by omega
    simp [hne]
theorem dirtyA_step (fs : List AF) (k : Nat) (hk : k < fs.length) : dirtyA (fs.take (k + 1)) = dirtyA (fs.take k) + if fs[k].synced = true then 0 else 1 := by
  unfold dirtyA
  rw [List.take_add_one, List.filter_append, List.length_append, List.getElem?_eq_getElem hk]
  simp only [Option.toList_some, List.filter_cons, List.filter_nil]
  cases fs[k].synced <;> rfl
def Bl (w : World) (v : Value) (l : List Bool) : Prop := ∃ g off ad c, v = .slice ad l.length c ∧ (0 < l.length → ad = some ⟨g, off, none⟩) ∧ ∀ j (hj : j < l.length), w.cell? ⟨g, off + j, none⟩ = some (.bool l[j])
def Il (w : World) (v : Value) (l : List Int) : Prop := ∃ g off ad c, v = .slice ad l.length c ∧ l.length ≤ c ∧ (0 < l.length → ad = some ⟨g, off, none⟩) ∧ ∀ j (hj : j < l.length), w.cell? ⟨g, off + j, none⟩ = some (.int .i64 l[j])
theorem run_tail (g off n c : Nat) (hn : 1 ≤ n) (hc : n ≤ c) : ∃ ad, (∀ w : World, (Instr.slice 26 (.slice (some ⟨g, off, none⟩) n c) (some (.int .i64 1)) none none).run Tryz.prog w = .ok (.slice ad (n - 1) (c - 1)) w) ∧ (0 < n - 1 → ad = some ⟨g, off + 1, none⟩) ∧ (ad = some ⟨g, off, none⟩ ∨ ad = some ⟨g, off + 1, none⟩) := by
  have h1 : ∀ w : World, (Instr.sliceBound (.int .i64 1) n .sliceB).run Tryz.prog w = .ok 1 w := fun w => by
    have := run_sliceBound (P := Tryz.prog) (w := w) .i64 1 n .sliceB (by omega) (by omega)
    simpa using this
  refine ⟨if c = 1 then some ⟨g, off, none⟩ else some ⟨g, off + 1, none⟩, fun w => ?_, ?_, ?_⟩
  · unfold Instr.slice Instr.sliceBounds
    simp [run_underlying Tryz.underlying26, h1 w, Addr.add]
  · intro h
    rw [if_neg (by omega)]
  · by_cases h : c = 1
    · rw [if_pos h]; exact .inl rfl
    · rw [if_neg h]; exact .inr rfl
theorem run_sliceAt_any {P : Program} {t e : TypeId} {x : Value} {lo hi mx : Option Value} (w : World) (h : P.underlying t = some (.slice e)) : (Instr.sliceAt t x lo hi mx).run P w = (Instr.slice t x lo hi mx).run P w := by
  simp [Instr.sliceAt, run_underlying h]
theorem drop_none {ls : List Int} {d : Nat} (h : ls.drop d = []) : ls.getD d (-1) = -1 := by
  have : ls.length ≤ d := List.drop_eq_nil_iff.1 h
  rw [List.getD_eq_getElem?_getD, List.getElem?_eq_none this]; rfl
theorem drop_some {ls r : List Int} {d : Nat} {n : Int} (h : ls.drop d = n :: r) : ls.getD d (-1) = n ∧ ls.drop (d + 1) = r := by
  constructor
  · have : (ls.drop d)[0]? = some n := by rw [h]; rfl
    rw [List.getElem?_drop] at this
    rw [List.getD_eq_getElem?_getD, show d = d + 0 from rfl, this]; rfl
  · rw [← List.tail_drop, h]; rfl
theorem modify_same {l : List AF} {k : Nat} {f : AF} {g : AF → AF} (h : l[k]? = some f) (hg : g f = f) : l.modify k g = l := by
  apply List.ext_getElem?
  intro j
  rw [List.getElem?_modify]
  by_cases e : k = j
  · subst e
    rw [h]
    simp [hg]
  · simp [e]
theorem Il.cons {w : World} {v : Value} {n : Int} {r : List Int} (h : Il w v (n :: r)) : ∃ g off c nn ad, v = .slice (some ⟨g, off, none⟩) nn c ∧ nn = r.length + 1 ∧ nn ≤ c ∧ w.cell? ⟨g, off, none⟩ = some (.int .i64 n) ∧ (∀ w : World, (Instr.slice 26 v (some (.int .i64 1)) none none).run Tryz.prog w = .ok (.slice ad (nn - 1) (c - 1)) w) ∧ (∀ w : World, (Instr.sliceAt 26 v (some (.int .i64 1)) none none).run Tryz.prog w = .ok (.slice ad (nn - 1) (c - 1)) w) ∧ Il w (.slice ad (nn - 1) (c - 1)) r ∧ ∀ b, (Value.slice ad (nn - 1) (c - 1)).ownBlock = some b → v.ownBlock = some b := by
  obtain ⟨g, off, ad, c, rfl, h0, h1, h2⟩ := h
  have e := h1 (by simp)
  subst e
  obtain ⟨ad', t1, t2, t3⟩ := run_tail g off (n :: r).length c (by simp) h0
  refine ⟨g, off, c, (n :: r).length, ad', rfl, by simp, h0, h2 0 (by simp), t1, fun w => ?_, ?_, ?_⟩
  · exact (run_sliceAt_any w Tryz.underlying26).trans (t1 w)
  · refine ⟨g, off + 1, ad', c - 1, by simp, by simp at h0 ⊢; omega, fun hr => t2 (by simpa using hr), fun j hj => ?_⟩
    have := h2 (j + 1) (by simpa using hj)
    rw [show off + 1 + j = off + (j + 1) by omega]
    exact this
  · intro b hb
    rcases t3 with rfl | rfl <;> exact hb
theorem Il.nil {w : World} {v : Value} (h : Il w v []) : ∃ ad c, v = .slice ad 0 c := by
  obtain ⟨g, off, ad, c, rfl, _⟩ := h
  exact ⟨ad, c, rfl⟩
end Go.Proofs.YtjaojenalodolaaGreatDoor.Vf
/- Crash: its walk. -/
namespace Go.Proofs.YtjaojenalodolaaGreatDoor.Vf
open Go Go.RowKit Go.Maps Go.Proofs.YtjaojenalodolaaGreatDoor Go.Proofs.YtjaojenalodolaaGreatDoor.Bs
set_option linter.unusedVariables false
theorem Is.dured {w w1 : World} {B : Nat} {o : Loc} {s : St} {m : Nm} (h : Is w B o s) (hB : But o.db w w1) (hD : Dir w1 o.db m) : Is w1 B o { s with dur := m } := by
  have hk : ∀ k cur t fr, w.heap[k]? = some (Obj.cells cur t fr) → w1.heap[k]? = w.heap[k]? := fun k cur t fr hc => hB.block k (lt_of_heap hc) (by intro e; injection e with e; exact h.dur.neB hc e)
  exact
    { fs := by rw [hk _ _ _ _ h.fs]; exact h.fs
      names := h.names.of_block (hB.block _ h.names.lt (by intro e; injection e with e; exact h.nd e))
      dur := hD
      nd := h.nd
      files := own_kept h.files fun g hg => by obtain ⟨cur, hc⟩ := own_block h.files hg; exact hk _ _ _ _ hc
      pend := own_kept h.pend fun g hg => by obtain ⟨cur, hc⟩ := own_block h.pend hg; exact hk _ _ _ _ hc
      each := fun f hf => (h.each f hf).kept (by obtain ⟨dv, rv, h1, _⟩ := h.each f hf; exact hk _ _ _ _ h1) (fun g cur fr hc => hk _ _ _ _ hc)
      zl := zl_kept h.zl (fun k cur fr hc => hk k cur _ fr hc)
      dist := h.dist
      bF := h.bF
      bn := h.bn
      bd := h.bd
      bf := h.bf }
theorem flat_at (l : List Ch) (k : Nat) (hk : k < l.length) : (l.flatMap chCells)[k * 3]? = some (.string l[k].src) ∧ (l.flatMap chCells)[k * 3 + 1]? = some (.string l[k].dst) ∧ (l.flatMap chCells)[k * 3 + 2]? = some (fptrO l[k].file) := by
  induction l generalizing k with
  | nil => simp at hk
  | cons c r ih =>
    cases k with
    | zero => exact ⟨rfl, rfl, rfl⟩
    | succ k =>
      have h := ih k (by simpa using hk)
      have e : ∀ j, ((c :: r).flatMap chCells)[(k + 1) * 3 + j]? = (r.flatMap chCells)[k * 3 + j]? := fun j => by
        rw [List.flatMap_cons, List.getElem?_append_right (by simp [chCells]; omega)]
        congr 1
        simp [chCells]
        omega
      refine ⟨(e 0).trans h.1, (e 1).trans h.2.1, (e 2).trans h.2.2⟩
theorem Is.pendAt {w : World} {B : Nat} {o : Loc} {s : St} (h : Is w B o s) : ∃ g ad cap, o.ps = .slice ad s.pend.length cap ∧ (0 < s.pend.length → ad = some ⟨g, 0, none⟩ ∧ o.ps.ownBlock = some g) ∧ s.pend.length ≤ cap := by
  rcases h.pend.2 with ⟨e, h0⟩ | ⟨g, cap, cur, e, _, hg, hc, _, _, ht⟩
  · exact ⟨0, none, 0, by rw [e, h0], fun hp => by omega, by omega⟩
  · exact ⟨g, _, cap, e, fun _ => ⟨rfl, by rw [e]; rfl⟩, hc⟩
theorem Is.pendCells {w : World} {B g n cap : Nat} {o : Loc} {s : St} (h : Is w B o s) (e : o.ps = .slice (some ⟨g, 0, none⟩) n cap) (k : Nat) (hk : k < s.pend.length) :
    w.cell? ⟨g, k * 3, none⟩ = some (.string s.pend[k].src) ∧ w.cell? ⟨g, k * 3 + 1, none⟩ = some (.string s.pend[k].dst) ∧ w.cell? ⟨g, k * 3 + 2, none⟩ = some (fptrO s.pend[k].file) := by
  rcases h.pend.2 with ⟨e1, h0⟩ | ⟨g', cap', cur, e1, _, hg, hc, _, _, ht⟩
  · omega
  · rw [e] at e1
    injection e1 with e2
    injection e2 with e2
    injection e2 with e2
    subst e2
    have hx : ∀ j, j < 3 → cur[k * 3 + j]? = (s.pend.flatMap chCells)[k * 3 + j]? := fun j hj => by
      have := congrArg (fun l : List Value => l[k * 3 + j]?) ht
      simp only [List.getElem?_take, if_pos (show k * 3 + j < s.pend.length * 3 by omega)] at this
      simpa using this
    obtain ⟨f0, f1, f2⟩ := flat_at s.pend k hk
    unfold World.cell?
    simp only [hg]
    exact ⟨(hx 0 (by omega)).trans f0, (hx 1 (by omega)).trans f1, (hx 2 (by omega)).trans f2⟩
theorem cell_allocA {w : World} {a : Addr} {v : Value} (h : w.cell? a = some v) (x : Obj) : (w.alloc x).cell? a = some v := by
  have hlt := lt_of_cell h
  unfold World.cell? at h ⊢
  rw [old_block _ _ _ hlt]
  exact h
def DidU (B : Nat) (o : Loc) (s : St) (W : World) (a' : AS) (e : Ending) (w' : World) : Prop :=
  ∃ s' o', e = .returned (.tuple #[]) ∧ Ab a' s' ∧ o'.F = o.F ∧ o'.Z = o.Z ∧ Is w' B o' s' ∧ Fr W w' (foot o s) ∧ ∀ k, foot o' s' k → foot o s k ∨ W.heap.size ≤ k
structure AS.Cr (a : AS) : Prop where
  files : a.files.length ≤ 1000000
  dur : a.dur.length + a.pend.length ≤ 1000000
  pend : ∀ c ∈ a.pend, c.src.size ≤ 1000000 ∧ c.dst.size ≤ 1000000
  data : ∀ f ∈ a.files, f.data.length ≤ 1000000 ∧ f.dur.length ≤ 1000000
theorem Is.restored {w : World} {B : Nat} {o : Loc} {s : St} (h : Is w B o s) (es : Array MapEntry) (ck : Nat) (hm : w.heap[o.db]? = some (.map es ck)) (hB : B ≤ w.heap.size) :
    Is (((w.alloc (.map es ck)).setCell ⟨o.F, 0, none⟩ (.map (some w.heap.size))).setCell ⟨o.F, 3, none⟩ (.slice none 0 0)) B { o with nb := w.heap.size, ps := .slice none 0 0 } { s with names := s.dur, pend := [] } := by
  have hF := lt_of_heap h.fs
  have hF0 : (w.alloc (.map es ck)).heap[o.F]? = some (Obj.cells (fsCells o s) 68 (0, 0)) := by rw [old_block _ _ _ hF]; exact h.fs
  have h1 := heap_setCell_same _ o.F 0 _ _ (.map (some w.heap.size)) hF0
  have h2 := heap_setCell_same _ o.F 3 _ _ (.slice none 0 0) h1
  have K : ∀ k, k < w.heap.size → k ≠ o.F → (((w.alloc (.map es ck)).setCell ⟨o.F, 0, none⟩ (.map (some w.heap.size))).setCell ⟨o.F, 3, none⟩ (.slice none 0 0)).heap[k]? = w.heap[k]? := fun k hk hn => by
    rw [heap_setCell_other _ _ _ _ hn, heap_setCell_other _ _ _ _ hn, old_block _ _ _ hk]
  have KC : ∀ k cur t fr, w.heap[k]? = some (Obj.cells cur t fr) → t ≠ 68 → (((w.alloc (.map es ck)).setCell ⟨o.F, 0, none⟩ (.map (some w.heap.size))).setCell ⟨o.F, 3, none⟩ (.slice none 0 0)).heap[k]? = w.heap[k]? := fun k cur t fr hk ht => K k (lt_of_heap hk) (ne_of hk h.fs ht)
  have KD := K o.db h.dur.lt (fun e => h.dur.neB h.fs e.symm)
  have hD : Dir (((w.alloc (.map es ck)).setCell ⟨o.F, 0, none⟩ (.map (some w.heap.size))).setCell ⟨o.F, 3, none⟩ (.slice none 0 0)) w.heap.size s.dur := by
    obtain ⟨n, es', ck', hh, r⟩ := h.dur
    rw [hm] at hh
    simp only [Option.some.injEq, Obj.map.injEq] at hh
    obtain ⟨rfl, rfl⟩ := hh
    refine ⟨n, es, ck, ?_, r⟩
    have hn : w.heap.size ≠ o.F := by omega
    rw [heap_setCell_other _ _ _ _ hn, heap_setCell_other _ _ _ _ hn]
    exact new_block w _
  exact
    { fs := by rw [h2]; rfl
      names := hD
      dur := h.dur.of_block KD
      nd := by have := h.dur.lt; show w.heap.size ≠ o.db; omega
      files := own_kept h.files fun k hk => by obtain ⟨cur, hc⟩ := own_block h.files hk; exact KC _ _ _ _ hc (by decide)
      pend := ⟨rfl, .inl ⟨rfl, rfl⟩⟩
      each := fun f hf => (h.each f hf).kept (by obtain ⟨dv, rv, h1, _⟩ := h.each f hf; exact KC _ _ _ _ h1 (by decide)) (fun k cur fr hc => KC _ _ _ _ hc (by decide))
      zl := zl_kept h.zl (fun k cur fr hc => KC _ _ _ _ hc (by decide))
      dist := h.dist
      bF := h.bF
      bn := hB
      bd := h.bd
      bf := h.bf }
def gF (n : Int) (x : Fl) : Fl := ⟨x.blk, (crashF n ⟨x.data, x.dur, x.synced⟩).data, (crashF n ⟨x.data, x.dur, x.synced⟩).dur, (crashF n ⟨x.data, x.dur, x.synced⟩).synced⟩
theorem crash_dirty (n : Int) (f : AF) (h : f.synced = false) : (crashF n f).synced = true ∧ (crashF n f).dur = (crashF n f).data := by
  unfold crashF
  rw [if_neg (by rw [h]; decide)]
  exact ⟨rfl, rfl⟩
theorem Is.crashed {w w' : World} {B k : Nat} {o : Loc} {bl : Nat → Nat} {a : AS} {f : AF} {n : Int} {nd : Value} (h : Is w B o (conc bl a)) (hk : a.files[k]? = some f) (hs : f.synced = false) (K : ∀ j, j ≠ bl k → w'.heap[j]? = w.heap[j]?)
    (hb : w'.heap[bl k]? = some (Obj.cells #[nd, nd, .bool true] 76 (0, 0))) (hr : Rz o.Z w nd (crashF n f).data) : Is w' B o (conc bl { a with files := a.files.modify k (crashF n) }) := by
  have hkl : k < a.files.length := by
    rcases Nat.lt_or_ge k a.files.length with h1 | h1
    · exact h1
    · rw [List.getElem?_eq_none h1] at hk; cases hk
  have hfe : a.files[k] = f := by rw [List.getElem?_eq_getElem hkl] at hk; injection hk
  obtain ⟨fl, hm, hb0⟩ := Ab.file (bl := bl) hkl
  obtain ⟨d0, r0, hc0, -, -⟩ := h.each fl hm
  rw [hb0] at hc0
  have hbytes : ∀ (g : Nat) (cur : Array Value) (fr : Nat × Nat), w.heap[g]? = some (Obj.cells cur 5 fr) → w'.heap[g]? = w.heap[g]? := fun g cur fr hg => K g (ne_of hg hc0 (by decide))
  have ht := h.turned (w' := w') (g := gF n) (fun _ => rfl) fl hm hb0 K (fun x hx hxb => by
    obtain ⟨j, hj, e⟩ := List.getElem_of_mem hx
    have hj2 : j < a.files.length := by simpa [conc] using hj
    have ex : x = cf bl j a.files[j] := by rw [← e]; simp [conc]
    have hjk : j = k := by
      have h1 : ((a.files.mapIdx (cf bl)).map (·.blk))[j]'(by simpa using hj2) = bl j := by simp [cf]
      have h2 : ((a.files.mapIdx (cf bl)).map (·.blk))[k]'(by simpa using hkl) = bl k := by simp [cf]
      have h3 : bl j = bl k := by rw [← hxb, ex]; rfl
      rcases Nat.lt_trichotomy j k with hlt | heq | hlt
      · exact absurd (h1.trans (h3.trans h2.symm)) (List.pairwise_iff_getElem.1 h.dist j k _ _ hlt)
      · exact heq
      · exact absurd (h2.trans (h3.symm.trans h1.symm)) (List.pairwise_iff_getElem.1 h.dist k j _ _ hlt)
    subst hjk
    rw [hfe] at ex
    subst ex
    obtain ⟨c1, c2⟩ := crash_dirty n f hs
    refine ⟨nd, nd, ?_, hr.kept hbytes, ?_⟩
    · show w'.heap[bl j]? = _
      rw [hb]
      show _ = some (Obj.cells #[nd, nd, .bool (crashF n f).synced] _ _)
      rw [c1]
    · show Rz o.Z w' nd (crashF n f).dur
      rw [c2]
      exact hr.kept hbytes)
  have e := turn_conc bl a.files h.dist k hkl (gF n) (crashF n) (fun j f => rfl)
  have e2 : ({ conc bl a with files := turnFile (conc bl a).files (bl k) (gF n) } : St) = conc bl { a with files := a.files.modify k (crashF n) } := by
    show ({ conc bl a with files := turnFile (a.files.mapIdx (cf bl)) (bl k) (gF n) } : St) = _
    rw [e]
    rfl
  rw [← e2]
  exact ht
theorem three_set {w : World} {b : Nat} {x y z : Value} (u v t : Value) (h : w.heap[b]? = some (Obj.cells #[x, y, z] 76 (0, 0))) : (((w.setCell ⟨b, 0, none⟩ u).setCell ⟨b, 1, none⟩ v).setCell ⟨b, 2, none⟩ t).heap[b]? = some (Obj.cells #[u, v, t] 76 (0, 0)) ∧ ∀ j, j ≠ b → (((w.setCell ⟨b, 0, none⟩ u).setCell ⟨b, 1, none⟩ v).setCell ⟨b, 2, none⟩ t).heap[j]? = w.heap[j]? := by
  have h1 := heap_setCell_same w b 0 _ _ u h
  have h2 := heap_setCell_same _ b 1 _ _ v h1
  have h3 := heap_setCell_same _ b 2 _ _ t h2
  refine ⟨by rw [h3]; rfl, fun j hj => ?_⟩
  rw [heap_setCell_other _ _ _ _ hj, heap_setCell_other _ _ _ _ hj, heap_setCell_other _ _ _ _ hj]
theorem two_set {w : World} {b : Nat} {x y z : Value} (v t : Value) (h : w.heap[b]? = some (Obj.cells #[x, y, z] 76 (0, 0))) : ((w.setCell ⟨b, 1, none⟩ v).setCell ⟨b, 2, none⟩ t).heap[b]? = some (Obj.cells #[x, v, t] 76 (0, 0)) ∧ ∀ j, j ≠ b → ((w.setCell ⟨b, 1, none⟩ v).setCell ⟨b, 2, none⟩ t).heap[j]? = w.heap[j]? := by
  have h2 := heap_setCell_same _ b 1 _ _ v h
  have h3 := heap_setCell_same _ b 2 _ _ t h2
  refine ⟨by rw [h3]; rfl, fun j hj => ?_⟩
  rw [heap_setCell_other _ _ _ _ hj, heap_setCell_other _ _ _ _ hj]
theorem Rd.len {w : World} {ad : Option Addr} {n c : Nat} {l : List UInt8} (h : Rd w (.slice ad n c) l) : n = l.length ∧ n ≤ c := ⟨h.half.1, h.half.2.1⟩
theorem Rd.cut {w : World} {ad : Option Addr} {n c : Nat} {l : List UInt8} (q : Nat) (hq : q ≤ l.length) (h : Rd w (.slice ad n c) l) : Rd w (.slice ad q c) (l.take q) := by
  rcases h with ⟨h1, rfl⟩ | ⟨g, cap, cur, fr, h1, h2, h3, h4⟩
  · injection h1 with e1 e2 e3
    subst e1 e2 e3
    have : q = 0 := by simpa using hq
    subst this
    exact .inl ⟨rfl, rfl⟩
  · injection h1 with e1 e2 e3
    subst e1 e2 e3
    refine .inr ⟨g, c, cur, fr, ?_, h2, ?_, ?_⟩
    · rw [List.length_take, Nat.min_eq_left hq]
    · rw [List.length_take]; omega
    · rw [List.length_take, Nat.min_eq_left hq]
      have := congrArg (List.take q) h4
      rw [List.take_take, Nat.min_eq_left hq] at this
      rw [this]
      simp [Lib.byteCells, List.map_take]
theorem Is.fileAt {w : World} {B k : Nat} {o : Loc} {bl : Nat → Nat} {a : AS} {f : AF} (h : Is w B o (conc bl a)) (hk : a.files[k]? = some f) : ∃ dv rv, w.heap[bl k]? = some (Obj.cells #[dv, rv, .bool f.synced] 76 (0, 0)) ∧ Rz o.Z w dv f.data ∧ Rz o.Z w rv f.dur := by
  have hm : cf bl k f ∈ (conc bl a).files := by
    have : (conc bl a).files[k]? = some (cf bl k f) := by simp [conc, hk]
    exact List.mem_of_getElem? this
  exact h.each _ hm
theorem Is.fileCell {w : World} {B k n cap g : Nat} {o : Loc} {bl : Nat → Nat} {a : AS} (h : Is w B o (conc bl a)) (e : o.fs = .slice (some ⟨g, 0, none⟩) n cap) (hk : k < a.files.length) : w.cell? ⟨g, k, none⟩ = some (.pointer (some ⟨bl k, 0, none⟩)) := by
  obtain ⟨g', ad, cap', e1, h1, h2⟩ := h.filesAt
  have hk2 : k < (conc bl a).files.length := by simpa [conc] using hk
  rw [e, h1 (by omega)] at e1
  injection e1 with e2
  injection e2 with e2
  injection e2 with e2
  subst e2
  rw [h2 k hk2]
  simp [conc, cf, fptr]
end Go.Proofs.YtjaojenalodolaaGreatDoor.Vf
/- Crash: its walk. -/
namespace Go.Proofs.YtjaojenalodolaaGreatDoor.Vf
open Go Go.RowKit Go.Maps Go.Proofs.YtjaojenalodolaaGreatDoor Go.Proofs.YtjaojenalodolaaGreatDoor.Bs
set_option linter.unusedVariables false
set_option maxRecDepth 100000 in
set_option maxHeartbeats 4000000 in
theorem crash_is (B F : Nat) (bl : Nat → Nat) (o : Loc) (a : AS) (v2 : Value) (ch : List Bool) (ls : List Int) (W : World) (bg off n c : Nat) (bad : Option Addr) (h : Is W B o (conc bl a)) (hw : a.Wf) (hs : a.Cr) (hF : o.F = F)
    (hv1 : n = ch.length) (hbn : n ≤ 1000000000) (hb1 : 0 < n → bad = some ⟨bg, off, none⟩) (hbc : ∀ j (hj : j < ch.length), W.cell? ⟨bg, off + j, none⟩ = some (.bool ch[j])) (hbf : 0 < n → ¬ foot o (conc bl a) bg) (hil : Il W v2 ls) (hln : ls.length ≤ 1000000000) (hif : 0 < ls.length → ∀ g, v2.ownBlock = some g → ¬ foot o (conc bl a) g) :
    Calls Tryz.prog 9 #[.pointer (some ⟨F, 0, none⟩), .slice bad n c, v2] W (DidU B o (conc bl a) W (a.crash ch ls)) := by
  obtain ⟨pg, pad, pcap, e1, hpad, hpc⟩ := h.pendAt
  obtain ⟨c3, -⟩ := fs_at3 h.fs
  rw [hF, e1] at c3
  have hpl : (conc bl a).pend.length = a.pend.length := by simp [conc]
  rw [hpl] at e1 hpad hpc c3
  obtain ⟨fg, fad, fcap, ef, hfad, -⟩ := h.filesAt
  have hfl : (conc bl a).files.length = a.files.length := by simp [conc]
  rw [hfl] at ef hfad
  obtain ⟨nf, hnf⟩ : ∃ nf, a.files.length = nf := ⟨_, rfl⟩
  rw [hnf] at ef hfad
  have hnf2 : nf ≤ 1000000 := by rw [← hnf]; exact hs.files
  have HNF := Lib.hid hnf
  have HFA := Lib.hid (And.intro ef hfad)
  have HIL := Lib.hid (And.intro hil hif)
  clear ef hfad hnf hfl hil hif
  obtain ⟨m, hm⟩ : ∃ m, a.pend.length = m := ⟨_, rfl⟩
  rw [hm] at e1 hpad hpc c3
  have hm2 : m ≤ 1000000 := by have := hs.dur; omega
  have HI := Lib.hid h
  have HF := Lib.hid hF
  have HM := Lib.hid hm
  have HPA := Lib.hid hpad
  have HE := Lib.hid e1
  have HV := Lib.hid hv1
  have HB1 := Lib.hid hb1
  have HBC := Lib.hid hbc
  have HBF := Lib.hid hbf
  have HS := Lib.hid hs
  have HFR := Lib.hid (Fr.drewN W 0 (foot o (conc bl a)))
  clear h hF hm hpad e1 hv1 hb1 hbc hbf hs hpl
  go_enter Tryz.func9, Tryz.ntmps9
  go_wp2_with fail
  go_loopw [18] (fun i wr => ∃ k : Nat, k ≤ m ∧ i = .int .i64 k ∧ Hid (Is wr B o (conc bl { a with dur := a.durK ch k })) ∧ Hid (Fr W wr (foot o (conc bl a)))) (fun i _ => m - (intOf i).toNat)
  case atStart => exact ⟨0, Nat.zero_le _, rfl, HI.out, HFR.out⟩
  case round =>
    obtain ⟨k, hk, rfl, hI, hFr⟩ := hrel
    by_cases hlt : k < m
    · obtain ⟨rfl, -⟩ := HPA.out (by omega)
      have hk3 : k < (conc bl { a with dur := a.durK ch k }).pend.length := by simp [conc, HM.out]; exact hlt
      obtain ⟨q0, q1, q2⟩ := hI.out.pendCells HE.out k hk3
      obtain ⟨cx, hcx⟩ : ∃ cx, a.pend[k]'(by rw [HM.out]; exact hlt) = cx := ⟨_, rfl⟩
      have hpk : (conc bl { a with dur := a.durK ch k }).pend[k] = cc bl cx := by rw [← hcx]; simp [conc]
      have hmem : cx ∈ a.pend := by rw [← hcx]; exact List.getElem_mem _
      have hget : a.pend[k]? = some cx := by rw [List.getElem?_eq_getElem (by rw [HM.out]; exact hlt), hcx]
      rw [hpk] at q0 q1 q2
      obtain ⟨hs1, hs2⟩ := HS.out.pend cx hmem
      obtain ⟨f, hf⟩ : ∃ f, cx.src = f := ⟨_, rfl⟩
      obtain ⟨t, ht⟩ : ∃ t, cx.dst = t := ⟨_, rfl⟩
      obtain ⟨pa, hpa⟩ : ∃ pa, fptrO (cc bl cx).file = .pointer pa := by
        cases (cc bl cx).file with
        | none => exact ⟨_, rfl⟩
        | some x => exact ⟨_, rfl⟩
      have hxv : t.toList.isEmpty = false → (.pointer pa : Value) = fptr (bl cx.file) := fun e => by
        rw [← hpa]
        unfold cc
        simp only [ht, e, Bool.false_eq_true, if_false]
        rfl
      replace q0 : wr.cell? ⟨pg, k * 3, none⟩ = some (.string f) := by rw [q0, ← hf]; rfl
      replace q1 : wr.cell? ⟨pg, k * 3 + 1, none⟩ = some (.string t) := by rw [q1, ← ht]; rfl
      rw [hpa] at q2
      rw [hf] at hs1
      rw [ht] at hs2
      have HX := Lib.hid (And.intro hxv (And.intro hf (And.intro ht hget)))
      clear hpk hmem hget hf ht hpa hxv hcx hk3
      have hdl : (a.durK ch k).length ≤ 1000000 := by have := a.durK_len ch k; have := HS.out.dur; have := HM.out; omega
      have HB0 := Lib.hid ((Below.refl wr.heap.size wr).alloc (Nat.le_refl _) (.cells #[.string f, .string t, .pointer pa] 71))
      have HI0 := Lib.hid (hI.out.below HB0.out)
      have HS0 := Lib.hid (heap_alloc_new wr (.cells #[.string f, .string t, .pointer pa] 71))
      have HFr := Lib.hid hFr.out
      have HIr := Lib.hid hI.out
      have HDL := Lib.hid hdl
      clear hI hFr hdl
      by_cases hkn : k < n
      · obtain rfl := HB1.out (by omega)
        have hkc : k < ch.length := by rw [← HV.out]; exact hkn
        have hcb := HBC.out k hkc
        have hcb2 : wr.cell? ⟨bg, off + k, none⟩ = some (.bool ch[k]) := by
          have hl := lt_of_cell hcb
          unfold World.cell? at hcb ⊢
          rw [HFr.out.block bg hl (HBF.out (by omega))]
          exact hcb
        have hgd : ch.getD k false = ch[k] := by rw [List.getD_eq_getElem?_getD, List.getElem?_eq_getElem hkc]; rfl
        have hcb3 := cell_allocA hcb2 (.cells #[.string f, .string t, .pointer pa] 71)
        clear hcb
        cases hb : ch[k] with
        | true =>
          rw [hb] at hcb2 hcb3 hgd
          have HK1 : Hid (a.durK ch (k + 1) = applyS (a.durK ch k) f t cx.file) := by
            show AS.durK a ch (k + 1) = _
            simp only [AS.durK]
            rw [HX.out.2.2.2]
            simp only [hgd, if_true]
            rw [HX.out.2.1, HX.out.2.2.1]
          clear hb hgd hkc
          have cP := fun (w : World) (hc : w.cell? ⟨F, 1, none⟩ = some (.map (some o.db))) (hD : Dir w o.db (cn bl (a.durK ch k))) => apply_is F 1 o.db (bl cx.file) f t (.pointer pa) (cn bl (a.durK ch k)) w hs1 hs2 (by rw [cn_len]; exact HDL.out) HX.out.1 hc hD
          have CP := Lib.hid cP
          have z0 : (wr.alloc (.cells #[.string f, .string t, .pointer pa] 71)).cell? ⟨wr.heap.size, 0, none⟩ = some (.string f) := by unfold World.cell?; simp only [HS0.out]; rfl
          have z1 : (wr.alloc (.cells #[.string f, .string t, .pointer pa] 71)).cell? ⟨wr.heap.size, 1, none⟩ = some (.string t) := by unfold World.cell?; simp only [HS0.out]; rfl
          have z2 : (wr.alloc (.cells #[.string f, .string t, .pointer pa] 71)).cell? ⟨wr.heap.size, 2, none⟩ = some (.pointer pa) := by unfold World.cell?; simp only [HS0.out]; rfl
          clear cP
          go_wp2_with fail
          clear q0 q1 q2 hcb2 hcb3
          generalize (wr.alloc (.cells #[.string f, .string t, .pointer pa] 71)) = w0 at z0 z1 z2 HB0 HI0 HS0 ⊢
          go_still_tail 4, (by kernel_rfl)
          change wpList _ _ _ _ _ w0.drew
          go_wp2_with fail
          have hcF : w0.drew.cell? ⟨F, 1, none⟩ = some (.map (some o.db)) := by
            have := (fs_flags HI0.out.fs).1
            rw [HF.out] at this
            exact this
          refine (CP.out w0.drew hcF (HI0.out.dur.of_block rfl)).mono ?_
          rintro e w1 ⟨rfl, hD1, hB1'⟩
          have hB1 : But o.db w0 w1 := ⟨hB1'.os, hB1'.tape, hB1'.output, hB1'.size, hB1'.block⟩
          rw [cn_apply, ← HK1.out] at hD1
          have HI1 := Lib.hid (Is.dured (w := w0) HI0.out hB1 hD1)
          have HF1 := Lib.hid ((HFr.out.trans (Fr.of_below HB0.out (foot o (conc bl a))) (fun _ _ e => e)).trans (Fr.of_but hB1 (foot o (conc bl a)) (.inr (.inr (.inl rfl)))) (fun _ _ e => e))
          clear hD1 hB1 hB1' hcF
          go_wp2_with fail
          go_roundw
          case rel => exact ⟨k + 1, by omega, by go_num, HI1.out, HF1.out⟩
          case measure => simp [intOf]; omega
        | false =>
          rw [hb] at hcb2 hcb3 hgd
          have HK1 : Hid (a.durK ch (k + 1) = a.durK ch k) := by
            show AS.durK a ch (k + 1) = _
            simp only [AS.durK]
            rw [HX.out.2.2.2]
            simp only [hgd, Bool.false_eq_true, if_false]
          clear hb hgd hkc
          go_wp2_with fail
          go_roundw
          case rel => exact ⟨k + 1, by omega, by go_num, by rw [HK1.out]; exact HI0.out, HFr.out.trans (Fr.of_below HB0.out (foot o (conc bl a))) (fun _ _ e => e)⟩
          case measure => simp [intOf]; omega
      · have hgd : ch.getD k false = false := by
          have : ch.length ≤ k := by rw [← HV.out]; omega
          rw [List.getD_eq_getElem?_getD, List.getElem?_eq_none this]; rfl
        have HK1 : Hid (a.durK ch (k + 1) = a.durK ch k) := by
          show AS.durK a ch (k + 1) = _
          simp only [AS.durK]
          rw [HX.out.2.2.2]
          simp only [hgd, Bool.false_eq_true, if_false]
        clear hgd
        have hdk : decide ((k : Int) < (n : Int)) = false := decide_eq_false (by omega)
        go_wp2_with fail
        go_roundw
        case rel => exact ⟨k + 1, by omega, by go_num, by rw [HK1.out]; exact HI0.out, HFr.out.trans (Fr.of_below HB0.out (foot o (conc bl a))) (fun _ _ e => e)⟩
        case measure => simp [intOf]; omega
    · have hkm : k = m := by omega
      subst hkm
      have hdur : a.durK ch k = a.durK ch a.pend.length := by rw [HM.out]
      have hI2 := hI.out
      rw [hdur] at hI2
      obtain ⟨es, ck, hmap⟩ := hI2.dur.block
      have hBs : B ≤ wr.heap.size := Nat.le_trans hI2.bF (Nat.le_of_lt (lt_of_heap hI2.fs))
      have hI3 := hI2.restored es ck hmap hBs
      have hI3' : Is (((wr.alloc (.map es ck)).setCell ⟨o.F, 0, none⟩ (.map (some wr.heap.size))).setCell ⟨o.F, 3, none⟩ (.slice none 0 0)) B { o with nb := wr.heap.size, ps := .slice none 0 0 } (conc bl { a with dur := a.durK ch a.pend.length, names := a.durK ch a.pend.length, pend := [] }) := hI3
      have hF3 : Fr wr (((wr.alloc (.map es ck)).setCell ⟨o.F, 0, none⟩ (.map (some wr.heap.size))).setCell ⟨o.F, 3, none⟩ (.slice none 0 0)) (foot o (conc bl a)) := ((Fr.of_below ((Below.refl wr.heap.size wr).alloc (Nat.le_refl _) (.map es ck)) (foot o (conc bl a))).trans (Fr.set _ ⟨o.F, 0, none⟩ (.map (some wr.heap.size)) (foot o (conc bl a)) (.inl rfl)) (fun _ _ e => e)).trans (Fr.set _ ⟨o.F, 3, none⟩ (.slice none 0 0) (foot o (conc bl a)) (.inl rfl)) (fun _ _ e => e)
      rw [HF.out] at hI3' hF3
      obtain ⟨d1, d2, -, -, -, -, dz⟩ := fs_flags hI2.fs
      rw [HFA.out.1] at d2
      have d0 := fs_at0 hI2.fs
      obtain ⟨d3, -⟩ := fs_at3 hI2.fs
      rw [HF.out] at d0 d1 d2 d3 dz
      have cC := Lib.hid (mclone_is o.db es ck wr hmap)
      have e0 := cell_allocA d0 (.map es ck)
      have e2 := cell_allocA d2 (.map es ck)
      have e3 := cell_allocA d3 (.map es ck)
      have z0 : (wr.alloc (.map es ck)).frozen? ⟨F, 0, none⟩ = false := by
        have := dz 0
        unfold World.frozen? at this ⊢
        rw [old_block _ _ _ (lt_of_cell d0)]; exact this
      have z3 : (wr.alloc (.map es ck)).frozen? ⟨F, 3, none⟩ = false := by
        have := dz 3
        unfold World.frozen? at this ⊢
        rw [old_block _ _ _ (lt_of_cell d0)]; exact this
      have HWS := Lib.hid hFr.out.size
      have H3 := Lib.hid (And.intro hI3' (hFr.out.trans hF3 (fun _ _ e => e)))
      clear hI hFr hI2 hI3 hI3' hF3 hmap dz hdur
      go_wp2_with fail
      refine cC.out.mono ?_
      rintro e w1 ⟨rfl, rfl⟩
      clear d0 d1 d2 d3
      go_wp2_with fail
      go_loopw [2, 57] (fun v i wr => ∃ k : Nat, k ≤ nf ∧ i = .int .i64 k ∧ Hid (Il W v (ls.drop (dirtyA (a.files.take k)))) ∧ Hid (0 < ls.length → ∀ g, v.ownBlock = some g → ¬ foot o (conc bl a) g) ∧ Hid (∃ nb', Is wr B { o with F := F, nb := nb', ps := .slice none 0 0 } (conc bl { a with files := a.filesK ls k, dur := a.durK ch a.pend.length, names := a.durK ch a.pend.length, pend := [] }) ∧ W.heap.size ≤ nb') ∧ Hid (Fr W wr (foot o (conc bl a)))) (fun _ i _ => nf - (intOf i).toNat)
      case atStart => exact ⟨0, Nat.zero_le _, rfl, HIL.out.1, HIL.out.2, ⟨_, H3.out.1, HWS.out⟩, H3.out.2⟩
      case round =>
        clear e0 e2 e3 z0 z3 c3
        obtain ⟨k2, hk2, rfl, hil, hif, hI, hFr⟩ := hrel
        by_cases hlt2 : k2 < nf
        · obtain rfl := HFA.out.2 (by omega)
          obtain ⟨nb', hIs, hnb⟩ := hI.out
          have hk3 : k2 < a.files.length := by rw [HNF.out]; exact hlt2
          obtain ⟨f, hf⟩ : ∃ f, a.files[k2] = f := ⟨_, rfl⟩
          have hat : (a.filesK ls k2)[k2]? = some f := by rw [a.filesK_at ls k2 k2 (Nat.le_refl _), List.getElem?_eq_getElem hk3, hf]
          have hds := dirtyA_step a.files k2 hk3
          rw [hf] at hds
          have q0 := hIs.fileCell HFA.out.1 (k := k2) (by rw [a.filesK_len]; exact hk3)
          obtain ⟨dv, rv, hcb, hrd, hrr⟩ := hIs.fileAt hat
          have hbfoot : foot o (conc bl a) (bl k2) := .inr (.inr (.inr (.inr (.inr (Ab.file (bl := bl) hk3)))))
          generalize hbl : bl k2 = b at q0 hcb hbfoot
          obtain ⟨c0, c1, c2, cz⟩ := file_cells hcb
          obtain ⟨da, dn, dc, hdv⟩ := hrd.1.slice
          obtain ⟨ra, rn, rc, hrv⟩ := hrr.1.slice
          subst hdv
          subst hrv
          obtain ⟨hdn, hdc⟩ := hrd.1.len
          have z0 := cz 0
          have z1 := cz 1
          have z2 := cz 2
          have HX := Lib.hid (And.intro hIs (And.intro hnb (And.intro hat (And.intro hcb (And.intro hrd (And.intro hrr (And.intro hbfoot (And.intro hbl (And.intro hds hdn)))))))))
          have HFr := Lib.hid hFr.out
          clear hIs hnb hat hcb hrd hrr hbfoot hbl hds cz hI hFr hf hk3
          cases hsy : f.synced with
          | true =>
            rw [hsy] at c2
            have HK : Hid (a.filesK ls (k2 + 1) = a.filesK ls k2) := modify_same HX.out.2.2.1 (by unfold crashF; rw [if_pos hsy])
            have HD : Hid (dirtyA (a.files.take (k2 + 1)) = dirtyA (a.files.take k2)) := by have := HX.out.2.2.2.2.2.2.2.2.1; rw [hsy] at this; exact this
            clear hsy hdn
            go_wp2_with fail
            go_roundw
            case rel => exact ⟨k2 + 1, by omega, by go_num, by rw [HD.out]; exact hil.out, hif.out, ⟨nb', by rw [HK.out]; exact HX.out.1, HX.out.2.1⟩, HFr.out⟩
            case measure => simp [intOf]; omega
          | false =>
            rw [hsy] at c2
            have HD : Hid (dirtyA (a.files.take (k2 + 1)) = dirtyA (a.files.take k2) + 1) := by have := HX.out.2.2.2.2.2.2.2.2.1; rw [hsy] at this; exact this
            have HSY := Lib.hid hsy
            clear hsy
            obtain ⟨d, hd⟩ : ∃ d, dirtyA (a.files.take k2) = d := ⟨_, rfl⟩
            have HIL2 := Lib.hid hil.out
            have HIF2 := Lib.hid hif.out
            have HDD := Lib.hid hd
            rw [hd] at HIL2 HD
            clear hil hif hd
            cases hls : ls.drop d with
            | nil =>
              rw [hls] at HIL2
              obtain ⟨ad, c', rfl⟩ := HIL2.out.nil
              have HN : Hid (ls.getD d (-1) = -1) := drop_none hls
              have HL1 : Hid (ls.drop (d + 1) = []) := List.drop_eq_nil_iff.2 (by have := List.drop_eq_nil_iff.1 hls; omega)
              clear hls hdn
              go_wp2_with fail
              go_roundw
              case rel =>
                obtain ⟨hb1, hK⟩ := three_set (.slice ra rn rc) (.slice ra rn rc) (.bool true) HX.out.2.2.2.1
                have hcr : (crashF (-1) f).data = f.dur := by unfold crashF; rw [if_neg (by rw [HSY.out]; decide)]; rfl
                have hi' := HX.out.1.crashed (n := ls.getD (dirtyA (a.files.take k2)) (-1)) HX.out.2.2.1 HSY.out (by rw [HX.out.2.2.2.2.2.2.2.1]; exact hK) (by rw [HX.out.2.2.2.2.2.2.2.1]; exact hb1) (by rw [HDD.out, HN.out, hcr]; exact HX.out.2.2.2.2.2.1)
                exact ⟨k2 + 1, by omega, by go_num, by rw [HD.out, HL1.out]; exact HIL2.out, HIF2.out, ⟨nb', hi', HX.out.2.1⟩, ((HFr.out.trans (Fr.set _ _ _ _ HX.out.2.2.2.2.2.2.1) (fun _ _ e => e)).trans (Fr.set _ _ _ _ HX.out.2.2.2.2.2.2.1) (fun _ _ e => e)).trans (Fr.set _ _ _ _ HX.out.2.2.2.2.2.2.1) (fun _ _ e => e)⟩
              case measure => simp [intOf]; omega
            | cons N r =>
              rw [hls] at HIL2
              obtain ⟨lg, loff, c', nn, ad, rfl, hnn, hnc, hcN, hsl, hsl2, hil', hown⟩ := HIL2.out.cons
              obtain ⟨hN, hL1⟩ := drop_some hls
              have hcN2 : wr.cell? ⟨lg, loff, none⟩ = some (.int .i64 N) := by
                have hl := lt_of_cell hcN
                unfold World.cell? at hcN ⊢
                rw [HFr.out.block lg hl (HIF2.out (by have h1 := congrArg List.length hls; rw [List.length_drop] at h1; simp at h1; omega) lg rfl)]
                exact hcN
              have hnl : nn ≤ 1000000000 := by
                have : (ls.drop d).length ≤ ls.length := by rw [List.length_drop]; omega
                rw [hls] at this
                simp at this
                omega
              have hn1 : (0 : Int) < (nn : Int) := by omega
              have HT := Lib.hid (And.intro hil' (And.intro hown (And.intro hN hL1)))
              have HIF3 : Hid (0 < ls.length → ∀ g, (Value.slice ad (nn - 1) (c' - 1)).ownBlock = some g → ¬ foot o (conc bl a) g) := fun h0 g hg => HIF2.out h0 g (hown g hg)
              clear hil' hown hN hL1 hls hcN hnn HIL2 HIF2
              have hSY : ¬ f.synced = true := by rw [HSY.out]; decide
              have HNS := Lib.hid hSY
              clear hSY
              by_cases hneg : N < 0
              · have g1 : decide (N < (0 : Int)) = true := decide_eq_true hneg
                have g2 : decide ((0 : Int) ≤ N) = false := decide_eq_false (by omega)
                have HNEG := Lib.hid hneg
                clear hneg hdn
                go_wp2_with fail
                go_quiet (fail)
                go_wp2_with fail
                go_roundw
                case rel =>
                  obtain ⟨hb1, hK⟩ := three_set (w := wr.drewN nq) (.slice ra rn rc) (.slice ra rn rc) (.bool true) HX.out.2.2.2.1
                  have hcr : (crashF N f).data = f.dur := by unfold crashF; rw [if_neg HNS.out]; simp only [HNEG.out, if_true]
                  have hi' := (HX.out.1.drewN nq).crashed (n := ls.getD (dirtyA (a.files.take k2)) (-1)) HX.out.2.2.1 HSY.out (by rw [HX.out.2.2.2.2.2.2.2.1]; exact hK) (by rw [HX.out.2.2.2.2.2.2.2.1]; exact hb1) (by rw [HDD.out, HT.out.2.2.1, hcr]; exact HX.out.2.2.2.2.2.1)
                  exact ⟨k2 + 1, by omega, by go_num, by rw [HD.out, HT.out.2.2.2]; exact HT.out.1, HIF3.out, ⟨nb', hi', HX.out.2.1⟩, ((((HFr.out.trans (Fr.drewN wr nq _) (fun _ _ e => e)).trans (Fr.set _ _ _ _ HX.out.2.2.2.2.2.2.1) (fun _ _ e => e)).trans (Fr.set _ _ _ _ HX.out.2.2.2.2.2.2.1) (fun _ _ e => e)).trans (Fr.set _ _ _ _ HX.out.2.2.2.2.2.2.1) (fun _ _ e => e))⟩
                case measure => simp [intOf]; omega
              · obtain ⟨q, rfl⟩ := Int.eq_ofNat_of_zero_le (by omega : 0 ≤ N)
                by_cases hq : q < dn
                · have g1 : decide ((q : Int) < (0 : Int)) = false := decide_eq_false (by omega)
                  have g2 : decide ((0 : Int) ≤ (q : Int)) = true := decide_eq_true (by omega)
                  have g3 : (q : Int) < (dn : Int) := by omega
                  have g4 : (0 : Int) ≤ (q : Int) := by omega
                  have g5 : (q : Int) ≤ (dc : Int) := by omega
                  have HQ := Lib.hid (show q < f.data.length by rw [← hdn]; exact hq)
                  clear hneg hdn hq
                  go_wp2_with fail
                  go_quiet (fail)
                  go_wp2_with fail
                  go_roundw
                  case rel =>
                    obtain ⟨hb1, hK⟩ := three_set (w := wr.drewN nq) (.slice da q dc) (.slice da q dc) (.bool true) HX.out.2.2.2.1
                    have hcr : (crashF (q : Int) f).data = f.data.take q := by
                        unfold crashF
                        rw [if_neg HNS.out]
                        have h1 : ¬ ((q : Int) < 0) := by omega
                        have h2 : (q : Int) < (f.data.length : Int) := by have := HQ.out; omega
                        simp only [h1, h2, if_true, if_false, Int.toNat_natCast]
                    have hi' := (HX.out.1.drewN nq).crashed (n := ls.getD (dirtyA (a.files.take k2)) (-1)) HX.out.2.2.1 HSY.out (by rw [HX.out.2.2.2.2.2.2.2.1]; exact hK) (by rw [HX.out.2.2.2.2.2.2.2.1]; exact hb1) (by rw [HDD.out, HT.out.2.2.1, hcr]; exact ⟨HX.out.2.2.2.2.1.1.cut q (Nat.le_of_lt HQ.out), fun g hg => HX.out.2.2.2.2.1.2 g (by cases da <;> exact hg)⟩)
                    exact ⟨k2 + 1, by omega, by go_num, by rw [HD.out, HT.out.2.2.2]; exact HT.out.1, HIF3.out, ⟨nb', hi', HX.out.2.1⟩, ((((HFr.out.trans (Fr.drewN wr nq _) (fun _ _ e => e)).trans (Fr.set _ _ _ _ HX.out.2.2.2.2.2.2.1) (fun _ _ e => e)).trans (Fr.set _ _ _ _ HX.out.2.2.2.2.2.2.1) (fun _ _ e => e)).trans (Fr.set _ _ _ _ HX.out.2.2.2.2.2.2.1) (fun _ _ e => e))⟩
                  case measure => simp [intOf]; omega
                · have g1 : decide ((q : Int) < (0 : Int)) = false := decide_eq_false (by omega)
                  have g2 : decide ((0 : Int) ≤ (q : Int)) = true := decide_eq_true (by omega)
                  have g3 : ¬ ((q : Int) < (dn : Int)) := by omega
                  have HQ := Lib.hid (show ¬ q < f.data.length by rw [← hdn]; exact hq)
                  clear hneg hdn
                  go_wp2_with fail
                  go_quiet (fail)
                  go_wp2_with fail
                  go_roundw
                  case rel =>
                    obtain ⟨hb1, hK⟩ := two_set (w := wr.drewN nq) (.slice da dn dc) (.bool true) HX.out.2.2.2.1
                    have hcr : (crashF (q : Int) f).data = f.data := by
                        unfold crashF
                        rw [if_neg HNS.out]
                        have h1 : ¬ ((q : Int) < 0) := by omega
                        have h2 : ¬ ((q : Int) < (f.data.length : Int)) := by have := HQ.out; omega
                        simp only [h1, h2, if_false]
                    have hi' := (HX.out.1.drewN nq).crashed (n := ls.getD (dirtyA (a.files.take k2)) (-1)) HX.out.2.2.1 HSY.out (by rw [HX.out.2.2.2.2.2.2.2.1]; exact hK) (by rw [HX.out.2.2.2.2.2.2.2.1]; exact hb1) (by rw [HDD.out, HT.out.2.2.1, hcr]; exact HX.out.2.2.2.2.1)
                    exact ⟨k2 + 1, by omega, by go_num, by rw [HD.out, HT.out.2.2.2]; exact HT.out.1, HIF3.out, ⟨nb', hi', HX.out.2.1⟩, (((HFr.out.trans (Fr.drewN wr nq _) (fun _ _ e => e)).trans (Fr.set _ _ _ _ HX.out.2.2.2.2.2.2.1) (fun _ _ e => e)).trans (Fr.set _ _ _ _ HX.out.2.2.2.2.2.2.1) (fun _ _ e => e))⟩
                  case measure => simp [intOf]; omega
        · obtain ⟨nb', hIs, hnb⟩ := hI.out
          obtain ⟨-, -, d4, d5, -, -, dz⟩ := fs_flags hIs.fs
          have z4 := dz 4
          have z5 := dz 5
          have hk3 : k2 = nf := by omega
          subst hk3
          have HX := Lib.hid (And.intro hIs (And.intro hnb hFr.out))
          clear hIs hnb hFr dz hI
          go_wp2_with fail
          go_end0
          obtain ⟨hIs, hnb, hFr⟩ := HX.out
          have h1 := hIs.flag (j := 4) (v := .bool false) (s' := { conc bl { a with files := a.filesK ls k2, dur := a.durK ch a.pend.length, names := a.durK ch a.pend.length, pend := [] } with down := false }) rfl rfl rfl rfl rfl
          have h2 := h1.flag (j := 5) (v := .bool false) (s' := { conc bl { a with files := a.filesK ls k2, dur := a.durK ch a.pend.length, names := a.durK ch a.pend.length, pend := [] } with down := false, armed := false }) rfl rfl rfl rfl rfl
          refine ⟨_, { o with F := F, nb := nb', ps := .slice none 0 0 }, rfl, ⟨bl, ?_⟩, HF.out.symm, rfl, h2, (hFr.trans (Fr.set _ _ _ _ (.inl HF.out.symm)) (fun _ _ e => e)).trans (Fr.set _ _ _ _ (.inl HF.out.symm)) (fun _ _ e => e), ?_⟩
          · unfold AS.crash
            rw [HNF.out]
            rfl
          · rintro k' (rfl | rfl | rfl | hk' | hk' | ⟨f, hf, rfl⟩)
            · exact .inl (.inl HF.out.symm)
            · exact .inr hnb
            · exact .inl (.inr (.inr (.inl rfl)))
            · exact .inl (.inr (.inr (.inr (.inl hk'))))
            · simp [Value.ownBlock] at hk'
            · obtain ⟨j, hj, e⟩ := List.getElem_of_mem hf
              have hj2 : j < a.files.length := by
                have : j < ((a.filesK ls k2).mapIdx (cf bl)).length := hj
                rw [List.length_mapIdx, a.filesK_len] at this
                exact this
              have e2 : f.blk = bl j := by rw [← e]; simp [conc, cf]
              rw [e2]
              exact .inl (.inr (.inr (.inr (.inr (.inr (Ab.file hj2))))))
end Go.Proofs.YtjaojenalodolaaGreatDoor.Vf
/- Left out. -/
/- Directories as sorted lists. -/
namespace Go.Proofs.YtjaojenalodolaaGreatDoor.Vf
open Go Go.RowKit Go.Maps Go.Proofs.YtjaojenalodolaaGreatDoor Go.Proofs.YtjaojenalodolaaGreatDoor.Bs
set_option linter.unusedVariables false
theorem So.del {m : Nm} (h : So m) (k : List UInt8) : So (delS m k) := List.Pairwise.filter _ h
theorem mem_ins (x : List UInt8 × Nat) : ∀ (m : Nm) (p : List UInt8 × Nat), p ∈ insS x m ↔ p = x ∨ p ∈ m
  | [], p => by simp [insS]
  | y :: r, p => by
    unfold insS
    split
    · simp
    · simp only [List.mem_cons, mem_ins x r p]
      constructor
      · rintro (h | h | h)
        · exact .inr (.inl h)
        · exact .inl h
        · exact .inr (.inr h)
      · rintro (h | h | h)
        · exact .inr (.inl h)
        · exact .inl h
        · exact .inr (.inr h)
theorem before_or (a b : List UInt8) (h : a ≠ b) (hn : bytesBefore a b = false) : bytesBefore b a = true := by
  rcases WideAt.bytes_total a b h with h1 | h1
  · rw [hn] at h1; cases h1
  · exact h1
theorem So.ins {x : List UInt8 × Nat} : ∀ {m : Nm}, So m → (∀ p ∈ m, p.1 ≠ x.1) → So (insS x m)
  | [], _, _ => by simp [insS, So]
  | y :: r, h, hn => by
    unfold So at h
    rw [List.pairwise_cons] at h
    obtain ⟨h1, h2⟩ := h
    unfold insS
    cases e : bytesBefore x.1 y.1 with
    | true =>
      simp only [if_true]
      unfold So
      rw [List.pairwise_cons]
      refine ⟨fun p hp => ?_, by rw [List.pairwise_cons]; exact ⟨h1, h2⟩⟩
      rcases List.mem_cons.1 hp with rfl | hp
      · exact e
      · exact WideShapes.bytes_trans _ _ _ e (h1 p hp)
    | false =>
      simp only [Bool.false_eq_true, if_false]
      unfold So
      rw [List.pairwise_cons]
      refine ⟨fun p hp => ?_, So.ins h2 (fun p hp => hn p (List.mem_cons_of_mem _ hp))⟩
      rcases (mem_ins x r p).1 hp with rfl | hp
      · exact before_or _ _ (fun e2 => hn y (List.mem_cons_self) e2.symm) e
      · exact h1 p hp
theorem del_ne {m : Nm} {k : List UInt8} : ∀ p ∈ delS m k, p.1 ≠ k := fun p hp e => by
  have := (List.mem_filter.1 hp).2
  simp [e] at this
theorem So.put {m : Nm} (h : So m) (k : List UInt8) (i : Nat) : So (putS m k i) := (h.del k).ins del_ne
theorem So.nil : So [] := List.Pairwise.nil
theorem find_ins (x : List UInt8 × Nat) (k : List UInt8) : ∀ m : Nm, (∀ p ∈ m, p.1 ≠ x.1) → findS (insS x m) k = if x.1 = k then some x.2 else findS m k
  | [], _ => by
    unfold insS findS
    simp only [List.find?_cons]
    by_cases e : x.1 = k
    · simp [e]
    · have e2 : (x.1 == k) = false := by simpa using e
      simp [e, e2]
  | y :: r, hn => by
    have ih := find_ins x k r (fun p hp => hn p (List.mem_cons_of_mem _ hp))
    unfold insS
    split
    · unfold findS
      simp only [List.find?_cons]
      by_cases e : x.1 = k
      · simp [e]
      · have e2 : (x.1 == k) = false := by simpa using e
        simp [e, e2]
    · unfold findS at ih ⊢
      simp only [List.find?_cons]
      by_cases e : y.1 = k
      · have e3 : x.1 ≠ k := fun e4 => hn y (List.mem_cons_self) (e.trans e4.symm)
        simp [e, e3]
      · have e2 : (y.1 == k) = false := by simpa using e
        simp only [e2]
        exact ih
theorem find_del (m : Nm) (k k' : List UInt8) : findS (delS m k) k' = if k = k' then none else findS m k' := by
  unfold findS delS
  induction m with
  | nil => simp
  | cons y r ih =>
    simp only [List.filter_cons, List.find?_cons]
    by_cases e : y.1 = k
    · have e2 : (y.1 == k) = true := by simpa using e
      simp only [e2, Bool.not_true, Bool.false_eq_true, if_false]
      rw [ih]
      by_cases e3 : k = k'
      · simp [e3]
      · have e4 : (y.1 == k') = false := by rw [e]; simpa using e3
        simp [e3, e4]
    · have e2 : (y.1 == k) = false := by simpa using e
      simp only [e2, Bool.not_false, if_true, List.find?_cons]
      by_cases e3 : y.1 = k'
      · have e4 : (y.1 == k') = true := by simpa using e3
        have e5 : k ≠ k' := fun e6 => e (e3.trans e6.symm)
        simp [e4, e5]
      · have e4 : (y.1 == k') = false := by simpa using e3
        simp only [e4]
        exact ih
theorem find_put (m : Nm) (k : List UInt8) (i : Nat) (k' : List UInt8) : findS (putS m k i) k' = if k = k' then some i else findS m k' := by
  unfold putS
  rw [find_ins _ _ _ del_ne, find_del]
  simp only
  split <;> rfl
theorem So.find {m : Nm} (h : So m) {p : List UInt8 × Nat} (hp : p ∈ m) : findS m p.1 = some p.2 := by
  induction m with
  | nil => cases hp
  | cons y r ih =>
    unfold So at h
    rw [List.pairwise_cons] at h
    unfold findS
    simp only [List.find?_cons]
    rcases List.mem_cons.1 hp with rfl | hp
    · simp
    · have e : y.1 ≠ p.1 := fun e => by
        have := h.1 p hp
        rw [e, WideAt.bytes_irrefl] at this
        cases this
      have e2 : (y.1 == p.1) = false := by simpa using e
      simp only [e2]
      exact ih h.2 hp
theorem So.ext {m m' : Nm} (h : So m) (h' : So m') (he : ∀ k, findS m k = findS m' k) : m = m' := by
  refine List.Perm.eq_of_pairwise (le := fun (p q : List UInt8 × Nat) => bytesBefore p.1 q.1 = true) (fun a b ha hb h1 h2 => ?_) h h' ?_
  · have := WideShapes.bytes_trans _ _ _ h1 h2
    rw [WideAt.bytes_irrefl] at this
    cases this
  · have nd : ∀ {l : Nm}, So l → l.Nodup := fun {l} hl => hl.imp fun {p q} hpq e => by
      subst e
      rw [WideAt.bytes_irrefl] at hpq
      cases hpq
    refine (List.perm_ext_iff_of_nodup (nd h) (nd h')).2 fun p => ?_
    constructor
    · intro hp
      have := h.find hp
      rw [he] at this
      exact find_mem this
    · intro hp
      have := h'.find hp
      rw [← he] at this
      exact find_mem this
end Go.Proofs.YtjaojenalodolaaGreatDoor.Vf
/- Left out. -/
/- Left out. -/
/- Left out. -/
/- The file system as its callers see it. -/
namespace Go.Proofs.YtjaojenalodolaaGreatDoor.Vf
open Go Go.RowKit Go.Maps Go.Proofs.YtjaojenalodolaaGreatDoor Go.Proofs.YtjaojenalodolaaGreatDoor.Bs
set_option linter.unusedVariables false
def Fs (w : World) (B F : Nat) (Z : Nat → Prop) (a : AS) (p : Nat → Prop) : Prop := ∃ o s, o.F = F ∧ o.Z = Z ∧ Is w B o s ∧ Ab a s ∧ foot o s = p
structure AS.Ok (a : AS) (n : Nat) : Prop where
  wf : a.Wf
  sn : So a.names
  sd : So a.dur
  af : a.Af
  files : a.files.length ≤ n
  names : a.names.length ≤ n
  dp : a.dur.length + a.pend.length ≤ n
  strs : ∀ c ∈ a.pend, c.src.size ≤ 1000000 ∧ c.dst.size ≤ 1000000
  data : ∀ f ∈ a.files, f.data.length ≤ 1000000 ∧ f.dur.length ≤ 1000000
theorem AS.Ok.pend {a : AS} {n : Nat} (h : a.Ok n) : a.pend.length ≤ n := by have := h.dp; omega
theorem AS.Ok.sm {a : AS} {n : Nat} (h : a.Ok n) (hn : n ≤ 400000) : a.Sm := ⟨Nat.le_trans h.files (by omega), Nat.le_trans h.names (by omega), Nat.le_trans h.pend (by omega)⟩
theorem AS.Ok.cr {a : AS} {n : Nat} (h : a.Ok n) (hn : n ≤ 400000) : a.Cr := ⟨Nat.le_trans h.files (by omega), by have := h.dp; omega, h.strs, h.data⟩
theorem AS.Ok.mono {a : AS} {n m : Nat} (h : a.Ok n) (hm : n ≤ m) : a.Ok m := ⟨h.wf, h.sn, h.sd, h.af, Nat.le_trans h.files hm, Nat.le_trans h.names hm, Nat.le_trans h.dp hm, h.strs, h.data⟩
theorem AS.Ok.new : AS.new.Ok 0 := ⟨⟨(by intro p hp; cases hp), (by intro p hp; cases hp), (by intro c hc; cases hc)⟩, So.nil, So.nil, ⟨by decide, by decide⟩, Nat.le_refl _, Nat.le_refl _, Nat.le_refl _, (by intro c hc; cases hc), (by intro c hc; cases hc)⟩
def Aft (W : World) (B F : Nat) (Z p : Nat → Prop) (r : Value) (a' : AS) (e : Ending) (w' : World) : Prop := e = .returned r ∧ ∃ p', Fs w' B F Z a' p' ∧ Fr W w' p ∧ ∀ k, p' k → p k ∨ W.heap.size ≤ k
theorem Did.aft {B F : Nat} {Z p : Nat → Prop} {o : Loc} {s : St} {W w' : World} {P : AS → Int × AS} {a : AS} {e : Ending} (h : Did B o s W P a e w') (hF : o.F = F) (hZ : o.Z = Z) (hp : foot o s = p) : Aft W B F Z p (.int .i64 (P a).1) (P a).2 e w' := by
  obtain ⟨r, s', o', rfl, ⟨h1, h2⟩, h3, h4, h5, h6, h7⟩ := h
  rw [hp] at h6 h7
  exact ⟨by rw [h1], _, ⟨o', s', h3.trans hF, h4.trans hZ, h5, h2, rfl⟩, h6, h7⟩
theorem DidU.aft {B F : Nat} {Z p : Nat → Prop} {o : Loc} {s : St} {W w' : World} {a' : AS} {e : Ending} (h : DidU B o s W a' e w') (hF : o.F = F) (hZ : o.Z = Z) (hp : foot o s = p) : Aft W B F Z p (.tuple #[]) a' e w' := by
  obtain ⟨s', o', rfl, h2, h3, h4, h5, h6, h7⟩ := h
  rw [hp] at h6 h7
  exact ⟨rfl, _, ⟨o', s', h3.trans hF, h4.trans hZ, h5, h2, rfl⟩, h6, h7⟩
section
variable {W : World} {B F n : Nat} {Z p : Nat → Prop} {a : AS}
theorem write_fs (h : Fs W B F Z a p) (ok : a.Ok n) (hn : n ≤ 400000) (k : ByteArray) (v : Value) (l : List UInt8) (hk : k.size ≤ 1000000) (hl : l.length ≤ 1000000) (hv : Rd W v l) :
    Calls Tryz.prog 85 #[.pointer (some ⟨F, 0, none⟩), .string k, v] W (Aft W B F Z p (.int .i64 (AS.op (AS.put k l) (AS.tear k l) a).1) (AS.op (AS.put k l) (AS.tear k l) a).2) := by
  obtain ⟨o, s, hF, hZ, hI, hA, hp⟩ := h
  subst hF
  exact (write_is B o s a k v l W hI hA ok.wf (ok.sm hn) ok.af hk hl hv).mono fun e w' hD => hD.aft rfl hZ hp
theorem sync_fs (h : Fs W B F Z a p) (ok : a.Ok n) (hn : n ≤ 400000) (k : ByteArray) (hk : k.size ≤ 1000000) :
    Calls Tryz.prog 87 #[.pointer (some ⟨F, 0, none⟩), .string k] W (Aft W B F Z p (.int .i64 (AS.op (AS.sync k) id a).1) (AS.op (AS.sync k) id a).2) := by
  obtain ⟨o, s, hF, hZ, hI, hA, hp⟩ := h
  subst hF
  exact (sync_is B o s a k W hI hA ok.wf (ok.sm hn) ok.af hk).mono fun e w' hD => hD.aft rfl hZ hp
theorem rename_fs (h : Fs W B F Z a p) (ok : a.Ok n) (hn : n ≤ 400000) (k t : ByteArray) (hk : k.size ≤ 1000000) (ht : t.size ≤ 1000000) :
    Calls Tryz.prog 89 #[.pointer (some ⟨F, 0, none⟩), .string k, .string t] W (Aft W B F Z p (.int .i64 (AS.op (AS.rename k t) id a).1) (AS.op (AS.rename k t) id a).2) := by
  obtain ⟨o, s, hF, hZ, hI, hA, hp⟩ := h
  subst hF
  exact (rename_is B o s a k t W hI hA ok.wf (ok.sm hn) ok.af hk ht).mono fun e w' hD => hD.aft rfl hZ hp
theorem syncdir_fs (h : Fs W B F Z a p) (ok : a.Ok n) (hn : n ≤ 400000) :
    Calls Tryz.prog 49 #[.pointer (some ⟨F, 0, none⟩)] W (Aft W B F Z p (.int .i64 (AS.op AS.syncdir id a).1) (AS.op AS.syncdir id a).2) := by
  obtain ⟨o, s, hF, hZ, hI, hA, hp⟩ := h
  subst hF
  exact (syncdir_is B o s a W hI hA ok.wf (ok.sm hn) ok.af).mono fun e w' hD => hD.aft rfl hZ hp
theorem down_fs (h : Fs W B F Z a p) :
    Calls Tryz.prog 20 #[.pointer (some ⟨F, 0, none⟩)] W fun e w' => e = .returned (.bool a.down) ∧ w' = W := by
  obtain ⟨o, s, hF, hZ, hI, ⟨bl, rfl⟩, hp⟩ := h
  subst hF
  exact down_is B o _ W hI
theorem read_fs (h : Fs W B F Z a p) (ok : a.Ok n) (k : ByteArray) (hk : k.size ≤ 1000000) :
    Calls Tryz.prog 24 #[.pointer (some ⟨F, 0, none⟩), .string k] W fun e w' => ∃ v, e = .returned (.tuple #[v, .int .i64 (a.read k).2]) ∧ Rd w' v (a.read k).1 ∧ (∀ g, v.ownBlock = some g → W.heap.size ≤ g) ∧ Below W.heap.size W w' := by
  obtain ⟨o, s, hF, hZ, hI, hA, hp⟩ := h
  subst hF
  exact read_is B o s a k W hI hA ok.wf (fun f hf => (ok.data f hf).1) hk
theorem list_fs (h : Fs W B F Z a p) (ok : a.Ok n) (hn : n ≤ 400000) :
    Calls Tryz.prog 29 #[.pointer (some ⟨F, 0, none⟩)] W fun e w' => ∃ v, e = .returned v ∧ w'.ownsRow W.heap.size 9 1 v a.list.length (a.list.map encStr) ∧ Below W.heap.size W w' := by
  obtain ⟨o, s, hF, hZ, hI, hA, hp⟩ := h
  subst hF
  exact list_is B o s a W hI hA ok.sn (by have := ok.names; omega)
theorem crash_fs0 (h : Fs W B F Z a p) (ok : a.Ok n) (hn : n ≤ 400000) (v1 v2 : Value) (ch : List Bool) (ls : List Int) (h1 : Bl W v1 ch) (h2 : Il W v2 ls) (g1 : 0 < ch.length → ∀ g, v1.ownBlock = some g → ¬ p g) (g2 : 0 < ls.length → ∀ g, v2.ownBlock = some g → ¬ p g) (hc : ch.length ≤ 1000000000) (hl : ls.length ≤ 1000000000) :
    Calls Tryz.prog 9 #[.pointer (some ⟨F, 0, none⟩), v1, v2] W (Aft W B F Z p (.tuple #[]) (a.crash ch ls)) := by
  obtain ⟨o, s, hF, hZ, hI, ⟨bl, rfl⟩, hp⟩ := h
  subst hF
  obtain ⟨g, off, ad, c, rfl, hb1, hb2⟩ := h1
  rw [← hp] at g1 g2
  refine (crash_is B o.F bl o a v2 ch ls W g off ch.length c ad hI ok.wf (ok.cr hn) rfl rfl hc hb1 hb2 (fun h0 => ?_) h2 hl g2).mono fun e w' hD => hD.aft rfl hZ hp
  have := hb1 h0
  subst this
  exact g1 h0 g rfl
end
theorem new_fs (W : World) :
    Calls Tryz.prog 14 #[] W fun e w' => ∃ F p, e = .returned (.pointer (some ⟨F, 0, none⟩)) ∧ Fs w' W.heap.size F (fun _ => False) AS.new p ∧ Below W.heap.size W w' ∧ ∀ k, p k → W.heap.size ≤ k := by
  refine (new_is W).mono ?_
  rintro e w' ⟨o, s, rfl, h1, h2, h3, h4, h5⟩
  exact ⟨o.F, _, rfl, ⟨o, s, rfl, h3, h1, h2, rfl⟩, h4, h5⟩
theorem Fs.lt {w : World} {B F : Nat} {Z p : Nat → Prop} {a : AS} (h : Fs w B F Z a p) : ∀ k, p k → k < w.heap.size ∧ B ≤ k := by
  obtain ⟨o, s, rfl, rfl, hI, hA, rfl⟩ := h
  rintro k (rfl | rfl | rfl | hk | hk | ⟨f, hf, rfl⟩)
  · exact ⟨lt_of_heap hI.fs, hI.bF⟩
  · exact ⟨hI.names.lt, hI.bn⟩
  · exact ⟨hI.dur.lt, hI.bd⟩
  · exact ⟨(hI.files.lt k hk).2, (hI.files.lt k hk).1⟩
  · exact ⟨(hI.pend.lt k hk).2, (hI.pend.lt k hk).1⟩
  · obtain ⟨dv, rv, h1, _⟩ := hI.each f hf
    exact ⟨lt_of_heap h1, hI.bf f hf⟩
theorem Fs.kept {w w' : World} {B F : Nat} {Z p : Nat → Prop} {a : AS} (h : Fs w B F Z a p) (hk : ∀ k, p k → w'.heap[k]? = w.heap[k]?) (hb : ∀ (g : Nat) (cur : Array Value) (fr : Nat × Nat), w.heap[g]? = some (Obj.cells cur 5 fr) → w'.heap[g]? = w.heap[g]?) : Fs w' B F Z a p := by
  obtain ⟨o, s, h1, h2, hI, hA, hp⟩ := h
  exact ⟨o, s, h1, h2, hI.kept (fun k h => hk k (by rw [← hp]; exact h)) hb, hA, hp⟩
theorem Fs.below {w w' : World} {B F : Nat} {Z p : Nat → Prop} {a : AS} (h : Fs w B F Z a p) (hb : Below w.heap.size w w') : Fs w' B F Z a p :=
  h.kept (fun k hk => hb.block k (h.lt k hk).1) (fun g cur fr hg => hb.block g (lt_of_heap hg))
theorem Rd.conv {w : World} {v : Value} {l : List UInt8} (h : Rd w v l) : (convert 74 9 v).run Tryz.prog w = .ok (.string ⟨l.toArray⟩) w := by
  rcases h with ⟨rfl, rfl⟩ | ⟨g, cap, cur, fr, rfl, hg, hc, ht⟩
  · exact Lib.run_convert_nil_bytes w 74 9 5 0 Tryz.underlying74 Tryz.underlying5 Tryz.underlying9
  · refine run_convert_bytes_back w 74 9 5 ⟨g, 0, none⟩ cap l Tryz.underlying74 Tryz.underlying5 Tryz.underlying9 (fun j hj => ?_)
    exact Rd.cells hg ht j _ (by simp [Lib.byteCells, List.getElem?_eq_getElem hj])
theorem world_belowV (w : World) (e : TypeId) (s : ByteArray) : Below w.heap.size w (Lib.bytesWorld w e s) :=
  ⟨rfl, rfl, rfl, by rw [Lib.bytesWorld_size]; omega, fun k hk => Lib.bytesWorld_at_old w e s k hk⟩
theorem conv_str (w : World) (s : ByteArray) : ∃ cap w', (convert 9 74 (.string s)).run Tryz.prog w = .ok (.slice (some ⟨w.heap.size, 0, none⟩) s.size cap) w' ∧ Rd w' (.slice (some ⟨w.heap.size, 0, none⟩) s.size cap) s.data.toList ∧ Below w.heap.size w w' := by
  have hcv := Lib.run_convert_string_bytes (P := Tryz.prog) w 9 74 5 s (u := .string) Tryz.underlying9 Tryz.underlying74 Tryz.underlying5
  have hne := Lib.bytesWorld_at_new w 5 s
  have hsz : s.data.toList.length = s.size := by simp
  refine ⟨grownCap w s.size 0 5, _, hcv, .inr ⟨w.heap.size, grownCap w s.size 0 5, Lib.bytesCells w 5 s, _, by rw [hsz], hne, ?_, ?_⟩, world_belowV w _ s⟩
  · rw [hsz]; exact grownCap_ge _ _ _ _
  · rw [hsz]
    unfold Lib.bytesCells Lib.byteCells
    have hl : (s.data.map fun b => Value.int .u8 b.toNat).toList.length = s.size := by simp
    rw [Array.toList_append, List.take_append_of_le_length (by rw [hl]; exact Nat.le_refl _), List.take_of_length_le (by rw [hl]; exact Nat.le_refl _), Array.toList_map]
end Go.Proofs.YtjaojenalodolaaGreatDoor.Vf
/- Three file systems side by side; what the chapter's examples compute. -/
namespace Go.Proofs.YtjaojenalodolaaGreatDoor.Vf
open Go Go.RowKit Go.Maps Go.Proofs.YtjaojenalodolaaGreatDoor Go.Proofs.YtjaojenalodolaaGreatDoor.Bs
set_option linter.unusedVariables false
abbrev Zn : Nat → Prop := fun _ => False
structure Tri (W w : World) (f g h : Nat) (a b c : AS) (p q r : Nat → Prop) : Prop where
  f : Fs w W.heap.size f Zn a p
  g : Fs w W.heap.size g Zn b q
  h : Fs w W.heap.size h Zn c r
  fg : ∀ k, p k → ¬ q k
  fh : ∀ k, p k → ¬ r k
  gh : ∀ k, q k → ¬ r k
  below : Below W.heap.size W w
theorem empty_is : (⟨#[]⟩ : ByteArray).toList.isEmpty = true := by rw [Lib.toList_data]; rfl
def ex1 : AS := ⟨[⟨[120, 121, 122], [], false⟩], [([97], 0)], [], [⟨⟨#[]⟩, ⟨#[97]⟩, 0⟩], false, false, 0, 0⟩
def ex2 : AS := ⟨[⟨[120, 121, 122], [120, 121, 122], true⟩], [([97], 0)], [], [⟨⟨#[]⟩, ⟨#[97]⟩, 0⟩], false, false, 0, 0⟩
def ex3 : AS := ⟨[⟨[120, 121, 122], [120, 121, 122], true⟩], [([97], 0)], [([97], 0)], [], false, false, 0, 0⟩
def exG : AS := ⟨[⟨[], [], true⟩], [], [], [], false, false, 0, 0⟩
def exH : AS := ⟨[⟨[120, 121], [120, 121], true⟩], [([97], 0)], [([97], 0)], [], false, false, 0, 0⟩
theorem Bl.emp (w : World) : Bl w (.slice none 0 0) [] := ⟨0, 0, _, _, rfl, fun h => absurd h (by decide), fun j hj => absurd hj (by simp)⟩
theorem Il.emp (w : World) : Il w (.slice none 0 0) [] := ⟨0, 0, _, _, rfl, Nat.le_refl _, fun h => absurd h (by decide), fun j hj => absurd hj (by simp)⟩
end Go.Proofs.YtjaojenalodolaaGreatDoor.Vf
