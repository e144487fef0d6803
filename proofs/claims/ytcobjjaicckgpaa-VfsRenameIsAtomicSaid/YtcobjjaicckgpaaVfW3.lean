/- The file system's state in a world; record. -/
import Derived.Test.YtcobjjaicckgpaaVfW2
import Derived.StillTailTactics
import Derived.BigRegion
import Derived.Deep.RegionLaw
import Derived.Deep.AppendLies
namespace Go.Proofs.Ytcobjjaicckgpaa.Vf
open Go Go.RowKit Go.Maps Go.Proofs.Ytcobjjaicckgpaa Go.Proofs.Ytcobjjaicckgpaa.Bs
set_option linter.unusedVariables false

structure Fl where
  blk : Nat
  data : List UInt8
  dur : List UInt8
  synced : Bool
structure Ch where
  src : ByteArray
  dst : ByteArray
  file : Option Nat
structure St where
  files : List Fl
  names : Nm
  dur : Nm
  pend : List Ch
  down : Bool
  armed : Bool
  after : Int
  err : Int
/-- Where the parts lie. -/
structure Loc where
  F : Nat
  nb : Nat
  db : Nat
  fs : Value
  ps : Value
  Z : Nat → Prop
def chCells (c : Ch) : List Value := [.string c.src, .string c.dst, fptrO c.file]
def chVal (c : Ch) : Value := .agg (chCells c).toArray
def fsCells (o : Loc) (s : St) : Array Value := #[.map (some o.nb), .map (some o.db), o.fs, o.ps, .bool s.down, .bool s.armed, .int .i64 s.after, .int .i64 s.err]
/-- The value reads as these bytes, and does not lie in a block of Z. -/
def Rz (Z : Nat → Prop) (w : World) (v : Value) (l : List UInt8) : Prop := Rd w v l ∧ ∀ g, v.ownBlock = some g → ¬ Z g
def FileIs (Z : Nat → Prop) (w : World) (f : Fl) : Prop := ∃ dv rv, w.heap[f.blk]? = some (Obj.cells #[dv, rv, .bool f.synced] 70 (0, 0)) ∧ Rz Z w dv f.data ∧ Rz Z w rv f.dur
structure Is (w : World) (B : Nat) (o : Loc) (s : St) : Prop where
  fs : w.heap[o.F]? = some (Obj.cells (fsCells o s) 64 (0, 0))
  names : Dir w o.nb s.names
  dur : Dir w o.db s.dur
  nd : o.nb ≠ o.db
  files : w.ownsRow B 66 1 o.fs s.files.length (s.files.map fun f => fptr f.blk)
  pend : w.ownsRow B 74 3 o.ps s.pend.length (s.pend.flatMap chCells)
  each : ∀ f ∈ s.files, FileIs o.Z w f
  zl : ∀ k, o.Z k → ∃ cur fr, w.heap[k]? = some (Obj.cells cur 5 fr)
  dist : (s.files.map (·.blk)).Nodup
  bF : B ≤ o.F
  bn : B ≤ o.nb
  bd : B ≤ o.db
  bf : ∀ f ∈ s.files, B ≤ f.blk
/-- The blocks of a file system. -/
def foot (o : Loc) (s : St) (k : Nat) : Prop := k = o.F ∨ k = o.nb ∨ k = o.db ∨ o.fs.ownBlock = some k ∨ o.ps.ownBlock = some k ∨ ∃ f ∈ s.files, f.blk = k
/-- Nothing but the blocks of p has turned; blocks may have been laid. -/
structure Fr (w w' : World) (p : Nat → Prop) : Prop where
  os : w'.os = w.os
  tape : w'.tape = w.tape
  output : w'.output = w.output
  size : w.heap.size ≤ w'.heap.size
  block : ∀ k, k < w.heap.size → ¬ p k → w'.heap[k]? = w.heap[k]?
theorem Fr.of_but {b : Nat} {w w' : World} (h : But b w w') (p : Nat → Prop) (hp : p b) : Fr w w' p :=
  ⟨h.os, h.tape, h.output, h.size, fun k hk hn => h.block k hk (by intro e; injection e with e; subst e; exact hn hp)⟩
theorem Fr.of_below {w w' : World} (h : Below w.heap.size w w') (p : Nat → Prop) : Fr w w' p := ⟨h.os, h.tape, h.output, h.size, fun k hk _ => h.block k hk⟩
theorem Fr.trans {u v w : World} {p q : Nat → Prop} (h : Fr u v p) (g : Fr v w q) (hq : ∀ k, k < u.heap.size → q k → p k) : Fr u w p :=
  ⟨g.os.trans h.os, g.tape.trans h.tape, g.output.trans h.output, Nat.le_trans h.size g.size, fun k hk hn => (g.block k (Nat.lt_of_lt_of_le hk h.size) (fun e => hn (hq k hk e))).trans (h.block k hk hn)⟩
theorem Fr.mono {w w' : World} {p q : Nat → Prop} (h : Fr w w' p) (hq : ∀ k, p k → q k) : Fr w w' q := ⟨h.os, h.tape, h.output, h.size, fun k hk hn => h.block k hk fun e => hn (hq k e)⟩
theorem Fr.below {w w' : World} {p : Nat → Prop} {B : Nat} (h : Fr w w' p) (hB : ∀ k, p k → B ≤ k) (hs : B ≤ w.heap.size) : Below B w w' :=
  ⟨h.os, h.tape, h.output, h.size, fun k hk => h.block k (Nat.lt_of_lt_of_le hk hs) fun e => by have := hB k e; omega⟩
theorem Rz.kept {Z : Nat → Prop} {w w' : World} {v : Value} {l : List UInt8} (h : Rz Z w v l) (hk : ∀ (g : Nat) (cur : Array Value) (fr : Nat × Nat), w.heap[g]? = some (Obj.cells cur 5 fr) → w'.heap[g]? = w.heap[g]?) : Rz Z w' v l := ⟨h.1.kept hk, h.2⟩
theorem zl_kept {Z : Nat → Prop} {w w' : World} (h : ∀ k, Z k → ∃ cur fr, w.heap[k]? = some (Obj.cells cur 5 fr)) (hk : ∀ (g : Nat) (cur : Array Value) (fr : Nat × Nat), w.heap[g]? = some (Obj.cells cur 5 fr) → w'.heap[g]? = w.heap[g]?) : ∀ k, Z k → ∃ cur fr, w'.heap[k]? = some (Obj.cells cur 5 fr) := fun k hz => by
  obtain ⟨cur, fr, hc⟩ := h k hz
  exact ⟨cur, fr, by rw [hk k cur fr hc]; exact hc⟩
theorem FileIs.kept {Z : Nat → Prop} {w w' : World} {f : Fl} (h : FileIs Z w f) (hb : w'.heap[f.blk]? = w.heap[f.blk]?) (hk : ∀ (g : Nat) (cur : Array Value) (fr : Nat × Nat), w.heap[g]? = some (Obj.cells cur 5 fr) → w'.heap[g]? = w.heap[g]?) : FileIs Z w' f := by
  obtain ⟨dv, rv, h1, h2, h3⟩ := h
  exact ⟨dv, rv, by rw [hb]; exact h1, h2.kept hk, h3.kept hk⟩
theorem own_kept {w w' : World} {base n size : Nat} {e : TypeId} {v : Value} {xs : List Value} (h : w.ownsRow base e size v n xs) (hk : ∀ g, v.ownBlock = some g → w'.heap[g]? = w.heap[g]?) : w'.ownsRow base e size v n xs := by
  refine ⟨h.1, ?_⟩
  rcases h.2 with h0 | ⟨g, cap, cur, rfl, h1, hg, r⟩
  · exact .inl h0
  · exact .inr ⟨g, cap, cur, rfl, h1, by rw [hk g rfl]; exact hg, r⟩
/-- A world in which the state's blocks and all bytes are as before. -/
theorem Is.kept {w w' : World} {B : Nat} {o : Loc} {s : St} (h : Is w B o s) (hk : ∀ k, foot o s k → w'.heap[k]? = w.heap[k]?) (hb : ∀ (g : Nat) (cur : Array Value) (fr : Nat × Nat), w.heap[g]? = some (Obj.cells cur 5 fr) → w'.heap[g]? = w.heap[g]?) : Is w' B o s where
  fs := by rw [hk _ (.inl rfl)]; exact h.fs
  names := h.names.of_block (hk _ (.inr (.inl rfl)))
  dur := h.dur.of_block (hk _ (.inr (.inr (.inl rfl))))
  nd := h.nd
  files := own_kept h.files fun g hg => hk g (.inr (.inr (.inr (.inl hg))))
  pend := own_kept h.pend fun g hg => hk g (.inr (.inr (.inr (.inr (.inl hg)))))
  each := fun f hf => (h.each f hf).kept (hk _ (.inr (.inr (.inr (.inr (.inr ⟨f, hf, rfl⟩)))))) hb
  zl := zl_kept h.zl hb
  dist := h.dist
  bF := h.bF
  bn := h.bn
  bd := h.bd
  bf := h.bf
theorem Is.below {w w' : World} {B : Nat} {o : Loc} {s : St} (h : Is w B o s) (hb : Below w.heap.size w w') : Is w' B o s := by
  have hlt : ∀ k, foot o s k → k < w.heap.size := by
    rintro k (rfl | rfl | rfl | hk | hk | ⟨f, hf, rfl⟩)
    · exact lt_of_heap h.fs
    · exact h.names.lt
    · exact h.dur.lt
    · exact (h.files.lt k hk).2
    · exact (h.pend.lt k hk).2
    · obtain ⟨dv, rv, h1, _⟩ := h.each f hf
      exact lt_of_heap h1
  exact h.kept (fun k hk => hb.block k (hlt k hk)) (fun g cur fr hg => hb.block g (lt_of_heap hg))
end Go.Proofs.Ytcobjjaicckgpaa.Vf
