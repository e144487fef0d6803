/- Clone: what its loops keep. -/
import Derived.Test.YtcobjjaicckgpaaVfW27
namespace Go.Proofs.Ytcobjjaicckgpaa.Vf
open Go Go.RowKit Go.Maps Go.Proofs.Ytcobjjaicckgpaa Go.Proofs.Ytcobjjaicckgpaa.Bs
set_option linter.unusedVariables false

/-- The copy under way: its block is S + 2, the map of copies lies in S, its box in S + 1. -/
structure Cl (W wr : World) (S : Nat) (Z : Nat → Prop) (bl bl' : Nat → Nat) (a : AS) (nbv dbv fsv psv : Value) (k j : Nat) : Prop where
  below : Below S W wr
  g : wr.heap[S + 2]? = some (Obj.cells #[nbv, dbv, fsv, psv, .bool a.down, .bool a.armed, .int .i64 a.after, .int .i64 a.err] 64 (0, 0))
  box : wr.heap[S + 1]? = some (Obj.cells #[.map (some S)] 93 (0, 0))
  map : wr.heap[S]? = some (.map (cmap bl bl' k) k)
  files : wr.ownsRow S 66 1 fsv k ((List.range k).map fun i => fptr (bl' i))
  pend : wr.ownsRow S 74 3 psv j (((a.pend.take j).map (cc bl')).flatMap chCells)
  each : ∀ i f, i < k → a.files[i]? = some f → FileIs Z wr (cf bl' i f)
  ge : ∀ i, i < k → S ≤ bl' i
  inj : ∀ i j, i < k → j < k → bl' i = bl' j → i = j
theorem cmap_upd (bl bl' : Nat → Nat) (k b : Nat) : cmap bl (upd bl' k b) k = cmap bl bl' k := by
  unfold cmap
  congr 1
  apply List.map_congr_left
  intro i hi
  have := List.mem_range.1 hi
  unfold cent upd
  rw [if_neg (by omega)]
theorem Below.setA {B : Nat} {u w : World} (h : Below B u w) (a : Addr) (v : Value) (ha : B ≤ a.block) : Below B u (w.setCell a v) :=
  ⟨h.os, h.tape, h.output, by simpa using h.size, fun k hk => by rw [heap_setCell_other w a k v (by omega)]; exact h.block k hk⟩
theorem Below.but {B b : Nat} {u w w' : World} (h : Below B u w) (hb : But b w w') (hB : B ≤ b) (hs : B ≤ w.heap.size) : Below B u w' :=
  ⟨hb.os.trans h.os, hb.tape.trans h.tape, hb.output.trans h.output, Nat.le_trans h.size hb.size, fun k hk => (hb.block k (by omega) (by intro e; injection e with e; omega)).trans (h.block k hk)⟩
theorem Cl.file {W wr w2 w3 : World} {S : Nat} {Z : Nat → Prop} {bl bl' : Nat → Nat} {a : AS} {nbv dbv fsv psv dv rv : Value} {k g cap : Nat} {f : AF} (h : Cl W wr S Z bl bl' a nbv dbv fsv psv k 0) (hps : psv = .slice none 0 0) (hk : a.files[k]? = some f)
    (hd : Rz Z wr dv f.data) (hr : Rz Z wr rv f.dur) (hS : W.heap.size = S)
    (hput : w2.heap[S]? = some (.map (cmap bl (upd bl' k wr.heap.size) (k + 1)) (k + 1))) (hB2 : But S (wr.alloc (.cells #[dv, rv, .bool f.synced] 70)) w2)
    (hg : (w2.alloc (.cells #[fptr wr.heap.size] 66)).grownBy w3 fsv.ownBlock)
    (ho : w3.ownsRow S 66 1 (.slice (some ⟨g, 0, none⟩) (k + 1) cap) (k + 1) (((List.range k).map fun i => fptr (bl' i)) ++ [fptr wr.heap.size])) :
    Cl W (w3.setCell ⟨S + 2, 2, none⟩ (.slice (some ⟨g, 0, none⟩) (k + 1) cap)) S Z bl (upd bl' k wr.heap.size) a nbv dbv (.slice (some ⟨g, 0, none⟩) (k + 1) cap) psv (k + 1) 0 := by
  have hSw : S ≤ wr.heap.size := by have := lt_of_heap h.map; omega
  have hM1 : (wr.alloc (.cells #[dv, rv, .bool f.synced] 70)).heap[S]? = some (.map (cmap bl bl' k) k) := by rw [old_block _ _ _ (lt_of_heap h.map)]; exact h.map
  -- cells of the elder world, of any type but the row's and the file system's, stay
  have K1 : ∀ (q : Nat) (cur : Array Value) (t : TypeId) (fr : Nat × Nat), wr.heap[q]? = some (Obj.cells cur t fr) → w2.heap[q]? = some (Obj.cells cur t fr) := fun q cur t fr hq => by
    have h1 : (wr.alloc (.cells #[dv, rv, .bool f.synced] 70)).heap[q]? = some (Obj.cells cur t fr) := by rw [old_block _ _ _ (lt_of_heap hq)]; exact hq
    rw [hB2.block q (lt_of_heap h1) (by intro e; injection e with e; subst e; rw [h.map] at hq; simp at hq)]
    exact h1
  have own2 : w2.ownsRow S 66 1 fsv k ((List.range k).map fun i => fptr (bl' i)) := own_kept h.files fun q hq => by
    obtain ⟨cur, hc⟩ := own_block h.files hq
    rw [K1 _ _ _ _ hc, hc]
  have K2 : ∀ (q : Nat) (cur : Array Value) (t : TypeId) (fr : Nat × Nat), w2.heap[q]? = some (Obj.cells cur t fr) → t ≠ 66 → w3.heap[q]? = some (Obj.cells cur t fr) := fun q cur t fr hq ht => grow_atP hg hq (own_ne own2 hq ht)
  have hG2 := K1 _ _ _ _ h.g
  have hG3 := K2 _ _ _ _ hG2 (by decide)
  have K3 : ∀ (q : Nat) (cur : Array Value) (t : TypeId) (fr : Nat × Nat), w3.heap[q]? = some (Obj.cells cur t fr) → t ≠ 64 → (w3.setCell ⟨S + 2, 2, none⟩ (.slice (some ⟨g, 0, none⟩) (k + 1) cap)).heap[q]? = some (Obj.cells cur t fr) := fun q cur t fr hq ht => by
    rw [heap_setCell_other _ _ _ _ (ne_of hq hG3 ht)]; exact hq
  have KC : ∀ (q : Nat) (cur : Array Value) (t : TypeId) (fr : Nat × Nat), wr.heap[q]? = some (Obj.cells cur t fr) → t ≠ 66 → t ≠ 64 → (w3.setCell ⟨S + 2, 2, none⟩ (.slice (some ⟨g, 0, none⟩) (k + 1) cap)).heap[q]? = wr.heap[q]? := fun q cur t fr hq h1 h2 => by
    rw [K3 _ _ _ _ (K2 _ _ _ _ (K1 _ _ _ _ hq) h1) h2, hq]
  have hnewb : w2.heap[wr.heap.size]? = some (Obj.cells #[dv, rv, .bool f.synced] 70 (0, 0)) := by
    rw [hB2.block _ (by rw [alloc_sz]; omega) (by intro e; injection e with e; have := lt_of_heap h.map; omega)]
    exact heap_alloc_new _ _
  have hnewf := K3 _ _ _ _ (K2 _ _ _ _ hnewb (by decide)) (by decide)
  have e1 : ((List.range (k + 1)).map fun i => fptr (upd bl' k wr.heap.size i)) = ((List.range k).map fun i => fptr (bl' i)) ++ [fptr wr.heap.size] := by
    rw [List.range_succ, List.map_append]
    congr 1
    · apply List.map_congr_left
      intro i hi
      have := List.mem_range.1 hi
      unfold upd
      rw [if_neg (by omega)]
    · simp [upd]
  have bsz : S ≤ (w2.alloc (.cells #[fptr wr.heap.size] 66)).heap.size := by
    have := hB2.size
    rw [alloc_sz] at this ⊢
    omega
  have hbel : Below S W w3 := by
    have b1 : Below S W (wr.alloc (.cells #[dv, rv, .bool f.synced] 70)) := h.below.alloc hSw _
    have b2 := Below.but b1 hB2 (Nat.le_refl _) (by rw [alloc_sz]; omega)
    have b3 : Below S W (w2.alloc (.cells #[fptr wr.heap.size] 66)) := b2.alloc (by have := lt_of_heap hput; omega) _
    exact b3.grown hg bsz (fun q hq => (own2.lt q hq).1)
  have mapF : (w3.setCell ⟨S + 2, 2, none⟩ (.slice (some ⟨g, 0, none⟩) (k + 1) cap)).heap[S]? = some (.map (cmap bl (upd bl' k wr.heap.size) (k + 1)) (k + 1)) := by
    rw [heap_setCell_other _ _ _ _ (by show S ≠ S + 2; omega)]
    exact grow_atP hg hput (fun e => by obtain ⟨cur, hc⟩ := own_block own2 e; rw [hput] at hc; simp at hc)
  exact
    { below := Below.setA hbel _ _ (by show S ≤ S + 2; omega)
      g := by rw [heap_setCell_same _ _ _ _ _ _ hG3]; rfl
      box := by rw [KC _ _ _ _ h.box (by decide) (by decide)]; exact h.box
      map := mapF
      files := by
        rw [e1]
        refine own_kept ho fun q hq => ?_
        obtain ⟨cur, hc⟩ := own_block ho hq
        exact heap_setCell_other _ _ _ _ (ne_of hc hG3 (by decide))
      pend := by subst hps; exact ⟨rfl, .inl ⟨rfl, rfl⟩⟩
      each := fun i f' hi hf' => by
        by_cases e : i = k
        · subst e
          rw [hk] at hf'
          obtain rfl := Option.some.inj hf'
          have e2 : upd bl' i wr.heap.size i = wr.heap.size := by simp [upd]
          refine ⟨dv, rv, ?_, hd.kept (fun q cur fr hc => KC _ _ _ _ hc (by decide) (by decide)), hr.kept (fun q cur fr hc => KC _ _ _ _ hc (by decide) (by decide))⟩
          have e3 : (cf (upd bl' i wr.heap.size) i f).blk = wr.heap.size := e2
          rw [e3]
          exact hnewf
        · have e2 : upd bl' k wr.heap.size i = bl' i := by unfold upd; rw [if_neg e]
          have hF := h.each i f' (by omega) hf'
          have hF2 : FileIs Z (w3.setCell ⟨S + 2, 2, none⟩ (.slice (some ⟨g, 0, none⟩) (k + 1) cap)) (cf bl' i f') := hF.kept (by obtain ⟨dv, rv, h1, _⟩ := hF; exact KC _ _ _ _ h1 (by decide) (by decide)) (fun q cur fr hc => KC _ _ _ _ hc (by decide) (by decide))
          have e3 : cf (upd bl' k wr.heap.size) i f' = cf bl' i f' := by unfold cf; rw [e2]
          rw [e3]
          exact hF2
      ge := fun i hi => by
        by_cases e : i = k
        · subst e
          have : upd bl' i wr.heap.size i = wr.heap.size := by simp [upd]
          rw [this]; exact hSw
        · unfold upd
          rw [if_neg e]
          exact h.ge i (by omega)
      inj := fun i j hi hj e => by
        have hlt : ∀ i, i < k → bl' i ≠ wr.heap.size := fun i hi e => by
          have hkl : k < a.files.length := by
            rcases Nat.lt_or_ge k a.files.length with h1 | h1
            · exact h1
            · rw [List.getElem?_eq_none h1] at hk; cases hk
          obtain ⟨d0, r0, h0, _⟩ := h.each i a.files[i] hi (List.getElem?_eq_getElem (by omega))
          have := lt_of_heap h0
          simp only [cf] at this
          omega
        unfold upd at e
        by_cases e1 : i = k <;> by_cases e2 : j = k
        · omega
        · rw [if_pos e1, if_neg e2] at e
          exact absurd e.symm (hlt j (by omega))
        · rw [if_neg e1, if_pos e2] at e
          exact absurd e (hlt i (by omega))
        · rw [if_neg e1, if_neg e2] at e
          exact h.inj i j (by omega) (by omega) e }
theorem Cl.change {W wr w4 : World} {S : Nat} {Z : Nat → Prop} {bl bl' : Nat → Nat} {a : AS} {nbv dbv fsv psv : Value} {n j g cap : Nat} {c : AC} (h : Cl W wr S Z bl bl' a nbv dbv fsv psv n j) (hj : a.pend[j]? = some c) (hS : W.heap.size = S)
    (hg : ((wr.alloc (.cells #[.string c.src, .string c.dst, fptrO (cc bl' c).file] 74)).alloc (.cells #[.string c.src, .string c.dst, fptrO (cc bl' c).file] 74)).grownBy w4 psv.ownBlock)
    (ho : w4.ownsRow S 74 3 (.slice (some ⟨g, 0, none⟩) (j + 1) cap) (j + 1) ((((a.pend.take j).map (cc bl')).flatMap chCells) ++ [.string c.src, .string c.dst, fptrO (cc bl' c).file])) :
    Cl W (w4.setCell ⟨S + 2, 3, none⟩ (.slice (some ⟨g, 0, none⟩) (j + 1) cap)) S Z bl bl' a nbv dbv fsv (.slice (some ⟨g, 0, none⟩) (j + 1) cap) n (j + 1) ∧ ∀ (b : Nat) (es : Array MapEntry) (ck : Nat), wr.heap[b]? = some (.map es ck) → (w4.setCell ⟨S + 2, 3, none⟩ (.slice (some ⟨g, 0, none⟩) (j + 1) cap)).heap[b]? = some (.map es ck) := by
  have hSw : S ≤ wr.heap.size := by have := lt_of_heap h.map; omega
  have K1 : ∀ (q : Nat) (x : Obj), wr.heap[q]? = some x → (wr.alloc (.cells #[.string c.src, .string c.dst, fptrO (cc bl' c).file] 74)).heap[q]? = some x := fun q x hq => by
    rw [old_block _ _ _ (lt_of_heap hq)]
    exact hq
  have own2 : (wr.alloc (.cells #[.string c.src, .string c.dst, fptrO (cc bl' c).file] 74)).ownsRow S 74 3 psv j (((a.pend.take j).map (cc bl')).flatMap chCells) := own_kept h.pend fun q hq => by
    obtain ⟨cur, hc⟩ := own_block h.pend hq
    rw [K1 _ _ hc, hc]
  have K2 : ∀ (q : Nat) (cur : Array Value) (t : TypeId) (fr : Nat × Nat), wr.heap[q]? = some (Obj.cells cur t fr) → t ≠ 74 → w4.heap[q]? = some (Obj.cells cur t fr) := fun q cur t fr hq ht => grow_atP hg (K1 _ _ hq) (own_ne own2 (K1 _ _ hq) ht)
  have hG3 := K2 _ _ _ _ h.g (by decide)
  have KC : ∀ (q : Nat) (cur : Array Value) (t : TypeId) (fr : Nat × Nat), wr.heap[q]? = some (Obj.cells cur t fr) → t ≠ 74 → t ≠ 64 → (w4.setCell ⟨S + 2, 3, none⟩ (.slice (some ⟨g, 0, none⟩) (j + 1) cap)).heap[q]? = wr.heap[q]? := fun q cur t fr hq h1 h2 => by
    rw [heap_setCell_other _ _ _ _ (ne_of (K2 _ _ _ _ hq h1) hG3 h2), K2 _ _ _ _ hq h1, hq]
  have KM : ∀ (b : Nat) (es : Array MapEntry) (ck : Nat), wr.heap[b]? = some (.map es ck) → (w4.setCell ⟨S + 2, 3, none⟩ (.slice (some ⟨g, 0, none⟩) (j + 1) cap)).heap[b]? = some (.map es ck) := fun b es ck hb => by
    have h4 := grow_atP hg (K1 _ _ hb) (fun e => by obtain ⟨cur, hc⟩ := own_block own2 e; rw [K1 _ _ hb] at hc; simp at hc)
    rw [heap_setCell_other _ _ _ _ (by intro e; have e : b = S + 2 := e; subst e; rw [hG3] at h4; simp at h4)]
    exact h4
  have s1 : (wr.alloc (.cells #[.string c.src, .string c.dst, fptrO (cc bl' c).file] 74)).heap.size = wr.heap.size + 1 := alloc_sz _ _
  have hbel : Below S W w4 := by
    have b1 : Below S W (wr.alloc (.cells #[.string c.src, .string c.dst, fptrO (cc bl' c).file] 74)) := h.below.alloc hSw _
    have b3 := b1.alloc (by rw [s1]; omega) (.cells #[.string c.src, .string c.dst, fptrO (cc bl' c).file] 74)
    exact b3.grown hg (by rw [alloc_sz, s1]; omega) (fun q hq => (own2.lt q hq).1)
  have e1 : ((a.pend.take (j + 1)).map (cc bl')).flatMap chCells = (((a.pend.take j).map (cc bl')).flatMap chCells) ++ [.string c.src, .string c.dst, fptrO (cc bl' c).file] := by
    rw [List.take_add_one, hj]
    simp [chCells, cc]
  exact ⟨
    { below := Below.setA hbel _ _ (by show S ≤ S + 2; omega)
      g := by rw [heap_setCell_same _ _ _ _ _ _ hG3]; rfl
      box := by rw [KC _ _ _ _ h.box (by decide) (by decide)]; exact h.box
      map := KM _ _ _ h.map
      files := own_kept h.files fun q hq => by
        obtain ⟨cur, hc⟩ := own_block h.files hq
        exact KC _ _ _ _ hc (by decide) (by decide)
      pend := by
        rw [e1]
        refine own_kept ho fun q hq => ?_
        obtain ⟨cur, hc⟩ := own_block ho hq
        exact heap_setCell_other _ _ _ _ (ne_of hc hG3 (by decide))
      each := fun i f hi hf => (h.each i f hi hf).kept (by obtain ⟨dv, rv, h1, _⟩ := h.each i f hi hf; exact KC _ _ _ _ h1 (by decide) (by decide)) (fun q cur fr hc => KC _ _ _ _ hc (by decide) (by decide))
      ge := h.ge
      inj := h.inj }, KM⟩
/-- The two directories of the copy are set. -/
theorem Cl.dirs {W wr wB : World} {S : Nat} {Z : Nat → Prop} {bl bl' : Nat → Nat} {a : AS} {nbv dbv fsv psv x y : Value} {n j : Nat} (h : Cl W wr S Z bl bl' a nbv dbv fsv psv n j) (hS : W.heap.size = S) (hb : Below wr.heap.size wr wB) :
    Cl W ((wB.setCell ⟨S + 2, 0, none⟩ x).setCell ⟨S + 2, 1, none⟩ y) S Z bl bl' a x y fsv psv n j := by
  have hSw : S ≤ wr.heap.size := by have := lt_of_heap h.map; omega
  have K1 : ∀ (q : Nat) (z : Obj), wr.heap[q]? = some z → wB.heap[q]? = some z := fun q z hq => by rw [hb.block q (lt_of_heap hq)]; exact hq
  have hG := K1 _ _ h.g
  have g1 := heap_setCell_same _ _ 0 _ _ x hG
  have K : ∀ (q : Nat) (z : Obj), wr.heap[q]? = some z → q ≠ S + 2 → ((wB.setCell ⟨S + 2, 0, none⟩ x).setCell ⟨S + 2, 1, none⟩ y).heap[q]? = some z := fun q z hq hn => by
    rw [heap_setCell_other _ _ _ _ hn, heap_setCell_other _ _ _ _ hn]; exact K1 _ _ hq
  have KC : ∀ (q : Nat) (cur : Array Value) (t : TypeId) (fr : Nat × Nat), wr.heap[q]? = some (Obj.cells cur t fr) → t ≠ 64 → ((wB.setCell ⟨S + 2, 0, none⟩ x).setCell ⟨S + 2, 1, none⟩ y).heap[q]? = wr.heap[q]? := fun q cur t fr hq ht => by
    rw [K q _ hq (ne_of hq h.g ht), hq]
  exact
    { below := Below.setA (Below.setA (h.below.trans (hb.mono hSw)) ⟨S + 2, 0, none⟩ x (by show S ≤ S + 2; omega)) ⟨S + 2, 1, none⟩ y (by show S ≤ S + 2; omega)
      g := by rw [heap_setCell_same _ _ _ _ _ _ g1]; rfl
      box := by rw [KC _ _ _ _ h.box (by decide)]; exact h.box
      map := K _ _ h.map (by omega)
      files := own_kept h.files fun q hq => by obtain ⟨cur, hc⟩ := own_block h.files hq; exact KC _ _ _ _ hc (by decide)
      pend := own_kept h.pend fun q hq => by obtain ⟨cur, hc⟩ := own_block h.pend hq; exact KC _ _ _ _ hc (by decide)
      each := fun i f hi hf => (h.each i f hi hf).kept (by obtain ⟨dv, rv, h1, _⟩ := h.each i f hi hf; exact KC _ _ _ _ h1 (by decide)) (fun q cur fr hc => KC _ _ _ _ hc (by decide))
      ge := h.ge
      inj := h.inj }
/-- The copy is done. -/
theorem Cl.done {W wr : World} {B S nb db : Nat} {o : Loc} {bl bl' : Nat → Nat} {a : AS} {fsv psv : Value} (h : Cl W wr S o.Z bl bl' a (.map (some nb)) (.map (some db)) fsv psv a.files.length a.pend.length) (hI : Is W B o (conc bl a)) (hS : W.heap.size = S) (hn : Dir wr nb (cn bl' a.names)) (hd : Dir wr db (cn bl' a.dur)) (hne : nb ≠ db) (gn : S ≤ nb) (gd : S ≤ db) :
    Is wr S ⟨S + 2, nb, db, fsv, psv, o.Z⟩ (conc bl' a) where
  fs := h.g
  names := hn
  dur := hd
  nd := hne
  files := by
    have e1 : (conc bl' a).files.length = a.files.length := by simp [conc]
    have e2 : ((conc bl' a).files.map fun f => fptr f.blk) = (List.range a.files.length).map fun i => fptr (bl' i) := by
      apply List.ext_getElem
      · simp [conc]
      · intro i h1 h2
        simp [conc, cf]
    show World.ownsRow _ _ _ _ _ (conc bl' a).files.length ((conc bl' a).files.map fun f => fptr f.blk)
    rw [e1, e2]
    exact h.files
  pend := by
    have := h.pend
    rw [List.take_length] at this
    show World.ownsRow _ _ _ _ _ (a.pend.map (cc bl')).length ((a.pend.map (cc bl')).flatMap chCells)
    rw [List.length_map]
    exact this
  each := fun f hf => by
    obtain ⟨i, hi, e⟩ := List.getElem_of_mem hf
    have hi2 : i < a.files.length := by simpa [conc] using hi
    have e2 : f = cf bl' i a.files[i] := by rw [← e]; simp [conc]
    rw [e2]
    exact h.each i _ hi2 (List.getElem?_eq_getElem hi2)
  zl := fun k hk => by
    obtain ⟨cur, fr, hc⟩ := hI.zl k hk
    exact ⟨cur, fr, by rw [h.below.block k (by have := lt_of_heap hc; omega)]; exact hc⟩
  dist := by
    show ((conc bl' a).files.map (·.blk)).Nodup
    rw [List.nodup_iff_pairwise_ne, List.pairwise_iff_getElem]
    intro i j hi hj hij e
    have hi2 : i < a.files.length := by simpa [conc] using hi
    have hj2 : j < a.files.length := by simpa [conc] using hj
    have h1 : ((conc bl' a).files.map (·.blk))[i] = bl' i := by simp [conc, cf]
    have h2 : ((conc bl' a).files.map (·.blk))[j] = bl' j := by simp [conc, cf]
    have := h.inj i j hi2 hj2 (by rw [← h1, ← h2, e])
    omega
  bF := by show S ≤ S + 2; omega
  bn := gn
  bd := gd
  bf := fun f hf => by
    obtain ⟨i, hi, e⟩ := List.getElem_of_mem hf
    have hi2 : i < a.files.length := by simpa [conc] using hi
    have e2 : f.blk = bl' i := by rw [← e]; simp [conc, cf]
    rw [e2]
    exact h.ge i hi2
end Go.Proofs.Ytcobjjaicckgpaa.Vf
