/- Crash: its walk. -/
import Derived.Test.YtcobjjaicckgpaaVfW23
namespace Go.Proofs.Ytcobjjaicckgpaa.Vf
open Go Go.RowKit Go.Maps Go.Proofs.Ytcobjjaicckgpaa Go.Proofs.Ytcobjjaicckgpaa.Bs
set_option linter.unusedVariables false

/-- The durable directory has turned, nothing else. -/
theorem Is.dured {w w1 : World} {B : Nat} {o : Loc} {s : St} {m : Nm} (h : Is w B o s) (hB : But o.db w w1) (hD : Dir w1 o.db m) : Is w1 B o { s with dur := m } := by
  have hk : ∀ k cur t fr, w.heap[k]? = some (Obj.cells cur t fr) → w1.heap[k]? = w.heap[k]? := fun k cur t fr hc => hB.block k (lt_of_heap hc) (by intro e; injection e with e; exact h.dur.neB hc e)
  exact
    { fs := by rw [hk _ _ _ _ h.fs]; exact h.fs
      names := h.names.of_block (hB.block _ h.names.lt (by intro e; injection e with e; exact h.nd e))
      dur := hD
      nd := h.nd
      files := own_kept h.files fun g hg => by obtain ⟨cur, hc⟩ := own_block h.files hg; exact hk _ _ _ _ hc
      pend := own_kept h.pend fun g hg => by obtain ⟨cur, hc⟩ := own_block h.pend hg; exact hk _ _ _ _ hc
      each := fun f hf => (h.each f hf).kept (by obtain ⟨dv, rv, h1, _⟩ := h.each f hf; exact hk _ _ _ _ h1) (fun g cur fr hc => hk _ _ _ _ hc)
      zl := zl_kept h.zl (fun k cur fr hc => hk k cur _ fr hc)
      dist := h.dist
      bF := h.bF
      bn := h.bn
      bd := h.bd
      bf := h.bf }
theorem flat_at (l : List Ch) (k : Nat) (hk : k < l.length) : (l.flatMap chCells)[k * 3]? = some (.string l[k].src) ∧ (l.flatMap chCells)[k * 3 + 1]? = some (.string l[k].dst) ∧ (l.flatMap chCells)[k * 3 + 2]? = some (fptrO l[k].file) := by
  induction l generalizing k with
  | nil => simp at hk
  | cons c r ih =>
    cases k with
    | zero => exact ⟨rfl, rfl, rfl⟩
    | succ k =>
      have h := ih k (by simpa using hk)
      have e : ∀ j, ((c :: r).flatMap chCells)[(k + 1) * 3 + j]? = (r.flatMap chCells)[k * 3 + j]? := fun j => by
        rw [List.flatMap_cons, List.getElem?_append_right (by simp [chCells]; omega)]
        congr 1
        simp [chCells]
        omega
      refine ⟨(e 0).trans h.1, (e 1).trans h.2.1, (e 2).trans h.2.2⟩
theorem Is.pendAt {w : World} {B : Nat} {o : Loc} {s : St} (h : Is w B o s) : ∃ g ad cap, o.ps = .slice ad s.pend.length cap ∧ (0 < s.pend.length → ad = some ⟨g, 0, none⟩ ∧ o.ps.ownBlock = some g) ∧ s.pend.length ≤ cap := by
  rcases h.pend.2 with ⟨e, h0⟩ | ⟨g, cap, cur, e, _, hg, hc, _, _, ht⟩
  · exact ⟨0, none, 0, by rw [e, h0], fun hp => by omega, by omega⟩
  · exact ⟨g, _, cap, e, fun _ => ⟨rfl, by rw [e]; rfl⟩, hc⟩
theorem Is.pendCells {w : World} {B g n cap : Nat} {o : Loc} {s : St} (h : Is w B o s) (e : o.ps = .slice (some ⟨g, 0, none⟩) n cap) (k : Nat) (hk : k < s.pend.length) :
    w.cell? ⟨g, k * 3, none⟩ = some (.string s.pend[k].src) ∧ w.cell? ⟨g, k * 3 + 1, none⟩ = some (.string s.pend[k].dst) ∧ w.cell? ⟨g, k * 3 + 2, none⟩ = some (fptrO s.pend[k].file) := by
  rcases h.pend.2 with ⟨e1, h0⟩ | ⟨g', cap', cur, e1, _, hg, hc, _, _, ht⟩
  · omega
  · rw [e] at e1
    injection e1 with e2
    injection e2 with e2
    injection e2 with e2
    subst e2
    have hx : ∀ j, j < 3 → cur[k * 3 + j]? = (s.pend.flatMap chCells)[k * 3 + j]? := fun j hj => by
      have := congrArg (fun l : List Value => l[k * 3 + j]?) ht
      simp only [List.getElem?_take, if_pos (show k * 3 + j < s.pend.length * 3 by omega)] at this
      simpa using this
    obtain ⟨f0, f1, f2⟩ := flat_at s.pend k hk
    unfold World.cell?
    simp only [hg]
    exact ⟨(hx 0 (by omega)).trans f0, (hx 1 (by omega)).trans f1, (hx 2 (by omega)).trans f2⟩
theorem cell_allocA {w : World} {a : Addr} {v : Value} (h : w.cell? a = some v) (x : Obj) : (w.alloc x).cell? a = some v := by
  have hlt := lt_of_cell h
  unfold World.cell? at h ⊢
  rw [old_block _ _ _ hlt]
  exact h
/-- A call's post, where nothing is returned. -/
def DidU (B : Nat) (o : Loc) (s : St) (W : World) (a' : AS) (e : Ending) (w' : World) : Prop :=
  ∃ s' o', e = .returned (.tuple #[]) ∧ Ab a' s' ∧ o'.F = o.F ∧ o'.Z = o.Z ∧ Is w' B o' s' ∧ Fr W w' (foot o s) ∧ ∀ k, foot o' s' k → foot o s k ∨ W.heap.size ≤ k
structure AS.Cr (a : AS) : Prop where
  files : a.files.length ≤ 1000000
  dur : a.dur.length + a.pend.length ≤ 1000000
  pend : ∀ c ∈ a.pend, c.src.size ≤ 1000000 ∧ c.dst.size ≤ 1000000
  data : ∀ f ∈ a.files, f.data.length ≤ 1000000 ∧ f.dur.length ≤ 1000000
/-- The names are the durable ones, nothing is pending. -/
theorem Is.restored {w : World} {B : Nat} {o : Loc} {s : St} (h : Is w B o s) (es : Array MapEntry) (ck : Nat) (hm : w.heap[o.db]? = some (.map es ck)) (hB : B ≤ w.heap.size) :
    Is (((w.alloc (.map es ck)).setCell ⟨o.F, 0, none⟩ (.map (some w.heap.size))).setCell ⟨o.F, 3, none⟩ (.slice none 0 0)) B { o with nb := w.heap.size, ps := .slice none 0 0 } { s with names := s.dur, pend := [] } := by
  have hF := lt_of_heap h.fs
  have hF0 : (w.alloc (.map es ck)).heap[o.F]? = some (Obj.cells (fsCells o s) 64 (0, 0)) := by rw [old_block _ _ _ hF]; exact h.fs
  have h1 := heap_setCell_same _ o.F 0 _ _ (.map (some w.heap.size)) hF0
  have h2 := heap_setCell_same _ o.F 3 _ _ (.slice none 0 0) h1
  have K : ∀ k, k < w.heap.size → k ≠ o.F → (((w.alloc (.map es ck)).setCell ⟨o.F, 0, none⟩ (.map (some w.heap.size))).setCell ⟨o.F, 3, none⟩ (.slice none 0 0)).heap[k]? = w.heap[k]? := fun k hk hn => by
    rw [heap_setCell_other _ _ _ _ hn, heap_setCell_other _ _ _ _ hn, old_block _ _ _ hk]
  have KC : ∀ k cur t fr, w.heap[k]? = some (Obj.cells cur t fr) → t ≠ 64 → (((w.alloc (.map es ck)).setCell ⟨o.F, 0, none⟩ (.map (some w.heap.size))).setCell ⟨o.F, 3, none⟩ (.slice none 0 0)).heap[k]? = w.heap[k]? := fun k cur t fr hk ht => K k (lt_of_heap hk) (ne_of hk h.fs ht)
  have KD := K o.db h.dur.lt (fun e => h.dur.neB h.fs e.symm)
  have hD : Dir (((w.alloc (.map es ck)).setCell ⟨o.F, 0, none⟩ (.map (some w.heap.size))).setCell ⟨o.F, 3, none⟩ (.slice none 0 0)) w.heap.size s.dur := by
    obtain ⟨n, es', ck', hh, r⟩ := h.dur
    rw [hm] at hh
    simp only [Option.some.injEq, Obj.map.injEq] at hh
    obtain ⟨rfl, rfl⟩ := hh
    refine ⟨n, es, ck, ?_, r⟩
    have hn : w.heap.size ≠ o.F := by omega
    rw [heap_setCell_other _ _ _ _ hn, heap_setCell_other _ _ _ _ hn]
    exact new_block w _
  exact
    { fs := by rw [h2]; rfl
      names := hD
      dur := h.dur.of_block KD
      nd := by have := h.dur.lt; show w.heap.size ≠ o.db; omega
      files := own_kept h.files fun k hk => by obtain ⟨cur, hc⟩ := own_block h.files hk; exact KC _ _ _ _ hc (by decide)
      pend := ⟨rfl, .inl ⟨rfl, rfl⟩⟩
      each := fun f hf => (h.each f hf).kept (by obtain ⟨dv, rv, h1, _⟩ := h.each f hf; exact KC _ _ _ _ h1 (by decide)) (fun k cur fr hc => KC _ _ _ _ hc (by decide))
      zl := zl_kept h.zl (fun k cur fr hc => KC _ _ _ _ hc (by decide))
      dist := h.dist
      bF := h.bF
      bn := hB
      bd := h.bd
      bf := h.bf }
def gF (n : Int) (x : Fl) : Fl := ⟨x.blk, (crashF n ⟨x.data, x.dur, x.synced⟩).data, (crashF n ⟨x.data, x.dur, x.synced⟩).dur, (crashF n ⟨x.data, x.dur, x.synced⟩).synced⟩
theorem crash_dirty (n : Int) (f : AF) (h : f.synced = false) : (crashF n f).synced = true ∧ (crashF n f).dur = (crashF n f).data := by
  unfold crashF
  rw [if_neg (by rw [h]; decide)]
  exact ⟨rfl, rfl⟩
/-- A file's block holds what a crash leaves of it. -/
theorem Is.crashed {w w' : World} {B k : Nat} {o : Loc} {bl : Nat → Nat} {a : AS} {f : AF} {n : Int} {nd : Value} (h : Is w B o (conc bl a)) (hk : a.files[k]? = some f) (hs : f.synced = false) (K : ∀ j, j ≠ bl k → w'.heap[j]? = w.heap[j]?)
    (hb : w'.heap[bl k]? = some (Obj.cells #[nd, nd, .bool true] 70 (0, 0))) (hr : Rz o.Z w nd (crashF n f).data) : Is w' B o (conc bl { a with files := a.files.modify k (crashF n) }) := by
  have hkl : k < a.files.length := by
    rcases Nat.lt_or_ge k a.files.length with h1 | h1
    · exact h1
    · rw [List.getElem?_eq_none h1] at hk; cases hk
  have hfe : a.files[k] = f := by rw [List.getElem?_eq_getElem hkl] at hk; injection hk
  obtain ⟨fl, hm, hb0⟩ := Ab.file (bl := bl) hkl
  obtain ⟨d0, r0, hc0, -, -⟩ := h.each fl hm
  rw [hb0] at hc0
  have hbytes : ∀ (g : Nat) (cur : Array Value) (fr : Nat × Nat), w.heap[g]? = some (Obj.cells cur 5 fr) → w'.heap[g]? = w.heap[g]? := fun g cur fr hg => K g (ne_of hg hc0 (by decide))
  have ht := h.turned (w' := w') (g := gF n) (fun _ => rfl) fl hm hb0 K (fun x hx hxb => by
    obtain ⟨j, hj, e⟩ := List.getElem_of_mem hx
    have hj2 : j < a.files.length := by simpa [conc] using hj
    have ex : x = cf bl j a.files[j] := by rw [← e]; simp [conc]
    have hjk : j = k := by
      have h1 : ((a.files.mapIdx (cf bl)).map (·.blk))[j]'(by simpa using hj2) = bl j := by simp [cf]
      have h2 : ((a.files.mapIdx (cf bl)).map (·.blk))[k]'(by simpa using hkl) = bl k := by simp [cf]
      have h3 : bl j = bl k := by rw [← hxb, ex]; rfl
      rcases Nat.lt_trichotomy j k with hlt | heq | hlt
      · exact absurd (h1.trans (h3.trans h2.symm)) (List.pairwise_iff_getElem.1 h.dist j k _ _ hlt)
      · exact heq
      · exact absurd (h2.trans (h3.symm.trans h1.symm)) (List.pairwise_iff_getElem.1 h.dist k j _ _ hlt)
    subst hjk
    rw [hfe] at ex
    subst ex
    obtain ⟨c1, c2⟩ := crash_dirty n f hs
    refine ⟨nd, nd, ?_, hr.kept hbytes, ?_⟩
    · show w'.heap[bl j]? = _
      rw [hb]
      show _ = some (Obj.cells #[nd, nd, .bool (crashF n f).synced] _ _)
      rw [c1]
    · show Rz o.Z w' nd (crashF n f).dur
      rw [c2]
      exact hr.kept hbytes)
  have e := turn_conc bl a.files h.dist k hkl (gF n) (crashF n) (fun j f => rfl)
  have e2 : ({ conc bl a with files := turnFile (conc bl a).files (bl k) (gF n) } : St) = conc bl { a with files := a.files.modify k (crashF n) } := by
    show ({ conc bl a with files := turnFile (a.files.mapIdx (cf bl)) (bl k) (gF n) } : St) = _
    rw [e]
    rfl
  rw [← e2]
  exact ht
theorem three_set {w : World} {b : Nat} {x y z : Value} (u v t : Value) (h : w.heap[b]? = some (Obj.cells #[x, y, z] 70 (0, 0))) : (((w.setCell ⟨b, 0, none⟩ u).setCell ⟨b, 1, none⟩ v).setCell ⟨b, 2, none⟩ t).heap[b]? = some (Obj.cells #[u, v, t] 70 (0, 0)) ∧ ∀ j, j ≠ b → (((w.setCell ⟨b, 0, none⟩ u).setCell ⟨b, 1, none⟩ v).setCell ⟨b, 2, none⟩ t).heap[j]? = w.heap[j]? := by
  have h1 := heap_setCell_same w b 0 _ _ u h
  have h2 := heap_setCell_same _ b 1 _ _ v h1
  have h3 := heap_setCell_same _ b 2 _ _ t h2
  refine ⟨by rw [h3]; rfl, fun j hj => ?_⟩
  rw [heap_setCell_other _ _ _ _ hj, heap_setCell_other _ _ _ _ hj, heap_setCell_other _ _ _ _ hj]
theorem two_set {w : World} {b : Nat} {x y z : Value} (v t : Value) (h : w.heap[b]? = some (Obj.cells #[x, y, z] 70 (0, 0))) : ((w.setCell ⟨b, 1, none⟩ v).setCell ⟨b, 2, none⟩ t).heap[b]? = some (Obj.cells #[x, v, t] 70 (0, 0)) ∧ ∀ j, j ≠ b → ((w.setCell ⟨b, 1, none⟩ v).setCell ⟨b, 2, none⟩ t).heap[j]? = w.heap[j]? := by
  have h2 := heap_setCell_same _ b 1 _ _ v h
  have h3 := heap_setCell_same _ b 2 _ _ t h2
  refine ⟨by rw [h3]; rfl, fun j hj => ?_⟩
  rw [heap_setCell_other _ _ _ _ hj, heap_setCell_other _ _ _ _ hj]
theorem Rd.len {w : World} {ad : Option Addr} {n c : Nat} {l : List UInt8} (h : Rd w (.slice ad n c) l) : n = l.length ∧ n ≤ c := ⟨h.half.1, h.half.2.1⟩
theorem Rd.cut {w : World} {ad : Option Addr} {n c : Nat} {l : List UInt8} (q : Nat) (hq : q ≤ l.length) (h : Rd w (.slice ad n c) l) : Rd w (.slice ad q c) (l.take q) := by
  rcases h with ⟨h1, rfl⟩ | ⟨g, cap, cur, fr, h1, h2, h3, h4⟩
  · injection h1 with e1 e2 e3
    subst e1 e2 e3
    have : q = 0 := by simpa using hq
    subst this
    exact .inl ⟨rfl, rfl⟩
  · injection h1 with e1 e2 e3
    subst e1 e2 e3
    refine .inr ⟨g, c, cur, fr, ?_, h2, ?_, ?_⟩
    · rw [List.length_take, Nat.min_eq_left hq]
    · rw [List.length_take]; omega
    · rw [List.length_take, Nat.min_eq_left hq]
      have := congrArg (List.take q) h4
      rw [List.take_take, Nat.min_eq_left hq] at this
      rw [this]
      simp [Lib.byteCells, List.map_take]
theorem Is.fileAt {w : World} {B k : Nat} {o : Loc} {bl : Nat → Nat} {a : AS} {f : AF} (h : Is w B o (conc bl a)) (hk : a.files[k]? = some f) : ∃ dv rv, w.heap[bl k]? = some (Obj.cells #[dv, rv, .bool f.synced] 70 (0, 0)) ∧ Rz o.Z w dv f.data ∧ Rz o.Z w rv f.dur := by
  have hm : cf bl k f ∈ (conc bl a).files := by
    have : (conc bl a).files[k]? = some (cf bl k f) := by simp [conc, hk]
    exact List.mem_of_getElem? this
  exact h.each _ hm
theorem Is.fileCell {w : World} {B k n cap g : Nat} {o : Loc} {bl : Nat → Nat} {a : AS} (h : Is w B o (conc bl a)) (e : o.fs = .slice (some ⟨g, 0, none⟩) n cap) (hk : k < a.files.length) : w.cell? ⟨g, k, none⟩ = some (.pointer (some ⟨bl k, 0, none⟩)) := by
  obtain ⟨g', ad, cap', e1, h1, h2⟩ := h.filesAt
  have hk2 : k < (conc bl a).files.length := by simpa [conc] using hk
  rw [e, h1 (by omega)] at e1
  injection e1 with e2
  injection e2 with e2
  injection e2 with e2
  subst e2
  rw [h2 k hk2]
  simp [conc, cf, fptr]
end Go.Proofs.Ytcobjjaicckgpaa.Vf
