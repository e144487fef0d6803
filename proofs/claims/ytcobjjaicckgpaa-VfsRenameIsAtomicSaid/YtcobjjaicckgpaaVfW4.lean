/- record. -/
import Derived.Test.YtcobjjaicckgpaaVfW3
namespace Go.Proofs.Ytcobjjaicckgpaa.Vf
open Go Go.RowKit Go.Maps Go.Proofs.Ytcobjjaicckgpaa Go.Proofs.Ytcobjjaicckgpaa.Bs
set_option linter.unusedVariables false

theorem Dir.neB {w : World} {b k : Nat} {m : Nm} {cur : Array Value} {t : TypeId} {fr : Nat × Nat} (h : Dir w b m) (hc : w.heap[k]? = some (Obj.cells cur t fr)) : k ≠ b := by
  obtain ⟨n, es, clock, hh, r⟩ := h
  intro e
  rw [e, hh] at hc
  simp at hc
theorem own_block {w : World} {base n size : Nat} {e : TypeId} {v : Value} {xs : List Value} (h : w.ownsRow base e size v n xs) {g : Nat} (hg : v.ownBlock = some g) : ∃ cur, w.heap[g]? = some (Obj.cells cur e (0, 0)) := by
  rcases h.2 with ⟨rfl, _⟩ | ⟨g', cap, cur, rfl, h1, h2, r⟩
  · simp [Value.ownBlock] at hg
  · simp [Value.ownBlock] at hg
    subst hg
    exact ⟨cur, h2⟩
/-- The directory has turned, nothing else. -/
theorem Is.named {w w1 : World} {B : Nat} {o : Loc} {s : St} {m : Nm} (h : Is w B o s) (hB : But o.nb w w1) (hD : Dir w1 o.nb m) : Is w1 B o { s with names := m } := by
  have hk : ∀ k cur t fr, w.heap[k]? = some (Obj.cells cur t fr) → w1.heap[k]? = w.heap[k]? := fun k cur t fr hc => hB.block k (lt_of_heap hc) (by intro e; injection e with e; exact h.names.neB hc e)
  exact
    { fs := by rw [hk _ _ _ _ h.fs]; exact h.fs
      names := hD
      dur := h.dur.of_block (hB.block _ h.dur.lt (by intro e; injection e with e; exact h.nd e.symm))
      nd := h.nd
      files := own_kept h.files fun g hg => by obtain ⟨cur, hc⟩ := own_block h.files hg; exact hk _ _ _ _ hc
      pend := own_kept h.pend fun g hg => by obtain ⟨cur, hc⟩ := own_block h.pend hg; exact hk _ _ _ _ hc
      each := fun f hf => (h.each f hf).kept (by obtain ⟨dv, rv, h1, _⟩ := h.each f hf; exact hk _ _ _ _ h1) (fun g cur fr hc => hk _ _ _ _ hc)
      zl := zl_kept h.zl (fun k cur fr hc => hk k cur _ fr hc)
      dist := h.dist
      bF := h.bF
      bn := h.bn
      bd := h.bd
      bf := h.bf }
theorem infoC : (Try.prog.info? 74).map (fun i => (i.zero, i.size, i.bytes)) = some (some (.agg #[.string ByteArray.empty, .string ByteArray.empty, .pointer none]), 3, 40) := by kernel_rfl
theorem grow_at {w1 w2 : World} {x y : Obj} {row : Option Nat} {F : Nat} (h : (w1.drew.alloc x).grownBy w2 row) (hc : w1.heap[F]? = some y) (hne : row ≠ some F) : w2.heap[F]? = some y := by
  have hlt := lt_of_heap hc
  have hc2 : (w1.drew.alloc x).heap[F]? = some y := by rw [old_block w1.drew x F hlt]; exact hc
  rw [h.block F (lt_of_heap hc2) (fun e => hne e.symm)]
  exact hc2
theorem fs_at3 {w : World} {F : Nat} {o : Loc} {s : St} (h : w.heap[F]? = some (Obj.cells (fsCells o s) 64 (0, 0))) : w.cell? ⟨F, 3, none⟩ = some o.ps ∧ w.frozen? ⟨F, 3, none⟩ = false := by
  unfold World.cell? World.frozen?
  simp only [h]
  exact ⟨rfl, rfl⟩
theorem own_ne {w : World} {base n size F : Nat} {e t : TypeId} {v : Value} {xs : List Value} {cs : Array Value} {fr : Nat × Nat} (h : w.ownsRow base e size v n xs) (hF : w.heap[F]? = some (Obj.cells cs t fr)) (hne : t ≠ e) : v.ownBlock ≠ some F := by
  intro hg
  obtain ⟨cur, hc⟩ := own_block h hg
  rw [hF] at hc
  simp only [Option.some.injEq, Obj.cells.injEq] at hc
  exact hne hc.2.1
theorem ne_of {w : World} {k F : Nat} {cs ds : Array Value} {t u : TypeId} {fr gr : Nat × Nat} (h : w.heap[k]? = some (Obj.cells cs t fr)) (g : w.heap[F]? = some (Obj.cells ds u gr)) (hn : t ≠ u) : k ≠ F := by
  intro e
  subst e
  rw [h] at g
  simp only [Option.some.injEq, Obj.cells.injEq] at g
  exact hn g.2.1
theorem Dir.block {w : World} {b : Nat} {m : Nm} (h : Dir w b m) : ∃ es ck, w.heap[b]? = some (.map es ck) := by
  obtain ⟨n, es, clock, hh, r⟩ := h
  exact ⟨es, clock, hh⟩
theorem Is.pended {w1 w2 : World} {x : Obj} {B g cap : Nat} {o : Loc} {s : St} {c : Ch} (h : Is w1 B o s) (hg : (w1.drew.alloc x).grownBy w2 o.ps.ownBlock)
    (ho : w2.ownsRow B 74 3 (.slice (some ⟨g, 0, none⟩) (s.pend.length + 1) cap) (s.pend.length + 1) (s.pend.flatMap chCells ++ chCells c)) :
    Is (w2.setCell ⟨o.F, 3, none⟩ (.slice (some ⟨g, 0, none⟩) (s.pend.length + 1) cap)) B { o with ps := .slice (some ⟨g, 0, none⟩) (s.pend.length + 1) cap } { s with pend := s.pend ++ [c] } := by
  have K : ∀ k y, w1.heap[k]? = some y → o.ps.ownBlock ≠ some k → k ≠ o.F → (w2.setCell ⟨o.F, 3, none⟩ (.slice (some ⟨g, 0, none⟩) (s.pend.length + 1) cap)).heap[k]? = some y := fun k y hy hne hF => by
    rw [heap_setCell_other _ _ _ _ hF]; exact grow_at hg hy hne
  have KC : ∀ k cur t fr, w1.heap[k]? = some (Obj.cells cur t fr) → t ≠ 74 → t ≠ 64 → (w2.setCell ⟨o.F, 3, none⟩ (.slice (some ⟨g, 0, none⟩) (s.pend.length + 1) cap)).heap[k]? = w1.heap[k]? := fun k cur t fr hy h1 h2 => by
    rw [hy]; exact K k _ hy (own_ne h.pend hy h1) (ne_of hy h.fs h2)
  have KM : ∀ b m, Dir w1 b m → (w2.setCell ⟨o.F, 3, none⟩ (.slice (some ⟨g, 0, none⟩) (s.pend.length + 1) cap)).heap[b]? = w1.heap[b]? := fun b m hd => by
    obtain ⟨es, ck, hb⟩ := hd.block
    rw [hb]
    exact K b _ hb (fun e => by obtain ⟨cur, hc⟩ := own_block h.pend e; rw [hb] at hc; simp at hc) (fun e => hd.neB h.fs e.symm)
  have hF2 := grow_at hg h.fs (own_ne h.pend h.fs (by decide))
  exact
    { fs := by rw [heap_setCell_same _ _ _ _ _ _ hF2]; rfl
      names := h.names.of_block (KM _ _ h.names)
      dur := h.dur.of_block (KM _ _ h.dur)
      nd := h.nd
      files := own_kept h.files fun k hk => by obtain ⟨cur, hc⟩ := own_block h.files hk; exact KC _ _ _ _ hc (by decide) (by decide)
      pend := by
        have e1 : (s.pend ++ [c]).length = s.pend.length + 1 := by simp
        have e2 : (s.pend ++ [c]).flatMap chCells = s.pend.flatMap chCells ++ chCells c := by simp
        show World.ownsRow _ _ _ _ _ (s.pend ++ [c]).length ((s.pend ++ [c]).flatMap chCells)
        rw [e1, e2]
        refine own_kept ho fun k hk => ?_
        obtain ⟨cur, hc⟩ := own_block ho hk
        exact heap_setCell_other _ _ _ _ (ne_of hc hF2 (by decide))
      each := fun f hf => (h.each f hf).kept (by obtain ⟨dv, rv, h1, _⟩ := h.each f hf; exact KC _ _ _ _ h1 (by decide) (by decide)) (fun k cur fr hc => KC _ _ _ _ hc (by decide) (by decide))
      zl := zl_kept h.zl (fun k cur fr hc => KC k cur _ fr hc (by decide) (by decide))
      dist := h.dist
      bF := h.bF
      bn := h.bn
      bd := h.bd
      bf := h.bf }
theorem Fr.grow {w1 w2 : World} {x : Obj} {row : Option Nat} (h : (w1.drew.alloc x).grownBy w2 row) (p : Nat → Prop) (hp : ∀ k, row = some k → p k) : Fr w1 w2 p :=
  ⟨h.os, h.tape, h.output, Nat.le_trans (by show _ ≤ (World.alloc w1.drew x).heap.size; rw [alloc_sz]; exact Nat.le_succ _) h.size, fun k hk hn => by
    have hlt : k < (w1.drew.alloc x).heap.size := by show _ < (World.alloc w1.drew x).heap.size; rw [alloc_sz]; exact Nat.lt_succ_of_lt hk
    rw [h.block k hlt (fun e => hn (hp k e.symm))]
    exact old_block w1.drew x k hk⟩
theorem Fr.set (w : World) (a : Addr) (v : Value) (p : Nat → Prop) (hp : p a.block) : Fr w (w.setCell a v) p :=
  ⟨rfl, rfl, rfl, by simp, fun k hk hn => heap_setCell_other w a k v (fun e => hn (e ▸ hp))⟩
theorem new_cellC (w : World) (xs : List Value) (j : Nat) (u : Value) (hj : xs[j]? = some u) : (w.alloc (.cells xs.toArray 74)).cell? ((⟨w.heap.size, 0, none⟩ : Addr).add j) = some u := by
  have h2 := new_block w (.cells xs.toArray 74)
  have e : ((⟨w.heap.size, 0, none⟩ : Addr).add j) = ⟨w.heap.size, j, none⟩ := by simp [Addr.add]; omega
  rw [e]
  unfold World.cell?
  simp only [h2]
  simpa using hj
set_option maxRecDepth 100000 in
set_option maxHeartbeats 4000000 in
theorem record_is (B x : Nat) (o : Loc) (s : St) (c : Ch) (W : World) (h : Is W B o s) (h1 : c.src.size ≤ 1000000) (h2 : c.dst.size ≤ 1000000) (hm : s.names.length ≤ 1000000) (hp : s.pend.length ≤ 1000000) (hx : c.dst.toList.isEmpty = false → c.file = some x) :
    Calls Try.prog 39 #[.pointer (some ⟨o.F, 0, none⟩), .agg #[.string c.src, .string c.dst, fptrO c.file]] W fun e w' => e = .returned (.tuple #[]) ∧ ∃ ps', Is w' B { o with ps := ps' } { s with names := applyS s.names c.src c.dst x, pend := s.pend ++ [c] } ∧ Fr W w' (foot o s) ∧ (∀ g, ps'.ownBlock = some g → o.ps.ownBlock = some g ∨ W.heap.size ≤ g) := by
  obtain ⟨F, hF⟩ : ∃ F, o.F = F := ⟨_, rfl⟩
  obtain ⟨f, hf⟩ : ∃ f, c.src = f := ⟨_, rfl⟩
  obtain ⟨t, ht⟩ : ∃ t, c.dst = t := ⟨_, rfl⟩
  obtain ⟨fv, hfv⟩ : ∃ v, fptrO c.file = v := ⟨_, rfl⟩
  have hxv : t.toList.isEmpty = false → fv = fptr x := fun e => by rw [← hfv, hx (by rw [ht]; exact e)]; rfl
  rw [hF, hf, ht, hfv]
  rw [hf] at h1
  rw [ht] at h2
  have hI0 : Is (W.alloc (.cells #[.string f, .string t, fv] 74)) B o s := h.below ((Below.refl W.heap.size W).alloc (Nat.le_refl _) _)
  have hS := heap_alloc_new W (.cells #[.string f, .string t, fv] 74)
  have HB0 := Lib.hid ((Below.refl W.heap.size W).alloc (Nat.le_refl _) (.cells #[.string f, .string t, fv] 74))
  have q0 : (W.alloc (.cells #[.string f, .string t, fv] 74)).cell? ⟨W.heap.size, 0, none⟩ = some (.string f) := by unfold World.cell?; simp only [hS]; rfl
  have q1 : (W.alloc (.cells #[.string f, .string t, fv] 74)).cell? ⟨W.heap.size, 1, none⟩ = some (.string t) := by unfold World.cell?; simp only [hS]; rfl
  have q2 : (W.alloc (.cells #[.string f, .string t, fv] 74)).cell? ⟨W.heap.size, 2, none⟩ = some fv := by unfold World.cell?; simp only [hS]; rfl
  have HI := Lib.hid h
  have HI0 := Lib.hid hI0
  have HXV := Lib.hid hxv
  have HSS := Lib.hid hS
  clear h hI0 hxv hS hx
  go_enter Try.func39, Try.ntmps39
  go_wp2_with fail
  generalize (W.alloc (.cells #[.string f, .string t, fv] 74)) = w0 at q0 q1 q2 HB0 HI0 HSS ⊢
  go_still_tail 4, (by kernel_rfl)
  change wpList _ _ _ _ _ w0.drew
  go_wp2_with fail
  have hcF : w0.drew.cell? ⟨F, 0, none⟩ = some (.map (some o.nb)) := by
    have := HI0.out.fs
    rw [hF] at this
    show w0.cell? _ = _
    unfold World.cell?; simp only [this]; rfl
  refine (apply_is F 0 o.nb x f t fv s.names w0.drew h1 h2 hm HXV.out hcF (HI0.out.names.of_block rfl)).mono ?_
  rintro e w1 ⟨rfl, hD1, hB1'⟩
  have hB1 : But o.nb w0 w1 := ⟨hB1'.os, hB1'.tape, hB1'.output, hB1'.size, hB1'.block⟩
  clear hB1'
  have HI1 := Lib.hid (Is.named (w := w0) HI0.out hB1 hD1)
  have hneS : W.heap.size ≠ o.nb := HI0.out.names.neB HSS.out
  have r0 := hB1.cell q0 hneS
  have r1 := hB1.cell q1 hneS
  have r2 := hB1.cell q2 hneS
  have HF1 := Lib.hid ((Fr.of_below HB0.out (foot o s)).trans (Fr.of_but hB1 (fun k => k = o.nb) rfl) (fun k _ e => .inr (.inl e)))
  have cP : w1.cell? ⟨F, 3, none⟩ = some o.ps := by
    have := HI1.out.fs
    rw [hF] at this
    unfold World.cell?; simp only [this]; rfl
  have frF : w1.frozen? ⟨F, 3, none⟩ = false := by
    have := HI1.out.fs
    rw [hF] at this
    unfold World.frozen?; simp only [this]; rfl
  have hsz1 := HF1.out.size
  obtain ⟨i0, hi, hz0, hz1, hz2⟩ := info_parts infoC
  obtain ⟨pv, hpv⟩ : ∃ v, o.ps = v := ⟨_, rfl⟩
  have hown := HI1.out.pend
  rw [hpv] at hown cP
  have HOW := Lib.hid hown
  have HFB := Lib.hid (show w1.heap[F]? = _ from hF ▸ HI1.out.fs)
  have HNE := Lib.hid (own_ne hown HFB.out (by decide))
  have cPa : (w1.alloc (.cells #[.string f, .string t, fv] 74)).cell? ⟨F, 3, none⟩ = some pv := by
    have hlt := lt_of_cell cP
    unfold World.cell? at cP ⊢
    rw [old_block _ _ _ hlt]
    exact cP
  have HOC := Lib.hid (show ∀ u ∈ [Value.string f, .string t, fv], u.oneCell' = true by
    intro u hu
    simp only [List.mem_cons, List.not_mem_nil, or_false] at hu
    rcases hu with rfl | rfl | rfl
    · rfl
    · rfl
    · rw [← hfv]; cases c.file <;> rfl)
  have HBS := Lib.hid (show B ≤ w1.heap.size from Nat.le_trans HI1.out.bF (Nat.le_of_lt (lt_of_heap HI1.out.fs)))
  have II := Lib.hid (And.intro hi (And.intro hz0 (And.intro hz1 hz2)))
  clear hcF q0 q1 q2 hD1 hB1 hi hz0 hz1 hz2 hown hneS
  go_wp2_with fail
  go_region_law? (refine step_append_lies _ rfl (.tmp 13) (.tmp 15) 62 rfl B 74 i0 (.agg #[.string ByteArray.empty, .string ByteArray.empty, .pointer none]) 3 40 Try.underlying62 II.out.1 II.out.2.1 II.out.2.2.1 II.out.2.2.2 rfl (by decide) _ _ _ (by simp [Act.eval]) (HOW.out.drew.alloc _) ⟨w1.heap.size, 0, none⟩ 1 1 [.string f, .string t, fv] (by simp [Act.eval]) rfl (new_cellC w1.drew _) HOC.out (by decide) (by unfold maxLen; omega) (by omega) (by show _ ≤ (World.alloc _ _).heap.size; rw [alloc_sz]; have := HBS.out; show _ ≤ w1.heap.size + 1; omega) _ rfl ?_; intro g1 cap1 w2 hown1 hgrow1 hg1 hg2; have hfb2 := grow_at hgrow1 HFB.out HNE.out; have hc2 := (fs_at3 hfb2).1; have hz2 := (fs_at3 hfb2).2; rw [hpv] at hc2)
  all_goals
    have hgrow2 := hpv ▸ hgrow1
    have HR := Lib.hid (Is.pended (c := c) HI1.out (by rw [hpv]; exact hgrow1) (by rw [show chCells c = [.string f, .string t, fv] by unfold chCells; rw [hf, ht, hfv]]; exact hown1))
    have HFR := Lib.hid (HF1.out.trans ((Fr.grow hgrow1 (foot o s) (fun k e => .inr (.inr (.inr (.inr (.inl (by rw [hpv]; exact e))))))).trans (Fr.set w2 ⟨F, 3, none⟩ (.slice (some ⟨g1, 0, none⟩) (s.pend.length + 1) cap1) (foot o s) (.inl hF.symm)) (fun k _ e => e)) (fun k _ e => e))
    have HG := Lib.hid (show o.ps.ownBlock = some g1 ∨ W.heap.size ≤ g1 by
      rw [hpv]
      rcases hg1 with e | e
      · exact .inl e
      · right
        have e2 : (World.alloc w1.drew (Obj.cells #[.string f, .string t, fv] 74)).heap.size = w1.heap.size + 1 := by rw [alloc_sz]; rfl
        have e3 : (World.drew (World.alloc w1 (Obj.cells #[.string f, .string t, fv] 74))).heap.size = w1.heap.size + 1 := by show (World.alloc w1 _).heap.size = _; rw [alloc_sz]
        omega)
    rw [hF] at HR
    clear hown1 hgrow1 hg1 hg2 hfb2 hc2 hz2 hgrow2
    try go_wp2_with fail
    go_end0
    refine ⟨rfl, _, HR.out, HFR.out, ?_⟩
    intro g hg
    simp only [Value.ownBlock, Option.some.injEq] at hg
    subst hg
    have hgo := HG.out
    rw [hpv] at hgo
    exact hgo
end Go.Proofs.Ytcobjjaicckgpaa.Vf
