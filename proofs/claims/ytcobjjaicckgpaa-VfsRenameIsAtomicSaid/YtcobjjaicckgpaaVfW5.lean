/- put. -/
import Derived.Test.YtcobjjaicckgpaaVfW4
namespace Go.Proofs.Ytcobjjaicckgpaa.Vf
open Go Go.RowKit Go.Maps Go.Proofs.Ytcobjjaicckgpaa Go.Proofs.Ytcobjjaicckgpaa.Bs
set_option linter.unusedVariables false

def setFile (fs : List Fl) (b : Nat) (l : List UInt8) : List Fl := fs.map fun f => if f.blk = b then { f with data := l, synced := false } else f
/-- The contents of an old file are replaced. -/
theorem Is.wrote {w : World} {B b : Nat} {o : Loc} {s : St} {v : Value} {l : List UInt8} (h : Is w B o s) (f : Fl) (hf : f ∈ s.files) (hb : f.blk = b) (hv : Rz o.Z w v l) :
    Is ((w.setCell ⟨b, 0, none⟩ v).setCell ⟨b, 2, none⟩ (.bool false)) B o { s with files := setFile s.files b l } := by
  obtain ⟨dv, rv, hc, hd, hr⟩ := h.each f hf
  rw [hb] at hc
  have h1 := heap_setCell_same w b 0 _ _ v hc
  have h2 := heap_setCell_same _ b 2 _ _ (.bool false) h1
  have K : ∀ k, k ≠ b → ((w.setCell ⟨b, 0, none⟩ v).setCell ⟨b, 2, none⟩ (.bool false)).heap[k]? = w.heap[k]? := fun k hk => by
    rw [heap_setCell_other _ _ _ _ hk, heap_setCell_other _ _ _ _ hk]
  have KC : ∀ k cur t fr, w.heap[k]? = some (Obj.cells cur t fr) → t ≠ 70 → ((w.setCell ⟨b, 0, none⟩ v).setCell ⟨b, 2, none⟩ (.bool false)).heap[k]? = w.heap[k]? := fun k cur t fr hk ht => K k (ne_of hk hc ht)
  have KM : ∀ d m, Dir w d m → ((w.setCell ⟨b, 0, none⟩ v).setCell ⟨b, 2, none⟩ (.bool false)).heap[d]? = w.heap[d]? := fun d m hd => K d (fun e => hd.neB hc e.symm)
  have hbl : (setFile s.files b l).map (·.blk) = s.files.map (·.blk) := by
    unfold setFile
    rw [List.map_map]
    apply List.map_congr_left
    intro g _
    simp only [Function.comp]
    split <;> rfl
  have hE : ∀ g ∈ setFile s.files b l, FileIs o.Z ((w.setCell ⟨b, 0, none⟩ v).setCell ⟨b, 2, none⟩ (.bool false)) g := by
    intro g hg
    unfold setFile at hg
    obtain ⟨g0, hg0, rfl⟩ := List.mem_map.1 hg
    by_cases e : g0.blk = b
    · rw [if_pos e]
      obtain ⟨dv0, rv0, hc0, hd0, hr0⟩ := h.each g0 hg0
      rw [e, hc] at hc0
      have e3 : #[dv, rv, Value.bool f.synced] = #[dv0, rv0, Value.bool g0.synced] := by injection hc0 with hc0; injection hc0
      have e4 : rv = rv0 := by
        have := congrArg (fun a : Array Value => a[1]?) e3
        simpa using this
      subst e4
      refine ⟨v, rv, ?_, hv.kept (fun k cur fr hk => KC _ _ _ _ hk (by decide)), hr0.kept (fun k cur fr hk => KC _ _ _ _ hk (by decide))⟩
      simp only [e]
      rw [h2]
      rfl
    · rw [if_neg e]
      exact (h.each g0 hg0).kept (K _ e) (fun k cur fr hk => KC _ _ _ _ hk (by decide))
  exact
    { fs := by rw [KC _ _ _ _ h.fs (by decide)]; exact h.fs
      names := h.names.of_block (KM _ _ h.names)
      dur := h.dur.of_block (KM _ _ h.dur)
      nd := h.nd
      files := by
        have e1 : (setFile s.files b l).length = s.files.length := by simp [setFile]
        have e2 : (setFile s.files b l).map (fun f => fptr f.blk) = s.files.map fun f => fptr f.blk := by
          have := congrArg (List.map fptr) hbl
          rw [List.map_map, List.map_map] at this
          exact this
        show World.ownsRow _ _ _ _ _ (setFile s.files b l).length ((setFile s.files b l).map fun f => fptr f.blk)
        rw [e1, e2]
        exact own_kept h.files fun k hk => by obtain ⟨cur, hc2⟩ := own_block h.files hk; exact KC _ _ _ _ hc2 (by decide)
      pend := own_kept h.pend fun k hk => by obtain ⟨cur, hc2⟩ := own_block h.pend hk; exact KC _ _ _ _ hc2 (by decide)
      each := hE
      zl := zl_kept h.zl (fun k cur fr hk => KC _ _ _ _ hk (by decide))
      dist := by show ((setFile s.files b l).map (·.blk)).Nodup; rw [hbl]; exact h.dist
      bF := h.bF
      bn := h.bn
      bd := h.bd
      bf := fun g hg => by
        have hm : g.blk ∈ (setFile s.files b l).map (·.blk) := List.mem_map_of_mem hg
        rw [hbl] at hm
        obtain ⟨g0, hg0, e⟩ := List.mem_map.1 hm
        rw [← e]
        exact h.bf g0 hg0 }
theorem Rd.slice {w : World} {v : Value} {l : List UInt8} (h : Rd w v l) : ∃ a n c, v = .slice a n c := by
  rcases h with ⟨rfl, _⟩ | ⟨g, cap, cur, fr, rfl, _⟩
  · exact ⟨_, _, _, rfl⟩
  · exact ⟨_, _, _, rfl⟩
theorem fs_at0 {w : World} {F : Nat} {o : Loc} {s : St} (h : w.heap[F]? = some (Obj.cells (fsCells o s) 64 (0, 0))) : w.cell? ⟨F, 0, none⟩ = some (.map (some o.nb)) := by
  unfold World.cell?
  simp only [h]
  rfl
theorem file_cells {w : World} {b : Nat} {x y z : Value} (h : w.heap[b]? = some (Obj.cells #[x, y, z] 70 (0, 0))) : w.cell? ⟨b, 0, none⟩ = some x ∧ w.cell? ⟨b, 1, none⟩ = some y ∧ w.cell? ⟨b, 2, none⟩ = some z ∧ (∀ j, w.frozen? ⟨b, j, none⟩ = false) := by
  unfold World.cell? World.frozen?
  simp only [h]
  exact ⟨rfl, rfl, rfl, fun j => by simp⟩
set_option maxRecDepth 100000 in
set_option maxHeartbeats 4000000 in
theorem put_none (B : Nat) (o : Loc) (v : Value) (W : World) :
    Calls Try.prog 32 #[.pointer (some ⟨o.F, 0, none⟩), .string ⟨#[]⟩, v] W fun e w' => e = .returned (.int .i64 2) ∧ w' = W := by
  go_enter Try.func32, Try.ntmps32
  go_wp2_with fail
  go_ret
  exact ⟨rfl, rfl⟩
set_option maxRecDepth 100000 in
set_option maxHeartbeats 4000000 in
theorem put_old (B b : Nat) (o : Loc) (s : St) (k : ByteArray) (v : Value) (l : List UInt8) (f : Fl) (W : World) (h : Is W B o s) (hk : k.size ≤ 1000000) (k0 : k.toList.isEmpty = false) (hl : l.length ≤ 1000000) (hv : Rd W v l) (hf : findS s.names k.data.toList = some b) (hm : f ∈ s.files) (hb : f.blk = b) :
    Calls Try.prog 32 #[.pointer (some ⟨o.F, 0, none⟩), .string k, v] W fun e w' => e = .returned (.int .i64 0) ∧ Is w' B o { s with files := setFile s.files b l } ∧ Fr W w' (foot o s) := by
  have h0 := fs_at0 h.fs
  have HI := Lib.hid h
  have HV := Lib.hid hv
  have HF := Lib.hid hf
  obtain ⟨F, hF⟩ : ∃ F, o.F = F := ⟨_, rfl⟩
  rw [hF] at h0 ⊢
  clear h hv hf
  go_enter Try.func32, Try.ntmps32
  go_wp2_with fail
  refine (lookup_is F 0 o.nb k s.names W hk h0 HI.out.names).mono ?_
  rintro e w1 ⟨rfl, rfl⟩
  rw [HF.out]
  simp only [fptrO, fptr, Option.isSome_some]
  go_wp2_with fail
  refine (clone_is v l _ hl HV.out).mono ?_
  rintro e w2 ⟨v2, rfl, hr2', hg2, hb2⟩
  have hr2 : Rz o.Z w2 v2 l := ⟨hr2', fun g hg hz => by
    obtain ⟨cur, fr, hc⟩ := HI.out.zl g hz
    have e1 := lt_of_heap hc
    have e2 := hg2 g hg
    omega⟩
  clear hr2' hg2
  obtain ⟨a2, n2, cp2, hv2⟩ := hr2.1.slice
  subst hv2
  have HI2 := Lib.hid (HI.out.below hb2)
  obtain ⟨dv, rv, hc, -, -⟩ := HI2.out.each f hm
  rw [hb] at hc
  obtain ⟨c0, c1, c2, cf⟩ := file_cells hc
  have f0 := cf 0
  have f2 := cf 2
  have HR := Lib.hid (HI2.out.wrote f hm hb hr2)
  have HFR := Lib.hid (((Fr.of_below hb2 (foot o s)).trans (Fr.set w2 ⟨b, 0, none⟩ (.slice a2 n2 cp2) (foot o s) (.inr (.inr (.inr (.inr (.inr ⟨f, hm, hb⟩)))))) (fun _ _ e => e)).trans (Fr.set _ ⟨b, 2, none⟩ (.bool false) (foot o s) (.inr (.inr (.inr (.inr (.inr ⟨f, hm, hb⟩)))))) (fun _ _ e => e))
  clear hr2 hb2 hc cf
  go_wp2_with fail
  go_ret
  exact ⟨rfl, HR.out, HFR.out⟩
end Go.Proofs.Ytcobjjaicckgpaa.Vf
