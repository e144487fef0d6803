/- The closures' bodies: Sync. -/
import Derived.Test.YtcobjjaicckgpaaVfW7
import Derived.BigQuiet
namespace Go.Proofs.Ytcobjjaicckgpaa.Vf
open Go Go.RowKit Go.Maps Go.Proofs.Ytcobjjaicckgpaa Go.Proofs.Ytcobjjaicckgpaa.Bs
set_option linter.unusedVariables false

set_option maxRecDepth 100000 in
set_option maxHeartbeats 4000000 in
theorem sync1_none (B F p q : Nat) (o : Loc) (s : St) (k : ByteArray) (W : World) (h : Is W B o s) (hF : o.F = F) (hp : W.cell? ⟨p, 0, none⟩ = some (.pointer (some ⟨F, 0, none⟩))) (hq : W.cell? ⟨q, 0, none⟩ = some (.string k)) (hk : k.size ≤ 1000000) (hf : findS s.names k.data.toList = none) :
    Calls Try.prog 34 #[.pointer (some ⟨p, 0, none⟩), .pointer (some ⟨q, 0, none⟩)] W fun e w' => e = .returned (.int .i64 23) ∧ ∃ n, w' = W.drewN n := by
  have h0 := fs_at0 h.fs
  rw [hF] at h0
  have HN := Lib.hid h.names
  have cL := fun n => lookup_is F 0 o.nb k s.names (W.drewN n) hk (by exact h0) (HN.out.of_block rfl)
  rw [hf] at cL
  have CL := Lib.hid cL
  clear h hf cL
  go_enter Try.func34, Try.ntmps34
  go_wp2_with fail
  go_quiet ((exact Calls.quiet_of_same (CL.out _)))
  go_wp2_with fail
  go_ret
  exact ⟨rfl, nq, rfl⟩
/-- The files with file b turned. -/
def turnFile (fs : List Fl) (b : Nat) (g : Fl → Fl) : List Fl := fs.map fun f => if f.blk = b then g f else f
/-- A file's block has turned, nothing else. -/
theorem Is.turned {w w' : World} {B b : Nat} {o : Loc} {s : St} {g : Fl → Fl} (h : Is w B o s) (hg : ∀ f, (g f).blk = f.blk) (f : Fl) (hf : f ∈ s.files) (hb : f.blk = b) (K : ∀ k, k ≠ b → w'.heap[k]? = w.heap[k]?)
    (hn : ∀ f ∈ s.files, f.blk = b → FileIs o.Z w' (g f)) : Is w' B o { s with files := turnFile s.files b g } := by
  obtain ⟨dv, rv, hc, hd, hr⟩ := h.each f hf
  rw [hb] at hc
  have KC : ∀ k cur t fr, w.heap[k]? = some (Obj.cells cur t fr) → t ≠ 70 → w'.heap[k]? = w.heap[k]? := fun k cur t fr hk ht => K k (ne_of hk hc ht)
  have KM : ∀ d m, Dir w d m → w'.heap[d]? = w.heap[d]? := fun d m hd => K d (fun e => hd.neB hc e.symm)
  have hbl : (turnFile s.files b g).map (·.blk) = s.files.map (·.blk) := by
    unfold turnFile
    rw [List.map_map]
    apply List.map_congr_left
    intro x _
    simp only [Function.comp]
    split
    · exact hg x
    · rfl
  have hE : ∀ x ∈ turnFile s.files b g, FileIs o.Z w' x := by
    intro x hx
    unfold turnFile at hx
    obtain ⟨g0, hg0, rfl⟩ := List.mem_map.1 hx
    by_cases e : g0.blk = b
    · rw [if_pos e]; exact hn g0 hg0 e
    · rw [if_neg e]
      exact (h.each g0 hg0).kept (K _ e) (fun k cur fr hk => KC _ _ _ _ hk (by decide))
  exact
    { fs := by rw [KC _ _ _ _ h.fs (by decide)]; exact h.fs
      names := h.names.of_block (KM _ _ h.names)
      dur := h.dur.of_block (KM _ _ h.dur)
      nd := h.nd
      files := by
        have e1 : (turnFile s.files b g).length = s.files.length := by simp [turnFile]
        have e2 : (turnFile s.files b g).map (fun f => fptr f.blk) = s.files.map fun f => fptr f.blk := by
          have := congrArg (List.map fptr) hbl
          rw [List.map_map, List.map_map] at this
          exact this
        show World.ownsRow _ _ _ _ _ (turnFile s.files b g).length ((turnFile s.files b g).map fun f => fptr f.blk)
        rw [e1, e2]
        exact own_kept h.files fun k hk => by obtain ⟨cur, hc2⟩ := own_block h.files hk; exact KC _ _ _ _ hc2 (by decide)
      pend := own_kept h.pend fun k hk => by obtain ⟨cur, hc2⟩ := own_block h.pend hk; exact KC _ _ _ _ hc2 (by decide)
      each := hE
      zl := zl_kept h.zl (fun k cur fr hk => KC _ _ _ _ hk (by decide))
      dist := by show ((turnFile s.files b g).map (·.blk)).Nodup; rw [hbl]; exact h.dist
      bF := h.bF
      bn := h.bn
      bd := h.bd
      bf := fun x hx => by
        have hm : x.blk ∈ (turnFile s.files b g).map (·.blk) := List.mem_map_of_mem hx
        rw [hbl] at hm
        obtain ⟨g0, hg0, e⟩ := List.mem_map.1 hm
        rw [← e]
        exact h.bf g0 hg0 }
end Go.Proofs.Ytcobjjaicckgpaa.Vf
