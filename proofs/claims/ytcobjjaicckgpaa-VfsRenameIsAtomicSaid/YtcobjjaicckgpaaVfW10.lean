/- Remove's closure. -/
import Derived.Test.YtcobjjaicckgpaaVfW9
namespace Go.Proofs.Ytcobjjaicckgpaa.Vf
open Go Go.RowKit Go.Maps Go.Proofs.Ytcobjjaicckgpaa Go.Proofs.Ytcobjjaicckgpaa.Bs
set_option linter.unusedVariables false

set_option maxRecDepth 100000 in
set_option maxHeartbeats 4000000 in
theorem remove1_none (B F p q : Nat) (o : Loc) (s : St) (k : ByteArray) (W : World) (h : Is W B o s) (hF : o.F = F) (hp : W.cell? ⟨p, 0, none⟩ = some (.pointer (some ⟨F, 0, none⟩))) (hq : W.cell? ⟨q, 0, none⟩ = some (.string k)) (hk : k.size ≤ 1000000) (hf : findS s.names k.data.toList = none) :
    Calls Try.prog 51 #[.pointer (some ⟨p, 0, none⟩), .pointer (some ⟨q, 0, none⟩)] W fun e w' => e = .returned (.int .i64 23) ∧ ∃ n, w' = W.drewN n := by
  have h0 := fs_at0 h.fs
  rw [hF] at h0
  have HN := Lib.hid h.names
  have cL := fun n => lookup_is F 0 o.nb k s.names (W.drewN n) hk (by exact h0) (HN.out.of_block rfl)
  rw [hf] at cL
  have CL := Lib.hid cL
  clear h hf cL
  go_enter Try.func51, Try.ntmps51
  go_wp2_with fail
  go_quiet ((exact Calls.quiet_of_same (CL.out _)))
  go_wp2_with fail
  go_ret
  exact ⟨rfl, nq, rfl⟩
set_option maxRecDepth 100000 in
set_option maxHeartbeats 4000000 in
theorem remove1_some (B b F p q : Nat) (o : Loc) (s : St) (k : ByteArray) (W : World) (h : Is W B o s) (hF : o.F = F) (hp : W.cell? ⟨p, 0, none⟩ = some (.pointer (some ⟨F, 0, none⟩))) (hq : W.cell? ⟨q, 0, none⟩ = some (.string k)) (hk : k.size ≤ 1000000) (hf : findS s.names k.data.toList = some b) (hn : s.names.length ≤ 1000000) (hpl : s.pend.length ≤ 1000000) :
    Calls Try.prog 51 #[.pointer (some ⟨p, 0, none⟩), .pointer (some ⟨q, 0, none⟩)] W fun e w' => e = .returned (.int .i64 0) ∧ ∃ ps', Is w' B { o with ps := ps' } { s with names := applyS s.names k ⟨#[]⟩ 0, pend := s.pend ++ [⟨k, ⟨#[]⟩, none⟩] } ∧ Fr W w' (foot o s) ∧ (∀ g, ps'.ownBlock = some g → o.ps.ownBlock = some g ∨ W.heap.size ≤ g) := by
  have h0 := fs_at0 h.fs
  rw [hF] at h0
  have HN := Lib.hid h.names
  have HI := Lib.hid h
  have cL := fun n => lookup_is F 0 o.nb k s.names (W.drewN n) hk (by exact h0) (HN.out.of_block rfl)
  rw [hf] at cL
  have CL := Lib.hid cL
  have cR := fun n => record_is B 0 o s ⟨k, ⟨#[]⟩, none⟩ (W.drewN n) (HI.out.drewN n) hk (show (⟨#[]⟩ : ByteArray).size ≤ 1000000 by decide) hn hpl (fun e => absurd (show (⟨#[]⟩ : ByteArray).toList.isEmpty = false from e) (by rw [Lib.toList_data]; decide))
  rw [hF] at cR
  have CR := Lib.hid cR
  clear h hf cL cR
  go_enter Try.func51, Try.ntmps51
  go_wp2_with fail
  go_quiet ((exact Calls.quiet_of_same (CL.out _)))
  simp only [fptrO, fptr, Option.isSome_some]
  go_wp2_with fail
  refine (CR.out nq).mono ?_
  rintro e w2 ⟨rfl, ps', hi, hfr, hg⟩
  have H2 := Lib.hid (And.intro hi (And.intro hfr hg))
  clear hi hfr hg
  go_wp2_with fail
  go_ret
  have hi2 := H2.out.1
  subst hF
  exact ⟨rfl, ps', hi2, ⟨H2.out.2.1.os, H2.out.2.1.tape, H2.out.2.1.output, H2.out.2.1.size, H2.out.2.1.block⟩, H2.out.2.2⟩
end Go.Proofs.Ytcobjjaicckgpaa.Vf
