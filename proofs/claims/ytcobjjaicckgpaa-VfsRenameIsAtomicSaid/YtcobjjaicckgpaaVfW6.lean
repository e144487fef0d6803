/- Read. -/
import Derived.Test.YtcobjjaicckgpaaVfW5
namespace Go.Proofs.Ytcobjjaicckgpaa.Vf
open Go Go.RowKit Go.Maps Go.Proofs.Ytcobjjaicckgpaa Go.Proofs.Ytcobjjaicckgpaa.Bs
set_option linter.unusedVariables false

theorem fs_flags {w : World} {F : Nat} {o : Loc} {s : St} (h : w.heap[F]? = some (Obj.cells (fsCells o s) 64 (0, 0))) :
    w.cell? ⟨F, 1, none⟩ = some (.map (some o.db)) ∧ w.cell? ⟨F, 2, none⟩ = some o.fs ∧ w.cell? ⟨F, 4, none⟩ = some (.bool s.down) ∧ w.cell? ⟨F, 5, none⟩ = some (.bool s.armed) ∧ w.cell? ⟨F, 6, none⟩ = some (.int .i64 s.after) ∧ w.cell? ⟨F, 7, none⟩ = some (.int .i64 s.err) ∧ ∀ j, w.frozen? ⟨F, j, none⟩ = false := by
  unfold World.cell? World.frozen?
  simp only [h]
  exact ⟨rfl, rfl, rfl, rfl, rfl, rfl, fun j => by simp⟩
set_option maxRecDepth 100000 in
set_option maxHeartbeats 4000000 in
theorem read_nil (k : ByteArray) (W : World) :
    Calls Try.prog 14 #[.pointer none, .string k] W fun e w' => e = .returned (.tuple #[.slice none 0 0, .int .i64 1]) ∧ w' = W := by
  go_enter Try.func14, Try.ntmps14
  go_wp2_with fail
  go_ret2
  exact ⟨rfl, rfl⟩
set_option maxRecDepth 100000 in
set_option maxHeartbeats 4000000 in
theorem read_down (B : Nat) (o : Loc) (s : St) (k : ByteArray) (W : World) (h : Is W B o s) (hd : s.down = true) :
    Calls Try.prog 14 #[.pointer (some ⟨o.F, 0, none⟩), .string k] W fun e w' => e = .returned (.tuple #[.slice none 0 0, .int .i64 24]) ∧ w' = W := by
  obtain ⟨-, -, c4, -⟩ := fs_flags h.fs
  rw [hd] at c4
  clear h
  go_enter Try.func14, Try.ntmps14
  go_wp2_with fail
  go_ret2
  exact ⟨rfl, rfl⟩
set_option maxRecDepth 100000 in
set_option maxHeartbeats 4000000 in
theorem read_none (B : Nat) (o : Loc) (s : St) (k : ByteArray) (W : World) (h : Is W B o s) (hd : s.down = false) (hk : k.size ≤ 1000000) (hf : findS s.names k.data.toList = none) :
    Calls Try.prog 14 #[.pointer (some ⟨o.F, 0, none⟩), .string k] W fun e w' => e = .returned (.tuple #[.slice none 0 0, .int .i64 23]) ∧ w' = W := by
  obtain ⟨-, -, c4, -⟩ := fs_flags h.fs
  rw [hd] at c4
  have h0 := fs_at0 h.fs
  have HN := Lib.hid h.names
  have HF := Lib.hid hf
  clear h hf
  go_enter Try.func14, Try.ntmps14
  go_wp2_with fail
  refine (lookup_is o.F 0 o.nb k s.names W hk h0 HN.out).mono ?_
  rintro e w1 ⟨rfl, rfl⟩
  rw [HF.out]
  simp only [fptrO, Option.isSome_none]
  go_wp2_with fail
  go_ret2
  exact ⟨rfl, rfl⟩
set_option maxRecDepth 100000 in
set_option maxHeartbeats 4000000 in
theorem read_some (B b : Nat) (o : Loc) (s : St) (k : ByteArray) (f : Fl) (W : World) (h : Is W B o s) (hd : s.down = false) (hk : k.size ≤ 1000000) (hf : findS s.names k.data.toList = some b) (hm : f ∈ s.files) (hb : f.blk = b) (hl : f.data.length ≤ 1000000) :
    Calls Try.prog 14 #[.pointer (some ⟨o.F, 0, none⟩), .string k] W fun e w' => ∃ v, e = .returned (.tuple #[v, .int .i64 0]) ∧ Rd w' v f.data ∧ (∀ g, v.ownBlock = some g → W.heap.size ≤ g) ∧ Below W.heap.size W w' := by
  obtain ⟨-, -, c4, -⟩ := fs_flags h.fs
  rw [hd] at c4
  have h0 := fs_at0 h.fs
  obtain ⟨dv, rv, hc, hr, -⟩ := h.each f hm
  rw [hb] at hc
  obtain ⟨c0, -, -, -⟩ := file_cells hc
  have HR := Lib.hid hr.1
  have HN := Lib.hid h.names
  have HF := Lib.hid hf
  obtain ⟨a1, n1, p1, hdv⟩ := hr.1.slice
  subst hdv
  clear h hf hc hr
  go_enter Try.func14, Try.ntmps14
  go_wp2_with fail
  refine (lookup_is o.F 0 o.nb k s.names W hk h0 HN.out).mono ?_
  rintro e w1 ⟨rfl, rfl⟩
  rw [HF.out]
  simp only [fptrO, fptr, Option.isSome_some]
  go_wp2_with fail
  refine (clone_is _ f.data _ hl HR.out).mono ?_
  rintro e w2 ⟨v2, rfl, hr2, hg2, hb2⟩
  have HR2 := Lib.hid hr2
  have HB2 := Lib.hid (And.intro hg2 hb2)
  clear hr2 hg2 hb2
  go_wp2_with fail
  go_ret2
  exact ⟨v2, rfl, HR2.out, HB2.out.1, HB2.out.2⟩
end Go.Proofs.Ytcobjjaicckgpaa.Vf
