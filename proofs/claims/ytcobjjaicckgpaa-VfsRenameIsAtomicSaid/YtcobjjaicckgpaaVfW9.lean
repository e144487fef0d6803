/- Sync's closure where the name is there. -/
import Derived.Test.YtcobjjaicckgpaaVfW8
namespace Go.Proofs.Ytcobjjaicckgpaa.Vf
open Go Go.RowKit Go.Maps Go.Proofs.Ytcobjjaicckgpaa Go.Proofs.Ytcobjjaicckgpaa.Bs
set_option linter.unusedVariables false

theorem Is.drewN {w : World} {B : Nat} {o : Loc} {s : St} (h : Is w B o s) (n : Nat) : Is (w.drewN n) B o s := h.kept (fun _ _ => rfl) (fun _ _ _ _ => rfl)
set_option maxRecDepth 100000 in
set_option maxHeartbeats 4000000 in
theorem sync1_some (B b F p q : Nat) (o : Loc) (s : St) (k : ByteArray) (f : Fl) (W : World) (h : Is W B o s) (hF : o.F = F) (hp : W.cell? ⟨p, 0, none⟩ = some (.pointer (some ⟨F, 0, none⟩))) (hq : W.cell? ⟨q, 0, none⟩ = some (.string k)) (hk : k.size ≤ 1000000) (hf : findS s.names k.data.toList = some b) (hm : f ∈ s.files) (hb : f.blk = b) :
    Calls Try.prog 34 #[.pointer (some ⟨p, 0, none⟩), .pointer (some ⟨q, 0, none⟩)] W fun e w' => e = .returned (.int .i64 0) ∧ Is w' B o { s with files := turnFile s.files b fun x => { x with dur := x.data, synced := true } } ∧ Fr W w' (foot o s) := by
  have h0 := fs_at0 h.fs
  rw [hF] at h0
  have HN := Lib.hid h.names
  have HI := Lib.hid h
  have cL := fun n => lookup_is F 0 o.nb k s.names (W.drewN n) hk (by exact h0) (HN.out.of_block rfl)
  rw [hf] at cL
  have CL := Lib.hid cL
  clear h hf cL
  go_enter Try.func34, Try.ntmps34
  go_wp2_with fail
  go_quiet ((exact Calls.quiet_of_same (CL.out _)))
  simp only [fptrO, fptr, Option.isSome_some]
  have HI2 := Lib.hid (HI.out.drewN nq)
  have HB0 := Lib.hid (show Fr W (W.drewN nq) (foot o s) from ⟨rfl, rfl, rfl, Nat.le_refl _, fun _ _ _ => rfl⟩)
  generalize W.drewN nq = w1 at HI2 HB0 ⊢
  obtain ⟨dv, rv, hc, hd, hr⟩ := HI2.out.each f hm
  rw [hb] at hc
  obtain ⟨c0, c1, c2, cf⟩ := file_cells hc
  have f1 := cf 1
  have f2 := cf 2
  obtain ⟨a1, n1, p1, hdv⟩ := hd.1.slice
  subst hdv
  have HC := Lib.hid hc
  have HD := Lib.hid hd
  clear hc hd hr cf hp hq h0
  go_wp2_with fail
  go_ret
  refine ⟨rfl, ?_, ?_⟩
  · have h1 := heap_setCell_same w1 b 1 _ _ (.slice a1 n1 p1) HC.out
    have h2 := heap_setCell_same _ b 2 _ _ (.bool true) h1
    have K : ∀ k, k ≠ b → ((w1.setCell ⟨b, 1, none⟩ (.slice a1 n1 p1)).setCell ⟨b, 2, none⟩ (.bool true)).heap[k]? = w1.heap[k]? := fun k hk => by
      rw [heap_setCell_other _ _ _ _ hk, heap_setCell_other _ _ _ _ hk]
    refine HI2.out.turned (fun _ => rfl) f hm hb K ?_
    intro g hg hgb
    obtain ⟨dv0, rv0, hc0, hd0, hr0⟩ := HI2.out.each g hg
    rw [hgb, HC.out] at hc0
    have e3 : #[Value.slice a1 n1 p1, rv, Value.bool f.synced] = #[dv0, rv0, Value.bool g.synced] := by injection hc0 with hc0; injection hc0
    have e4 : Value.slice a1 n1 p1 = dv0 := by
      have := congrArg (fun a : Array Value => a[0]?) e3
      simpa using this
    subst e4
    have hk2 := hd0.kept (w' := (w1.setCell ⟨b, 1, none⟩ (.slice a1 n1 p1)).setCell ⟨b, 2, none⟩ (.bool true)) (fun k cur fr hk => K k (ne_of hk HC.out (by decide)))
    refine ⟨_, _, ?_, hk2, hk2⟩
    simp only [hgb]
    rw [h2]
    rfl
  · exact (HB0.out.trans (Fr.set w1 ⟨b, 1, none⟩ (.slice a1 n1 p1) (foot o s) (.inr (.inr (.inr (.inr (.inr ⟨f, hm, hb⟩)))))) (fun _ _ e => e)).trans (Fr.set _ ⟨b, 2, none⟩ (.bool true) (foot o s) (.inr (.inr (.inr (.inr (.inr ⟨f, hm, hb⟩)))))) (fun _ _ e => e)
end Go.Proofs.Ytcobjjaicckgpaa.Vf
