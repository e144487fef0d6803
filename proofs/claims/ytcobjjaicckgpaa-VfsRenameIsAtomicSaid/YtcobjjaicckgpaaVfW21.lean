/- Read and Pending in plain words. -/
import Derived.Test.YtcobjjaicckgpaaVfW20
namespace Go.Proofs.Ytcobjjaicckgpaa.Vf
open Go Go.RowKit Go.Maps Go.Proofs.Ytcobjjaicckgpaa Go.Proofs.Ytcobjjaicckgpaa.Bs
set_option linter.unusedVariables false

def AS.read (k : ByteArray) (a : AS) : List UInt8 × Int :=
  if a.down = true then ([], 24) else match findS a.names k.data.toList with | none => ([], 23) | some i => ((a.files.getD i ⟨[], [], true⟩).data, 0)
def AS.Dl (a : AS) : Prop := ∀ f ∈ a.files, f.data.length ≤ 1000000
theorem Ab.fileD {bl : Nat → Nat} {a : AS} {i : Nat} (h : i < a.files.length) : ∃ f ∈ (conc bl a).files, f.blk = bl i ∧ f.data = (a.files.getD i ⟨[], [], true⟩).data := by
  refine ⟨(a.files.mapIdx (cf bl))[i]'(by simpa using h), List.getElem_mem _, ?_, ?_⟩
  · simp [cf]
  · simp [cf, List.getD_eq_getElem?_getD, List.getElem?_eq_getElem h]
theorem read_is (B : Nat) (o : Loc) (s : St) (a : AS) (k : ByteArray) (W : World) (h : Is W B o s) (ha : Ab a s) (hw : a.Wf) (hl : a.Dl) (hk : k.size ≤ 1000000) :
    Calls Try.prog 14 #[.pointer (some ⟨o.F, 0, none⟩), .string k] W fun e w' => ∃ v, e = .returned (.tuple #[v, .int .i64 (a.read k).2]) ∧ Rd w' v (a.read k).1 ∧ (∀ g, v.ownBlock = some g → W.heap.size ≤ g) ∧ Below W.heap.size W w' := by
  obtain ⟨bl, rfl⟩ := id ha
  unfold AS.read
  cases hd : a.down with
  | true =>
    refine (read_down B o _ k W h hd).mono ?_
    rintro e w' ⟨rfl, rfl⟩
    exact ⟨_, rfl, .inl ⟨rfl, rfl⟩, fun g hg => by simp [Value.ownBlock] at hg, Below.refl _ _⟩
  | false =>
    rw [if_neg (by decide)]
    cases e : findS a.names k.data.toList with
    | none =>
      refine (read_none B o _ k W h hd hk (Ab.find_none e)).mono ?_
      rintro e w' ⟨rfl, rfl⟩
      exact ⟨_, rfl, .inl ⟨rfl, rfl⟩, fun g hg => by simp [Value.ownBlock] at hg, Below.refl _ _⟩
    | some i =>
      obtain ⟨f, hm, hb, hf⟩ := Ab.fileD (bl := bl) (hw.find e)
      have hi := hw.find e
      have hlen : f.data.length ≤ 1000000 := by
        rw [hf, List.getD_eq_getElem?_getD, List.getElem?_eq_getElem hi]
        exact hl _ (List.getElem_mem _)
      refine (read_some B (bl i) o _ k f W h hd hk (Ab.find_some e) hm hb hlen).mono ?_
      rintro e w' ⟨v, rfl, h1, h2, h3⟩
      exact ⟨v, rfl, (show Rd w' v (a.files.getD i ⟨[], [], true⟩).data by rw [← hf]; exact h1), h2, h3⟩
def Flag (v : Value) (b : Bool) : Prop := v = .bool b
/-- The files' pointers, one behind the other. -/
theorem Is.filesAt {w : World} {B : Nat} {o : Loc} {s : St} (h : Is w B o s) : ∃ g ad cap, o.fs = .slice ad s.files.length cap ∧ (0 < s.files.length → ad = some ⟨g, 0, none⟩) ∧ ∀ j (hj : j < s.files.length), w.cell? ⟨g, j, none⟩ = some (fptr s.files[j].blk) := by
  rcases h.files.2 with ⟨e, h0⟩ | ⟨g, cap, cur, e, _, hg, hc, _, _, ht⟩
  · exact ⟨0, none, 0, by rw [e, h0], fun hp => by omega, fun j hj => by omega⟩
  · refine ⟨g, _, cap, e, fun _ => rfl, fun j hj => ?_⟩
    unfold World.cell?
    simp only [hg]
    have := congrArg (fun l : List Value => l[j]?) ht
    simp only [Nat.mul_one, List.getElem?_take, if_pos hj, List.getElem?_map, List.getElem?_eq_getElem hj, Option.map_some] at this
    simpa using this
def dirty (fs : List Fl) : Nat := (fs.filter fun f => !f.synced).length
theorem dirty_step (fs : List Fl) (k : Nat) (hk : k < fs.length) : dirty (fs.take (k + 1)) = dirty (fs.take k) + if fs[k].synced = true then 0 else 1 := by
  unfold dirty
  rw [List.take_add_one, List.filter_append, List.length_append, List.getElem?_eq_getElem hk]
  simp only [Option.toList_some, List.filter_cons, List.filter_nil]
  cases fs[k].synced <;> rfl
theorem dirty_le (fs : List Fl) : dirty fs ≤ fs.length := List.length_filter_le _ _
set_option maxRecDepth 100000 in
set_option maxHeartbeats 4000000 in
theorem pending_walk (B : Nat) (o : Loc) (s : St) (W : World) (h : Is W B o s) (hf : s.files.length ≤ 1000000) (hp : s.pend.length ≤ 1000000) :
    Calls Try.prog 27 #[.pointer (some ⟨o.F, 0, none⟩)] W fun e w' => e = .returned (.tuple #[.int .i64 s.pend.length, .int .i64 (dirty s.files)]) ∧ w' = W := by
  obtain ⟨-, c2, -⟩ := fs_flags h.fs
  obtain ⟨c3, -⟩ := fs_at3 h.fs
  obtain ⟨g, ad, cap, e1, had, hcl⟩ := h.filesAt
  obtain ⟨ap, cp, e2⟩ : ∃ ap cp, o.ps = .slice ap s.pend.length cp := by
    rcases h.pend.2 with ⟨e, h0⟩ | ⟨g, cap, cur, e, _⟩
    · exact ⟨none, 0, by rw [e, h0]⟩
    · exact ⟨_, _, e⟩
  rw [e1] at c2
  rw [e2] at c3
  have HC : Hid (∀ j (hj : j < s.files.length), W.cell? ⟨g, j, none⟩ = some (fptr s.files[j].blk) ∧ W.cell? ⟨s.files[j].blk, 2, none⟩ = some (.bool s.files[j].synced)) := fun j hj => by
    obtain ⟨dv, rv, hc, _⟩ := h.each s.files[j] (List.getElem_mem hj)
    exact ⟨hcl j hj, (file_cells hc).2.2.1⟩
  obtain ⟨n, hn⟩ : ∃ n, s.files.length = n := ⟨_, rfl⟩
  obtain ⟨m, hm⟩ : ∃ m, s.pend.length = m := ⟨_, rfl⟩
  rw [hn] at c2 had hf
  rw [hm] at c3 hp ⊢
  have HA := Lib.hid had
  have HN := Lib.hid hn
  have HD0 : Hid (∀ k, dirty (s.files.take k) ≤ k) := fun k => Nat.le_trans (dirty_le _) (by rw [List.length_take]; omega)
  clear h e1 e2 hcl had hn hm
  go_enter Try.func27, Try.ntmps27
  go_wp2_with fail
  go_loop [4, 14] (fun c i => ∃ k d : Nat, k ≤ n ∧ d ≤ k ∧ i = .int .i64 k ∧ c = .int .i64 d ∧ Hid (dirty (s.files.take k) = d)) (fun _ i => n - (intOf i).toNat)
  case atStart => exact ⟨0, 0, Nat.zero_le _, Nat.le_refl _, rfl, rfl, rfl⟩
  case round =>
    obtain ⟨k, d, hk, hd, rfl, rfl, HD⟩ := hrel
    by_cases hlt : k < n
    · obtain rfl := HA.out (by omega)
      have hlt2 : k < s.files.length := by rw [HN.out]; exact hlt
      obtain ⟨q1, q2⟩ := HC.out k hlt2
      have HS := Lib.hid (dirty_step s.files k hlt2)
      generalize s.files[k].blk = b at q1 q2
      cases hs : s.files[k].synced with
      | true =>
        rw [hs] at q2
        have HS2 : Hid (dirty (s.files.take (k + 1)) = d) := by rw [HS.out, hs, HD.out]; rfl
        clear hs HS hlt2
        simp only [fptr] at q1
        go_wp2_with fail
        go_round
        case rel => exact ⟨k + 1, d, by omega, by omega, by go_num, rfl, HS2⟩
        case measure => simp [intOf]; omega
      | false =>
        rw [hs] at q2
        have HS2 : Hid (dirty (s.files.take (k + 1)) = d + 1) := by rw [HS.out, hs, HD.out]; rfl
        clear hs HS hlt2
        simp only [fptr] at q1
        go_wp2_with fail
        go_round
        case rel => exact ⟨k + 1, d + 1, by omega, by omega, by go_num, by go_num, HS2⟩
        case measure => simp [intOf]; omega
    · go_wp2_with fail
      go_ret2
      have hkn : k = n := by omega
      have := HD.out
      rw [hkn, ← HN.out, List.take_length] at this
      exact ⟨by rw [this]; rfl, rfl⟩
end Go.Proofs.Ytcobjjaicckgpaa.Vf
