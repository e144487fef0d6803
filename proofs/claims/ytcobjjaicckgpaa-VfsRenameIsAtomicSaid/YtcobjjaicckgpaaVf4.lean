/- What each operation keeps. -/
import Derived.Test.YtcobjjaicckgpaaVfW31
namespace Go.Proofs.Ytcobjjaicckgpaa.Vf
open Go Go.RowKit Go.Maps Go.Proofs.Ytcobjjaicckgpaa Go.Proofs.Ytcobjjaicckgpaa.Bs
set_option linter.unusedVariables false

theorem So.apply {m : Nm} (h : So m) (f t : ByteArray) (i : Nat) : So (applyS m f t i) := by
  unfold applyS
  simp only
  split <;> split
  · exact h
  · exact h.del _
  · exact h.put _ _
  · exact (h.del _).put _ _
theorem mem_put {m : Nm} {k : List UInt8} {i : Nat} {p : List UInt8 × Nat} (h : p ∈ putS m k i) : p = (k, i) ∨ p ∈ m := by
  unfold putS at h
  rcases (mem_ins _ _ _).1 h with h | h
  · exact .inl h
  · exact .inr (List.mem_filter.1 h).1
theorem mem_apply {m : Nm} {f t : ByteArray} {i : Nat} {p : List UInt8 × Nat} (h : p ∈ applyS m f t i) : p ∈ m ∨ (t.toList.isEmpty = false ∧ p.2 = i) := by
  unfold applyS at h
  simp only at h
  cases ht : t.toList.isEmpty with
  | true =>
    rw [ht] at h
    simp only [if_true] at h
    split at h
    · exact .inl h
    · exact .inl (List.mem_filter.1 h).1
  | false =>
    rw [ht] at h
    simp only [Bool.false_eq_true, if_false] at h
    rcases mem_put h with h | h
    · exact .inr ⟨rfl, by rw [h]⟩
    · split at h
      · exact .inl h
      · exact .inl (List.mem_filter.1 h).1
section
variable {a : AS} {n : Nat}
theorem AS.Ok.record (h : a.Ok n) (c : AC) (h1 : c.src.size ≤ 1000000) (h2 : c.dst.size ≤ 1000000) (h3 : c.dst.toList.isEmpty = false → c.file < a.files.length) : (a.record c).Ok (n + 1) where
  wf :=
    { names := fun p hp => by
        rcases mem_apply hp with hp | ⟨h4, h5⟩
        · exact h.wf.names p hp
        · rw [h5]; exact h3 h4
      dur := h.wf.dur
      pend := fun d hd h4 => by
        rcases List.mem_append.1 hd with hd | hd
        · exact h.wf.pend d hd h4
        · obtain rfl := List.mem_singleton.1 hd
          exact h3 h4 }
  sn := h.sn.apply _ _ _
  sd := h.sd
  af := h.af
  files := Nat.le_succ_of_le h.files
  names := by have := apply_len a.names c.src c.dst c.file; have := h.names; show (applyS _ _ _ _).length ≤ _; omega
  dp := by show a.dur.length + (a.pend ++ [c]).length ≤ _; have := h.dp; simp; omega
  strs := fun d hd => by
    rcases List.mem_append.1 hd with hd | hd
    · exact h.strs d hd
    · obtain rfl := List.mem_singleton.1 hd
      exact ⟨h1, h2⟩
  data := h.data
theorem mem_modify {l : List AF} {i : Nat} {g : AF → AF} {f : AF} (h : f ∈ l.modify i g) : ∃ f0 ∈ l, f = f0 ∨ f = g f0 := by
  obtain ⟨j, hj, e⟩ := List.getElem_of_mem h
  rw [List.length_modify] at hj
  rw [List.getElem_modify] at e
  refine ⟨l[j], List.getElem_mem hj, ?_⟩
  split at e
  · exact .inr e.symm
  · exact .inl e.symm
theorem AS.Ok.modify (h : a.Ok n) (i : Nat) (g : AF → AF) (hg : ∀ f, f.data.length ≤ 1000000 ∧ f.dur.length ≤ 1000000 → (g f).data.length ≤ 1000000 ∧ (g f).dur.length ≤ 1000000) : AS.Ok { a with files := a.files.modify i g } n where
  wf := ⟨fun p hp => by rw [List.length_modify]; exact h.wf.names p hp, fun p hp => by rw [List.length_modify]; exact h.wf.dur p hp, fun c hc e => by rw [List.length_modify]; exact h.wf.pend c hc e⟩
  sn := h.sn
  sd := h.sd
  af := h.af
  files := by rw [List.length_modify]; exact h.files
  names := h.names
  dp := h.dp
  strs := h.strs
  data := fun f hf => by
    obtain ⟨f0, h0, rfl | rfl⟩ := mem_modify hf
    · exact h.data _ h0
    · exact hg _ (h.data _ h0)
theorem AS.Ok.put (h : a.Ok n) (k : ByteArray) (l : List UInt8) (hk : k.size ≤ 1000000) (hl : l.length ≤ 1000000) : (AS.put k l a).2.Ok (n + 1) := by
  unfold AS.put
  split
  · exact h.mono (Nat.le_succ n)
  · split
    · exact (h.modify _ (fun f => { f with data := l, synced := false }) (fun f hf => ⟨hl, hf.2⟩)).mono (Nat.le_succ n)
    · have h1 : AS.Ok { a with files := a.files ++ [⟨l, [], false⟩] } (n + 1) :=
        { wf := ⟨fun p hp => by have := h.wf.names p hp; simp; omega, fun p hp => by have := h.wf.dur p hp; simp; omega, fun c hc e => by have := h.wf.pend c hc e; simp; omega⟩
          sn := h.sn
          sd := h.sd
          af := h.af
          files := by have := h.files; simp; omega
          names := Nat.le_succ_of_le h.names
          dp := Nat.le_succ_of_le h.dp
          strs := h.strs
          data := fun f hf => by
            rcases List.mem_append.1 hf with hf | hf
            · exact h.data f hf
            · obtain rfl := List.mem_singleton.1 hf
              exact ⟨hl, Nat.zero_le _⟩ }
      have h2 := AS.Ok.record (a := { a with names := a.names, files := a.files ++ [⟨l, [], false⟩] }) (n := n + 1) h1 ⟨⟨#[]⟩, k, a.files.length⟩ (show (⟨#[]⟩ : ByteArray).size ≤ 1000000 by decide) hk (fun _ => by show a.files.length < _; simp)
      exact
        { wf := h2.wf
          sn := h2.sn
          sd := h2.sd
          af := h2.af
          files := h1.files
          names := by have h3 := apply_len a.names ⟨#[]⟩ k a.files.length; have h4 := h.names; show (applyS a.names ⟨#[]⟩ k a.files.length).length ≤ _; omega
          dp := by show a.dur.length + (a.pend ++ [_]).length ≤ _; have := h.dp; simp; omega
          strs := h2.strs
          data := h2.data }
theorem AS.Ok.sync (h : a.Ok n) (k : ByteArray) : (AS.sync k a).2.Ok (n + 1) := by
  unfold AS.sync
  split
  · exact h.mono (Nat.le_succ n)
  · exact (h.modify _ (fun f => { f with dur := f.data, synced := true }) (fun f hf => ⟨hf.1, hf.1⟩)).mono (Nat.le_succ n)
theorem AS.Ok.rename (h : a.Ok n) (k t : ByteArray) (hk : k.size ≤ 1000000) (ht : t.size ≤ 1000000) : (AS.rename k t a).2.Ok (n + 1) := by
  unfold AS.rename
  split
  · exact h.mono (Nat.le_succ n)
  · rename_i i e
    split
    · exact h.mono (Nat.le_succ n)
    · split
      · exact h.mono (Nat.le_succ n)
      · exact h.record _ hk ht (fun _ => h.wf.find e)
theorem AS.Ok.remove (h : a.Ok n) (k : ByteArray) (hk : k.size ≤ 1000000) : (AS.remove k a).2.Ok (n + 1) := by
  unfold AS.remove
  split
  · exact h.mono (Nat.le_succ n)
  · exact h.record _ hk (show (⟨#[]⟩ : ByteArray).size ≤ 1000000 by decide) (fun e => absurd e (by rw [empty_is]; decide))
theorem AS.Ok.syncdir (h : a.Ok n) : (AS.syncdir a).2.Ok (n + 1) where
  wf := ⟨h.wf.names, h.wf.names, fun c hc => by cases hc⟩
  sn := h.sn
  sd := h.sn
  af := h.af
  files := Nat.le_succ_of_le h.files
  names := Nat.le_succ_of_le h.names
  dp := Nat.le_succ_of_le h.names
  strs := fun c hc => by cases hc
  data := h.data
theorem AS.Ok.flags (h : a.Ok n) (d r : Bool) (x e : Int) (h0 : 0 ≤ x) (h1 : x ≤ 9223372036854775807) : AS.Ok { a with down := d, armed := r, after := x, err := e } n := ⟨⟨h.wf.names, h.wf.dur, h.wf.pend⟩, h.sn, h.sd, ⟨h0, h1⟩, h.files, h.names, h.dp, h.strs, h.data⟩
theorem AS.Ok.arm (h : a.Ok n) (m e : Int) (hm : m ≤ 9223372036854775807) : (AS.arm m e a).2.Ok n := by
  unfold AS.arm
  split
  · exact h
  · rename_i hc
    split
    · exact h
    · have h0 : 0 ≤ m := by
        rcases Int.lt_or_le m 0 with h1 | h1
        · exact absurd (.inl h1) hc
        · exact h1
      have := h.flags a.down true m e h0 hm
      exact this
theorem AS.Ok.op (h : a.Ok n) (p : AS → Int × AS) (q : AS → AS) (hp : ∀ b : AS, b.Ok n → (p b).2.Ok (n + 1)) (hq : ∀ b : AS, b.Ok n → (q b).Ok (n + 1)) : (AS.op p q a).2.Ok (n + 1) := by
  unfold AS.op
  split
  · exact h.mono (Nat.le_succ n)
  · split
    · exact hp a h
    · split
      · rename_i hz
        exact hp _ (h.flags a.down a.armed (a.after - 1) a.err (by omega) (by have := h.af.2; omega))
      · have h1 : AS.Ok { a with armed := false } n := h.flags a.down false a.after a.err h.af.1 h.af.2
        have h2 := hq _ h1
        exact h2.flags _ _ _ _ h2.af.1 h2.af.2
theorem ok_id {b : AS} (h : b.Ok n) : (id b).Ok (n + 1) := h.mono (Nat.le_succ n)
theorem AS.Ok.tear (h : a.Ok n) (k : ByteArray) (l : List UInt8) (hk : k.size ≤ 1000000) (hl : l.length ≤ 1000000) : (AS.tear k l a).Ok (n + 1) := h.put k _ hk (by rw [List.length_take]; omega)
theorem AS.Ok.write (h : a.Ok n) (k : ByteArray) (l : List UInt8) (hk : k.size ≤ 1000000) (hl : l.length ≤ 1000000) : (AS.op (AS.put k l) (AS.tear k l) a).2.Ok (n + 1) := h.op _ _ (fun b hb => hb.put k l hk hl) (fun b hb => hb.tear k l hk hl)
theorem AS.Ok.opsync (h : a.Ok n) (k : ByteArray) : (AS.op (AS.sync k) id a).2.Ok (n + 1) := h.op _ _ (fun b hb => hb.sync k) (fun b hb => ok_id hb)
theorem AS.Ok.oprename (h : a.Ok n) (k t : ByteArray) (hk : k.size ≤ 1000000) (ht : t.size ≤ 1000000) : (AS.op (AS.rename k t) id a).2.Ok (n + 1) := h.op _ _ (fun b hb => hb.rename k t hk ht) (fun b hb => ok_id hb)
theorem AS.Ok.opremove (h : a.Ok n) (k : ByteArray) (hk : k.size ≤ 1000000) : (AS.op (AS.remove k) id a).2.Ok (n + 1) := h.op _ _ (fun b hb => hb.remove k hk) (fun b hb => ok_id hb)
theorem AS.Ok.opsyncdir (h : a.Ok n) : (AS.op AS.syncdir id a).2.Ok (n + 1) := h.op _ _ (fun b hb => hb.syncdir) (fun b hb => ok_id hb)
theorem So.durK (h : a.Ok n) (ch : List Bool) : ∀ k, So (a.durK ch k) ∧ ∀ p ∈ a.durK ch k, p.2 < a.files.length
  | 0 => ⟨h.sd, h.wf.dur⟩
  | k + 1 => by
    obtain ⟨h1, h2⟩ := So.durK h ch k
    unfold AS.durK
    split
    · exact ⟨h1, h2⟩
    · rename_i c hc
      split
      · refine ⟨h1.apply _ _ _, fun p hp => ?_⟩
        rcases mem_apply hp with hp | ⟨h4, h5⟩
        · exact h2 p hp
        · rw [h5]; exact h.wf.pend c (List.mem_of_getElem? hc) h4
      · exact ⟨h1, h2⟩
theorem crashF_len (m : Int) (f : AF) (h : f.data.length ≤ 1000000 ∧ f.dur.length ≤ 1000000) : (crashF m f).data.length ≤ 1000000 ∧ (crashF m f).dur.length ≤ 1000000 := by
  unfold crashF
  split
  · exact h
  · simp only
    split
    · exact ⟨h.2, h.2⟩
    · split
      · have : (f.data.take m.toNat).length ≤ f.data.length := by rw [List.length_take]; omega
        exact ⟨by omega, by omega⟩
      · exact ⟨h.1, h.1⟩
theorem filesK_data (h : a.Ok n) (ls : List Int) : ∀ k, ∀ f ∈ a.filesK ls k, f.data.length ≤ 1000000 ∧ f.dur.length ≤ 1000000
  | 0 => h.data
  | k + 1 => fun f hf => by
    unfold AS.filesK at hf
    obtain ⟨f0, h0, rfl | rfl⟩ := mem_modify hf
    · exact filesK_data h ls k _ h0
    · exact crashF_len _ _ (filesK_data h ls k _ h0)
theorem AS.Ok.crash (h : a.Ok n) (ch : List Bool) (ls : List Int) : (a.crash ch ls).Ok n := by
  obtain ⟨h1, h2⟩ := So.durK h ch a.pend.length
  have h3 := a.durK_len ch a.pend.length
  have h4 := h.dp
  exact
    { wf := ⟨fun p hp => by show _ < (a.filesK ls _).length; rw [a.filesK_len]; exact h2 p hp, fun p hp => by show _ < (a.filesK ls _).length; rw [a.filesK_len]; exact h2 p hp, fun c hc => by cases hc⟩
      sn := h1
      sd := h1
      af := h.af
      files := by show (a.filesK ls _).length ≤ _; rw [a.filesK_len]; exact h.files
      names := by show (a.durK ch _).length ≤ _; omega
      dp := by show (a.durK ch a.pend.length).length + 0 ≤ _; omega
      strs := fun c hc => by cases hc
      data := filesK_data h ls _ }
end
end Go.Proofs.Ytcobjjaicckgpaa.Vf
