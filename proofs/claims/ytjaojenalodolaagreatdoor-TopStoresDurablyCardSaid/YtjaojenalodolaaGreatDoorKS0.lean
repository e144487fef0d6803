/- Parts of this proof, joined: Vf4, TpL, StP. -/
import Derived.Test.YtjaojenalodolaaGreatDoorKV
/- What each operation keeps. -/
namespace Go.Proofs.YtjaojenalodolaaGreatDoor.Vf
open Go Go.RowKit Go.Maps Go.Proofs.YtjaojenalodolaaGreatDoor Go.Proofs.YtjaojenalodolaaGreatDoor.Bs
set_option linter.unusedVariables false
theorem So.apply {m : Nm} (h : So m) (f t : ByteArray) (i : Nat) : So (applyS m f t i) := by
  unfold applyS
  simp only
  split <;> split
  · exact h
  · exact h.del _
  · exact h.put _ _
  · exact (h.del _).put _ _
theorem mem_put {m : Nm} {k : List UInt8} {i : Nat} {p : List UInt8 × Nat} (h : p ∈ putS m k i) : p = (k, i) ∨ p ∈ m := by
  unfold putS at h
  rcases (mem_ins _ _ _).1 h with h | h
  · exact .inl h
  · exact .inr (List.mem_filter.1 h).1
theorem mem_apply {m : Nm} {f t : ByteArray} {i : Nat} {p : List UInt8 × Nat} (h : p ∈ applyS m f t i) : p ∈ m ∨ (t.toList.isEmpty = false ∧ p.2 = i) := by
  unfold applyS at h
  simp only at h
  cases ht : t.toList.isEmpty with
  | true =>
    rw [ht] at h
    simp only [if_true] at h
    split at h
    · exact .inl h
    · exact .inl (List.mem_filter.1 h).1
  | false =>
    rw [ht] at h
    simp only [Bool.false_eq_true, if_false] at h
    rcases mem_put h with h | h
    · exact .inr ⟨rfl, by rw [h]⟩
    · split at h
      · exact .inl h
      · exact .inl (List.mem_filter.1 h).1
section
variable {a : AS} {n : Nat}
theorem AS.Ok.record (h : a.Ok n) (c : AC) (h1 : c.src.size ≤ 1000000) (h2 : c.dst.size ≤ 1000000) (h3 : c.dst.toList.isEmpty = false → c.file < a.files.length) : (a.record c).Ok (n + 1) where
  wf :=
    { names := fun p hp => by
        rcases mem_apply hp with hp | ⟨h4, h5⟩
        · exact h.wf.names p hp
        · rw [h5]; exact h3 h4
      dur := h.wf.dur
      pend := fun d hd h4 => by
        rcases List.mem_append.1 hd with hd | hd
        · exact h.wf.pend d hd h4
        · obtain rfl := List.mem_singleton.1 hd
          exact h3 h4 }
  sn := h.sn.apply _ _ _
  sd := h.sd
  af := h.af
  files := Nat.le_succ_of_le h.files
  names := by have := apply_len a.names c.src c.dst c.file; have := h.names; show (applyS _ _ _ _).length ≤ _; omega
  dp := by show a.dur.length + (a.pend ++ [c]).length ≤ _; have := h.dp; simp; omega
  strs := fun d hd => by
    rcases List.mem_append.1 hd with hd | hd
    · exact h.strs d hd
    · obtain rfl := List.mem_singleton.1 hd
      exact ⟨h1, h2⟩
  data := h.data
theorem mem_modify {l : List AF} {i : Nat} {g : AF → AF} {f : AF} (h : f ∈ l.modify i g) : ∃ f0 ∈ l, f = f0 ∨ f = g f0 := by
  obtain ⟨j, hj, e⟩ := List.getElem_of_mem h
  rw [List.length_modify] at hj
  rw [List.getElem_modify] at e
  refine ⟨l[j], List.getElem_mem hj, ?_⟩
  split at e
  · exact .inr e.symm
  · exact .inl e.symm
theorem AS.Ok.modify (h : a.Ok n) (i : Nat) (g : AF → AF) (hg : ∀ f, f.data.length ≤ 1000000 ∧ f.dur.length ≤ 1000000 → (g f).data.length ≤ 1000000 ∧ (g f).dur.length ≤ 1000000) : AS.Ok { a with files := a.files.modify i g } n where
  wf := ⟨fun p hp => by rw [List.length_modify]; exact h.wf.names p hp, fun p hp => by rw [List.length_modify]; exact h.wf.dur p hp, fun c hc e => by rw [List.length_modify]; exact h.wf.pend c hc e⟩
  sn := h.sn
  sd := h.sd
  af := h.af
  files := by rw [List.length_modify]; exact h.files
  names := h.names
  dp := h.dp
  strs := h.strs
  data := fun f hf => by
    obtain ⟨f0, h0, rfl | rfl⟩ := mem_modify hf
    · exact h.data _ h0
    · exact hg _ (h.data _ h0)
theorem AS.Ok.put (h : a.Ok n) (k : ByteArray) (l : List UInt8) (hk : k.size ≤ 1000000) (hl : l.length ≤ 1000000) : (AS.put k l a).2.Ok (n + 1) := by
  unfold AS.put
  split
  · exact h.mono (Nat.le_succ n)
  · split
    · exact (h.modify _ (fun f => { f with data := l, synced := false }) (fun f hf => ⟨hl, hf.2⟩)).mono (Nat.le_succ n)
    · have h1 : AS.Ok { a with files := a.files ++ [⟨l, [], false⟩] } (n + 1) :=
        { wf := ⟨fun p hp => by have := h.wf.names p hp; simp; omega, fun p hp => by have := h.wf.dur p hp; simp; omega, fun c hc e => by have := h.wf.pend c hc e; simp; omega⟩
          sn := h.sn
          sd := h.sd
          af := h.af
          files := by have := h.files; simp; omega
          names := Nat.le_succ_of_le h.names
          dp := Nat.le_succ_of_le h.dp
          strs := h.strs
          data := fun f hf => by
            rcases List.mem_append.1 hf with hf | hf
            · exact h.data f hf
            · obtain rfl := List.mem_singleton.1 hf
              exact ⟨hl, Nat.zero_le _⟩ }
      have h2 := AS.Ok.record (a := { a with names := a.names, files := a.files ++ [⟨l, [], false⟩] }) (n := n + 1) h1 ⟨⟨#[]⟩, k, a.files.length⟩ (show (⟨#[]⟩ : ByteArray).size ≤ 1000000 by decide) hk (fun _ => by show a.files.length < _; simp)
      exact
        { wf := h2.wf
          sn := h2.sn
          sd := h2.sd
          af := h2.af
          files := h1.files
          names := by have h3 := apply_len a.names ⟨#[]⟩ k a.files.length; have h4 := h.names; show (applyS a.names ⟨#[]⟩ k a.files.length).length ≤ _; omega
          dp := by show a.dur.length + (a.pend ++ [_]).length ≤ _; have := h.dp; simp; omega
          strs := h2.strs
          data := h2.data }
theorem AS.Ok.sync (h : a.Ok n) (k : ByteArray) : (AS.sync k a).2.Ok (n + 1) := by
  unfold AS.sync
  split
  · exact h.mono (Nat.le_succ n)
  · exact (h.modify _ (fun f => { f with dur := f.data, synced := true }) (fun f hf => ⟨hf.1, hf.1⟩)).mono (Nat.le_succ n)
theorem AS.Ok.rename (h : a.Ok n) (k t : ByteArray) (hk : k.size ≤ 1000000) (ht : t.size ≤ 1000000) : (AS.rename k t a).2.Ok (n + 1) := by
  unfold AS.rename
  split
  · exact h.mono (Nat.le_succ n)
  · rename_i i e
    split
    · exact h.mono (Nat.le_succ n)
    · split
      · exact h.mono (Nat.le_succ n)
      · exact h.record _ hk ht (fun _ => h.wf.find e)
theorem AS.Ok.flags (h : a.Ok n) (d r : Bool) (x e : Int) (h0 : 0 ≤ x) (h1 : x ≤ 9223372036854775807) : AS.Ok { a with down := d, armed := r, after := x, err := e } n := ⟨⟨h.wf.names, h.wf.dur, h.wf.pend⟩, h.sn, h.sd, ⟨h0, h1⟩, h.files, h.names, h.dp, h.strs, h.data⟩
theorem AS.Ok.op (h : a.Ok n) (p : AS → Int × AS) (q : AS → AS) (hp : ∀ b : AS, b.Ok n → (p b).2.Ok (n + 1)) (hq : ∀ b : AS, b.Ok n → (q b).Ok (n + 1)) : (AS.op p q a).2.Ok (n + 1) := by
  unfold AS.op
  split
  · exact h.mono (Nat.le_succ n)
  · split
    · exact hp a h
    · split
      · rename_i hz
        exact hp _ (h.flags a.down a.armed (a.after - 1) a.err (by omega) (by have := h.af.2; omega))
      · have h1 : AS.Ok { a with armed := false } n := h.flags a.down false a.after a.err h.af.1 h.af.2
        have h2 := hq _ h1
        exact h2.flags _ _ _ _ h2.af.1 h2.af.2
theorem ok_id {b : AS} (h : b.Ok n) : (id b).Ok (n + 1) := h.mono (Nat.le_succ n)
theorem AS.Ok.opsync (h : a.Ok n) (k : ByteArray) : (AS.op (AS.sync k) id a).2.Ok (n + 1) := h.op _ _ (fun b hb => hb.sync k) (fun b hb => ok_id hb)
theorem AS.Ok.oprename (h : a.Ok n) (k t : ByteArray) (hk : k.size ≤ 1000000) (ht : t.size ≤ 1000000) : (AS.op (AS.rename k t) id a).2.Ok (n + 1) := h.op _ _ (fun b hb => hb.rename k t hk ht) (fun b hb => ok_id hb)
end
end Go.Proofs.YtjaojenalodolaaGreatDoor.Vf
/- What replacing a file and recovering do to a file system, in plain words. -/
namespace Go.Proofs.YtjaojenalodolaaGreatDoor.Vf
open Go Go.RowKit Go.Maps Go.Proofs.YtjaojenalodolaaGreatDoor Go.Proofs.YtjaojenalodolaaGreatDoor.Bs
set_option linter.unusedVariables false
structure Qs (a : AS) (n : Nat) : Prop where
  ok : a.Ok n
  dn : a.down = false
  ar : a.armed = false
  pe : a.pend = []
  du : a.dur = a.names
  sy : ∀ f ∈ a.files, f.synced = true ∧ f.dur = f.data
theorem Qs.new : Qs AS.new 0 := ⟨AS.Ok.new, rfl, rfl, rfl, rfl, fun f h => absurd h (by simp [AS.new])⟩
def cont (a : AS) (k : List UInt8) : Option (List UInt8) := (findS a.names k).map fun i => (a.files.getD i ⟨[], [], true⟩).data
theorem op_rest {a : AS} (hd : a.down = false) (ha : a.armed = false) (p : AS → Int × AS) (q : AS → AS) : AS.op p q a = p a := by
  unfold AS.op
  rw [if_neg (by rw [hd]; decide), if_pos ha]
theorem delS_put {m : Nm} (hs : So m) {k : List UInt8} {i : Nat} (h : findS m k = none) : delS (putS m k i) k = m := by
  refine So.ext ((hs.put k i).del k) hs fun k' => ?_
  rw [find_del, find_put]
  by_cases e : k = k'
  · rw [if_pos e, ← e, h]
  · rw [if_neg e, if_neg e]
def AS.wrote (t : ByteArray) (d : List UInt8) (a : AS) : AS := { a with files := a.files ++ [⟨d, [], false⟩], names := putS a.names t.data.toList a.files.length, pend := [⟨⟨#[]⟩, t, a.files.length⟩] }
def AS.wrote2 (t : ByteArray) (d : List UInt8) (a : AS) : AS := { AS.wrote t d a with files := a.files ++ [⟨d, d, true⟩] }
def AS.wrote3 (t x : ByteArray) (d : List UInt8) (a : AS) : AS := { AS.wrote2 t d a with names := putS a.names x.data.toList a.files.length, pend := [⟨⟨#[]⟩, t, a.files.length⟩, ⟨t, x, a.files.length⟩] }
def AS.swapped (x : ByteArray) (d : List UInt8) (a : AS) : AS := { a with files := a.files ++ [⟨d, d, true⟩], names := putS a.names x.data.toList a.files.length, dur := putS a.names x.data.toList a.files.length, pend := [] }
section
variable {a : AS} {n : Nat} {t x : ByteArray} {d : List UInt8}
theorem apply_new (m : Nm) (t : ByteArray) (i : Nat) (h : t.toList.isEmpty = false) : applyS m ⟨#[]⟩ t i = putS m t.data.toList i := by
  unfold applyS
  simp only [empty_is, h, Bool.false_eq_true, if_false, if_true]
theorem apply_move (m : Nm) (t x : ByteArray) (i : Nat) (h : t.toList.isEmpty = false) (hx : x.toList.isEmpty = false) : applyS m t x i = putS (delS m t.data.toList) x.data.toList i := by
  unfold applyS
  simp only [h, hx, Bool.false_eq_true, if_false]
theorem swap_put (h : Qs a n) (ht : t.toList.isEmpty = false) (hn : findS a.names t.data.toList = none) : AS.put t d a = (0, a.wrote t d) := by
  unfold AS.put
  rw [ht, hn]
  simp only [Bool.false_eq_true, if_false]
  unfold AS.record AS.wrote
  simp only [apply_new _ _ _ ht, h.pe, List.nil_append]
theorem modify_last {α : Type} (l : List α) (y : α) (g : α → α) : (l ++ [y]).modify l.length g = l ++ [g y] := by
  apply List.ext_getElem
  · simp
  intro j h1 h2
  rw [List.getElem_modify]
  by_cases e : l.length = j
  · subst e; simp
  · rw [if_neg e]
    have hj : j < l.length := by simp at h2; omega
    rw [List.getElem_append_left hj, List.getElem_append_left hj]
theorem swap_sync (h : Qs a n) : AS.sync t (a.wrote t d) = (0, a.wrote2 t d) := by
  unfold AS.sync
  have e : findS (a.wrote t d).names t.data.toList = some a.files.length := by
    show findS (putS a.names t.data.toList a.files.length) t.data.toList = _
    rw [find_put, if_pos rfl]
  rw [e]
  show (0, ({ a.wrote t d with files := (a.files ++ [(⟨d, [], false⟩ : AF)]).modify a.files.length _ } : AS)) = _
  rw [modify_last]
  rfl
theorem swap_rename (h : Qs a n) (ht : t.toList.isEmpty = false) (hx : x.toList.isEmpty = false) (htx : (t.toList == x.toList) = false) (hn : findS a.names t.data.toList = none) : AS.rename t x (a.wrote2 t d) = (0, a.wrote3 t x d) := by
  unfold AS.rename
  have e : findS (a.wrote2 t d).names t.data.toList = some a.files.length := by
    show findS (putS a.names t.data.toList a.files.length) t.data.toList = _
    rw [find_put, if_pos rfl]
  rw [e]
  simp only [hx, htx, Bool.false_eq_true, if_false]
  have e2 : applyS (a.wrote2 t d).names t x a.files.length = putS a.names x.data.toList a.files.length := by
    show applyS (putS a.names t.data.toList a.files.length) t x a.files.length = _
    rw [apply_move _ _ _ _ ht hx, delS_put h.ok.sn hn]
  unfold AS.record
  simp only [e2]
  rfl
theorem swap_dir : AS.syncdir (a.wrote3 t x d) = (0, a.swapped x d) := rfl
theorem Qs.swapped (h : Qs a n) (hx : x.size ≤ 1000000) (hd : d.length ≤ 1000000) : Qs (a.swapped x d) (n + 1) where
  ok :=
    { wf := ⟨fun p hp => by rcases mem_put hp with rfl | hp; simp [AS.swapped]; have := h.ok.wf.names p hp; simp [AS.swapped]; omega, fun p hp => by rcases mem_put hp with rfl | hp; simp [AS.swapped]; have := h.ok.wf.names p hp; simp [AS.swapped]; omega, fun c hc => by cases hc⟩
      sn := h.ok.sn.put _ _
      sd := h.ok.sn.put _ _
      af := h.ok.af
      files := by show (a.files ++ _).length ≤ _; have := h.ok.files; simp; omega
      names := by
        have h1 := apply_len a.names ⟨#[]⟩ x a.files.length
        have h2 := h.ok.names
        show (putS a.names x.data.toList a.files.length).length ≤ _
        have h3 : (putS a.names x.data.toList a.files.length).length ≤ a.names.length + 1 := by
          unfold putS
          rw [ins_len]
          have : (delS a.names x.data.toList).length ≤ a.names.length := List.length_filter_le _ _
          omega
        omega
      dp := by
        have h2 := h.ok.names
        show (putS a.names x.data.toList a.files.length).length + 0 ≤ _
        have h3 : (putS a.names x.data.toList a.files.length).length ≤ a.names.length + 1 := by
          unfold putS
          rw [ins_len]
          have : (delS a.names x.data.toList).length ≤ a.names.length := List.length_filter_le _ _
          omega
        omega
      strs := fun c hc => by cases hc
      data := fun f hf => by
        rcases List.mem_append.1 hf with hf | hf
        · exact h.ok.data f hf
        · obtain rfl := List.mem_singleton.1 hf
          exact ⟨hd, hd⟩ }
  dn := h.dn
  ar := h.ar
  pe := rfl
  du := rfl
  sy := fun f hf => by
    rcases List.mem_append.1 hf with hf | hf
    · exact h.sy f hf
    · obtain rfl := List.mem_singleton.1 hf
      exact ⟨rfl, rfl⟩
theorem crash_rest (h : Qs a n) (ch : List Bool) (ls : List Int) : a.crash ch ls = a := by
  have h1 : ∀ k, a.filesK ls k = a.files := by
    intro k
    induction k with
    | zero => rfl
    | succ k ih =>
      show (a.filesK ls k).modify k _ = _
      rw [ih]
      apply List.ext_getElem
      · simp
      intro j g1 g2
      rw [List.getElem_modify]
      split
      · unfold crashF
        rw [if_pos (h.sy _ (List.getElem_mem _)).1]
      · rfl
  have h2 : a.durK ch a.pend.length = a.names := by rw [h.pe]; exact h.du
  unfold AS.crash
  simp only [h1, h2]
  obtain ⟨files, names, dur, pend, down, armed, after, err⟩ := a
  have e1 := h.dn
  have e2 := h.ar
  have e3 := h.pe
  have e4 := h.du
  simp only at e1 e2 e3 e4
  rw [e1, e2, e3, e4]
end
structure Rc (tmp : List UInt8 → Bool) (a0 a : AS) (n : Nat) : Prop where
  ok : a.Ok n
  dn : a.down = false
  ar : a.armed = false
  len : a0.files.length ≤ a.files.length
  fs : ∀ i, i < a0.files.length → a.files[i]? = a0.files[i]?
  na : ∀ p ∈ a.names, p ∈ a0.names ∨ (tmp p.1 = true ∧ a0.files.length ≤ p.2)
  n0 : ∀ p ∈ a0.names, p ∈ a.names
section
variable {tmp : List UInt8 → Bool} {a0 a : AS} {n m : Nat} {k : ByteArray} {l : List UInt8}
def ftext (a : AS) : List UInt8 := (a.list.map fun k => k ++ 10 :: ((a.read ⟨k.toArray⟩).1 ++ [10])).flatten
end
end Go.Proofs.YtjaojenalodolaaGreatDoor.Vf
/- Recovering, in plain words: the temporary files go, one by one. -/
namespace Go.Proofs.YtjaojenalodolaaGreatDoor.Ms
open Go Go.RowKit Go.Proofs.YtjaojenalodolaaGreatDoor Go.Proofs.YtjaojenalodolaaGreatDoor.Vf
set_option linter.unusedVariables false
def sufT : List UInt8 := [46, 116, 109, 112]
def tmpB (k : List UInt8) : Bool := Lib.hasSuffix k sufT
def left (m : Nm) (l : List (List UInt8)) (k : Nat) : Nm := m.filter fun p => !(tmpB p.1 && (l.take k).contains p.1)
end Go.Proofs.YtjaojenalodolaaGreatDoor.Ms
