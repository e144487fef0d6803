/- Parts of this proof, joined: VfW31, Vf4, VfR1, VfR2, VfR3, VfR4, VfR5, VfR6. -/
import Derived.Laws.OwnMore
import Derived.Deep.RegionWith
import Derived.Deep.RegionLaw
import Derived.Test.YtcobjjaicckgpaaK03
/- Three file systems side by side; what the chapter's examples compute. -/
namespace Go.Proofs.Ytcobjjaicckgpaa.Vf
open Go Go.RowKit Go.Maps Go.Proofs.Ytcobjjaicckgpaa Go.Proofs.Ytcobjjaicckgpaa.Bs
set_option linter.unusedVariables false

theorem Is.base {w : World} {B B' : Nat} {o : Loc} {s : St} (h : Is w B o s) (hB : B' ≤ B) : Is w B' o s :=
  ⟨h.fs, h.names, h.dur, h.nd, own_base h.files hB, own_base h.pend hB, h.each, h.zl, h.dist, Nat.le_trans hB h.bF, Nat.le_trans hB h.bn, Nat.le_trans hB h.bd, fun f hf => Nat.le_trans hB (h.bf f hf)⟩
theorem Fs.base {w : World} {B B' F : Nat} {Z p : Nat → Prop} {a : AS} (h : Fs w B F Z a p) (hB : B' ≤ B) : Fs w B' F Z a p := by
  obtain ⟨o, s, h1, h2, hI, hA, hp⟩ := h
  exact ⟨o, s, h1, h2, hI.base hB, hA, hp⟩
abbrev Zn : Nat → Prop := fun _ => False
/-- Three file systems that share no block. -/
structure Tri (W w : World) (f g h : Nat) (a b c : AS) (p q r : Nat → Prop) : Prop where
  f : Fs w W.heap.size f Zn a p
  g : Fs w W.heap.size g Zn b q
  h : Fs w W.heap.size h Zn c r
  fg : ∀ k, p k → ¬ q k
  fh : ∀ k, p k → ¬ r k
  gh : ∀ k, q k → ¬ r k
  below : Below W.heap.size W w
theorem Tri.rot {W w : World} {f g h : Nat} {a b c : AS} {p q r : Nat → Prop} (t : Tri W w f g h a b c p q r) : Tri W w g h f b c a q r p :=
  ⟨t.g, t.h, t.f, t.gh, fun k h1 h2 => t.fg k h2 h1, fun k h1 h2 => t.fh k h2 h1, t.below⟩
theorem Tri.next {W w w' : World} {f g h : Nat} {a b c a' : AS} {p q r p' : Nat → Prop} (t : Tri W w f g h a b c p q r) (hf : Fs w' W.heap.size f Zn a' p') (hr : Fr w w' p) (hp : ∀ k, p' k → p k ∨ w.heap.size ≤ k) : Tri W w' f g h a' b c p' q r where
  f := hf
  g := t.g.apart t.f (fun k h1 h2 => t.fg k h2 h1) hr
  h := t.h.apart t.f (fun k h1 h2 => t.fh k h2 h1) hr
  fg := fun k h1 h2 => by
    rcases hp k h1 with e | e
    · exact t.fg k e h2
    · have := (t.g.lt k h2).1; omega
  fh := fun k h1 h2 => by
    rcases hp k h1 with e | e
    · exact t.fh k e h2
    · have := (t.h.lt k h2).1; omega
  gh := t.gh
  below := t.below.trans (hr.below (fun k hk => (t.f.lt k hk).2) t.below.size)
theorem Tri.under {W w w' : World} {f g h : Nat} {a b c : AS} {p q r : Nat → Prop} (t : Tri W w f g h a b c p q r) (hb : Below w.heap.size w w') : Tri W w' f g h a b c p q r :=
  ⟨t.f.below hb, t.g.below hb, t.h.below hb, t.fg, t.fh, t.gh, t.below.trans (hb.mono t.below.size)⟩
theorem Fs.rd {w w' : World} {B F : Nat} {Z p : Nat → Prop} {a : AS} {v : Value} {l : List UInt8} (h : Fs w B F Z a p) (hr : Fr w w' p) (hv : Rd w v l) : Rd w' v l :=
  hv.kept fun g cur fr hg => hr.block g (lt_of_heap hg) fun e => h.ne_bytes e cur fr hg
theorem Rd.below {w w' : World} {v : Value} {l : List UInt8} (hv : Rd w v l) (hb : Below w.heap.size w w') : Rd w' v l := hv.kept fun g cur fr hg => hb.block g (lt_of_heap hg)

/-! ### in plain words -/
theorem op_plain {p : AS → Int × AS} {q : AS → AS} {a : AS} (h1 : a.down = false) (h2 : a.armed = false) : AS.op p q a = p a := by
  unfold AS.op
  rw [h1, h2]
  rfl
theorem nonempty (c : UInt8) (l : List UInt8) : (⟨⟨c :: l⟩⟩ : ByteArray).toList.isEmpty = false := by rw [Lib.toList_data]; rfl
theorem empty_is : (⟨#[]⟩ : ByteArray).toList.isEmpty = true := by rw [Lib.toList_data]; rfl
theorem put_first (k : ByteArray) (l : List UInt8) (a : AS) (h1 : a.down = false) (h2 : a.armed = false) (k0 : k.toList.isEmpty = false) (hf : findS a.names k.data.toList = none) (q : AS → AS) :
    AS.op (AS.put k l) q a = (0, ⟨a.files ++ [⟨l, [], false⟩], putS a.names k.data.toList a.files.length, a.dur, a.pend ++ [⟨⟨#[]⟩, k, a.files.length⟩], false, false, a.after, a.err⟩) := by
  rw [op_plain h1 h2]
  unfold AS.put
  rw [k0, hf]
  simp only [AS.record, applyS, empty_is, k0, Bool.false_eq_true, if_false, if_true, h1, h2]
theorem sync_one (k : ByteArray) (a : AS) (h1 : a.down = false) (h2 : a.armed = false) (i : Nat) (hf : findS a.names k.data.toList = some i) (q : AS → AS) :
    AS.op (AS.sync k) q a = (0, { a with files := a.files.modify i fun f => { f with dur := f.data, synced := true } }) := by
  rw [op_plain h1 h2]
  unfold AS.sync
  rw [hf]
/-- What the examples' file system holds. -/
def ex1 : AS := ⟨[⟨[120, 121, 122], [], false⟩], [([97], 0)], [], [⟨⟨#[]⟩, ⟨#[97]⟩, 0⟩], false, false, 0, 0⟩
def ex2 : AS := ⟨[⟨[120, 121, 122], [120, 121, 122], true⟩], [([97], 0)], [], [⟨⟨#[]⟩, ⟨#[97]⟩, 0⟩], false, false, 0, 0⟩
def ex3 : AS := ⟨[⟨[120, 121, 122], [120, 121, 122], true⟩], [([97], 0)], [([97], 0)], [], false, false, 0, 0⟩
def exG : AS := ⟨[⟨[], [], true⟩], [], [], [], false, false, 0, 0⟩
def exH : AS := ⟨[⟨[120, 121], [120, 121], true⟩], [([97], 0)], [([97], 0)], [], false, false, 0, 0⟩
theorem ex_put (q : AS → AS) : AS.op (AS.put ⟨#[97]⟩ [120, 121, 122]) q AS.new = (0, ex1) := put_first ⟨#[97]⟩ _ AS.new rfl rfl (nonempty 97 []) rfl q
theorem ex_crashG : ex1.crash [] [] = exG := rfl
theorem ex_crashH : ex1.crash [true] [2] = exH := by
  unfold AS.crash
  have h : ex1.durK [true] ex1.pend.length = [([97], 0)] := by
    show applyS [] ⟨#[]⟩ ⟨#[97]⟩ 0 = _
    unfold applyS
    simp only [empty_is, nonempty 97 [], if_true, Bool.false_eq_true, if_false]
    rfl
  simp only [h]
  rfl
theorem ex_sync (q : AS → AS) : AS.op (AS.sync ⟨#[97]⟩) q ex1 = (0, ex2) := sync_one ⟨#[97]⟩ ex1 rfl rfl 0 rfl q
theorem ex_syncdir (q : AS → AS) : AS.op AS.syncdir q ex2 = (0, ex3) := op_plain rfl rfl
theorem ex_crashF : ex3.crash [] [] = ex3 := rfl
theorem ex_readH : exH.read ⟨#[97]⟩ = ([120, 121], 0) := rfl
theorem ex_readF : ex3.read ⟨#[97]⟩ = ([120, 121, 122], 0) := rfl
theorem ex_list : exG.list = [] := rfl
theorem ok_of {a : AS} (n : Nat) (h1 : ∀ p ∈ a.names, p.2 < a.files.length) (h2 : ∀ p ∈ a.dur, p.2 < a.files.length) (h3 : ∀ c ∈ a.pend, c.file < a.files.length) (h4 : So a.names) (h5 : So a.dur) (h6 : a.after = 0) (h7 : a.files.length ≤ n) (h8 : a.names.length ≤ n) (h9 : a.dur.length + a.pend.length ≤ n) (h11 : ∀ c ∈ a.pend, c.src.size ≤ 1000000 ∧ c.dst.size ≤ 1000000) (h12 : ∀ f ∈ a.files, f.data.length ≤ 1000000 ∧ f.dur.length ≤ 1000000) : a.Ok n :=
  ⟨⟨h1, h2, fun c hc _ => h3 c hc⟩, h4, h5, ⟨by rw [h6]; decide, by rw [h6]; decide⟩, h7, h8, h9, h11, h12⟩
theorem ok1 : ex1.Ok 1 := ok_of 1 (by decide) (by decide) (by decide) (List.pairwise_singleton _ _) List.Pairwise.nil rfl (by decide) (by decide) (by decide) (by decide) (by decide)
theorem ok2 : ex2.Ok 1 := ok_of 1 (by decide) (by decide) (by decide) (List.pairwise_singleton _ _) List.Pairwise.nil rfl (by decide) (by decide) (by decide) (by decide) (by decide)
theorem ok3 : ex3.Ok 1 := ok_of 1 (by decide) (by decide) (by decide) (List.pairwise_singleton _ _) (List.pairwise_singleton _ _) rfl (by decide) (by decide) (by decide) (by decide) (by decide)
theorem okG : exG.Ok 1 := ok_of 1 (by decide) (by decide) (by decide) List.Pairwise.nil List.Pairwise.nil rfl (by decide) (by decide) (by decide) (by decide) (by decide)
theorem okH : exH.Ok 1 := ok_of 1 (by decide) (by decide) (by decide) (List.pairwise_singleton _ _) (List.pairwise_singleton _ _) rfl (by decide) (by decide) (by decide) (by decide) (by decide)
theorem Bl.emp (w : World) : Bl w (.slice none 0 0) [] := ⟨0, 0, _, _, rfl, fun h => absurd h (by decide), fun j hj => absurd hj (by simp)⟩
theorem Il.emp (w : World) : Il w (.slice none 0 0) [] := ⟨0, 0, _, _, rfl, Nat.le_refl _, fun h => absurd h (by decide), fun j hj => absurd hj (by simp)⟩
end Go.Proofs.Ytcobjjaicckgpaa.Vf
/- What each operation keeps. -/
namespace Go.Proofs.Ytcobjjaicckgpaa.Vf
open Go Go.RowKit Go.Maps Go.Proofs.Ytcobjjaicckgpaa Go.Proofs.Ytcobjjaicckgpaa.Bs
set_option linter.unusedVariables false

theorem So.apply {m : Nm} (h : So m) (f t : ByteArray) (i : Nat) : So (applyS m f t i) := by
  unfold applyS
  simp only
  split <;> split
  · exact h
  · exact h.del _
  · exact h.put _ _
  · exact (h.del _).put _ _
theorem mem_put {m : Nm} {k : List UInt8} {i : Nat} {p : List UInt8 × Nat} (h : p ∈ putS m k i) : p = (k, i) ∨ p ∈ m := by
  unfold putS at h
  rcases (mem_ins _ _ _).1 h with h | h
  · exact .inl h
  · exact .inr (List.mem_filter.1 h).1
theorem mem_apply {m : Nm} {f t : ByteArray} {i : Nat} {p : List UInt8 × Nat} (h : p ∈ applyS m f t i) : p ∈ m ∨ (t.toList.isEmpty = false ∧ p.2 = i) := by
  unfold applyS at h
  simp only at h
  cases ht : t.toList.isEmpty with
  | true =>
    rw [ht] at h
    simp only [if_true] at h
    split at h
    · exact .inl h
    · exact .inl (List.mem_filter.1 h).1
  | false =>
    rw [ht] at h
    simp only [Bool.false_eq_true, if_false] at h
    rcases mem_put h with h | h
    · exact .inr ⟨rfl, by rw [h]⟩
    · split at h
      · exact .inl h
      · exact .inl (List.mem_filter.1 h).1
section
variable {a : AS} {n : Nat}
theorem AS.Ok.record (h : a.Ok n) (c : AC) (h1 : c.src.size ≤ 1000000) (h2 : c.dst.size ≤ 1000000) (h3 : c.dst.toList.isEmpty = false → c.file < a.files.length) : (a.record c).Ok (n + 1) where
  wf :=
    { names := fun p hp => by
        rcases mem_apply hp with hp | ⟨h4, h5⟩
        · exact h.wf.names p hp
        · rw [h5]; exact h3 h4
      dur := h.wf.dur
      pend := fun d hd h4 => by
        rcases List.mem_append.1 hd with hd | hd
        · exact h.wf.pend d hd h4
        · obtain rfl := List.mem_singleton.1 hd
          exact h3 h4 }
  sn := h.sn.apply _ _ _
  sd := h.sd
  af := h.af
  files := Nat.le_succ_of_le h.files
  names := by have := apply_len a.names c.src c.dst c.file; have := h.names; show (applyS _ _ _ _).length ≤ _; omega
  dp := by show a.dur.length + (a.pend ++ [c]).length ≤ _; have := h.dp; simp; omega
  strs := fun d hd => by
    rcases List.mem_append.1 hd with hd | hd
    · exact h.strs d hd
    · obtain rfl := List.mem_singleton.1 hd
      exact ⟨h1, h2⟩
  data := h.data
theorem mem_modify {l : List AF} {i : Nat} {g : AF → AF} {f : AF} (h : f ∈ l.modify i g) : ∃ f0 ∈ l, f = f0 ∨ f = g f0 := by
  obtain ⟨j, hj, e⟩ := List.getElem_of_mem h
  rw [List.length_modify] at hj
  rw [List.getElem_modify] at e
  refine ⟨l[j], List.getElem_mem hj, ?_⟩
  split at e
  · exact .inr e.symm
  · exact .inl e.symm
theorem AS.Ok.modify (h : a.Ok n) (i : Nat) (g : AF → AF) (hg : ∀ f, f.data.length ≤ 1000000 ∧ f.dur.length ≤ 1000000 → (g f).data.length ≤ 1000000 ∧ (g f).dur.length ≤ 1000000) : AS.Ok { a with files := a.files.modify i g } n where
  wf := ⟨fun p hp => by rw [List.length_modify]; exact h.wf.names p hp, fun p hp => by rw [List.length_modify]; exact h.wf.dur p hp, fun c hc e => by rw [List.length_modify]; exact h.wf.pend c hc e⟩
  sn := h.sn
  sd := h.sd
  af := h.af
  files := by rw [List.length_modify]; exact h.files
  names := h.names
  dp := h.dp
  strs := h.strs
  data := fun f hf => by
    obtain ⟨f0, h0, rfl | rfl⟩ := mem_modify hf
    · exact h.data _ h0
    · exact hg _ (h.data _ h0)
theorem AS.Ok.put (h : a.Ok n) (k : ByteArray) (l : List UInt8) (hk : k.size ≤ 1000000) (hl : l.length ≤ 1000000) : (AS.put k l a).2.Ok (n + 1) := by
  unfold AS.put
  split
  · exact h.mono (Nat.le_succ n)
  · split
    · exact (h.modify _ (fun f => { f with data := l, synced := false }) (fun f hf => ⟨hl, hf.2⟩)).mono (Nat.le_succ n)
    · have h1 : AS.Ok { a with files := a.files ++ [⟨l, [], false⟩] } (n + 1) :=
        { wf := ⟨fun p hp => by have := h.wf.names p hp; simp; omega, fun p hp => by have := h.wf.dur p hp; simp; omega, fun c hc e => by have := h.wf.pend c hc e; simp; omega⟩
          sn := h.sn
          sd := h.sd
          af := h.af
          files := by have := h.files; simp; omega
          names := Nat.le_succ_of_le h.names
          dp := Nat.le_succ_of_le h.dp
          strs := h.strs
          data := fun f hf => by
            rcases List.mem_append.1 hf with hf | hf
            · exact h.data f hf
            · obtain rfl := List.mem_singleton.1 hf
              exact ⟨hl, Nat.zero_le _⟩ }
      have h2 := AS.Ok.record (a := { a with names := a.names, files := a.files ++ [⟨l, [], false⟩] }) (n := n + 1) h1 ⟨⟨#[]⟩, k, a.files.length⟩ (show (⟨#[]⟩ : ByteArray).size ≤ 1000000 by decide) hk (fun _ => by show a.files.length < _; simp)
      exact
        { wf := h2.wf
          sn := h2.sn
          sd := h2.sd
          af := h2.af
          files := h1.files
          names := by have h3 := apply_len a.names ⟨#[]⟩ k a.files.length; have h4 := h.names; show (applyS a.names ⟨#[]⟩ k a.files.length).length ≤ _; omega
          dp := by show a.dur.length + (a.pend ++ [_]).length ≤ _; have := h.dp; simp; omega
          strs := h2.strs
          data := h2.data }
theorem AS.Ok.sync (h : a.Ok n) (k : ByteArray) : (AS.sync k a).2.Ok (n + 1) := by
  unfold AS.sync
  split
  · exact h.mono (Nat.le_succ n)
  · exact (h.modify _ (fun f => { f with dur := f.data, synced := true }) (fun f hf => ⟨hf.1, hf.1⟩)).mono (Nat.le_succ n)
theorem AS.Ok.rename (h : a.Ok n) (k t : ByteArray) (hk : k.size ≤ 1000000) (ht : t.size ≤ 1000000) : (AS.rename k t a).2.Ok (n + 1) := by
  unfold AS.rename
  split
  · exact h.mono (Nat.le_succ n)
  · rename_i i e
    split
    · exact h.mono (Nat.le_succ n)
    · split
      · exact h.mono (Nat.le_succ n)
      · exact h.record _ hk ht (fun _ => h.wf.find e)
theorem AS.Ok.remove (h : a.Ok n) (k : ByteArray) (hk : k.size ≤ 1000000) : (AS.remove k a).2.Ok (n + 1) := by
  unfold AS.remove
  split
  · exact h.mono (Nat.le_succ n)
  · exact h.record _ hk (show (⟨#[]⟩ : ByteArray).size ≤ 1000000 by decide) (fun e => absurd e (by rw [empty_is]; decide))
theorem AS.Ok.syncdir (h : a.Ok n) : (AS.syncdir a).2.Ok (n + 1) where
  wf := ⟨h.wf.names, h.wf.names, fun c hc => by cases hc⟩
  sn := h.sn
  sd := h.sn
  af := h.af
  files := Nat.le_succ_of_le h.files
  names := Nat.le_succ_of_le h.names
  dp := Nat.le_succ_of_le h.names
  strs := fun c hc => by cases hc
  data := h.data
theorem AS.Ok.flags (h : a.Ok n) (d r : Bool) (x e : Int) (h0 : 0 ≤ x) (h1 : x ≤ 9223372036854775807) : AS.Ok { a with down := d, armed := r, after := x, err := e } n := ⟨⟨h.wf.names, h.wf.dur, h.wf.pend⟩, h.sn, h.sd, ⟨h0, h1⟩, h.files, h.names, h.dp, h.strs, h.data⟩
theorem AS.Ok.arm (h : a.Ok n) (m e : Int) (hm : m ≤ 9223372036854775807) : (AS.arm m e a).2.Ok n := by
  unfold AS.arm
  split
  · exact h
  · rename_i hc
    split
    · exact h
    · have h0 : 0 ≤ m := by
        rcases Int.lt_or_le m 0 with h1 | h1
        · exact absurd (.inl h1) hc
        · exact h1
      have := h.flags a.down true m e h0 hm
      exact this
theorem AS.Ok.op (h : a.Ok n) (p : AS → Int × AS) (q : AS → AS) (hp : ∀ b : AS, b.Ok n → (p b).2.Ok (n + 1)) (hq : ∀ b : AS, b.Ok n → (q b).Ok (n + 1)) : (AS.op p q a).2.Ok (n + 1) := by
  unfold AS.op
  split
  · exact h.mono (Nat.le_succ n)
  · split
    · exact hp a h
    · split
      · rename_i hz
        exact hp _ (h.flags a.down a.armed (a.after - 1) a.err (by omega) (by have := h.af.2; omega))
      · have h1 : AS.Ok { a with armed := false } n := h.flags a.down false a.after a.err h.af.1 h.af.2
        have h2 := hq _ h1
        exact h2.flags _ _ _ _ h2.af.1 h2.af.2
theorem ok_id {b : AS} (h : b.Ok n) : (id b).Ok (n + 1) := h.mono (Nat.le_succ n)
theorem AS.Ok.tear (h : a.Ok n) (k : ByteArray) (l : List UInt8) (hk : k.size ≤ 1000000) (hl : l.length ≤ 1000000) : (AS.tear k l a).Ok (n + 1) := h.put k _ hk (by rw [List.length_take]; omega)
theorem AS.Ok.write (h : a.Ok n) (k : ByteArray) (l : List UInt8) (hk : k.size ≤ 1000000) (hl : l.length ≤ 1000000) : (AS.op (AS.put k l) (AS.tear k l) a).2.Ok (n + 1) := h.op _ _ (fun b hb => hb.put k l hk hl) (fun b hb => hb.tear k l hk hl)
theorem AS.Ok.opsync (h : a.Ok n) (k : ByteArray) : (AS.op (AS.sync k) id a).2.Ok (n + 1) := h.op _ _ (fun b hb => hb.sync k) (fun b hb => ok_id hb)
theorem AS.Ok.oprename (h : a.Ok n) (k t : ByteArray) (hk : k.size ≤ 1000000) (ht : t.size ≤ 1000000) : (AS.op (AS.rename k t) id a).2.Ok (n + 1) := h.op _ _ (fun b hb => hb.rename k t hk ht) (fun b hb => ok_id hb)
theorem AS.Ok.opremove (h : a.Ok n) (k : ByteArray) (hk : k.size ≤ 1000000) : (AS.op (AS.remove k) id a).2.Ok (n + 1) := h.op _ _ (fun b hb => hb.remove k hk) (fun b hb => ok_id hb)
theorem AS.Ok.opsyncdir (h : a.Ok n) : (AS.op AS.syncdir id a).2.Ok (n + 1) := h.op _ _ (fun b hb => hb.syncdir) (fun b hb => ok_id hb)
theorem So.durK (h : a.Ok n) (ch : List Bool) : ∀ k, So (a.durK ch k) ∧ ∀ p ∈ a.durK ch k, p.2 < a.files.length
  | 0 => ⟨h.sd, h.wf.dur⟩
  | k + 1 => by
    obtain ⟨h1, h2⟩ := So.durK h ch k
    unfold AS.durK
    split
    · exact ⟨h1, h2⟩
    · rename_i c hc
      split
      · refine ⟨h1.apply _ _ _, fun p hp => ?_⟩
        rcases mem_apply hp with hp | ⟨h4, h5⟩
        · exact h2 p hp
        · rw [h5]; exact h.wf.pend c (List.mem_of_getElem? hc) h4
      · exact ⟨h1, h2⟩
theorem crashF_len (m : Int) (f : AF) (h : f.data.length ≤ 1000000 ∧ f.dur.length ≤ 1000000) : (crashF m f).data.length ≤ 1000000 ∧ (crashF m f).dur.length ≤ 1000000 := by
  unfold crashF
  split
  · exact h
  · simp only
    split
    · exact ⟨h.2, h.2⟩
    · split
      · have : (f.data.take m.toNat).length ≤ f.data.length := by rw [List.length_take]; omega
        exact ⟨by omega, by omega⟩
      · exact ⟨h.1, h.1⟩
theorem filesK_data (h : a.Ok n) (ls : List Int) : ∀ k, ∀ f ∈ a.filesK ls k, f.data.length ≤ 1000000 ∧ f.dur.length ≤ 1000000
  | 0 => h.data
  | k + 1 => fun f hf => by
    unfold AS.filesK at hf
    obtain ⟨f0, h0, rfl | rfl⟩ := mem_modify hf
    · exact filesK_data h ls k _ h0
    · exact crashF_len _ _ (filesK_data h ls k _ h0)
theorem AS.Ok.crash (h : a.Ok n) (ch : List Bool) (ls : List Int) : (a.crash ch ls).Ok n := by
  obtain ⟨h1, h2⟩ := So.durK h ch a.pend.length
  have h3 := a.durK_len ch a.pend.length
  have h4 := h.dp
  exact
    { wf := ⟨fun p hp => by show _ < (a.filesK ls _).length; rw [a.filesK_len]; exact h2 p hp, fun p hp => by show _ < (a.filesK ls _).length; rw [a.filesK_len]; exact h2 p hp, fun c hc => by cases hc⟩
      sn := h1
      sd := h1
      af := h.af
      files := by show (a.filesK ls _).length ≤ _; rw [a.filesK_len]; exact h.files
      names := by show (a.durK ch _).length ≤ _; omega
      dp := by show (a.durK ch a.pend.length).length + 0 ≤ _; omega
      strs := fun c hc => by cases hc
      data := filesK_data h ls _ }
end
end Go.Proofs.Ytcobjjaicckgpaa.Vf
/- The reference: its state; find. -/
namespace Go.Proofs.Ytcobjjaicckgpaa.Vf
open Go Go.RowKit Go.Maps Go.Proofs.Ytcobjjaicckgpaa Go.Proofs.Ytcobjjaicckgpaa.Bs
set_option linter.unusedVariables false

def bs (l : List UInt8) : ByteArray := ⟨l.toArray⟩
theorem bs_data (l : List UInt8) : (bs l).data.toList = l := rfl
theorem bs_of (A : ByteArray) : bs A.data.toList = A := ba_of rfl
def fcells (f : AF) : List Value := [.string (bs f.data), .string (bs f.dur), .bool f.synced]
def lcells (p : List UInt8 × Nat) : List Value := [.string (bs p.1), .int .i64 p.2]
def dcells (c : AC) : List Value := [.string c.src, .string c.dst, .int .i64 c.file]
theorem flat_get {α : Type} (g : α → List Value) (s : Nat) (hg : ∀ x, (g x).length = s) (l : List α) (k j : Nat) (hk : k < l.length) (hj : j < s) : (l.flatMap g)[k * s + j]? = (g l[k])[j]? := by
  induction l generalizing k with
  | nil => simp at hk
  | cons c r ih =>
    cases k with
    | zero =>
      rw [List.flatMap_cons, List.getElem?_append_left (by rw [hg]; omega)]
      simp
    | succ k =>
      rw [List.flatMap_cons, List.getElem?_append_right (by rw [hg, Nat.succ_mul]; omega), hg]
      have e : (k + 1) * s + j - s = k * s + j := by rw [Nat.succ_mul]; omega
      rw [e]
      exact ih k (by simpa using hk)
theorem flat_len {α : Type} (g : α → List Value) (s : Nat) (hg : ∀ x, (g x).length = s) (l : List α) : (l.flatMap g).length = l.length * s := by
  induction l with
  | nil => simp
  | cons c r ih => rw [List.flatMap_cons, List.length_append, hg, ih, List.length_cons, Nat.succ_mul]; omega
/-- A row of structs, read at one place. -/
theorem row_at {α : Type} {w : World} {B size : Nat} {t : TypeId} {v : Value} (g : α → List Value) (hg : ∀ x, (g x).length = size) (l : List α) (h : w.ownsRow B t size v l.length (l.flatMap g)) : ∃ b ad cap, v = .slice ad l.length cap ∧ l.length ≤ cap ∧ (0 < l.length → ad = some ⟨b, 0, none⟩) ∧ ∀ k (hk : k < l.length) j, j < size → w.cell? ⟨b, k * size + j, none⟩ = (g l[k])[j]? := by
  rcases h.2 with ⟨e, h0⟩ | ⟨b, cap, cur, e, _, hb, hc, _, _, ht⟩
  · exact ⟨0, none, 0, by rw [e, h0], by omega, fun hp => by omega, fun k hk => by omega⟩
  · refine ⟨b, _, cap, e, hc, fun _ => rfl, fun k hk j hj => ?_⟩
    unfold World.cell?
    simp only [hb]
    have hlt : k * size + j < l.length * size := by
      have : (k + 1) * size ≤ l.length * size := Nat.mul_le_mul_right _ hk
      rw [Nat.succ_mul] at this
      omega
    have := congrArg (fun x : List Value => x[k * size + j]?) ht
    simp only [List.getElem?_take, if_pos hlt] at this
    rw [flat_get g size hg l k j hk hj] at this
    simpa using this
/-- The number of a name's file, or -1. -/
def fnd (m : Nm) (k : List UInt8) : Int := match findS m k with | some i => (i : Int) | none => -1
set_option maxRecDepth 100000 in
set_option maxHeartbeats 4000000 in
theorem find_is (B : Nat) (v : Value) (k : ByteArray) (m : Nm) (W : World) (hv : W.ownsRow B 92 2 v m.length (m.flatMap lcells)) (hm : m.length ≤ 1000000) :
    Calls Try.prog 54 #[v, .string k] W fun e w' => e = .returned (.int .i64 (fnd m k.data.toList)) ∧ w' = W := by
  obtain ⟨b, ad, cap, rfl, hc, had, hcell⟩ := row_at lcells (fun _ => rfl) m hv
  obtain ⟨n, hn⟩ : ∃ n, m.length = n := ⟨_, rfl⟩
  have HC : Hid (∀ j (hj : j < m.length), W.cell? ⟨b, j * 2, none⟩ = some (.string (bs m[j].1)) ∧ W.cell? ⟨b, j * 2 + 1, none⟩ = some (.int .i64 m[j].2)) := fun j hj => ⟨hcell j hj 0 (by omega), hcell j hj 1 (by omega)⟩
  have HN := Lib.hid hn
  rw [hn] at hm hc had ⊢
  have HA := Lib.hid had
  have HK : Hid (∀ j, j < 0 → ∀ (hj : j < m.length), m[j].1 ≠ k.data.toList) := fun j hj => by omega
  clear hv hcell had hn
  go_enter Try.func54, Try.ntmps54
  go_wp2_with fail
  go_loop [5] (fun i => ∃ q : Nat, q ≤ n ∧ i = .int .i64 q ∧ Hid (∀ j, j < q → ∀ (hj : j < m.length), m[j].1 ≠ k.data.toList)) (fun i => n - (intOf i).toNat)
  case atStart => exact ⟨0, Nat.zero_le _, rfl, HK.out⟩
  case round =>
    obtain ⟨q, hq, rfl, HQ⟩ := hrel
    by_cases hlt : q < n
    · obtain rfl := HA.out (by omega)
      have hlt2 : q < m.length := by rw [HN.out]; exact hlt
      obtain ⟨c0, c1⟩ := HC.out q hlt2
      by_cases he : m[q].1 = k.data.toList
      · have hx : bs m[q].1 = k := by rw [he, bs_of]
        rw [hx] at c0
        have HF : Hid (findS m k.data.toList = some m[q].2) := by
          have hnone : (m.take q).find? (fun p => p.1 == k.data.toList) = none := by
            rw [List.find?_eq_none]
            intro p hp
            obtain ⟨j, hj, e⟩ := List.getElem_of_mem hp
            have hj2 : j < q := by rw [List.length_take] at hj; omega
            have := HQ.out j hj2 (by omega)
            rw [← e]
            simpa using this
          show findS m _ = _
          have hsplit : m = m.take q ++ m[q] :: m.drop (q + 1) := by rw [List.getElem_cons_drop, List.take_append_drop]
          generalize m[q] = z at hsplit he
          have h2 : findS (m.take q ++ z :: m.drop (q + 1)) k.data.toList = some z.2 := by
            unfold findS
            rw [List.find?_append, hnone]
            simp [he]
          rw [← hsplit] at h2
          exact h2
        generalize m[q].2 = z at c1 HF
        clear he hx hlt2
        go_wp2_with fail
        go_ret
        exact ⟨by unfold fnd; rw [HF.out]; rfl, rfl⟩
      · have hx : ((bs m[q].1).toList == k.toList) = false := by
          rw [Lib.toList_data, Lib.toList_data, bs_data]
          simpa using he
        have HQ2 : Hid (∀ j, j < q + 1 → ∀ (hj : j < m.length), m[j].1 ≠ k.data.toList) := fun j hj hj2 => by
          by_cases e : j = q
          · subst e; exact he
          · exact HQ.out j (by omega) hj2
        generalize bs m[q].1 = z at c0 hx
        clear he hlt2 c1
        go_wp2_with fail
        go_round
        case rel => exact ⟨q + 1, by omega, by go_num, HQ2.out⟩
        case measure => simp [intOf]; omega
    · have HF : Hid (findS m k.data.toList = none) := by
        show findS m _ = none
        rw [find_none_iff]
        intro p hp
        obtain ⟨j, hj, e⟩ := List.getElem_of_mem hp
        have := HQ.out j (by have := HN.out; omega) hj
        rw [← e]
        exact this
      go_wp2_with fail
      go_ret
      exact ⟨by unfold fnd; rw [HF.out]; rfl, rfl⟩
end Go.Proofs.Ytcobjjaicckgpaa.Vf
/- The reference's apply, in plain words. -/
namespace Go.Proofs.Ytcobjjaicckgpaa.Vf
open Go Go.RowKit Go.Maps Go.Proofs.Ytcobjjaicckgpaa Go.Proofs.Ytcobjjaicckgpaa.Bs
set_option linter.unusedVariables false

theorem less_before : ∀ (a b : List UInt8), Op.bytesLess a b = bytesBefore a b
  | [], [] => rfl
  | [], _ :: _ => rfl
  | _ :: _, [] => rfl
  | x :: r, y :: s => by
    unfold Op.bytesLess bytesBefore
    rw [less_before r s]
/-- The reference's order: at most. -/
def leqS (t n : List UInt8) : Bool := bytesBefore t n || t == n
def keepS (f t n : List UInt8) : Bool := !(n == f) && !(n == t)
/-- What is left for apply to append. -/
def rapp (f t : List UInt8) (i : Nat) : Bool → Nm → Nm
  | d, [] => if d then [] else [(t, i)]
  | d, y :: r => (if !d && leqS t y.1 then [(t, i)] else []) ++ ((if keepS f t y.1 then [y] else []) ++ rapp f t i (d || leqS t y.1) r)
theorem rapp_done (f t : List UInt8) (i : Nat) : ∀ m : Nm, rapp f t i true m = m.filter fun p => keepS f t p.1
  | [] => rfl
  | y :: r => by
    unfold rapp
    rw [Bool.true_or, rapp_done f t i r, List.filter_cons]
    simp only [Bool.not_true, Bool.false_and, Bool.false_eq_true, if_false, List.nil_append]
    split <;> simp
theorem before_ne {a b : List UInt8} (h : bytesBefore a b = true) : a ≠ b := fun e => by
  subst e
  rw [WideAt.bytes_irrefl] at h
  cases h
theorem before_not {a b : List UInt8} (h : bytesBefore a b = true) : bytesBefore b a = false := by
  cases e : bytesBefore b a with
  | false => rfl
  | true =>
    have := WideShapes.bytes_trans _ _ _ h e
    rw [WideAt.bytes_irrefl] at this
    cases this
theorem ins_front {t : List UInt8} {i : Nat} : ∀ {m : Nm}, (∀ p ∈ m, bytesBefore t p.1 = true) → insS (t, i) m = (t, i) :: m
  | [], _ => rfl
  | y :: r, h => by
    unfold insS
    rw [if_pos (h y List.mem_cons_self)]
theorem rapp_ins (f t : List UInt8) (i : Nat) : ∀ m : Nm, So m → rapp f t i false m = insS (t, i) (m.filter fun p => keepS f t p.1)
  | [], _ => rfl
  | y :: r, h => by
    unfold So at h
    rw [List.pairwise_cons] at h
    obtain ⟨h1, h2⟩ := h
    unfold rapp
    rw [Bool.false_or, List.filter_cons]
    simp only [Bool.not_false, Bool.true_and]
    cases hl : leqS t y.1 with
    | true =>
      rw [rapp_done]
      simp only [if_true]
      have hlt : ∀ p ∈ r, bytesBefore t p.1 = true := fun p hp => by
        unfold leqS at hl
        rcases (Bool.or_eq_true_iff.1 hl) with e | e
        · exact WideShapes.bytes_trans _ _ _ e (h1 p hp)
        · have e2 : t = y.1 := by simpa using e
          rw [e2]; exact h1 p hp
      cases hk : keepS f t y.1 with
      | true =>
        simp only [if_true]
        rw [ins_front]
        · simp
        · intro p hp
          rcases List.mem_cons.1 hp with rfl | hp
          · unfold leqS at hl
            unfold keepS at hk
            rcases (Bool.or_eq_true_iff.1 hl) with e | e
            · exact e
            · exfalso
              have e2 : t = p.1 := by simpa using e
              rw [← e2] at hk
              simp at hk
          · exact hlt p (List.mem_filter.1 hp).1
      | false =>
        simp only [Bool.false_eq_true, if_false, List.nil_append]
        rw [ins_front (fun p hp => hlt p (List.mem_filter.1 hp).1)]
        rfl
    | false =>
      rw [rapp_ins f t i r h2]
      simp only [Bool.false_eq_true, if_false, List.nil_append]
      have hb : bytesBefore t y.1 = false := by
        unfold leqS at hl
        rw [Bool.or_eq_false_iff] at hl
        exact hl.1
      cases hk : keepS f t y.1 with
      | true =>
        simp only [if_true]
        show [y] ++ _ = insS (t, i) (y :: _)
        have e : insS (t, i) (y :: r.filter fun p => keepS f t p.1) = y :: insS (t, i) (r.filter fun p => keepS f t p.1) := by
          conv => lhs; unfold insS
          rw [hb]
          rfl
        rw [e]
        rfl
      | false => simp
theorem del_none {m : Nm} {k : List UInt8} (h : ∀ p ∈ m, p.1 ≠ k) : delS m k = m := by
  unfold delS
  rw [List.filter_eq_self]
  intro p hp
  simpa using h p hp
theorem del_keep (m : Nm) (f t : List UInt8) : delS (delS m f) t = m.filter fun p => keepS f t p.1 := by
  unfold delS keepS
  rw [List.filter_filter]
  congr 1
  funext p
  rw [Bool.and_comm]
theorem toList_empty (k : ByteArray) : k.toList.isEmpty = true ↔ k.data.toList = [] := by
  rw [Lib.toList_data, List.isEmpty_iff]
theorem toList_nonempty (k : ByteArray) : k.toList.isEmpty = false ↔ k.data.toList ≠ [] := by
  rw [Lib.toList_data]
  cases k.data.toList <;> simp
/-- The reference's apply is the program's. -/
theorem rapp_apply (m : Nm) (f t : ByteArray) (i : Nat) (h : So m) (hn : ∀ p ∈ m, p.1 ≠ []) : rapp f.data.toList t.data.toList i t.toList.isEmpty m = applyS m f t i := by
  have hdn : ∀ {m : Nm}, (∀ p ∈ m, p.1 ≠ []) → delS m [] = m := fun h => del_none h
  have hfl : (if f.toList.isEmpty = true then m else delS m f.data.toList) = delS m f.data.toList := by
    split
    · rename_i e
      rw [(toList_empty f).1 e, hdn hn]
    · rfl
  unfold applyS
  simp only
  rw [hfl]
  cases e : t.toList.isEmpty with
  | true =>
    rw [rapp_done, (toList_empty t).1 e, ← del_keep, if_pos rfl]
    exact (hdn (fun p hp => hn p (List.mem_filter.1 hp).1))
  | false =>
    rw [rapp_ins _ _ _ _ h, if_neg (by decide)]
    unfold putS
    rw [del_keep]
end Go.Proofs.Ytcobjjaicckgpaa.Vf
/- The reference's apply: its walk. -/
namespace Go.Proofs.Ytcobjjaicckgpaa.Vf
open Go Go.RowKit Go.Maps Go.Proofs.Ytcobjjaicckgpaa Go.Proofs.Ytcobjjaicckgpaa.Bs
set_option linter.unusedVariables false

theorem infoL : (Try.prog.info? 92).map (fun i => (i.zero, i.size, i.bytes)) = some (some (.agg #[.string ByteArray.empty, .int .i64 0]), 2, 24) := by kernel_rfl
theorem new_cellG (w : World) (xs : List Value) (t : TypeId) (g : Nat) (hg : g = w.heap.size) (j : Nat) (u : Value) (hj : xs[j]? = some u) : (w.alloc (.cells xs.toArray t)).cell? ((⟨g, 0, none⟩ : Addr).add j) = some u := by
  subst hg
  have h2 := new_block w (.cells xs.toArray t)
  have e : ((⟨w.heap.size, 0, none⟩ : Addr).add j) = ⟨w.heap.size, j, none⟩ := by simp [Addr.add]; omega
  rw [e]
  unfold World.cell?
  simp only [h2]
  simpa using hj
/-- apply under way: the change's block is S, the list so far is out. -/
structure Ap (W w : World) (S : Nat) (f t : ByteArray) (i : Nat) (v : Value) (out : Nm) : Prop where
  below : Below S W w
  box : w.heap[S]? = some (Obj.cells #[.string f, .string t, .int .i64 i] 88 (0, 0))
  own : w.ownsRow S 92 2 v out.length (out.flatMap lcells)
theorem Ap.drewN {W w : World} {S i : Nat} {f t : ByteArray} {v : Value} {out : Nm} (h : Ap W w S f t i v out) (n : Nat) : Ap W (w.drewN n) S f t i v out := ⟨below_drewN h.below n, h.box, h.own⟩
theorem Ap.app {W w w2 : World} {S i g cap x : Nat} {f t nm : ByteArray} {v : Value} {out : Nm} (h : Ap W w S f t i v out) (hS : W.heap.size ≤ S) (hg : (w.alloc (.cells #[.string nm, .int .i64 x] 92)).grownBy w2 v.ownBlock)
    (ho : w2.ownsRow S 92 2 (.slice (some ⟨g, 0, none⟩) (out.length + 1) cap) (out.length + 1) (out.flatMap lcells ++ [.string nm, .int .i64 x])) : Ap W w2 S f t i (.slice (some ⟨g, 0, none⟩) (out.length + 1) cap) (out ++ [(nm.data.toList, x)]) where
  below := by
    have hs := lt_of_heap h.box
    have b1 := h.below.alloc (by omega) (.cells #[.string nm, .int .i64 x] 92)
    exact b1.grown hg (by rw [alloc_sz]; omega) (fun q hq => (h.own.lt q hq).1)
  box := grow_atP hg h.box (own_ne h.own h.box (by decide))
  own := by
    have e1 : (out ++ [(nm.data.toList, x)]).length = out.length + 1 := by simp
    have e2 : (out ++ [(nm.data.toList, x)]).flatMap lcells = out.flatMap lcells ++ [.string nm, .int .i64 x] := by simp [lcells, bs_of]
    rw [e1, e2]
    exact ho
theorem Ap.cells {W w : World} {S i : Nat} {f t : ByteArray} {v : Value} {out : Nm} (h : Ap W w S f t i v out) : w.cell? ⟨S, 0, none⟩ = some (.string f) ∧ w.cell? ⟨S, 1, none⟩ = some (.string t) ∧ w.cell? ⟨S, 2, none⟩ = some (.int .i64 i) := by
  unfold World.cell?
  simp only [h.box]
  exact ⟨rfl, rfl, rfl⟩
set_option maxRecDepth 100000 in
set_option maxHeartbeats 16000000 in
theorem rapply_is (B : Nat) (v : Value) (f t : ByteArray) (x : Nat) (m : Nm) (W : World) (hv : W.ownsRow B 92 2 v m.length (m.flatMap lcells)) (hm : m.length ≤ 1000000) :
    Calls Try.prog 49 #[v, .agg #[.string f, .string t, .int .i64 x]] W fun e w' => ∃ v', e = .returned v' ∧ w'.ownsRow W.heap.size 92 2 v' (rapp f.data.toList t.data.toList x t.toList.isEmpty m).length ((rapp f.data.toList t.data.toList x t.toList.isEmpty m).flatMap lcells) ∧ Below W.heap.size W w' := by
  obtain ⟨b, ad, cap, rfl, hc, had, hcell⟩ := row_at lcells (fun _ => rfl) m hv
  obtain ⟨n, hn⟩ : ∃ n, m.length = n := ⟨_, rfl⟩
  have HC : Hid (∀ j (hj : j < m.length), W.cell? ⟨b, j * 2, none⟩ = some (.string (bs m[j].1)) ∧ W.cell? ⟨b, j * 2 + 1, none⟩ = some (.int .i64 m[j].2)) := fun j hj => ⟨hcell j hj 0 (by omega), hcell j hj 1 (by omega)⟩
  have HN := Lib.hid hn
  rw [hn] at hm hc had ⊢
  have HA := Lib.hid had
  obtain ⟨R, hR⟩ : ∃ R, rapp f.data.toList t.data.toList x t.toList.isEmpty m = R := ⟨_, rfl⟩
  rw [hR]
  have HA0 : Hid (Ap W (W.alloc (.cells #[.string f, .string t, .int .i64 x] 88)) W.heap.size f t x (.slice none 0 0) []) :=
    ⟨(Below.refl _ _).alloc (Nat.le_refl _) _, heap_alloc_new _ _, ⟨rfl, .inl ⟨rfl, rfl⟩⟩⟩
  have y1 := HA0.out.cells.2.1
  obtain ⟨D0, hD0⟩ : ∃ D0, t.toList.isEmpty = D0 := ⟨_, rfl⟩
  rw [hD0] at hR
  have HR0 : Hid (([] : Nm) ++ rapp f.data.toList t.data.toList x D0 (m.drop 0) = R) := by rw [List.drop_zero]; exact hR
  obtain ⟨i0, hi, hz0, hz1, hz2⟩ := info_parts infoL
  have II := Lib.hid (And.intro hi (And.intro hz0 (And.intro hz1 hz2)))
  have HRL : Hid (R.length ≤ 2 * n + 1) := by
    have : ∀ (d : Bool) (m : Nm), (rapp f.data.toList t.data.toList x d m).length ≤ 2 * m.length + 1 := by
      intro d m
      induction m generalizing d with
      | nil => unfold rapp; split <;> simp
      | cons y r ih =>
        have := ih (d || leqS t.data.toList y.1)
        unfold rapp
        rw [List.length_append, List.length_append, List.length_cons]
        split <;> split <;> simp <;> omega
    rw [← hR, ← hn]
    exact this _ _
  clear hv hcell had hn hR hi hz0 hz1 hz2
  go_enter Try.func49, Try.ntmps49
  go_wp2_with fail
  clear hD0 y1
  go_loopw [5, 6, 7] (fun o d i wr => ∃ (q : Nat) (dn : Bool) (out : Nm), q ≤ n ∧ i = .int .i64 q ∧ d = .bool dn ∧ out.length ≤ 2 * q ∧ Hid (Ap W wr W.heap.size f t x o out) ∧ Hid (out ++ rapp f.data.toList t.data.toList x dn (m.drop q) = R)) (fun _ _ i _ => n - (intOf i).toNat)
  case atStart => exact ⟨0, D0, [], Nat.zero_le _, rfl, rfl, Nat.zero_le _, HA0.out, HR0.out⟩
  case round =>
    clear HA0 HR0
    obtain ⟨q, dn, out, hq, rfl, rfl, hol, HP, HQ⟩ := hrel
    rename_i vo
    by_cases hlt : q < n
    · obtain rfl := HA.out (by omega)
      have hlt2 : q < m.length := by rw [HN.out]; exact hlt
      have HST : Hid (rapp f.data.toList t.data.toList x dn (m.drop q) = (if !dn && leqS t.data.toList m[q].1 then [(t.data.toList, x)] else []) ++ ((if keepS f.data.toList t.data.toList m[q].1 then [m[q]] else []) ++ rapp f.data.toList t.data.toList x (dn || leqS t.data.toList m[q].1) (m.drop (q + 1)))) := by
        show rapp _ _ _ _ (m.drop q) = _
        rw [← List.getElem_cons_drop hlt2]
        rfl
      obtain ⟨c0, c1⟩ := HC.out q hlt2
      obtain ⟨nm, hnm⟩ : ∃ nm, bs m[q].1 = nm := ⟨_, rfl⟩
      obtain ⟨fx, hfx⟩ : ∃ fx, m[q].2 = fx := ⟨_, rfl⟩
      have hmq : m[q] = (nm.data.toList, fx) := by rw [← hnm, ← hfx, bs_data]
      rw [hnm] at c0
      rw [hfx] at c1
      rw [hmq] at HST
      have HC0 := Lib.hid (And.intro c0 c1)
      have HVO := Lib.hid (own_slice HP.out.own)
      have d0 := cell_below c0 HP.out.below rfl
      have d1 := cell_below c1 HP.out.below rfl
      obtain ⟨z0, z1, z2⟩ := HP.out.cells
      clear c0 c1 hnm hfx hmq hlt2
      obtain ⟨L1, hL1⟩ : ∃ L1, Op.bytesLess t.toList nm.toList = L1 := ⟨_, rfl⟩
      obtain ⟨L2, hL2⟩ : ∃ L2, (t.toList == nm.toList) = L2 := ⟨_, rfl⟩
      obtain ⟨K1, hK1⟩ : ∃ K1, (nm.toList == f.toList) = K1 := ⟨_, rfl⟩
      obtain ⟨K2, hK2⟩ : ∃ K2, (nm.toList == t.toList) = K2 := ⟨_, rfl⟩
      have HL : Hid (leqS t.data.toList nm.data.toList = (L1 || L2)) := by
        show leqS _ _ = _
        unfold leqS
        rw [← hL1, ← hL2, less_before, Lib.toList_data, Lib.toList_data]
      have HK : Hid (keepS f.data.toList t.data.toList nm.data.toList = (!K1 && !K2)) := by
        show keepS _ _ _ = _
        unfold keepS
        rw [← hK1, ← hK2, Lib.toList_data, Lib.toList_data, Lib.toList_data]
      rw [HL.out, HK.out] at HST
      cases dn with
      | true =>
        cases K1 with
        | true =>
          have HQ2 : Hid (out ++ rapp f.data.toList t.data.toList x true (m.drop (q + 1)) = R) := by
            have h1 := HQ.out
            rw [HST.out] at h1
            show _ = R
            rw [← h1]
            simp
          clear HST HL HK HQ
          go_wp2_with fail
          go_quiet (fail)
          have HP1 := Lib.hid (HP.out.drewN nq)
          generalize hw1 : World.drewN _ nq = w1 at HP1 ⊢
          clear d0 d1 z0 z1 z2 hw1 HP
          have d0 := cell_below HC0.out.1 HP1.out.below rfl
          have d1 := cell_below HC0.out.2 HP1.out.below rfl
          obtain ⟨z0, z1, z2⟩ := HP1.out.cells
          have hsz1 := HP1.out.below.size
          go_wp2_with fail
          go_quiet (fail)
          have HP3 := Lib.hid (HP1.out.drewN nq)
          generalize hw3 : World.drewN _ nq = w3 at HP3 ⊢
          clear d0 d1 z0 z1 z2 hw3 HP1
          have d0 := cell_below HC0.out.1 HP3.out.below rfl
          have d1 := cell_below HC0.out.2 HP3.out.below rfl
          obtain ⟨z0, z1, z2⟩ := HP3.out.cells
          have hsz3 := HP3.out.below.size
          go_wp2_with fail
          go_roundw
          case rel => exact ⟨q + 1, true, _, by omega, by go_num, rfl, by first | omega | (simp; omega), HP3.out, HQ2.out⟩
          case measure => simp [intOf]; omega
        | false =>
          cases K2 with
          | true =>
            have HQ2 : Hid (out ++ rapp f.data.toList t.data.toList x true (m.drop (q + 1)) = R) := by
              have h1 := HQ.out
              rw [HST.out] at h1
              show _ = R
              rw [← h1]
              simp
            clear HST HL HK HQ
            go_wp2_with fail
            go_quiet (fail)
            have HP1 := Lib.hid (HP.out.drewN nq)
            generalize hw1 : World.drewN _ nq = w1 at HP1 ⊢
            clear d0 d1 z0 z1 z2 hw1 HP
            have d0 := cell_below HC0.out.1 HP1.out.below rfl
            have d1 := cell_below HC0.out.2 HP1.out.below rfl
            obtain ⟨z0, z1, z2⟩ := HP1.out.cells
            have hsz1 := HP1.out.below.size
            go_wp2_with fail
            go_quiet (fail)
            have HP3 := Lib.hid (HP1.out.drewN nq)
            generalize hw3 : World.drewN _ nq = w3 at HP3 ⊢
            clear d0 d1 z0 z1 z2 hw3 HP1
            have d0 := cell_below HC0.out.1 HP3.out.below rfl
            have d1 := cell_below HC0.out.2 HP3.out.below rfl
            obtain ⟨z0, z1, z2⟩ := HP3.out.cells
            have hsz3 := HP3.out.below.size
            go_wp2_with fail
            go_roundw
            case rel => exact ⟨q + 1, true, _, by omega, by go_num, rfl, by first | omega | (simp; omega), HP3.out, HQ2.out⟩
            case measure => simp [intOf]; omega
          | false =>
            have HQ2 : Hid (out ++ [(nm.data.toList, fx)] ++ rapp f.data.toList t.data.toList x true (m.drop (q + 1)) = R) := by
              have h1 := HQ.out
              rw [HST.out] at h1
              show _ = R
              rw [← h1]
              simp
            clear HST HL HK HQ
            go_wp2_with fail
            go_quiet (fail)
            have HP1 := Lib.hid (HP.out.drewN nq)
            generalize hw1 : World.drewN _ nq = w1 at HP1 ⊢
            clear d0 d1 z0 z1 z2 hw1 HP
            have d0 := cell_below HC0.out.1 HP1.out.below rfl
            have d1 := cell_below HC0.out.2 HP1.out.below rfl
            obtain ⟨z0, z1, z2⟩ := HP1.out.cells
            have hsz1 := HP1.out.below.size
            go_wp2_with fail
            go_quiet (fail)
            have HP3 := Lib.hid (HP1.out.drewN nq)
            generalize hw3 : World.drewN _ nq = w3 at HP3 ⊢
            clear d0 d1 z0 z1 z2 hw3 HP1
            have d0 := cell_below HC0.out.1 HP3.out.below rfl
            have d1 := cell_below HC0.out.2 HP3.out.below rfl
            obtain ⟨z0, z1, z2⟩ := HP3.out.cells
            have hsz3 := HP3.out.below.size
            go_wp2_with (at_builtin; refine wpList_append_lies _ rfl _ _ 77 rfl W.heap.size 92 i0 (.agg #[.string ByteArray.empty, .int .i64 0]) 2 24 Try.underlying77 II.out.1 II.out.2.1 II.out.2.2.1 II.out.2.2.2 rfl (by decide) _ _ _ rfl (HP3.out.own.alloc _) ⟨w3.heap.size, 0, none⟩ 1 1 [.string nm, .int .i64 fx] rfl rfl (new_cellG w3 [.string nm, .int .i64 fx] 92 w3.heap.size rfl) ?b1x1 (by decide) ?b1x2 ?b1x3 ?b1x4 (w3.heap.size + 1) ?b1x5 ?_)
            all_goals try (first | rfl | (intro u hu; simp only [List.mem_cons, List.not_mem_nil, or_false] at hu; rcases hu with rfl | rfl <;> rfl) | (unfold maxLen; omega) | omega | (unfold maxLen; rw [List.length_append, List.length_singleton]; omega) | (rw [List.length_append, List.length_singleton]; omega) | (show _ ≤ (World.alloc _ _).heap.size; rw [alloc_sz]; have := HP3.out.below.size; omega) | (show (World.alloc _ _).heap.size = _; rw [alloc_sz]) | exact ⟨rfl, rfl⟩)
            intro gb1x capb1x w4 hownb1x hgrowb1x hgb1x hlb1x
            have HP4 := Lib.hid (HP3.out.app (Nat.le_refl _) hgrowb1x hownb1x)
            clear hownb1x hgrowb1x hgb1x hlb1x
            go_wp2_with fail
            go_roundw
            case rel => exact ⟨q + 1, true, _, by omega, by go_num, rfl, by first | omega | (simp; omega), HP4.out, HQ2.out⟩
            case measure => simp [intOf]; omega
      | false =>
        cases L1 with
        | true =>
          cases K1 with
          | true =>
            have HQ2 : Hid (out ++ [(t.data.toList, x)] ++ rapp f.data.toList t.data.toList x true (m.drop (q + 1)) = R) := by
              have h1 := HQ.out
              rw [HST.out] at h1
              show _ = R
              rw [← h1]
              simp
            clear HST HL HK HQ
            go_wp2_with fail
            go_quiet (fail)
            have HP1 := Lib.hid (HP.out.drewN nq)
            generalize hw1 : World.drewN _ nq = w1 at HP1 ⊢
            clear d0 d1 z0 z1 z2 hw1 HP
            have d0 := cell_below HC0.out.1 HP1.out.below rfl
            have d1 := cell_below HC0.out.2 HP1.out.below rfl
            obtain ⟨z0, z1, z2⟩ := HP1.out.cells
            have hsz1 := HP1.out.below.size
            go_wp2_with (at_builtin; refine wpList_append_lies _ rfl _ _ 77 rfl W.heap.size 92 i0 (.agg #[.string ByteArray.empty, .int .i64 0]) 2 24 Try.underlying77 II.out.1 II.out.2.1 II.out.2.2.1 II.out.2.2.2 rfl (by decide) _ _ _ rfl (HP1.out.own.alloc _) ⟨w1.heap.size, 0, none⟩ 1 1 [.string t, .int .i64 x] rfl rfl (new_cellG w1 [.string t, .int .i64 x] 92 w1.heap.size rfl) ?a2x1 (by decide) ?a2x2 ?a2x3 ?a2x4 (w1.heap.size + 1) ?a2x5 ?_)
            all_goals try (first | rfl | (intro u hu; simp only [List.mem_cons, List.not_mem_nil, or_false] at hu; rcases hu with rfl | rfl <;> rfl) | (unfold maxLen; omega) | omega | (unfold maxLen; rw [List.length_append, List.length_singleton]; omega) | (rw [List.length_append, List.length_singleton]; omega) | (show _ ≤ (World.alloc _ _).heap.size; rw [alloc_sz]; have := HP1.out.below.size; omega) | (show (World.alloc _ _).heap.size = _; rw [alloc_sz]) | exact ⟨rfl, rfl⟩)
            intro ga2x capa2x w2 howna2x hgrowa2x hga2x hla2x
            have HP2 := Lib.hid (HP1.out.app (Nat.le_refl _) hgrowa2x howna2x)
            clear howna2x hgrowa2x hga2x hla2x
            clear d0 d1 z0 z1 z2
            have d0 := cell_below HC0.out.1 HP2.out.below rfl
            have d1 := cell_below HC0.out.2 HP2.out.below rfl
            obtain ⟨z0, z1, z2⟩ := HP2.out.cells
            have hsz2 := HP2.out.below.size
            clear HP1
            generalize hout2 : out ++ [(t.data.toList, x)] = out2 at HP2 HQ2
            have hol2 : out2.length ≤ 2 * q + 1 := by rw [← hout2, List.length_append, List.length_singleton]; omega
            clear hout2
            go_wp2_with fail
            go_quiet (fail)
            have HP3 := Lib.hid (HP2.out.drewN nq)
            generalize hw3 : World.drewN _ nq = w3 at HP3 ⊢
            clear d0 d1 z0 z1 z2 hw3 HP2
            have d0 := cell_below HC0.out.1 HP3.out.below rfl
            have d1 := cell_below HC0.out.2 HP3.out.below rfl
            obtain ⟨z0, z1, z2⟩ := HP3.out.cells
            have hsz3 := HP3.out.below.size
            go_wp2_with fail
            go_roundw
            case rel => exact ⟨q + 1, true, _, by omega, by go_num, rfl, by first | omega | (simp; omega), HP3.out, HQ2.out⟩
            case measure => simp [intOf]; omega
          | false =>
            cases K2 with
            | true =>
              have HQ2 : Hid (out ++ [(t.data.toList, x)] ++ rapp f.data.toList t.data.toList x true (m.drop (q + 1)) = R) := by
                have h1 := HQ.out
                rw [HST.out] at h1
                show _ = R
                rw [← h1]
                simp
              clear HST HL HK HQ
              go_wp2_with fail
              go_quiet (fail)
              have HP1 := Lib.hid (HP.out.drewN nq)
              generalize hw1 : World.drewN _ nq = w1 at HP1 ⊢
              clear d0 d1 z0 z1 z2 hw1 HP
              have d0 := cell_below HC0.out.1 HP1.out.below rfl
              have d1 := cell_below HC0.out.2 HP1.out.below rfl
              obtain ⟨z0, z1, z2⟩ := HP1.out.cells
              have hsz1 := HP1.out.below.size
              go_wp2_with (at_builtin; refine wpList_append_lies _ rfl _ _ 77 rfl W.heap.size 92 i0 (.agg #[.string ByteArray.empty, .int .i64 0]) 2 24 Try.underlying77 II.out.1 II.out.2.1 II.out.2.2.1 II.out.2.2.2 rfl (by decide) _ _ _ rfl (HP1.out.own.alloc _) ⟨w1.heap.size, 0, none⟩ 1 1 [.string t, .int .i64 x] rfl rfl (new_cellG w1 [.string t, .int .i64 x] 92 w1.heap.size rfl) ?a3x1 (by decide) ?a3x2 ?a3x3 ?a3x4 (w1.heap.size + 1) ?a3x5 ?_)
              all_goals try (first | rfl | (intro u hu; simp only [List.mem_cons, List.not_mem_nil, or_false] at hu; rcases hu with rfl | rfl <;> rfl) | (unfold maxLen; omega) | omega | (unfold maxLen; rw [List.length_append, List.length_singleton]; omega) | (rw [List.length_append, List.length_singleton]; omega) | (show _ ≤ (World.alloc _ _).heap.size; rw [alloc_sz]; have := HP1.out.below.size; omega) | (show (World.alloc _ _).heap.size = _; rw [alloc_sz]) | exact ⟨rfl, rfl⟩)
              intro ga3x capa3x w2 howna3x hgrowa3x hga3x hla3x
              have HP2 := Lib.hid (HP1.out.app (Nat.le_refl _) hgrowa3x howna3x)
              clear howna3x hgrowa3x hga3x hla3x
              clear d0 d1 z0 z1 z2
              have d0 := cell_below HC0.out.1 HP2.out.below rfl
              have d1 := cell_below HC0.out.2 HP2.out.below rfl
              obtain ⟨z0, z1, z2⟩ := HP2.out.cells
              have hsz2 := HP2.out.below.size
              clear HP1
              generalize hout2 : out ++ [(t.data.toList, x)] = out2 at HP2 HQ2
              have hol2 : out2.length ≤ 2 * q + 1 := by rw [← hout2, List.length_append, List.length_singleton]; omega
              clear hout2
              go_wp2_with fail
              go_quiet (fail)
              have HP3 := Lib.hid (HP2.out.drewN nq)
              generalize hw3 : World.drewN _ nq = w3 at HP3 ⊢
              clear d0 d1 z0 z1 z2 hw3 HP2
              have d0 := cell_below HC0.out.1 HP3.out.below rfl
              have d1 := cell_below HC0.out.2 HP3.out.below rfl
              obtain ⟨z0, z1, z2⟩ := HP3.out.cells
              have hsz3 := HP3.out.below.size
              go_wp2_with fail
              go_roundw
              case rel => exact ⟨q + 1, true, _, by omega, by go_num, rfl, by first | omega | (simp; omega), HP3.out, HQ2.out⟩
              case measure => simp [intOf]; omega
            | false =>
              have HQ2 : Hid ((out ++ [(t.data.toList, x)]) ++ [(nm.data.toList, fx)] ++ rapp f.data.toList t.data.toList x true (m.drop (q + 1)) = R) := by
                have h1 := HQ.out
                rw [HST.out] at h1
                show _ = R
                rw [← h1]
                simp
              clear HST HL HK HQ
              go_wp2_with fail
              go_quiet (fail)
              have HP1 := Lib.hid (HP.out.drewN nq)
              generalize hw1 : World.drewN _ nq = w1 at HP1 ⊢
              clear d0 d1 z0 z1 z2 hw1 HP
              have d0 := cell_below HC0.out.1 HP1.out.below rfl
              have d1 := cell_below HC0.out.2 HP1.out.below rfl
              obtain ⟨z0, z1, z2⟩ := HP1.out.cells
              have hsz1 := HP1.out.below.size
              go_wp2_with (at_builtin; refine wpList_append_lies _ rfl _ _ 77 rfl W.heap.size 92 i0 (.agg #[.string ByteArray.empty, .int .i64 0]) 2 24 Try.underlying77 II.out.1 II.out.2.1 II.out.2.2.1 II.out.2.2.2 rfl (by decide) _ _ _ rfl (HP1.out.own.alloc _) ⟨w1.heap.size, 0, none⟩ 1 1 [.string t, .int .i64 x] rfl rfl (new_cellG w1 [.string t, .int .i64 x] 92 w1.heap.size rfl) ?a4x1 (by decide) ?a4x2 ?a4x3 ?a4x4 (w1.heap.size + 1) ?a4x5 ?_)
              all_goals try (first | rfl | (intro u hu; simp only [List.mem_cons, List.not_mem_nil, or_false] at hu; rcases hu with rfl | rfl <;> rfl) | (unfold maxLen; omega) | omega | (unfold maxLen; rw [List.length_append, List.length_singleton]; omega) | (rw [List.length_append, List.length_singleton]; omega) | (show _ ≤ (World.alloc _ _).heap.size; rw [alloc_sz]; have := HP1.out.below.size; omega) | (show (World.alloc _ _).heap.size = _; rw [alloc_sz]) | exact ⟨rfl, rfl⟩)
              intro ga4x capa4x w2 howna4x hgrowa4x hga4x hla4x
              have HP2 := Lib.hid (HP1.out.app (Nat.le_refl _) hgrowa4x howna4x)
              clear howna4x hgrowa4x hga4x hla4x
              clear d0 d1 z0 z1 z2
              have d0 := cell_below HC0.out.1 HP2.out.below rfl
              have d1 := cell_below HC0.out.2 HP2.out.below rfl
              obtain ⟨z0, z1, z2⟩ := HP2.out.cells
              have hsz2 := HP2.out.below.size
              clear HP1
              generalize hout2 : out ++ [(t.data.toList, x)] = out2 at HP2 HQ2
              have hol2 : out2.length ≤ 2 * q + 1 := by rw [← hout2, List.length_append, List.length_singleton]; omega
              clear hout2
              go_wp2_with fail
              go_quiet (fail)
              have HP3 := Lib.hid (HP2.out.drewN nq)
              generalize hw3 : World.drewN _ nq = w3 at HP3 ⊢
              clear d0 d1 z0 z1 z2 hw3 HP2
              have d0 := cell_below HC0.out.1 HP3.out.below rfl
              have d1 := cell_below HC0.out.2 HP3.out.below rfl
              obtain ⟨z0, z1, z2⟩ := HP3.out.cells
              have hsz3 := HP3.out.below.size
              go_wp2_with (at_builtin; refine wpList_append_lies _ rfl _ _ 77 rfl W.heap.size 92 i0 (.agg #[.string ByteArray.empty, .int .i64 0]) 2 24 Try.underlying77 II.out.1 II.out.2.1 II.out.2.2.1 II.out.2.2.2 rfl (by decide) _ _ _ rfl (HP3.out.own.alloc _) ⟨w3.heap.size, 0, none⟩ 1 1 [.string nm, .int .i64 fx] rfl rfl (new_cellG w3 [.string nm, .int .i64 fx] 92 w3.heap.size rfl) ?b5x1 (by decide) ?b5x2 ?b5x3 ?b5x4 (w3.heap.size + 1) ?b5x5 ?_)
              all_goals try (first | rfl | (intro u hu; simp only [List.mem_cons, List.not_mem_nil, or_false] at hu; rcases hu with rfl | rfl <;> rfl) | (unfold maxLen; omega) | omega | (unfold maxLen; rw [List.length_append, List.length_singleton]; omega) | (rw [List.length_append, List.length_singleton]; omega) | (show _ ≤ (World.alloc _ _).heap.size; rw [alloc_sz]; have := HP3.out.below.size; omega) | (show (World.alloc _ _).heap.size = _; rw [alloc_sz]) | exact ⟨rfl, rfl⟩)
              intro gb5x capb5x w4 hownb5x hgrowb5x hgb5x hlb5x
              have HP4 := Lib.hid (HP3.out.app (Nat.le_refl _) hgrowb5x hownb5x)
              clear hownb5x hgrowb5x hgb5x hlb5x
              go_wp2_with fail
              go_roundw
              case rel => exact ⟨q + 1, true, _, by omega, by go_num, rfl, by first | omega | (simp; omega), HP4.out, HQ2.out⟩
              case measure => simp [intOf]; omega
        | false =>
          cases L2 with
          | true =>
            cases K1 with
            | true =>
              have HQ2 : Hid (out ++ [(t.data.toList, x)] ++ rapp f.data.toList t.data.toList x true (m.drop (q + 1)) = R) := by
                have h1 := HQ.out
                rw [HST.out] at h1
                show _ = R
                rw [← h1]
                simp
              clear HST HL HK HQ
              go_wp2_with fail
              go_quiet (fail)
              have HP1 := Lib.hid (HP.out.drewN nq)
              generalize hw1 : World.drewN _ nq = w1 at HP1 ⊢
              clear d0 d1 z0 z1 z2 hw1 HP
              have d0 := cell_below HC0.out.1 HP1.out.below rfl
              have d1 := cell_below HC0.out.2 HP1.out.below rfl
              obtain ⟨z0, z1, z2⟩ := HP1.out.cells
              have hsz1 := HP1.out.below.size
              go_wp2_with (at_builtin; refine wpList_append_lies _ rfl _ _ 77 rfl W.heap.size 92 i0 (.agg #[.string ByteArray.empty, .int .i64 0]) 2 24 Try.underlying77 II.out.1 II.out.2.1 II.out.2.2.1 II.out.2.2.2 rfl (by decide) _ _ _ rfl (HP1.out.own.alloc _) ⟨w1.heap.size, 0, none⟩ 1 1 [.string t, .int .i64 x] rfl rfl (new_cellG w1 [.string t, .int .i64 x] 92 w1.heap.size rfl) ?a6x1 (by decide) ?a6x2 ?a6x3 ?a6x4 (w1.heap.size + 1) ?a6x5 ?_)
              all_goals try (first | rfl | (intro u hu; simp only [List.mem_cons, List.not_mem_nil, or_false] at hu; rcases hu with rfl | rfl <;> rfl) | (unfold maxLen; omega) | omega | (unfold maxLen; rw [List.length_append, List.length_singleton]; omega) | (rw [List.length_append, List.length_singleton]; omega) | (show _ ≤ (World.alloc _ _).heap.size; rw [alloc_sz]; have := HP1.out.below.size; omega) | (show (World.alloc _ _).heap.size = _; rw [alloc_sz]) | exact ⟨rfl, rfl⟩)
              intro ga6x capa6x w2 howna6x hgrowa6x hga6x hla6x
              have HP2 := Lib.hid (HP1.out.app (Nat.le_refl _) hgrowa6x howna6x)
              clear howna6x hgrowa6x hga6x hla6x
              clear d0 d1 z0 z1 z2
              have d0 := cell_below HC0.out.1 HP2.out.below rfl
              have d1 := cell_below HC0.out.2 HP2.out.below rfl
              obtain ⟨z0, z1, z2⟩ := HP2.out.cells
              have hsz2 := HP2.out.below.size
              clear HP1
              generalize hout2 : out ++ [(t.data.toList, x)] = out2 at HP2 HQ2
              have hol2 : out2.length ≤ 2 * q + 1 := by rw [← hout2, List.length_append, List.length_singleton]; omega
              clear hout2
              go_wp2_with fail
              go_quiet (fail)
              have HP3 := Lib.hid (HP2.out.drewN nq)
              generalize hw3 : World.drewN _ nq = w3 at HP3 ⊢
              clear d0 d1 z0 z1 z2 hw3 HP2
              have d0 := cell_below HC0.out.1 HP3.out.below rfl
              have d1 := cell_below HC0.out.2 HP3.out.below rfl
              obtain ⟨z0, z1, z2⟩ := HP3.out.cells
              have hsz3 := HP3.out.below.size
              go_wp2_with fail
              go_roundw
              case rel => exact ⟨q + 1, true, _, by omega, by go_num, rfl, by first | omega | (simp; omega), HP3.out, HQ2.out⟩
              case measure => simp [intOf]; omega
            | false =>
              cases K2 with
              | true =>
                have HQ2 : Hid (out ++ [(t.data.toList, x)] ++ rapp f.data.toList t.data.toList x true (m.drop (q + 1)) = R) := by
                  have h1 := HQ.out
                  rw [HST.out] at h1
                  show _ = R
                  rw [← h1]
                  simp
                clear HST HL HK HQ
                go_wp2_with fail
                go_quiet (fail)
                have HP1 := Lib.hid (HP.out.drewN nq)
                generalize hw1 : World.drewN _ nq = w1 at HP1 ⊢
                clear d0 d1 z0 z1 z2 hw1 HP
                have d0 := cell_below HC0.out.1 HP1.out.below rfl
                have d1 := cell_below HC0.out.2 HP1.out.below rfl
                obtain ⟨z0, z1, z2⟩ := HP1.out.cells
                have hsz1 := HP1.out.below.size
                go_wp2_with (at_builtin; refine wpList_append_lies _ rfl _ _ 77 rfl W.heap.size 92 i0 (.agg #[.string ByteArray.empty, .int .i64 0]) 2 24 Try.underlying77 II.out.1 II.out.2.1 II.out.2.2.1 II.out.2.2.2 rfl (by decide) _ _ _ rfl (HP1.out.own.alloc _) ⟨w1.heap.size, 0, none⟩ 1 1 [.string t, .int .i64 x] rfl rfl (new_cellG w1 [.string t, .int .i64 x] 92 w1.heap.size rfl) ?a7x1 (by decide) ?a7x2 ?a7x3 ?a7x4 (w1.heap.size + 1) ?a7x5 ?_)
                all_goals try (first | rfl | (intro u hu; simp only [List.mem_cons, List.not_mem_nil, or_false] at hu; rcases hu with rfl | rfl <;> rfl) | (unfold maxLen; omega) | omega | (unfold maxLen; rw [List.length_append, List.length_singleton]; omega) | (rw [List.length_append, List.length_singleton]; omega) | (show _ ≤ (World.alloc _ _).heap.size; rw [alloc_sz]; have := HP1.out.below.size; omega) | (show (World.alloc _ _).heap.size = _; rw [alloc_sz]) | exact ⟨rfl, rfl⟩)
                intro ga7x capa7x w2 howna7x hgrowa7x hga7x hla7x
                have HP2 := Lib.hid (HP1.out.app (Nat.le_refl _) hgrowa7x howna7x)
                clear howna7x hgrowa7x hga7x hla7x
                clear d0 d1 z0 z1 z2
                have d0 := cell_below HC0.out.1 HP2.out.below rfl
                have d1 := cell_below HC0.out.2 HP2.out.below rfl
                obtain ⟨z0, z1, z2⟩ := HP2.out.cells
                have hsz2 := HP2.out.below.size
                clear HP1
                generalize hout2 : out ++ [(t.data.toList, x)] = out2 at HP2 HQ2
                have hol2 : out2.length ≤ 2 * q + 1 := by rw [← hout2, List.length_append, List.length_singleton]; omega
                clear hout2
                go_wp2_with fail
                go_quiet (fail)
                have HP3 := Lib.hid (HP2.out.drewN nq)
                generalize hw3 : World.drewN _ nq = w3 at HP3 ⊢
                clear d0 d1 z0 z1 z2 hw3 HP2
                have d0 := cell_below HC0.out.1 HP3.out.below rfl
                have d1 := cell_below HC0.out.2 HP3.out.below rfl
                obtain ⟨z0, z1, z2⟩ := HP3.out.cells
                have hsz3 := HP3.out.below.size
                go_wp2_with fail
                go_roundw
                case rel => exact ⟨q + 1, true, _, by omega, by go_num, rfl, by first | omega | (simp; omega), HP3.out, HQ2.out⟩
                case measure => simp [intOf]; omega
              | false =>
                have HQ2 : Hid ((out ++ [(t.data.toList, x)]) ++ [(nm.data.toList, fx)] ++ rapp f.data.toList t.data.toList x true (m.drop (q + 1)) = R) := by
                  have h1 := HQ.out
                  rw [HST.out] at h1
                  show _ = R
                  rw [← h1]
                  simp
                clear HST HL HK HQ
                go_wp2_with fail
                go_quiet (fail)
                have HP1 := Lib.hid (HP.out.drewN nq)
                generalize hw1 : World.drewN _ nq = w1 at HP1 ⊢
                clear d0 d1 z0 z1 z2 hw1 HP
                have d0 := cell_below HC0.out.1 HP1.out.below rfl
                have d1 := cell_below HC0.out.2 HP1.out.below rfl
                obtain ⟨z0, z1, z2⟩ := HP1.out.cells
                have hsz1 := HP1.out.below.size
                go_wp2_with (at_builtin; refine wpList_append_lies _ rfl _ _ 77 rfl W.heap.size 92 i0 (.agg #[.string ByteArray.empty, .int .i64 0]) 2 24 Try.underlying77 II.out.1 II.out.2.1 II.out.2.2.1 II.out.2.2.2 rfl (by decide) _ _ _ rfl (HP1.out.own.alloc _) ⟨w1.heap.size, 0, none⟩ 1 1 [.string t, .int .i64 x] rfl rfl (new_cellG w1 [.string t, .int .i64 x] 92 w1.heap.size rfl) ?a8x1 (by decide) ?a8x2 ?a8x3 ?a8x4 (w1.heap.size + 1) ?a8x5 ?_)
                all_goals try (first | rfl | (intro u hu; simp only [List.mem_cons, List.not_mem_nil, or_false] at hu; rcases hu with rfl | rfl <;> rfl) | (unfold maxLen; omega) | omega | (unfold maxLen; rw [List.length_append, List.length_singleton]; omega) | (rw [List.length_append, List.length_singleton]; omega) | (show _ ≤ (World.alloc _ _).heap.size; rw [alloc_sz]; have := HP1.out.below.size; omega) | (show (World.alloc _ _).heap.size = _; rw [alloc_sz]) | exact ⟨rfl, rfl⟩)
                intro ga8x capa8x w2 howna8x hgrowa8x hga8x hla8x
                have HP2 := Lib.hid (HP1.out.app (Nat.le_refl _) hgrowa8x howna8x)
                clear howna8x hgrowa8x hga8x hla8x
                clear d0 d1 z0 z1 z2
                have d0 := cell_below HC0.out.1 HP2.out.below rfl
                have d1 := cell_below HC0.out.2 HP2.out.below rfl
                obtain ⟨z0, z1, z2⟩ := HP2.out.cells
                have hsz2 := HP2.out.below.size
                clear HP1
                generalize hout2 : out ++ [(t.data.toList, x)] = out2 at HP2 HQ2
                have hol2 : out2.length ≤ 2 * q + 1 := by rw [← hout2, List.length_append, List.length_singleton]; omega
                clear hout2
                go_wp2_with fail
                go_quiet (fail)
                have HP3 := Lib.hid (HP2.out.drewN nq)
                generalize hw3 : World.drewN _ nq = w3 at HP3 ⊢
                clear d0 d1 z0 z1 z2 hw3 HP2
                have d0 := cell_below HC0.out.1 HP3.out.below rfl
                have d1 := cell_below HC0.out.2 HP3.out.below rfl
                obtain ⟨z0, z1, z2⟩ := HP3.out.cells
                have hsz3 := HP3.out.below.size
                go_wp2_with (at_builtin; refine wpList_append_lies _ rfl _ _ 77 rfl W.heap.size 92 i0 (.agg #[.string ByteArray.empty, .int .i64 0]) 2 24 Try.underlying77 II.out.1 II.out.2.1 II.out.2.2.1 II.out.2.2.2 rfl (by decide) _ _ _ rfl (HP3.out.own.alloc _) ⟨w3.heap.size, 0, none⟩ 1 1 [.string nm, .int .i64 fx] rfl rfl (new_cellG w3 [.string nm, .int .i64 fx] 92 w3.heap.size rfl) ?b9x1 (by decide) ?b9x2 ?b9x3 ?b9x4 (w3.heap.size + 1) ?b9x5 ?_)
                all_goals try (first | rfl | (intro u hu; simp only [List.mem_cons, List.not_mem_nil, or_false] at hu; rcases hu with rfl | rfl <;> rfl) | (unfold maxLen; omega) | omega | (unfold maxLen; rw [List.length_append, List.length_singleton]; omega) | (rw [List.length_append, List.length_singleton]; omega) | (show _ ≤ (World.alloc _ _).heap.size; rw [alloc_sz]; have := HP3.out.below.size; omega) | (show (World.alloc _ _).heap.size = _; rw [alloc_sz]) | exact ⟨rfl, rfl⟩)
                intro gb9x capb9x w4 hownb9x hgrowb9x hgb9x hlb9x
                have HP4 := Lib.hid (HP3.out.app (Nat.le_refl _) hgrowb9x hownb9x)
                clear hownb9x hgrowb9x hgb9x hlb9x
                go_wp2_with fail
                go_roundw
                case rel => exact ⟨q + 1, true, _, by omega, by go_num, rfl, by first | omega | (simp; omega), HP4.out, HQ2.out⟩
                case measure => simp [intOf]; omega
          | false =>
            cases K1 with
            | true =>
              have HQ2 : Hid (out ++ rapp f.data.toList t.data.toList x false (m.drop (q + 1)) = R) := by
                have h1 := HQ.out
                rw [HST.out] at h1
                show _ = R
                rw [← h1]
                simp
              clear HST HL HK HQ
              go_wp2_with fail
              go_quiet (fail)
              have HP1 := Lib.hid (HP.out.drewN nq)
              generalize hw1 : World.drewN _ nq = w1 at HP1 ⊢
              clear d0 d1 z0 z1 z2 hw1 HP
              have d0 := cell_below HC0.out.1 HP1.out.below rfl
              have d1 := cell_below HC0.out.2 HP1.out.below rfl
              obtain ⟨z0, z1, z2⟩ := HP1.out.cells
              have hsz1 := HP1.out.below.size
              go_wp2_with fail
              go_quiet (fail)
              have HP3 := Lib.hid (HP1.out.drewN nq)
              generalize hw3 : World.drewN _ nq = w3 at HP3 ⊢
              clear d0 d1 z0 z1 z2 hw3 HP1
              have d0 := cell_below HC0.out.1 HP3.out.below rfl
              have d1 := cell_below HC0.out.2 HP3.out.below rfl
              obtain ⟨z0, z1, z2⟩ := HP3.out.cells
              have hsz3 := HP3.out.below.size
              go_wp2_with fail
              go_roundw
              case rel => exact ⟨q + 1, false, _, by omega, by go_num, rfl, by first | omega | (simp; omega), HP3.out, HQ2.out⟩
              case measure => simp [intOf]; omega
            | false =>
              cases K2 with
              | true =>
                have HQ2 : Hid (out ++ rapp f.data.toList t.data.toList x false (m.drop (q + 1)) = R) := by
                  have h1 := HQ.out
                  rw [HST.out] at h1
                  show _ = R
                  rw [← h1]
                  simp
                clear HST HL HK HQ
                go_wp2_with fail
                go_quiet (fail)
                have HP1 := Lib.hid (HP.out.drewN nq)
                generalize hw1 : World.drewN _ nq = w1 at HP1 ⊢
                clear d0 d1 z0 z1 z2 hw1 HP
                have d0 := cell_below HC0.out.1 HP1.out.below rfl
                have d1 := cell_below HC0.out.2 HP1.out.below rfl
                obtain ⟨z0, z1, z2⟩ := HP1.out.cells
                have hsz1 := HP1.out.below.size
                go_wp2_with fail
                go_quiet (fail)
                have HP3 := Lib.hid (HP1.out.drewN nq)
                generalize hw3 : World.drewN _ nq = w3 at HP3 ⊢
                clear d0 d1 z0 z1 z2 hw3 HP1
                have d0 := cell_below HC0.out.1 HP3.out.below rfl
                have d1 := cell_below HC0.out.2 HP3.out.below rfl
                obtain ⟨z0, z1, z2⟩ := HP3.out.cells
                have hsz3 := HP3.out.below.size
                go_wp2_with fail
                go_roundw
                case rel => exact ⟨q + 1, false, _, by omega, by go_num, rfl, by first | omega | (simp; omega), HP3.out, HQ2.out⟩
                case measure => simp [intOf]; omega
              | false =>
                have HQ2 : Hid (out ++ [(nm.data.toList, fx)] ++ rapp f.data.toList t.data.toList x false (m.drop (q + 1)) = R) := by
                  have h1 := HQ.out
                  rw [HST.out] at h1
                  show _ = R
                  rw [← h1]
                  simp
                clear HST HL HK HQ
                go_wp2_with fail
                go_quiet (fail)
                have HP1 := Lib.hid (HP.out.drewN nq)
                generalize hw1 : World.drewN _ nq = w1 at HP1 ⊢
                clear d0 d1 z0 z1 z2 hw1 HP
                have d0 := cell_below HC0.out.1 HP1.out.below rfl
                have d1 := cell_below HC0.out.2 HP1.out.below rfl
                obtain ⟨z0, z1, z2⟩ := HP1.out.cells
                have hsz1 := HP1.out.below.size
                go_wp2_with fail
                go_quiet (fail)
                have HP3 := Lib.hid (HP1.out.drewN nq)
                generalize hw3 : World.drewN _ nq = w3 at HP3 ⊢
                clear d0 d1 z0 z1 z2 hw3 HP1
                have d0 := cell_below HC0.out.1 HP3.out.below rfl
                have d1 := cell_below HC0.out.2 HP3.out.below rfl
                obtain ⟨z0, z1, z2⟩ := HP3.out.cells
                have hsz3 := HP3.out.below.size
                go_wp2_with (at_builtin; refine wpList_append_lies _ rfl _ _ 77 rfl W.heap.size 92 i0 (.agg #[.string ByteArray.empty, .int .i64 0]) 2 24 Try.underlying77 II.out.1 II.out.2.1 II.out.2.2.1 II.out.2.2.2 rfl (by decide) _ _ _ rfl (HP3.out.own.alloc _) ⟨w3.heap.size, 0, none⟩ 1 1 [.string nm, .int .i64 fx] rfl rfl (new_cellG w3 [.string nm, .int .i64 fx] 92 w3.heap.size rfl) ?b10x1 (by decide) ?b10x2 ?b10x3 ?b10x4 (w3.heap.size + 1) ?b10x5 ?_)
                all_goals try (first | rfl | (intro u hu; simp only [List.mem_cons, List.not_mem_nil, or_false] at hu; rcases hu with rfl | rfl <;> rfl) | (unfold maxLen; omega) | omega | (unfold maxLen; rw [List.length_append, List.length_singleton]; omega) | (rw [List.length_append, List.length_singleton]; omega) | (show _ ≤ (World.alloc _ _).heap.size; rw [alloc_sz]; have := HP3.out.below.size; omega) | (show (World.alloc _ _).heap.size = _; rw [alloc_sz]) | exact ⟨rfl, rfl⟩)
                intro gb10x capb10x w4 hownb10x hgrowb10x hgb10x hlb10x
                have HP4 := Lib.hid (HP3.out.app (Nat.le_refl _) hgrowb10x hownb10x)
                clear hownb10x hgrowb10x hgb10x hlb10x
                go_wp2_with fail
                go_roundw
                case rel => exact ⟨q + 1, false, _, by omega, by go_num, rfl, by first | omega | (simp; omega), HP4.out, HQ2.out⟩
                case measure => simp [intOf]; omega
    · have hqn : q = n := by omega
      have hdr : m.drop q = [] := List.drop_eq_nil_iff.2 (by rw [HN.out]; omega)
      have HE : Hid (out ++ rapp f.data.toList t.data.toList x dn [] = R) := by have := HQ.out; rw [hdr] at this; exact this
      obtain ⟨z0, z1, z2⟩ := HP.out.cells
      have hsz := HP.out.below.size
      clear hdr HQ hlt
      cases dn with
      | true =>
        go_wp2_with fail
        go_ret
        have e : out = R := by have := HE.out; simpa [rapp] using this
        rw [← e]
        exact ⟨_, rfl, HP.out.own, HP.out.below⟩
      | false =>
        have HVO := Lib.hid (own_slice HP.out.own)
        go_wp2_with (at_builtin; refine wpList_append_lies _ rfl _ _ 77 rfl W.heap.size 92 i0 (.agg #[.string ByteArray.empty, .int .i64 0]) 2 24 Try.underlying77 II.out.1 II.out.2.1 II.out.2.2.1 II.out.2.2.2 rfl (by decide) _ _ _ rfl (HP.out.own.alloc _) ⟨wr.heap.size, 0, none⟩ 1 1 [.string t, .int .i64 x] rfl rfl (new_cellG wr [.string t, .int .i64 x] 92 wr.heap.size rfl) ?c11x1 (by decide) ?c11x2 ?c11x3 ?c11x4 (wr.heap.size + 1) ?c11x5 ?_)
        all_goals try (first | rfl | (intro u hu; simp only [List.mem_cons, List.not_mem_nil, or_false] at hu; rcases hu with rfl | rfl <;> rfl) | (unfold maxLen; omega) | omega | (unfold maxLen; rw [List.length_append, List.length_singleton]; omega) | (rw [List.length_append, List.length_singleton]; omega) | (show _ ≤ (World.alloc _ _).heap.size; rw [alloc_sz]; have := HP.out.below.size; omega) | (show (World.alloc _ _).heap.size = _; rw [alloc_sz]) | exact ⟨rfl, rfl⟩)
        intro gc11x capc11x w2 hownc11x hgrowc11x hgc11x hlc11x
        have HP2 := Lib.hid (HP.out.app (Nat.le_refl _) hgrowc11x hownc11x)
        clear hownc11x hgrowc11x hgc11x hlc11x
        go_wp2_with fail
        go_ret
        have e : out ++ [(t.data.toList, x)] = R := by have := HE.out; simpa [rapp] using this
        rw [← e]
        exact ⟨_, rfl, HP2.out.own, HP2.out.below⟩
end Go.Proofs.Ytcobjjaicckgpaa.Vf
/- The reference's state; begin; the functions that read. -/
namespace Go.Proofs.Ytcobjjaicckgpaa.Vf
open Go Go.RowKit Go.Maps Go.Proofs.Ytcobjjaicckgpaa Go.Proofs.Ytcobjjaicckgpaa.Bs
set_option linter.unusedVariables false

structure RL where
  G : Nat
  fv : Value
  dv : Value
  uv : Value
  pv : Value
def armI (a : AS) : Int := if a.armed = true then a.after else -1
def gCells (o : RL) (a : AS) : Array Value := #[o.fv, o.dv, o.uv, o.pv, .bool a.down, .int .i64 (armI a), .int .i64 a.err]
structure Ri (w : World) (B : Nat) (o : RL) (a : AS) : Prop where
  fs : w.heap[o.G]? = some (Obj.cells (gCells o a) 80 (0, 0))
  files : w.ownsRow B 90 3 o.fv a.files.length (a.files.flatMap fcells)
  dir : w.ownsRow B 92 2 o.dv a.names.length (a.names.flatMap lcells)
  dur : w.ownsRow B 92 2 o.uv a.dur.length (a.dur.flatMap lcells)
  pend : w.ownsRow B 88 3 o.pv a.pend.length (a.pend.flatMap dcells)
  bG : B ≤ o.G
/-- The blocks that the reference writes. -/
def rfoot (o : RL) (k : Nat) : Prop := k = o.G ∨ o.fv.ownBlock = some k
theorem Ri.kept {w w' : World} {B : Nat} {o : RL} {a : AS} (h : Ri w B o a) (hk : ∀ (k : Nat) (cur : Array Value) (t : TypeId) (fr : Nat × Nat), w.heap[k]? = some (Obj.cells cur t fr) → (t = 80 ∨ t = 90 ∨ t = 92 ∨ t = 88) → w'.heap[k]? = w.heap[k]?) : Ri w' B o a where
  fs := by rw [hk _ _ _ _ h.fs (.inl rfl)]; exact h.fs
  files := own_kept h.files fun g hg => by obtain ⟨cur, hc⟩ := own_block h.files hg; exact hk _ _ _ _ hc (.inr (.inl rfl))
  dir := own_kept h.dir fun g hg => by obtain ⟨cur, hc⟩ := own_block h.dir hg; exact hk _ _ _ _ hc (.inr (.inr (.inl rfl)))
  dur := own_kept h.dur fun g hg => by obtain ⟨cur, hc⟩ := own_block h.dur hg; exact hk _ _ _ _ hc (.inr (.inr (.inl rfl)))
  pend := own_kept h.pend fun g hg => by obtain ⟨cur, hc⟩ := own_block h.pend hg; exact hk _ _ _ _ hc (.inr (.inr (.inr rfl)))
  bG := h.bG
theorem Ri.below {w w' : World} {B : Nat} {o : RL} {a : AS} (h : Ri w B o a) (hb : Below w.heap.size w w') : Ri w' B o a := h.kept fun k cur t fr hk _ => hb.block k (lt_of_heap hk)
theorem Ri.drewN {w : World} {B : Nat} {o : RL} {a : AS} (h : Ri w B o a) (n : Nat) : Ri (w.drewN n) B o a := h.kept fun _ _ _ _ _ _ => rfl
theorem g_flags {w : World} {B : Nat} {o : RL} {a : AS} (h : Ri w B o a) : w.cell? ⟨o.G, 0, none⟩ = some o.fv ∧ w.cell? ⟨o.G, 1, none⟩ = some o.dv ∧ w.cell? ⟨o.G, 2, none⟩ = some o.uv ∧ w.cell? ⟨o.G, 3, none⟩ = some o.pv ∧ w.cell? ⟨o.G, 4, none⟩ = some (.bool a.down) ∧ w.cell? ⟨o.G, 5, none⟩ = some (.int .i64 (armI a)) ∧ w.cell? ⟨o.G, 6, none⟩ = some (.int .i64 a.err) ∧ ∀ j, w.frozen? ⟨o.G, j, none⟩ = false := by
  unfold World.cell? World.frozen?
  simp only [h.fs]
  exact ⟨rfl, rfl, rfl, rfl, rfl, rfl, rfl, fun j => by simp⟩
/-- One field of the reference's struct is set. -/
theorem Ri.set {w : World} {B j : Nat} {o o' : RL} {a a' : AS} {v : Value} (h : Ri w B o a) (hG : o'.G = o.G) (hc : (gCells o a).setIfInBounds j v = gCells o' a')
    (h1 : w.ownsRow B 90 3 o'.fv a'.files.length (a'.files.flatMap fcells)) (h2 : w.ownsRow B 92 2 o'.dv a'.names.length (a'.names.flatMap lcells)) (h3 : w.ownsRow B 92 2 o'.uv a'.dur.length (a'.dur.flatMap lcells)) (h4 : w.ownsRow B 88 3 o'.pv a'.pend.length (a'.pend.flatMap dcells)) :
    Ri (w.setCell ⟨o.G, j, none⟩ v) B o' a' := by
  have hF := heap_setCell_same w o.G j _ _ v h.fs
  have KC : ∀ (k : Nat) (cur : Array Value) (t : TypeId) (fr : Nat × Nat), w.heap[k]? = some (Obj.cells cur t fr) → t ≠ 80 → (w.setCell ⟨o.G, j, none⟩ v).heap[k]? = w.heap[k]? := fun k cur t fr hk ht => heap_setCell_other _ _ _ _ (ne_of hk h.fs ht)
  exact
    { fs := by rw [hG, hF]; rw [← hc]
      files := own_kept h1 fun g hg => by obtain ⟨cur, hc⟩ := own_block h1 hg; exact KC _ _ _ _ hc (by decide)
      dir := own_kept h2 fun g hg => by obtain ⟨cur, hc⟩ := own_block h2 hg; exact KC _ _ _ _ hc (by decide)
      dur := own_kept h3 fun g hg => by obtain ⟨cur, hc⟩ := own_block h3 hg; exact KC _ _ _ _ hc (by decide)
      pend := own_kept h4 fun g hg => by obtain ⟨cur, hc⟩ := own_block h4 hg; exact KC _ _ _ _ hc (by decide)
      bG := by rw [hG]; exact h.bG }
/-- A call's post: the result, the state, what it has left alone. -/
def RAft (W : World) (B : Nat) (o : RL) (r : Value) (a' : AS) (e : Ending) (w' : World) : Prop := e = .returned r ∧ ∃ o', o'.G = o.G ∧ Ri w' B o' a' ∧ Fr W w' (rfoot o) ∧ ∀ k, rfoot o' k → rfoot o k ∨ W.heap.size ≤ k
/-- The reference's begin. -/
def AS.begin (a : AS) : Int × AS := if a.down = true then (24, a) else if a.armed = false then (0, a) else if 0 < a.after then (0, { a with after := a.after - 1 }) else (a.err, { a with armed := false, down := a.err == 24 })
set_option maxRecDepth 100000 in
set_option maxHeartbeats 4000000 in
theorem begin_is (B : Nat) (o : RL) (a : AS) (W : World) (h : Ri W B o a) (hf : a.Af) :
    Calls Try.prog 55 #[.pointer (some ⟨o.G, 0, none⟩)] W (RAft W B o (.int .i64 a.begin.1) a.begin.2) := by
  obtain ⟨-, -, -, -, c4, c5, c6, fz⟩ := g_flags h
  have f5 := fz 5
  have f4 := fz 4
  have HI := Lib.hid h
  cases hd : a.down with
  | true =>
    have e1 : a.begin = (24, a) := by unfold AS.begin; rw [if_pos hd]
    rw [e1]
    rw [hd] at c4
    clear h fz
    go_enter Try.func55, Try.ntmps55
    go_wp2_with fail
    go_ret
    exact ⟨rfl, o, rfl, HI.out, Fr.drewN W 0 _, fun k hk => .inl hk⟩
  | false =>
    rw [hd] at c4
    cases hr : a.armed with
    | false =>
      have e1 : a.begin = (0, a) := by unfold AS.begin; rw [if_neg (by rw [hd]; decide), if_pos hr]
      have e2 : armI a = -1 := by unfold armI; rw [hr]; rfl
      rw [e1]
      rw [e2] at c5
      clear h fz
      go_enter Try.func55, Try.ntmps55
      go_wp2_with fail
      go_ret
      exact ⟨rfl, o, rfl, HI.out, Fr.drewN W 0 _, fun k hk => .inl hk⟩
    | true =>
      have e2 : armI a = a.after := by unfold armI; rw [hr]; rfl
      rw [e2] at c5
      by_cases hz : 0 < a.after
      · have e1 : a.begin = (0, { a with after := a.after - 1 }) := by unfold AS.begin; rw [if_neg (by rw [hd]; decide), if_neg (by rw [hr]; decide), if_pos hz]
        rw [e1]
        have hw0 := wrap_pred hz hf.2
        have hS := Lib.hid (h.set (j := 5) (v := .int .i64 (a.after - 1)) (o' := o) (a' := { a with after := a.after - 1 }) rfl (by unfold gCells armI; simp [hr]) h.files h.dir h.dur h.pend)
        obtain ⟨y, hy⟩ : ∃ y, a.after - 1 = y := ⟨_, rfl⟩
        rw [hy] at hS ⊢
        have hw : IntKind.i64.wrap (a.after - 1) = y := hw0.trans hy
        have hw2 : RowKit.wrap64 (a.after - 1) = y := by rw [← IntWalk.i64_left]; exact hw
        have g1 : decide (a.after < (0 : Int)) = false := decide_eq_false (by omega)
        have g2 : decide ((0 : Int) ≤ y) = true := decide_eq_true (by omega)
        generalize a.after = x at c5 hw hw2 g1
        clear h fz hf hz hy hw0
        go_enter Try.func55, Try.ntmps55
        go_wp2_with fail
        go_ret
        exact ⟨rfl, o, rfl, hS.out, Fr.set _ _ _ _ (.inl rfl), fun k hk => .inl hk⟩
      · have e1 : a.begin = (a.err, { a with armed := false, down := a.err == 24 }) := by unfold AS.begin; rw [if_neg (by rw [hd]; decide), if_neg (by rw [hr]; decide), if_neg hz]
        have h0 : a.after = 0 := by have := hf.1; omega
        rw [e1]
        rw [h0] at c5
        have hS1 := h.set (j := 5) (v := .int .i64 (-1)) (o' := o) (a' := { a with armed := false }) rfl (by unfold gCells armI; simp) h.files h.dir h.dur h.pend
        have hS2 := Lib.hid (hS1.set (j := 4) (v := .bool (a.err == 24)) (o' := o) (a' := { a with armed := false, down := a.err == 24 }) rfl (by unfold gCells armI; simp) hS1.files hS1.dir hS1.dur hS1.pend)
        obtain ⟨dn, hdn⟩ : ∃ dn, (a.err == (24 : Int)) = dn := ⟨_, rfl⟩
        rw [hdn] at hS2 ⊢
        clear h fz hf hz hS1
        go_enter Try.func55, Try.ntmps55
        go_wp2_with fail
        go_ret
        exact ⟨rfl, o, rfl, hS2.out, (Fr.set _ _ _ _ (.inl rfl)).trans (Fr.set _ _ _ (rfoot o) (.inl rfl)) (fun _ _ e => e), fun k hk => .inl hk⟩
end Go.Proofs.Ytcobjjaicckgpaa.Vf
/- The reference: Read, List, Dirty, New, Arm. -/
namespace Go.Proofs.Ytcobjjaicckgpaa.Vf
open Go Go.RowKit Go.Maps Go.Proofs.Ytcobjjaicckgpaa Go.Proofs.Ytcobjjaicckgpaa.Bs
set_option linter.unusedVariables false

theorem fnd_some {m : Nm} {k : List UInt8} {i : Nat} (h : findS m k = some i) : fnd m k = (i : Int) := by unfold fnd; rw [h]
theorem fnd_none {m : Nm} {k : List UInt8} (h : findS m k = none) : fnd m k = -1 := by unfold fnd; rw [h]
/-- The files' row: where file i lies. -/
theorem Ri.filesAt {w : World} {B : Nat} {o : RL} {a : AS} (h : Ri w B o a) : ∃ b ad cap, o.fv = .slice ad a.files.length cap ∧ a.files.length ≤ cap ∧ (0 < a.files.length → ad = some ⟨b, 0, none⟩) ∧ ∀ k (hk : k < a.files.length), w.cell? ⟨b, k * 3, none⟩ = some (.string (bs a.files[k].data)) ∧ w.cell? ⟨b, k * 3 + 1, none⟩ = some (.string (bs a.files[k].dur)) ∧ w.cell? ⟨b, k * 3 + 2, none⟩ = some (.bool a.files[k].synced) := by
  obtain ⟨b, ad, cap, h1, h2, h3, h4⟩ := row_at fcells (fun _ => rfl) a.files h.files
  exact ⟨b, ad, cap, h1, h2, h3, fun k hk => ⟨h4 k hk 0 (by omega), h4 k hk 1 (by omega), h4 k hk 2 (by omega)⟩⟩
set_option maxRecDepth 100000 in
set_option maxHeartbeats 4000000 in
theorem rread_is (B : Nat) (o : RL) (a : AS) (k : ByteArray) (W : World) (h : Ri W B o a) (hw : a.Wf) (hn : a.names.length ≤ 1000000) (hfn : a.files.length ≤ 1000000) :
    Calls Try.prog 43 #[.pointer (some ⟨o.G, 0, none⟩), .string k] W fun e w' => e = .returned (.tuple #[.string (bs (a.read k).1), .int .i64 (a.read k).2]) ∧ w' = W := by
  obtain ⟨c0, c1, -, -, c4, -, -, -⟩ := g_flags h
  obtain ⟨b, ad, cap, e1, hcap, had, hcell⟩ := h.filesAt
  rw [e1] at c0
  have cF := Lib.hid (find_is B o.dv k a.names W h.dir hn)
  cases hd : a.down with
  | true =>
    have e2 : a.read k = ([], 24) := by unfold AS.read; rw [if_pos hd]
    rw [e2]
    rw [hd] at c4
    clear h hw
    go_enter Try.func43, Try.ntmps43
    go_wp2_with fail
    go_ret2
    exact ⟨rfl, rfl⟩
  | false =>
    rw [hd] at c4
    cases e : findS a.names k.data.toList with
    | none =>
      have e2 : a.read k = ([], 23) := by unfold AS.read; rw [if_neg (by rw [hd]; decide), e]
      rw [e2]
      have HF := Lib.hid (fnd_none e)
      clear h hw e e2
      go_enter Try.func43, Try.ntmps43
      go_wp2_with fail
      refine cF.out.mono ?_
      rintro e w1 ⟨rfl, rfl⟩
      rw [HF.out]
      go_wp2_with fail
      go_ret2
      exact ⟨rfl, rfl⟩
    | some i =>
      have hi := hw.find e
      have e2 : a.read k = (a.files[i].data, 0) := by unfold AS.read; rw [if_neg (by rw [hd]; decide), e]; simp [List.getD_eq_getElem?_getD, List.getElem?_eq_getElem hi]
      rw [e2]
      have HF := Lib.hid (fnd_some e)
      obtain rfl := had (by omega)
      obtain ⟨q0, -, -⟩ := hcell i hi
      obtain ⟨n, hn2⟩ : ∃ n, a.files.length = n := ⟨_, rfl⟩
      rw [hn2] at c0 hcap hi hfn
      have g1 : (0 : Int) ≤ (i : Int) := by omega
      have g2 : (i : Int) < (n : Int) := by omega
      have g3 : decide ((i : Int) < (0 : Int)) = false := decide_eq_false (by omega)
      clear h hw e e2 hcell had e1 hn2
      generalize bs a.files[i].data = z at q0 ⊢
      go_enter Try.func43, Try.ntmps43
      go_wp2_with fail
      refine cF.out.mono ?_
      rintro e w1 ⟨rfl, rfl⟩
      rw [HF.out]
      go_wp2_with fail
      go_ret2
      exact ⟨rfl, rfl⟩
set_option maxRecDepth 100000 in
set_option maxHeartbeats 4000000 in
theorem rdirty_is (B : Nat) (o : RL) (a : AS) (W : World) (h : Ri W B o a) (hfn : a.files.length ≤ 1000000) :
    Calls Try.prog 42 #[.pointer (some ⟨o.G, 0, none⟩)] W fun e w' => e = .returned (.int .i64 (dirtyA a.files)) ∧ w' = W := by
  obtain ⟨c0, -⟩ := g_flags h
  obtain ⟨b, ad, cap, e1, hcap, had, hcell⟩ := h.filesAt
  rw [e1] at c0
  obtain ⟨n, hn⟩ : ∃ n, a.files.length = n := ⟨_, rfl⟩
  rw [hn] at c0 hcap had hfn
  have HC := Lib.hid hcell
  have HA := Lib.hid had
  have HN := Lib.hid hn
  clear h e1 hcell had hn
  go_enter Try.func42, Try.ntmps42
  go_wp2_with fail
  go_loop [3, 4] (fun c i => ∃ q d : Nat, q ≤ n ∧ d ≤ q ∧ i = .int .i64 q ∧ c = .int .i64 d ∧ Hid (dirtyA (a.files.take q) = d)) (fun _ i => n - (intOf i).toNat)
  case atStart => exact ⟨0, 0, Nat.zero_le _, Nat.le_refl _, rfl, rfl, rfl⟩
  case round =>
    obtain ⟨q, d, hq, hd, rfl, rfl, HD⟩ := hrel
    by_cases hlt : q < n
    · obtain rfl := HA.out (by omega)
      have hlt2 : q < a.files.length := by rw [HN.out]; exact hlt
      obtain ⟨-, -, q2⟩ := HC.out q hlt2
      have HS := Lib.hid (dirtyA_step a.files q hlt2)
      cases hs : a.files[q].synced with
      | true =>
        rw [hs] at q2
        have HS2 : Hid (dirtyA (a.files.take (q + 1)) = d) := by rw [HS.out, hs, HD.out]; rfl
        clear hs HS hlt2
        go_wp2_with fail
        go_round
        case rel => exact ⟨q + 1, d, by omega, by omega, by go_num, rfl, HS2⟩
        case measure => simp [intOf]; omega
      | false =>
        rw [hs] at q2
        have HS2 : Hid (dirtyA (a.files.take (q + 1)) = d + 1) := by rw [HS.out, hs, HD.out]; rfl
        clear hs HS hlt2
        go_wp2_with fail
        go_round
        case rel => exact ⟨q + 1, d + 1, by omega, by omega, by go_num, by go_num, HS2⟩
        case measure => simp [intOf]; omega
    · have hkn : q = n := by omega
      have HE : Hid (dirtyA a.files = d) := by
        have := HD.out
        rw [hkn, ← HN.out, List.take_length] at this
        exact this
      go_wp2_with fail
      go_ret
      exact ⟨by rw [HE.out]; rfl, rfl⟩
set_option maxRecDepth 100000 in
set_option maxHeartbeats 4000000 in
theorem rnew_is (W : World) :
    Calls Try.prog 16 #[] W fun e w' => ∃ o : RL, e = .returned (.pointer (some ⟨o.G, 0, none⟩)) ∧ Ri w' W.heap.size o AS.new ∧ Below W.heap.size W w' ∧ ∀ k, rfoot o k → W.heap.size ≤ k := by
  have HB := Lib.hid ((Below.refl W.heap.size W).alloc (Nat.le_refl _) (.cells #[.slice none 0 0, .slice none 0 0, .slice none 0 0, .slice none 0 0, .bool false, .int .i64 (-1), .int .i64 0] 80))
  have HN := Lib.hid (heap_alloc_new W (.cells #[.slice none 0 0, .slice none 0 0, .slice none 0 0, .slice none 0 0, .bool false, .int .i64 (-1), .int .i64 0] 80))
  go_enter Try.func16, Try.ntmps16
  go_wp2_with fail
  go_ret
  refine ⟨⟨W.heap.size, .slice none 0 0, .slice none 0 0, .slice none 0 0, .slice none 0 0⟩, rfl, ⟨HN.out, ⟨rfl, .inl ⟨rfl, rfl⟩⟩, ⟨rfl, .inl ⟨rfl, rfl⟩⟩, ⟨rfl, .inl ⟨rfl, rfl⟩⟩, ⟨rfl, .inl ⟨rfl, rfl⟩⟩, Nat.le_refl _⟩, HB.out, ?_⟩
  rintro k (rfl | hk)
  · exact Nat.le_refl _
  · simp [Value.ownBlock] at hk
set_option maxRecDepth 100000 in
set_option maxHeartbeats 4000000 in
theorem rarm_is (B : Nat) (o : RL) (a : AS) (n e : Int) (W : World) (h : Ri W B o a) :
    Calls Try.prog 22 #[.pointer (some ⟨o.G, 0, none⟩), .int .i64 n, .int .i64 e] W (RAft W B o (.int .i64 (AS.arm n e a).1) (AS.arm n e a).2) := by
  obtain ⟨-, -, -, -, c4, -, -, fz⟩ := g_flags h
  obtain ⟨-, -, -, -, -, c5, c6, -⟩ := g_flags h
  have f5 := fz 5
  have f6 := fz 6
  have HI := Lib.hid h
  have same : ∀ r, RAft W B o (.int .i64 r) a (.returned (.int .i64 r)) W := fun r => ⟨rfl, o, rfl, HI.out, Fr.drewN W 0 _, fun k hk => .inl hk⟩
  have HS := Lib.hid same
  clear same
  by_cases hn : n < 0
  · have e1 : AS.arm n e a = (2, a) := by unfold AS.arm; rw [if_pos (.inl hn)]
    rw [e1]
    have g1 : decide (n < (0 : Int)) = true := decide_eq_true hn
    clear h fz hn e1
    go_enter Try.func22, Try.ntmps22
    go_wp2_with fail
    go_ret
    exact HS.out 2
  have g1 : decide (n < (0 : Int)) = false := decide_eq_false hn
  by_cases he : e = 25 ∨ e = 26 ∨ e = 24
  · have hc : ¬ (n < 0 ∨ ¬ (e = 25 ∨ e = 26 ∨ e = 24)) := by
      rintro (h1 | h1)
      · exact hn h1
      · exact h1 he
    cases hd : a.down with
    | true =>
      have e1 : AS.arm n e a = (24, a) := by unfold AS.arm; rw [if_neg hc, if_pos hd]
      rw [e1]
      rw [hd] at c4
      clear h fz hn e1 hc
      rcases he with rfl | rfl | rfl
      all_goals
        go_enter Try.func22, Try.ntmps22
        go_wp2_with fail
        go_ret
        exact HS.out 24
    | false =>
      have e1 : AS.arm n e a = (0, { a with armed := true, after := n, err := e }) := by unfold AS.arm; rw [if_neg hc, if_neg (by rw [hd]; decide)]
      rw [e1]
      rw [hd] at c4
      have h1 := h.set (j := 5) (v := .int .i64 n) (o' := o) (a' := { a with armed := true, after := n }) rfl (by unfold gCells armI; simp) h.files h.dir h.dur h.pend
      have h2 := Lib.hid (h1.set (j := 6) (v := .int .i64 e) (o' := o) (a' := { a with armed := true, after := n, err := e }) rfl (by unfold gCells armI; simp) h1.files h1.dir h1.dur h1.pend)
      clear h fz hn e1 hc h1
      rcases he with rfl | rfl | rfl
      all_goals
        go_enter Try.func22, Try.ntmps22
        go_wp2_with fail
        go_ret
        exact ⟨rfl, o, rfl, h2.out, (Fr.set _ _ _ _ (.inl rfl)).trans (Fr.set _ _ _ (rfoot o) (.inl rfl)) (fun _ _ e => e), fun k hk => .inl hk⟩
  · have e1 : AS.arm n e a = (2, a) := by unfold AS.arm; rw [if_pos (.inr he)]
    have h25 : (e != (25 : Int)) = true := by simpa using fun h => he (.inl h)
    have h26 : (e != (26 : Int)) = true := by simpa using fun h => he (.inr (.inl h))
    have h24 : (e != (24 : Int)) = true := by simpa using fun h => he (.inr (.inr h))
    rw [e1]
    clear h fz hn e1 he
    go_enter Try.func22, Try.ntmps22
    go_wp2_with fail
    go_ret
    exact HS.out 2
end Go.Proofs.Ytcobjjaicckgpaa.Vf
/- The reference: change. -/
namespace Go.Proofs.Ytcobjjaicckgpaa.Vf
open Go Go.RowKit Go.Maps Go.Proofs.Ytcobjjaicckgpaa Go.Proofs.Ytcobjjaicckgpaa.Bs
set_option linter.unusedVariables false

/-- append(s, x...) where both are owned rows, x of any length. -/
theorem run_append_row {P : Program} (w : World) (base base2 : Nat) (t ty e : TypeId) (i : TypeInfo) (z : Value) (size bytes : Nat) (ht : P.underlying t = some (.slice e)) (hi : P.info? e = some i) (hz : i.zero = some z)
    (hsize : i.size = size) (hby : i.bytes = bytes) (hzs : z.cells.size = size) (hsz : 0 < size)
    (v : Value) (n : Nat) (xs : List Value) (hown : w.ownsRow base e size v n xs)
    (x : Value) (m : Nat) (news : List Value) (hx : w.ownsRow base2 e size x m news) (h1 : ∀ u ∈ news, u.oneCell' = true)
    (h63 : n + m ≤ maxLen) (hbytes : (n + m) * bytes ≤ 140737488355328) (hbase : base ≤ w.heap.size) :
    ∃ v' w', (Builtin.append_ #[t, t] ty #[v, x]).run P w = .ok v' w' ∧ w'.ownsRow base e size v' (n + m) (xs ++ news) ∧ w.grownBy w' v.ownBlock ∧ (v'.ownBlock = v.ownBlock ∨ v'.ownBlock = some w.heap.size) := by
  rcases hx.2 with ⟨rfl, rfl⟩ | ⟨g, cap, cur, rfl, hbg, hg, hnc, hcm, hcs, htake⟩
  · have hn : news = [] := List.eq_nil_of_length_eq_zero (by simpa using hx.1)
    subst hn
    refine ⟨v, w, run_append_owned_none w base t ty e i size ht hi v n xs hown, ?_, ⟨rfl, rfl, rfl, Nat.le_refl _, fun _ _ _ => rfl⟩, .inl rfl⟩
    rw [List.append_nil]
    exact hown
  · obtain ⟨v', w', hr, h2, h3, _, h5⟩ := run_append_own_at (P := P) w base t ty e i z size bytes ht hi hz hsize hby hzs hsz v n xs hown ⟨g, 0, none⟩ m cap news hx.1 (hx.cells (g := g) rfl) h1 h63 hbytes hbase
    exact ⟨v', w', hr, h2, h3, h5⟩
theorem wp_append_row {P : Program} (w : World) {o : Oper} {a : Act} {K : Act → World → Prop} {Q : Exit → Act → World → Prop} (s x : Operand) (t : TypeId)
    (ho : o.op = .call { callee := .builtin .append, args := #[s, x], argTypes := #[t, t] })
    (base base2 : Nat) (e : TypeId) (i : TypeInfo) (z : Value) (size bytes : Nat) (ht : P.underlying t = some (.slice e)) (hi : P.info? e = some i) (hz : i.zero = some z)
    (hsize : i.size = size) (hby : i.bytes = bytes) (hzs : z.cells.size = size) (hsz : 0 < size)
    (v : Value) (n : Nat) (xs : List Value) (hs : a.eval s = v) (hown : w.ownsRow base e size v n xs)
    (x' : Value) (m : Nat) (news : List Value) (hx : a.eval x = x') (hxo : w.ownsRow base2 e size x' m news) (h1 : ∀ u ∈ news, u.oneCell' = true)
    (h63 : n + m ≤ maxLen) (hbytes : (n + m) * bytes ≤ 140737488355328) (hbase : base ≤ w.heap.size)
    (h : ∀ v' w', w'.ownsRow base e size v' (n + m) (xs ++ news) → w.grownBy w' v.ownBlock → (v'.ownBlock = v.ownBlock ∨ v'.ownBlock = some w.heap.size) → K (a.put o.dst v') w') : o.wp P a w K Q := by
  obtain ⟨v', w', hr, h2, h3, h4⟩ := run_append_row (P := P) w base base2 t o.type e i z size bytes ht hi hz hsize hby hzs hsz v n xs hown x' m news hxo h1 h63 hbytes hbase
  unfold Oper.wp execOp
  simp only [ho, resolve, invoke, builtin, Sem.run_bind, Sem.run_pure, Result.andThen_ok, List.map_toArray, List.map_cons, List.map_nil, hs, hx, hr]
  exact h v' w' h2 h3 h4
theorem wpList_append_row {P : Program} (w : World) {ops : Array Oper} {rest : List Oper} {o : Oper} {a : Act} {Q : Exit → Act → World → Prop} (hgd : o.guard = none) (s x : Operand) (t : TypeId)
    (ho : o.op = .call { callee := .builtin .append, args := #[s, x], argTypes := #[t, t] })
    (base base2 : Nat) (e : TypeId) (i : TypeInfo) (z : Value) (size bytes : Nat) (ht : P.underlying t = some (.slice e)) (hi : P.info? e = some i) (hz : i.zero = some z)
    (hsize : i.size = size) (hby : i.bytes = bytes) (hzs : z.cells.size = size) (hsz : 0 < size)
    (v : Value) (n : Nat) (xs : List Value) (hs : a.eval s = v) (hown : w.ownsRow base e size v n xs)
    (x' : Value) (m : Nat) (news : List Value) (hx : a.eval x = x') (hxo : w.ownsRow base2 e size x' m news) (h1 : ∀ u ∈ news, u.oneCell' = true)
    (h63 : n + m ≤ maxLen) (hbytes : (n + m) * bytes ≤ 140737488355328) (hbase : base ≤ w.heap.size)
    (h : ∀ v' w', w'.ownsRow base e size v' (n + m) (xs ++ news) → w.grownBy w' v.ownBlock → (v'.ownBlock = v.ownBlock ∨ v'.ownBlock = some w.heap.size) → wpList P ops Q rest (a.put o.dst v') w') : wpList P ops Q (o :: rest) a w :=
  wpList_plain hgd fun _ hK => wp_append_row w s x t ho base base2 e i z size bytes ht hi hz hsize hby hzs hsz v n xs hs hown x' m news hx hxo h1 h63 hbytes hbase fun v' w' h2 h3 h4 => hK _ _ (h v' w' h2 h3 h4)
theorem step_append_row {P : Program} (w : World) {ops : Array Oper} {o : Oper} {a : Act} {K : Act → World → Prop} {Q : Exit → Act → World → Prop} {E : Prop} (hgd : o.guard = none) (s x : Operand) (t : TypeId)
    (ho : o.op = .call { callee := .builtin .append, args := #[s, x], argTypes := #[t, t] })
    (base base2 : Nat) (e : TypeId) (i : TypeInfo) (z : Value) (size bytes : Nat) (ht : P.underlying t = some (.slice e)) (hi : P.info? e = some i) (hz : i.zero = some z)
    (hsize : i.size = size) (hby : i.bytes = bytes) (hzs : z.cells.size = size) (hsz : 0 < size)
    (v : Value) (n : Nat) (xs : List Value) (hs : a.eval s = v) (hown : w.ownsRow base e size v n xs)
    (x' : Value) (m : Nat) (news : List Value) (hx : a.eval x = x') (hxo : w.ownsRow base2 e size x' m news) (h1 : ∀ u ∈ news, u.oneCell' = true)
    (h63 : n + m ≤ maxLen) (hbytes : (n + m) * bytes ≤ 140737488355328) (hbase : base ≤ w.heap.size)
    (h : ∀ v' w', w'.ownsRow base e size v' (n + m) (xs ++ news) → w.grownBy w' v.ownBlock → (v'.ownBlock = v.ownBlock ∨ v'.ownBlock = some w.heap.size) → K (a.put o.dst v') w') :
    if Region.wanted o (yielded ops a.tmps) = true then Oper.wp P o a w K Q else E := by
  have hw : Region.wanted o (yielded ops a.tmps) = true := by simp [Region.wanted, hgd]
  rw [if_pos hw]
  exact wp_append_row w s x t ho base base2 e i z size bytes ht hi hz hsize hby hzs hsz v n xs hs hown x' m news hx hxo h1 h63 hbytes hbase h
/-- A row of structs in a fresh block. -/
theorem own_new {w : World} {base b n size : Nat} {t : TypeId} {cs : List Value} (h : w.heap[b]? = some (Obj.cells cs.toArray t (0, 0))) (hb : base ≤ b) (hl : cs.length = n * size) (hm : n ≤ maxLen) : w.ownsRow base t size (.slice (some ⟨b, 0, none⟩) n n) n cs :=
  ⟨hl, .inr ⟨b, n, cs.toArray, rfl, hb, h, Nat.le_refl _, hm, by simpa using hl, by rw [← hl]; simp⟩⟩
theorem below_keep {u u' w : World} (h : Below u'.heap.size u' w) (h1 : u'.heap = u.heap) (h2 : u'.os = u.os) (h3 : u'.tape = u.tape) (h4 : u'.output = u.output) : Below u.heap.size u w :=
  ⟨h.os.trans h2, h.tape.trans h3, h.output.trans h4, by rw [← h1]; exact h.size, fun k hk => by rw [h.block k (by rw [h1]; exact hk), h1]⟩
theorem box_cells {w : World} {S i : Nat} {f t : ByteArray} (h : w.heap[S]? = some (Obj.cells #[.string f, .string t, .int .i64 i] 88 (0, 0))) : w.cell? ⟨S, 0, none⟩ = some (.string f) ∧ w.cell? ⟨S, 1, none⟩ = some (.string t) ∧ w.cell? ⟨S, 2, none⟩ = some (.int .i64 i) := by
  unfold World.cell?
  simp only [h]
  exact ⟨rfl, rfl, rfl⟩
theorem cell_alloc2 {w : World} {a : Addr} {v : Value} (x : Obj) (h : w.cell? a = some v) : (w.alloc x).cell? a = some v := by
  have hlt : a.block < w.heap.size := by
    rcases Nat.lt_or_ge a.block w.heap.size with h1 | h1
    · exact h1
    · unfold World.cell? at h
      rw [Array.getElem?_eq_none h1] at h
      cases h
  unfold World.cell?
  rw [heap_alloc_old w x hlt]
  exact h
theorem own_alloc {w : World} {base n size : Nat} {t : TypeId} {v : Value} {xs : List Value} (x : Obj) (h : w.ownsRow base t size v n xs) : (w.alloc x).ownsRow base t size v n xs :=
  own_kept h fun g hg => by obtain ⟨cur, hc⟩ := own_block h hg; exact heap_alloc_old w x (lt_of_heap hc)
theorem own_empty {w : World} {base b size : Nat} {t : TypeId} (h : w.heap[b]? = some (Obj.cells #[] t (0, 0))) (hb : base ≤ b) : w.ownsRow base t size (.slice (some ⟨b, 0, none⟩) 0 0) 0 [] :=
  ⟨by simp, .inr ⟨b, 0, #[], rfl, hb, h, Nat.le_refl _, by unfold maxLen; omega, by simp, by simp⟩⟩
theorem dcells_one (l : List AC) : ∀ u ∈ l.flatMap dcells, u.oneCell' = true := by
  intro u hu
  obtain ⟨c, _, h⟩ := List.mem_flatMap.1 hu
  simp only [dcells, List.mem_cons, List.not_mem_nil, or_false] at h
  rcases h with rfl | rfl | rfl <;> rfl
theorem below_grew {u w w2 : World} {S : Nat} {row : Option Nat} (hg : w.grownBy w2 row) (h : Below S u w) (hr : ∀ k, row = some k → S ≤ k) (hS : S ≤ w.heap.size) : Below S u w2 :=
  ⟨hg.os.trans h.os, hg.tape.trans h.tape, hg.output.trans h.output, Nat.le_trans h.size hg.size, fun k hk => (hg.block k (by omega) (fun e => by have := hr k e.symm; omega)).trans (h.block k hk)⟩
theorem box_grew {w w2 : World} {b : Nat} {x : Obj} {row : Option Nat} (hg : w.grownBy w2 row) (h : w.heap[b]? = some x) (hr : row ≠ some b) : w2.heap[b]? = some x := by
  rw [hg.block b (lt_of_heap h) (fun e => hr e.symm)]
  exact h
theorem infoCr : (Try.prog.info? 88).map (fun i => (i.zero, i.size, i.bytes)) = some (some (.agg #[.string ByteArray.empty, .string ByteArray.empty, .int .i64 0]), 3, 40) := by kernel_rfl
theorem infoFr : (Try.prog.info? 90).map (fun i => (i.zero, i.size, i.bytes)) = some (some (.agg #[.string ByteArray.empty, .string ByteArray.empty, .bool false]), 3, 40) := by kernel_rfl
theorem change_end {W w1 w3 : World} {B n cap : Nat} {ad : Option Addr} {o : RL} {a : AS} {c : AC} {v1 : Value} (h : Ri w1 B { o with dv := v1 } { a with names := applyS a.names c.src c.dst c.file }) (hb : Below w1.heap.size w1 w3)
    (ho : w3.ownsRow w1.heap.size 88 3 (.slice ad n cap) (a.pend.length + 1) (a.pend.flatMap dcells ++ [.string c.src, .string c.dst, .int .i64 c.file])) (hf : Fr W w1 (fun k => k = o.G)) :
    ∃ o' : RL, o'.G = o.G ∧ o'.fv = o.fv ∧ Ri (w3.setCell ⟨o.G, 3, none⟩ (.slice ad n cap)) B o' (a.record c) ∧ Fr W (w3.setCell ⟨o.G, 3, none⟩ (.slice ad n cap)) (fun k => k = o.G) := by
  have h3 := h.below hb
  have hB : B ≤ w1.heap.size := by have := lt_of_heap h.fs; have := h.bG; simp only at *; omega
  refine ⟨{ o with dv := v1, pv := .slice ad n cap }, rfl, rfl, h3.set (j := 3) (o' := { o with dv := v1, pv := .slice ad n cap }) (a' := a.record c) rfl (by unfold gCells armI AS.record; simp) h3.files h3.dir h3.dur ?_, (hf.trans (Fr.of_below hb _) (fun _ _ e => e)).trans (Fr.set _ _ _ (fun k => k = o.G) rfl) (fun _ _ e => e)⟩
  have e1 : (a.record c).pend.length = a.pend.length + 1 := by simp [AS.record]
  have e2 : (a.record c).pend.flatMap dcells = a.pend.flatMap dcells ++ [.string c.src, .string c.dst, .int .i64 c.file] := by simp [AS.record, dcells]
  rw [e1, e2]
  exact own_base ho hB
set_option maxRecDepth 100000 in
set_option maxHeartbeats 16000000 in
theorem rchange_is (B : Nat) (o : RL) (a : AS) (c : AC) (W : World) (h : Ri W B o a) (hs : So a.names) (hne : ∀ p ∈ a.names, p.1 ≠ []) (hn : a.names.length ≤ 1000000) (hp : a.pend.length ≤ 1000000) :
    Calls Try.prog 57 #[.pointer (some ⟨o.G, 0, none⟩), .agg #[.string c.src, .string c.dst, .int .i64 c.file]] W (fun e w' => e = .returned (.tuple #[]) ∧ ∃ o', o'.G = o.G ∧ o'.fv = o.fv ∧ Ri w' B o' (a.record c) ∧ Fr W w' (· = o.G)) := by
  have HA0 : Hid (Ap W (W.alloc (.cells #[.string c.src, .string c.dst, .int .i64 c.file] 88)) W.heap.size c.src c.dst c.file (.slice none 0 0) []) :=
    ⟨(Below.refl _ _).alloc (Nat.le_refl _) _, heap_alloc_new _ _, ⟨rfl, .inl ⟨rfl, rfl⟩⟩⟩
  have HI0 := Lib.hid (h.below HA0.out.below)
  obtain ⟨x0, x1, x2⟩ := HA0.out.cells
  obtain ⟨y0, y1, y2, y3, -, -, -, fz⟩ := g_flags HI0.out
  have f1 := fz 1
  have f3 := fz 3
  have HAP := Lib.hid (rapp_apply a.names c.src c.dst c.file hs hne)
  have HSo := Lib.hid (And.intro hn hp)
  clear h fz hs hne hn hp
  go_enter Try.func57, Try.ntmps57
  go_wp2_with fail
  generalize (W.alloc (.cells #[.string c.src, .string c.dst, .int .i64 c.file] 88)) = w0 at HA0 HI0 x0 x1 x2 y0 y1 y2 y3 f1 f3 ⊢
  have cA := Lib.hid (fun (w : World) (hw : Ri w B o a) => rapply_is B o.dv c.src c.dst c.file a.names w hw.dir HSo.out.1)
  go_region_with (go_at_call_of 49 o.dv; refine (cA.out _ (by exact HI0.out.kept (fun _ _ _ _ _ _ => rfl))).mono ?_; rintro e wA ⟨vA, rfl, hvA, hbA⟩; have HbA := Lib.hid (below_keep (u := w0) hbA rfl rfl rfl rfl); obtain ⟨adA, capA, rfl⟩ := own_slice hvA; have HvA := Lib.hid hvA; clear hvA hbA; have yA := (g_flags (HI0.out.below HbA.out)).2.1; have fA := (g_flags (HI0.out.below HbA.out)).2.2.2.2.2.2.2 1)
  all_goals
    have HB : B ≤ w0.heap.size := by have := lt_of_heap HI0.out.fs; have := HI0.out.bG; omega
    have hI1 : Ri (wA.setCell ⟨o.G, 1, none⟩ (.slice adA (rapp c.src.data.toList c.dst.data.toList c.file c.dst.toList.isEmpty a.names).length capA)) B { o with dv := .slice adA (rapp c.src.data.toList c.dst.data.toList c.file c.dst.toList.isEmpty a.names).length capA } { a with names := applyS a.names c.src c.dst c.file } :=
      (HI0.out.below HbA.out).set rfl (by unfold gCells armI; simp) (HI0.out.below HbA.out).files (by have := own_base HvA.out HB; rw [HAP.out] at this ⊢; exact this) (HI0.out.below HbA.out).dur (HI0.out.below HbA.out).pend
    have hneG : W.heap.size ≠ o.G := ne_of HA0.out.box HI0.out.fs (by decide)
    have hbox : (wA.setCell ⟨o.G, 1, none⟩ (.slice adA (rapp c.src.data.toList c.dst.data.toList c.file c.dst.toList.isEmpty a.names).length capA)).heap[W.heap.size]? = some (Obj.cells #[.string c.src, .string c.dst, .int .i64 c.file] 88 (0, 0)) := by
      rw [heap_setCell_other _ _ _ _ hneG, HbA.out.block _ (lt_of_heap HA0.out.box)]
      exact HA0.out.box
    have hFr : Fr W (wA.setCell ⟨o.G, 1, none⟩ (.slice adA (rapp c.src.data.toList c.dst.data.toList c.file c.dst.toList.isEmpty a.names).length capA)) (· = o.G) :=
      (Fr.of_below (below_at HA0.out.below HA0.out.below.size HbA.out) _).trans (Fr.set _ _ _ (fun k => k = o.G) rfl) (fun _ _ e => e)
    obtain ⟨v1, hv1⟩ : ∃ v1, Value.slice adA (rapp c.src.data.toList c.dst.data.toList c.file c.dst.toList.isEmpty a.names).length capA = v1 := ⟨_, rfl⟩
    rw [hv1] at hI1 hbox hFr ⊢
    clear hv1 HvA yA fA cA HAP HI0 HA0 HbA x0 x1 x2 y0 y1 y2 y3 f1 f3 HB
    generalize wA.setCell ⟨o.G, 1, none⟩ v1 = w1 at hI1 hbox hFr ⊢
    obtain ⟨x0, x1, x2⟩ := box_cells hbox
    obtain ⟨y0, y1, y2, y3, -, -, -, fz⟩ := g_flags hI1
    have f3 := fz 3
    have HI1 := Lib.hid hI1
    have HX := Lib.hid hbox
    have HF := Lib.hid hFr
    clear hI1 hbox hFr fz
    go_wp2_with fail
    have HPO : w1.ownsRow B 88 3 o.pv a.pend.length (a.pend.flatMap dcells) := HI1.out.pend
    obtain ⟨adP, capP, hpv⟩ := own_slice HPO
    obtain ⟨i0, hi, hz0, hz1, hz2⟩ := info_parts infoCr
    have II := Lib.hid (And.intro hi (And.intro hz0 (And.intro hz1 hz2)))
    obtain ⟨E, hE⟩ : ∃ E, Obj.cells #[] 88 (0, 0) = E := ⟨_, rfl⟩
    obtain ⟨C, hC⟩ : ∃ C, Obj.cells #[.string c.src, .string c.dst, .int .i64 c.file] 88 (0, 0) = C := ⟨_, rfl⟩
    have a1 := cell_alloc2 E y3
    have a2 := cell_alloc2 C a1
    have a3 := cell_alloc2 C y3
    have a4 := cell_alloc2 E a3
    have b0 := cell_alloc2 E x0
    have b1 := cell_alloc2 E x1
    have b2 := cell_alloc2 E x2
    have e1 := heap_alloc_new w1 E
    have e2 := heap_alloc_old (w1.alloc E) C (r := w1.heap.size) (by rw [alloc_sz]; omega)
    rw [e1] at e2
    have e3 := heap_alloc_new (w1.alloc C) E
    rw [alloc_sz] at e3
    have c2 := heap_alloc_new (w1.alloc E) C
    rw [alloc_sz] at c2
    have c3 := heap_alloc_old (w1.alloc C) E (r := w1.heap.size) (by rw [alloc_sz]; omega)
    rw [heap_alloc_new w1 C] at c3
    have p1 := own_alloc E HPO
    have p2 := own_alloc C p1
    have p3 := own_alloc E (own_alloc C HPO)
    have q1 : Below w1.heap.size w1 (w1.alloc E) := (Below.refl _ _).alloc (Nat.le_refl _) _
    have q2 : Below w1.heap.size w1 ((w1.alloc E).alloc C) := q1.alloc (by rw [alloc_sz]; omega) _
    have q3 : Below w1.heap.size w1 ((w1.alloc C).alloc E) := ((Below.refl _ _).alloc (Nat.le_refl _) _).alloc (by rw [alloc_sz]; omega) _
    rw [hpv] at p1 p2 p3
    rw [hpv] at y3 a1 a2 a3 a4
    subst hE hC
    have HE := Lib.hid (And.intro e1 (And.intro e2 e3))
    have HC := Lib.hid (And.intro c2 c3)
    have HP := Lib.hid (And.intro p1 (And.intro p2 p3))
    have HQ := Lib.hid (And.intro q1 (And.intro q2 q3))
    clear e1 e2 e3 c2 c3 p1 p2 p3 q1 q2 q3 hi hz0 hz1 hz2 HPO
    go_region_law (first
      | (refine step_append_row _ rfl (.tmp 14) (.tmp 18) 78 rfl w1.heap.size B 88 i0 (.agg #[.string ByteArray.empty, .string ByteArray.empty, .int .i64 0]) 3 40 Try.underlying78 II.out.1 II.out.2.1 II.out.2.2.1 II.out.2.2.2 rfl (by decide) _ 0 [] rfl (by first | exact own_empty HE.out.1 (Nat.le_refl _) | exact own_empty HE.out.2.1 (Nat.le_refl _) | exact own_empty HE.out.2.2 (Nat.le_succ _)) _ a.pend.length (a.pend.flatMap dcells) rfl (by first | exact HP.out.1 | exact HP.out.2.1 | exact HP.out.2.2) (dcells_one a.pend) (by have := HSo.out.2; unfold maxLen; omega) (by have := HSo.out.2; omega) (by show _ ≤ Array.size _; simp <;> omega) ?_
         intro v2 w2 hown2 hg2 hb2
         have HB2 := Lib.hid (below_grew (u := w1) (S := w1.heap.size) hg2 (by first | exact HQ.out.1 | exact HQ.out.2.1 | exact HQ.out.2.2 | exact HQ.out.1.drew | exact HQ.out.2.1.drew | exact HQ.out.2.2.drew) (by intro k hk; have hk2 := Option.some.inj hk; rw [← hk2]; first | exact Nat.le_refl _ | exact Nat.le_succ _) (by show _ ≤ Array.size _; simp <;> omega))
         try have HC2 := Lib.hid (box_grew hg2 (by first | exact HC.out.1 | exact HC.out.2) (by intro e; have e2 := Option.some.inj e; first | exact absurd e2 (Nat.ne_of_lt (Nat.lt_succ_self _)) | exact absurd e2.symm (Nat.ne_of_lt (Nat.lt_succ_self _))))
         obtain ⟨adV, capV, rfl⟩ := own_slice hown2
         rw [Nat.zero_add, List.nil_append] at hown2
         rw [Nat.zero_add]
         have Hown2 := Lib.hid hown2
         clear hown2 hg2 hb2 x0 x1 x2 b0 b1 b2
         obtain ⟨x0, x1, x2⟩ := box_cells ((HB2.out.block _ (lt_of_heap HX.out)).trans HX.out))
      | (refine step_append_row _ rfl (.tmp 19) (.tmp 21) 78 rfl w1.heap.size w1.heap.size 88 i0 (.agg #[.string ByteArray.empty, .string ByteArray.empty, .int .i64 0]) 3 40 Try.underlying78 II.out.1 II.out.2.1 II.out.2.2.1 II.out.2.2.2 rfl (by decide) _ a.pend.length (a.pend.flatMap dcells) rfl (by first | exact Hown2.out | exact own_alloc _ Hown2.out) _ 1 [.string c.src, .string c.dst, .int .i64 c.file] rfl (by first | exact own_new HC2.out (by omega) rfl (by unfold maxLen; omega) | exact own_new (heap_alloc_new w2 _) HB2.out.size rfl (by unfold maxLen; omega)) (by intro u hu; simp only [List.mem_cons, List.not_mem_nil, or_false] at hu; rcases hu with rfl | rfl | rfl <;> rfl) (by have := HSo.out.2; unfold maxLen; omega) (by have := HSo.out.2; omega) (by first | exact HB2.out.size | (show _ ≤ (World.alloc _ _).heap.size; rw [alloc_sz]; have := HB2.out.size; omega)) ?_
         intro v3 w3 hown3 hg3 hb3
         have HB3 := Lib.hid (below_grew (u := w1) (S := w1.heap.size) hg3 (by first | exact HB2.out | exact HB2.out.alloc HB2.out.size _ | exact HB2.out.drew | exact (HB2.out.alloc HB2.out.size _).drew | exact HB2.out.drew.alloc HB2.out.size _) (fun k hk => (Hown2.out.lt k hk).1) (by first | exact HB2.out.size | (show _ ≤ (World.alloc _ _).heap.size; rw [alloc_sz]; have := HB2.out.size; omega)))
         obtain ⟨adV3, capV3, rfl⟩ := own_slice hown3
         have Hown3 := Lib.hid hown3
         clear hown3 hg3 hb3 f3 y3
         have z3 := (g_flags (HI1.out.below HB3.out)).2.2.2.1
         have f3 := (g_flags (HI1.out.below HB3.out)).2.2.2.2.2.2.2 3))
    all_goals
      go_wp2_with fail
      go_end0
      exact ⟨rfl, change_end HI1.out HB3.out Hown3.out HF.out⟩
end Go.Proofs.Ytcobjjaicckgpaa.Vf
