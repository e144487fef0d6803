/- The file system in plain words: files by number. -/
import Derived.Test.YtcobjjaicckgpaaVfW14
namespace Go.Proofs.Ytcobjjaicckgpaa.Vf
open Go Go.RowKit Go.Maps Go.Proofs.Ytcobjjaicckgpaa Go.Proofs.Ytcobjjaicckgpaa.Bs
set_option linter.unusedVariables false

structure AF where
  data : List UInt8
  dur : List UInt8
  synced : Bool
structure AC where
  src : ByteArray
  dst : ByteArray
  file : Nat
/-- A file system: files by number, the two directories (names in ascending order), the pending changes. -/
structure AS where
  files : List AF
  names : Nm
  dur : Nm
  pend : List AC
  down : Bool
  armed : Bool
  after : Int
  err : Int
def cf (bl : Nat → Nat) (i : Nat) (f : AF) : Fl := ⟨bl i, f.data, f.dur, f.synced⟩
def cn (bl : Nat → Nat) (m : Nm) : Nm := m.map fun p => (p.1, bl p.2)
def cc (bl : Nat → Nat) (c : AC) : Ch := ⟨c.src, c.dst, if c.dst.toList.isEmpty = true then none else some (bl c.file)⟩
/-- The state whose file i lies in block bl i. -/
def conc (bl : Nat → Nat) (a : AS) : St := ⟨a.files.mapIdx (cf bl), cn bl a.names, cn bl a.dur, a.pend.map (cc bl), a.down, a.armed, a.after, a.err⟩
def Ab (a : AS) (s : St) : Prop := ∃ bl, s = conc bl a
theorem cn_len (bl : Nat → Nat) (m : Nm) : (cn bl m).length = m.length := by simp [cn]
theorem cn_find (bl : Nat → Nat) (m : Nm) (k : List UInt8) : findS (cn bl m) k = (findS m k).map bl := by
  unfold findS cn
  induction m with
  | nil => rfl
  | cons y r ih =>
    simp only [List.map_cons, List.find?_cons]
    cases y.1 == k with
    | true => rfl
    | false => exact ih
theorem cn_del (bl : Nat → Nat) (m : Nm) (k : List UInt8) : delS (cn bl m) k = cn bl (delS m k) := by
  unfold delS cn
  induction m with
  | nil => rfl
  | cons y r ih =>
    simp only [List.map_cons, List.filter_cons]
    split
    · simp only [List.map_cons, ih]
    · exact ih
theorem cn_ins (bl : Nat → Nat) (k : List UInt8) (i : Nat) : ∀ m : Nm, insS (k, bl i) (cn bl m) = cn bl (insS (k, i) m)
  | [] => rfl
  | y :: r => by
    have ih := cn_ins bl k i r
    unfold cn at ih ⊢
    simp only [insS, List.map_cons]
    split
    · rfl
    · simp only [List.map_cons, ih]
theorem cn_put (bl : Nat → Nat) (m : Nm) (k : List UInt8) (i : Nat) : putS (cn bl m) k (bl i) = cn bl (putS m k i) := by
  unfold putS
  rw [cn_del, cn_ins]
theorem cn_apply (bl : Nat → Nat) (m : Nm) (f t : ByteArray) (i : Nat) : applyS (cn bl m) f t (bl i) = cn bl (applyS m f t i) := by
  unfold applyS
  simp only
  split <;> split <;> simp only [cn_del, cn_put]
theorem apply_any (m : Nm) (f t : ByteArray) (i j : Nat) (h : t.toList.isEmpty = true) : applyS m f t i = applyS m f t j := by
  unfold applyS
  simp only [h, if_pos]
theorem turn_conc (bl : Nat → Nat) (l : List AF) (hd : ((l.mapIdx (cf bl)).map (·.blk)).Nodup) (i : Nat) (hi : i < l.length) (g : Fl → Fl) (g' : AF → AF) (hg : ∀ j f, g (cf bl j f) = cf bl j (g' f)) :
    turnFile (l.mapIdx (cf bl)) (bl i) g = (l.modify i g').mapIdx (cf bl) := by
  have hinj : ∀ j, j < l.length → bl j = bl i → j = i := by
    intro j hj e
    have h1 : ((l.mapIdx (cf bl)).map (·.blk))[j]'(by simpa using hj) = bl j := by simp [cf]
    have h2 : ((l.mapIdx (cf bl)).map (·.blk))[i]'(by simpa using hi) = bl i := by simp [cf]
    rcases Nat.lt_trichotomy j i with hlt | heq | hlt
    · exact absurd (h1.trans (e.trans h2.symm)) (List.pairwise_iff_getElem.1 hd j i _ _ hlt)
    · exact heq
    · exact absurd (h2.trans (e.symm.trans h1.symm)) (List.pairwise_iff_getElem.1 hd i j _ _ hlt)
  unfold turnFile
  apply List.ext_getElem
  · simp
  intro j h1 h2
  have hj : j < l.length := by simpa using h1
  simp only [List.getElem_map, List.getElem_mapIdx, List.getElem_modify]
  by_cases e : i = j
  · subst e
    rw [if_pos rfl, if_pos (by rfl), hg]
  · rw [if_neg (fun e2 : (cf bl j l[j]).blk = bl i => e (hinj j hj e2).symm), if_neg e]
theorem setFile_turn (fs : List Fl) (b : Nat) (l : List UInt8) : setFile fs b l = turnFile fs b fun f => { f with data := l, synced := false } := rfl

/-! ### the operations -/
def AS.record (a : AS) (c : AC) : AS := { a with names := applyS a.names c.src c.dst c.file, pend := a.pend ++ [c] }
def AS.sync (k : ByteArray) (a : AS) : Int × AS :=
  match findS a.names k.data.toList with
  | none => (23, a)
  | some i => (0, { a with files := a.files.modify i fun f => { f with dur := f.data, synced := true } })
def AS.rename (k t : ByteArray) (a : AS) : Int × AS :=
  match findS a.names k.data.toList with
  | none => (23, a)
  | some i => if t.toList.isEmpty = true then (2, a) else if (k.toList == t.toList) = true then (0, a) else (0, a.record ⟨k, t, i⟩)
def AS.remove (k : ByteArray) (a : AS) : Int × AS :=
  match findS a.names k.data.toList with
  | none => (23, a)
  | some i => (0, a.record ⟨k, ⟨#[]⟩, 0⟩)
def AS.syncdir (a : AS) : Int × AS := (0, { a with dur := a.names, pend := [] })
def AS.put (k : ByteArray) (l : List UInt8) (a : AS) : Int × AS :=
  if k.toList.isEmpty = true then (2, a) else
  match findS a.names k.data.toList with
  | some i => (0, { a with files := a.files.modify i fun f => { f with data := l, synced := false } })
  | none => (0, AS.record { a with files := a.files ++ [⟨l, [], false⟩] } ⟨⟨#[]⟩, k, a.files.length⟩)
/-- An operation that may be armed to fail: p, or q where it fails. -/
def AS.op (p : AS → Int × AS) (q : AS → AS) (a : AS) : Int × AS :=
  if a.down = true then (24, a) else if a.armed = false then p a else if 0 < a.after then p { a with after := a.after - 1 } else (a.err, { q { a with armed := false } with down := a.err == 24 })
/-- The numbers of files are in range. -/
structure AS.Wf (a : AS) : Prop where
  names : ∀ p ∈ a.names, p.2 < a.files.length
  dur : ∀ p ∈ a.dur, p.2 < a.files.length
  pend : ∀ c ∈ a.pend, c.dst.toList.isEmpty = false → c.file < a.files.length
theorem find_mem {m : Nm} {k : List UInt8} {i : Nat} (h : findS m k = some i) : (k, i) ∈ m := by
  unfold findS at h
  cases e : m.find? fun p => p.1 == k with
  | none => rw [e] at h; cases h
  | some p =>
    rw [e] at h
    have h1 := List.mem_of_find?_eq_some e
    have h2 := List.find?_some e
    simp only [Option.map_some, Option.some.injEq] at h
    have h3 : p.1 = k := by simpa using h2
    obtain ⟨p1, p2⟩ := p
    simp only at h h3
    subst h h3
    exact h1
theorem AS.Wf.find {a : AS} (h : a.Wf) {k : List UInt8} {i : Nat} (e : findS a.names k = some i) : i < a.files.length := h.names _ (find_mem e)

/-! ### the concrete state behind each -/
theorem Ab.sync {a : AS} {bl : Nat → Nat} (h : a.Wf) (hd : ((conc bl a).files.map (·.blk)).Nodup) {k : ByteArray} {i : Nat} (e : findS a.names k.data.toList = some i) :
    { conc bl a with files := turnFile (conc bl a).files (bl i) fun x => { x with dur := x.data, synced := true } } = conc bl (a.sync k).2 := by
  unfold AS.sync
  rw [e]
  simp only [conc] at hd ⊢
  rw [turn_conc bl a.files hd i (h.find e) _ (fun f => { f with dur := f.data, synced := true }) (fun j f => rfl)]
theorem Ab.put_old {a : AS} {bl : Nat → Nat} (h : a.Wf) (hd : ((conc bl a).files.map (·.blk)).Nodup) {k : ByteArray} {l : List UInt8} {i : Nat} (k0 : k.toList.isEmpty = false) (e : findS a.names k.data.toList = some i) :
    { conc bl a with files := setFile (conc bl a).files (bl i) l } = conc bl (a.put k l).2 := by
  unfold AS.put
  rw [e, k0]
  simp only [conc] at hd ⊢
  rw [setFile_turn, turn_conc bl a.files hd i (h.find e) _ (fun f => { f with data := l, synced := false }) (fun j f => rfl)]
  rfl
theorem Ab.record {a : AS} {bl : Nat → Nat} (c : AC) : { conc bl a with names := applyS (conc bl a).names c.src c.dst (bl c.file), pend := (conc bl a).pend ++ [cc bl c] } = conc bl (a.record c) := by
  unfold AS.record
  simp only [conc, cn_apply, List.map_append, List.map_cons, List.map_nil]
theorem Ab.syncdir {a : AS} {bl : Nat → Nat} : { conc bl a with dur := (conc bl a).names, pend := [] } = conc bl a.syncdir.2 := rfl
def upd (bl : Nat → Nat) (n b : Nat) : Nat → Nat := fun i => if i = n then b else bl i
theorem mapIdx_upd (bl : Nat → Nat) (l : List AF) (b : Nat) : l.mapIdx (cf (upd bl l.length b)) = l.mapIdx (cf bl) := by
  apply List.ext_getElem
  · simp
  intro j h1 h2
  have hj : j < l.length := by simpa using h1
  simp only [List.getElem_mapIdx, cf, upd]
  rw [if_neg (by omega)]
theorem cn_upd (bl : Nat → Nat) (m : Nm) (n b : Nat) (h : ∀ p ∈ m, p.2 < n) : cn (upd bl n b) m = cn bl m := by
  unfold cn
  apply List.map_congr_left
  intro p hp
  simp only [upd]
  rw [if_neg (by have := h p hp; omega)]
theorem cc_upd (bl : Nat → Nat) (l : List AC) (n b : Nat) (h : ∀ c ∈ l, c.dst.toList.isEmpty = false → c.file < n) : l.map (cc (upd bl n b)) = l.map (cc bl) := by
  apply List.map_congr_left
  intro c hc
  unfold cc
  cases e : c.dst.toList.isEmpty with
  | true => rfl
  | false =>
    have h1 := h c hc e
    have h2 : upd bl n b c.file = bl c.file := by
      unfold upd
      rw [if_neg (by omega)]
    rw [h2]
theorem Ab.put_new {a : AS} {bl : Nat → Nat} (h : a.Wf) {k : ByteArray} {l : List UInt8} {b : Nat} (hb : ∀ f ∈ (conc bl a).files, f.blk ≠ b) (k0 : k.toList.isEmpty = false) (e : findS a.names k.data.toList = none) :
    ((conc bl a).filed b k).put b l = conc (upd bl a.files.length b) (a.put k l).2 := by
  have hset : setFile ((conc bl a).files ++ [(⟨b, [], [], false⟩ : Fl)]) b l = (conc bl a).files ++ [⟨b, l, [], false⟩] := by
    unfold setFile
    rw [List.map_append]
    congr 1
    · conv => rhs; rw [← List.map_id (conc bl a).files]
      apply List.map_congr_left
      intro f hf
      rw [if_neg (hb f hf)]
      rfl
    · simp
  unfold AS.put
  rw [e, k0]
  unfold St.put St.filed
  simp only
  rw [hset]
  have e1 : (conc bl a).files ++ [(⟨b, l, [], false⟩ : Fl)] = (a.files ++ [(⟨l, [], false⟩ : AF)]).mapIdx (cf (upd bl a.files.length b)) := by
    rw [List.mapIdx_append, mapIdx_upd]
    simp [conc, cf, upd]
  have e2 := cn_upd bl a.names a.files.length b h.names
  have e3 := cn_upd bl a.dur a.files.length b h.dur
  have e4 := cc_upd bl a.pend a.files.length b h.pend
  have e5 : upd bl a.files.length b a.files.length = b := by simp [upd]
  simp only [conc, AS.record, Bool.false_eq_true, if_false] at e1 ⊢
  rw [e1, ← cn_apply, e2, e3, List.map_append, e4, e5]
  simp only [List.map_cons, List.map_nil, cc, e5, k0, Bool.false_eq_true, if_false]
end Go.Proofs.Ytcobjjaicckgpaa.Vf
