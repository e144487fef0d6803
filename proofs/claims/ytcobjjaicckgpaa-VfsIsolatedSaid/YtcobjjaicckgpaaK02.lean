/- Parts of this proof, joined: Vf2, VfW15, VfW16, VfW17, VfW18, VfW19, VfW20, VfW21, VfW22, VfW23, VfW24. -/
import Derived.Test.YtcobjjaicckgpaaIter
import Derived.Test.YtcobjjaicckgpaaK01
/- The file system in plain words: files by number. -/
namespace Go.Proofs.Ytcobjjaicckgpaa.Vf
open Go Go.RowKit Go.Maps Go.Proofs.Ytcobjjaicckgpaa Go.Proofs.Ytcobjjaicckgpaa.Bs
set_option linter.unusedVariables false

structure AF where
  data : List UInt8
  dur : List UInt8
  synced : Bool
structure AC where
  src : ByteArray
  dst : ByteArray
  file : Nat
/-- A file system: files by number, the two directories (names in ascending order), the pending changes. -/
structure AS where
  files : List AF
  names : Nm
  dur : Nm
  pend : List AC
  down : Bool
  armed : Bool
  after : Int
  err : Int
def cf (bl : Nat → Nat) (i : Nat) (f : AF) : Fl := ⟨bl i, f.data, f.dur, f.synced⟩
def cn (bl : Nat → Nat) (m : Nm) : Nm := m.map fun p => (p.1, bl p.2)
def cc (bl : Nat → Nat) (c : AC) : Ch := ⟨c.src, c.dst, if c.dst.toList.isEmpty = true then none else some (bl c.file)⟩
/-- The state whose file i lies in block bl i. -/
def conc (bl : Nat → Nat) (a : AS) : St := ⟨a.files.mapIdx (cf bl), cn bl a.names, cn bl a.dur, a.pend.map (cc bl), a.down, a.armed, a.after, a.err⟩
def Ab (a : AS) (s : St) : Prop := ∃ bl, s = conc bl a
theorem cn_len (bl : Nat → Nat) (m : Nm) : (cn bl m).length = m.length := by simp [cn]
theorem cn_find (bl : Nat → Nat) (m : Nm) (k : List UInt8) : findS (cn bl m) k = (findS m k).map bl := by
  unfold findS cn
  induction m with
  | nil => rfl
  | cons y r ih =>
    simp only [List.map_cons, List.find?_cons]
    cases y.1 == k with
    | true => rfl
    | false => exact ih
theorem cn_del (bl : Nat → Nat) (m : Nm) (k : List UInt8) : delS (cn bl m) k = cn bl (delS m k) := by
  unfold delS cn
  induction m with
  | nil => rfl
  | cons y r ih =>
    simp only [List.map_cons, List.filter_cons]
    split
    · simp only [List.map_cons, ih]
    · exact ih
theorem cn_ins (bl : Nat → Nat) (k : List UInt8) (i : Nat) : ∀ m : Nm, insS (k, bl i) (cn bl m) = cn bl (insS (k, i) m)
  | [] => rfl
  | y :: r => by
    have ih := cn_ins bl k i r
    unfold cn at ih ⊢
    simp only [insS, List.map_cons]
    split
    · rfl
    · simp only [List.map_cons, ih]
theorem cn_put (bl : Nat → Nat) (m : Nm) (k : List UInt8) (i : Nat) : putS (cn bl m) k (bl i) = cn bl (putS m k i) := by
  unfold putS
  rw [cn_del, cn_ins]
theorem cn_apply (bl : Nat → Nat) (m : Nm) (f t : ByteArray) (i : Nat) : applyS (cn bl m) f t (bl i) = cn bl (applyS m f t i) := by
  unfold applyS
  simp only
  split <;> split <;> simp only [cn_del, cn_put]
theorem apply_any (m : Nm) (f t : ByteArray) (i j : Nat) (h : t.toList.isEmpty = true) : applyS m f t i = applyS m f t j := by
  unfold applyS
  simp only [h, if_pos]
theorem turn_conc (bl : Nat → Nat) (l : List AF) (hd : ((l.mapIdx (cf bl)).map (·.blk)).Nodup) (i : Nat) (hi : i < l.length) (g : Fl → Fl) (g' : AF → AF) (hg : ∀ j f, g (cf bl j f) = cf bl j (g' f)) :
    turnFile (l.mapIdx (cf bl)) (bl i) g = (l.modify i g').mapIdx (cf bl) := by
  have hinj : ∀ j, j < l.length → bl j = bl i → j = i := by
    intro j hj e
    have h1 : ((l.mapIdx (cf bl)).map (·.blk))[j]'(by simpa using hj) = bl j := by simp [cf]
    have h2 : ((l.mapIdx (cf bl)).map (·.blk))[i]'(by simpa using hi) = bl i := by simp [cf]
    rcases Nat.lt_trichotomy j i with hlt | heq | hlt
    · exact absurd (h1.trans (e.trans h2.symm)) (List.pairwise_iff_getElem.1 hd j i _ _ hlt)
    · exact heq
    · exact absurd (h2.trans (e.symm.trans h1.symm)) (List.pairwise_iff_getElem.1 hd i j _ _ hlt)
  unfold turnFile
  apply List.ext_getElem
  · simp
  intro j h1 h2
  have hj : j < l.length := by simpa using h1
  simp only [List.getElem_map, List.getElem_mapIdx, List.getElem_modify]
  by_cases e : i = j
  · subst e
    rw [if_pos rfl, if_pos (by rfl), hg]
  · rw [if_neg (fun e2 : (cf bl j l[j]).blk = bl i => e (hinj j hj e2).symm), if_neg e]
theorem setFile_turn (fs : List Fl) (b : Nat) (l : List UInt8) : setFile fs b l = turnFile fs b fun f => { f with data := l, synced := false } := rfl

/-! ### the operations -/
def AS.record (a : AS) (c : AC) : AS := { a with names := applyS a.names c.src c.dst c.file, pend := a.pend ++ [c] }
def AS.sync (k : ByteArray) (a : AS) : Int × AS :=
  match findS a.names k.data.toList with
  | none => (23, a)
  | some i => (0, { a with files := a.files.modify i fun f => { f with dur := f.data, synced := true } })
def AS.rename (k t : ByteArray) (a : AS) : Int × AS :=
  match findS a.names k.data.toList with
  | none => (23, a)
  | some i => if t.toList.isEmpty = true then (2, a) else if (k.toList == t.toList) = true then (0, a) else (0, a.record ⟨k, t, i⟩)
def AS.remove (k : ByteArray) (a : AS) : Int × AS :=
  match findS a.names k.data.toList with
  | none => (23, a)
  | some i => (0, a.record ⟨k, ⟨#[]⟩, 0⟩)
def AS.syncdir (a : AS) : Int × AS := (0, { a with dur := a.names, pend := [] })
def AS.put (k : ByteArray) (l : List UInt8) (a : AS) : Int × AS :=
  if k.toList.isEmpty = true then (2, a) else
  match findS a.names k.data.toList with
  | some i => (0, { a with files := a.files.modify i fun f => { f with data := l, synced := false } })
  | none => (0, AS.record { a with files := a.files ++ [⟨l, [], false⟩] } ⟨⟨#[]⟩, k, a.files.length⟩)
/-- An operation that may be armed to fail: p, or q where it fails. -/
def AS.op (p : AS → Int × AS) (q : AS → AS) (a : AS) : Int × AS :=
  if a.down = true then (24, a) else if a.armed = false then p a else if 0 < a.after then p { a with after := a.after - 1 } else (a.err, { q { a with armed := false } with down := a.err == 24 })
/-- The numbers of files are in range. -/
structure AS.Wf (a : AS) : Prop where
  names : ∀ p ∈ a.names, p.2 < a.files.length
  dur : ∀ p ∈ a.dur, p.2 < a.files.length
  pend : ∀ c ∈ a.pend, c.dst.toList.isEmpty = false → c.file < a.files.length
theorem find_mem {m : Nm} {k : List UInt8} {i : Nat} (h : findS m k = some i) : (k, i) ∈ m := by
  unfold findS at h
  cases e : m.find? fun p => p.1 == k with
  | none => rw [e] at h; cases h
  | some p =>
    rw [e] at h
    have h1 := List.mem_of_find?_eq_some e
    have h2 := List.find?_some e
    simp only [Option.map_some, Option.some.injEq] at h
    have h3 : p.1 = k := by simpa using h2
    obtain ⟨p1, p2⟩ := p
    simp only at h h3
    subst h h3
    exact h1
theorem AS.Wf.find {a : AS} (h : a.Wf) {k : List UInt8} {i : Nat} (e : findS a.names k = some i) : i < a.files.length := h.names _ (find_mem e)

/-! ### the concrete state behind each -/
theorem Ab.sync {a : AS} {bl : Nat → Nat} (h : a.Wf) (hd : ((conc bl a).files.map (·.blk)).Nodup) {k : ByteArray} {i : Nat} (e : findS a.names k.data.toList = some i) :
    { conc bl a with files := turnFile (conc bl a).files (bl i) fun x => { x with dur := x.data, synced := true } } = conc bl (a.sync k).2 := by
  unfold AS.sync
  rw [e]
  simp only [conc] at hd ⊢
  rw [turn_conc bl a.files hd i (h.find e) _ (fun f => { f with dur := f.data, synced := true }) (fun j f => rfl)]
theorem Ab.put_old {a : AS} {bl : Nat → Nat} (h : a.Wf) (hd : ((conc bl a).files.map (·.blk)).Nodup) {k : ByteArray} {l : List UInt8} {i : Nat} (k0 : k.toList.isEmpty = false) (e : findS a.names k.data.toList = some i) :
    { conc bl a with files := setFile (conc bl a).files (bl i) l } = conc bl (a.put k l).2 := by
  unfold AS.put
  rw [e, k0]
  simp only [conc] at hd ⊢
  rw [setFile_turn, turn_conc bl a.files hd i (h.find e) _ (fun f => { f with data := l, synced := false }) (fun j f => rfl)]
  rfl
theorem Ab.record {a : AS} {bl : Nat → Nat} (c : AC) : { conc bl a with names := applyS (conc bl a).names c.src c.dst (bl c.file), pend := (conc bl a).pend ++ [cc bl c] } = conc bl (a.record c) := by
  unfold AS.record
  simp only [conc, cn_apply, List.map_append, List.map_cons, List.map_nil]
theorem Ab.syncdir {a : AS} {bl : Nat → Nat} : { conc bl a with dur := (conc bl a).names, pend := [] } = conc bl a.syncdir.2 := rfl
def upd (bl : Nat → Nat) (n b : Nat) : Nat → Nat := fun i => if i = n then b else bl i
theorem mapIdx_upd (bl : Nat → Nat) (l : List AF) (b : Nat) : l.mapIdx (cf (upd bl l.length b)) = l.mapIdx (cf bl) := by
  apply List.ext_getElem
  · simp
  intro j h1 h2
  have hj : j < l.length := by simpa using h1
  simp only [List.getElem_mapIdx, cf, upd]
  rw [if_neg (by omega)]
theorem cn_upd (bl : Nat → Nat) (m : Nm) (n b : Nat) (h : ∀ p ∈ m, p.2 < n) : cn (upd bl n b) m = cn bl m := by
  unfold cn
  apply List.map_congr_left
  intro p hp
  simp only [upd]
  rw [if_neg (by have := h p hp; omega)]
theorem cc_upd (bl : Nat → Nat) (l : List AC) (n b : Nat) (h : ∀ c ∈ l, c.dst.toList.isEmpty = false → c.file < n) : l.map (cc (upd bl n b)) = l.map (cc bl) := by
  apply List.map_congr_left
  intro c hc
  unfold cc
  cases e : c.dst.toList.isEmpty with
  | true => rfl
  | false =>
    have h1 := h c hc e
    have h2 : upd bl n b c.file = bl c.file := by
      unfold upd
      rw [if_neg (by omega)]
    rw [h2]
theorem Ab.put_new {a : AS} {bl : Nat → Nat} (h : a.Wf) {k : ByteArray} {l : List UInt8} {b : Nat} (hb : ∀ f ∈ (conc bl a).files, f.blk ≠ b) (k0 : k.toList.isEmpty = false) (e : findS a.names k.data.toList = none) :
    ((conc bl a).filed b k).put b l = conc (upd bl a.files.length b) (a.put k l).2 := by
  have hset : setFile ((conc bl a).files ++ [(⟨b, [], [], false⟩ : Fl)]) b l = (conc bl a).files ++ [⟨b, l, [], false⟩] := by
    unfold setFile
    rw [List.map_append]
    congr 1
    · conv => rhs; rw [← List.map_id (conc bl a).files]
      apply List.map_congr_left
      intro f hf
      rw [if_neg (hb f hf)]
      rfl
    · simp
  unfold AS.put
  rw [e, k0]
  unfold St.put St.filed
  simp only
  rw [hset]
  have e1 : (conc bl a).files ++ [(⟨b, l, [], false⟩ : Fl)] = (a.files ++ [(⟨l, [], false⟩ : AF)]).mapIdx (cf (upd bl a.files.length b)) := by
    rw [List.mapIdx_append, mapIdx_upd]
    simp [conc, cf, upd]
  have e2 := cn_upd bl a.names a.files.length b h.names
  have e3 := cn_upd bl a.dur a.files.length b h.dur
  have e4 := cc_upd bl a.pend a.files.length b h.pend
  have e5 : upd bl a.files.length b a.files.length = b := by simp [upd]
  simp only [conc, AS.record, Bool.false_eq_true, if_false] at e1 ⊢
  rw [e1, ← cn_apply, e2, e3, List.map_append, e4, e5]
  simp only [List.map_cons, List.map_nil, cc, e5, k0, Bool.false_eq_true, if_false]
end Go.Proofs.Ytcobjjaicckgpaa.Vf
/- The closures, in plain words. -/
namespace Go.Proofs.Ytcobjjaicckgpaa.Vf
open Go Go.RowKit Go.Maps Go.Proofs.Ytcobjjaicckgpaa Go.Proofs.Ytcobjjaicckgpaa.Bs
set_option linter.unusedVariables false

def ARes (p : AS → Int × AS) (a : AS) : Int → St → Prop := fun r s' => r = (p a).1 ∧ Ab (p a).2 s'
/-- A call's post in plain words: p has been done. -/
abbrev Did (B : Nat) (o : Loc) (s : St) (W : World) (p : AS → Int × AS) (a : AS) : Ending → World → Prop := Stp B o s W (ARes p a)
structure AS.Sm (a : AS) : Prop where
  files : a.files.length ≤ 1000000
  names : a.names.length ≤ 1000000
  pend : a.pend.length ≤ 1000000
theorem Fr.drewN (W : World) (n : Nat) (p : Nat → Prop) : Fr W (W.drewN n) p := ⟨rfl, rfl, rfl, Nat.le_refl _, fun _ _ _ => rfl⟩
theorem Did.quiet {B r : Nat} {o : Loc} {s : St} {W : World} {p : AS → Int × AS} {a : AS} (h : Is W B o s) (ha : Ab a s) (n : Nat) (h1 : (p a).1 = r) (h2 : (p a).2 = a) : Did B o s W p a (.returned (.int .i64 r)) (W.drewN n) :=
  ⟨r, s, o, rfl, ⟨h1.symm, by rw [h2]; exact ha⟩, rfl, rfl, h.drewN n, Fr.drewN _ _ _, fun _ hk => .inl hk⟩
theorem Did.ps {B : Nat} {o : Loc} {s s' : St} {W w' : World} {p : AS → Int × AS} {a : AS} {r : Int} {ps' : Value} (hi : Is w' B { o with ps := ps' } s') (hf : Fr W w' (foot o s)) (hg : ∀ g, ps'.ownBlock = some g → o.ps.ownBlock = some g ∨ W.heap.size ≤ g) (hs : s'.files = s.files)
    (h1 : (p a).1 = r) (h2 : Ab (p a).2 s') : Did B o s W p a (.returned (.int .i64 r)) w' := by
  refine ⟨r, s', { o with ps := ps' }, rfl, ⟨h1.symm, h2⟩, rfl, rfl, hi, hf, ?_⟩
  rintro k' (rfl | rfl | rfl | hk' | hk' | ⟨f, hf, rfl⟩)
  · exact .inl (.inl rfl)
  · exact .inl (.inr (.inl rfl))
  · exact .inl (.inr (.inr (.inl rfl)))
  · exact .inl (.inr (.inr (.inr (.inl hk'))))
  · rcases hg k' hk' with e | e
    · exact .inl (.inr (.inr (.inr (.inr (.inl e)))))
    · exact .inr e
  · rw [hs] at hf
    exact .inl (.inr (.inr (.inr (.inr (.inr ⟨f, hf, rfl⟩)))))
theorem foot_turn {o : Loc} {s : St} {b k : Nat} {g : Fl → Fl} (hg : ∀ f, (g f).blk = f.blk) (h : foot o { s with files := turnFile s.files b g } k) : foot o s k := by
  rcases h with h | h | h | h | h | ⟨f, hf, rfl⟩
  · exact .inl h
  · exact .inr (.inl h)
  · exact .inr (.inr (.inl h))
  · exact .inr (.inr (.inr (.inl h)))
  · exact .inr (.inr (.inr (.inr (.inl h))))
  · obtain ⟨f0, hf0, rfl⟩ := List.mem_map.1 (show f ∈ turnFile _ _ _ from hf)
    have e : (if f0.blk = b then g f0 else f0 : Fl).blk = f0.blk := by split <;> simp [hg]
    rw [e]
    exact .inr (.inr (.inr (.inr (.inr ⟨f0, hf0, rfl⟩))))
theorem Ab.find_none {bl : Nat → Nat} {a : AS} {k : List UInt8} (e : findS a.names k = none) : findS (conc bl a).names k = none := by
  show findS (cn bl a.names) k = none
  rw [cn_find, e]
  rfl
theorem Ab.find_some {bl : Nat → Nat} {a : AS} {k : List UInt8} {i : Nat} (e : findS a.names k = some i) : findS (conc bl a).names k = some (bl i) := by
  show findS (cn bl a.names) k = _
  rw [cn_find, e]
  rfl
theorem Ab.file {bl : Nat → Nat} {a : AS} {i : Nat} (h : i < a.files.length) : ∃ f ∈ (conc bl a).files, f.blk = bl i := by
  refine ⟨(a.files.mapIdx (cf bl))[i]'(by simpa using h), List.getElem_mem _, ?_⟩
  simp [cf]
theorem sync1_is (B F p q : Nat) (o : Loc) (s : St) (a : AS) (k : ByteArray) (W : World) (h : Is W B o s) (ha : Ab a s) (hw : a.Wf) (hF : o.F = F) (hp : W.cell? ⟨p, 0, none⟩ = some (.pointer (some ⟨F, 0, none⟩))) (hq : W.cell? ⟨q, 0, none⟩ = some (.string k)) (hk : k.size ≤ 1000000) :
    Calls Try.prog 34 #[.pointer (some ⟨p, 0, none⟩), .pointer (some ⟨q, 0, none⟩)] W (Did B o s W (AS.sync k) a) := by
  obtain ⟨bl, rfl⟩ := id ha
  cases e : findS a.names k.data.toList with
  | none =>
    refine (sync1_none B F p q o _ k W h hF hp hq hk (Ab.find_none e)).mono ?_
    rintro e w' ⟨rfl, n, rfl⟩
    exact Did.quiet h ha n (by unfold AS.sync; rw [e]; rfl) (by unfold AS.sync; rw [e])
  | some i =>
    obtain ⟨f, hm, hb⟩ := Ab.file (bl := bl) (hw.find e)
    refine (sync1_some B (bl i) F p q o _ k f W h hF hp hq hk (Ab.find_some e) hm hb).mono ?_
    rintro e w' ⟨rfl, hi, hf⟩
    exact ⟨0, _, o, rfl, ⟨by unfold AS.sync; rw [e], bl, Ab.sync hw h.dist e⟩, rfl, rfl, hi, hf, fun k' hk' => .inl (foot_turn (b := bl i) (g := fun x => { x with dur := x.data, synced := true }) (fun _ => rfl) hk')⟩
theorem remove1_is (B F p q : Nat) (o : Loc) (s : St) (a : AS) (k : ByteArray) (W : World) (h : Is W B o s) (ha : Ab a s) (hw : a.Wf) (hs : a.Sm) (hF : o.F = F) (hp : W.cell? ⟨p, 0, none⟩ = some (.pointer (some ⟨F, 0, none⟩))) (hq : W.cell? ⟨q, 0, none⟩ = some (.string k)) (hk : k.size ≤ 1000000) :
    Calls Try.prog 51 #[.pointer (some ⟨p, 0, none⟩), .pointer (some ⟨q, 0, none⟩)] W (Did B o s W (AS.remove k) a) := by
  obtain ⟨bl, rfl⟩ := id ha
  cases e : findS a.names k.data.toList with
  | none =>
    refine (remove1_none B F p q o _ k W h hF hp hq hk (Ab.find_none e)).mono ?_
    rintro e w' ⟨rfl, n, rfl⟩
    exact Did.quiet h ha n (by unfold AS.remove; rw [e]; rfl) (by unfold AS.remove; rw [e])
  | some i =>
    refine (remove1_some B (bl i) F p q o _ k W h hF hp hq hk (Ab.find_some e) (by simpa [conc, cn_len] using hs.names) (by simpa [conc] using hs.pend)).mono ?_
    rintro e w' ⟨rfl, ps', hi, hf, hg⟩
    refine Did.ps hi hf hg rfl (by unfold AS.remove; rw [e]) ⟨bl, ?_⟩
    unfold AS.remove
    rw [e]
    simp only
    rw [← Ab.record, apply_any _ k ⟨#[]⟩ 0 (bl 0) (by rw [Lib.toList_data]; rfl)]
    have e2 : cc bl ⟨k, ⟨#[]⟩, 0⟩ = ⟨k, ⟨#[]⟩, none⟩ := by
      unfold cc
      rw [if_pos (by rw [Lib.toList_data]; rfl)]
    rw [e2]
theorem rename1_is (B F p q r : Nat) (o : Loc) (s : St) (a : AS) (k t : ByteArray) (W : World) (h : Is W B o s) (ha : Ab a s) (hw : a.Wf) (hs : a.Sm) (hF : o.F = F) (hp : W.cell? ⟨p, 0, none⟩ = some (.pointer (some ⟨F, 0, none⟩))) (hq : W.cell? ⟨q, 0, none⟩ = some (.string k)) (hr : W.cell? ⟨r, 0, none⟩ = some (.string t)) (hk : k.size ≤ 1000000) (ht : t.size ≤ 1000000) :
    Calls Try.prog 38 #[.pointer (some ⟨p, 0, none⟩), .pointer (some ⟨q, 0, none⟩), .pointer (some ⟨r, 0, none⟩)] W (Did B o s W (AS.rename k t) a) := by
  obtain ⟨bl, rfl⟩ := id ha
  cases e : findS a.names k.data.toList with
  | none =>
    refine (rename1_none B 0 F p q r o _ k t W h hF hp hq hr hk (Ab.find_none e)).mono ?_
    rintro e w' ⟨rfl, n, rfl⟩
    exact Did.quiet h ha n (by unfold AS.rename; rw [e]; rfl) (by unfold AS.rename; rw [e])
  | some i =>
    cases t0 : t.toList.isEmpty with
    | true =>
      refine (rename1_empty B (bl i) F p q r o _ k t W h hF hp hq hr hk (Ab.find_some e) t0).mono ?_
      rintro e w' ⟨rfl, n, rfl⟩
      exact Did.quiet h ha n (by unfold AS.rename; rw [e]; simp only [t0]; rfl) (by unfold AS.rename; rw [e]; simp only [t0]; rfl)
    | false =>
      cases tk : k.toList == t.toList with
      | true =>
        refine (rename1_same B (bl i) F p q r o _ k t W h hF hp hq hr hk (Ab.find_some e) t0 tk).mono ?_
        rintro e w' ⟨rfl, n, rfl⟩
        exact Did.quiet h ha n (by unfold AS.rename; rw [e]; simp only [t0, tk]; rfl) (by unfold AS.rename; rw [e]; simp only [t0, tk]; rfl)
      | false =>
        refine (rename1_some B (bl i) F p q r o _ k t W h hF hp hq hr hk ht (Ab.find_some e) t0 tk (by simpa [conc, cn_len] using hs.names) (by simpa [conc] using hs.pend)).mono ?_
        rintro e w' ⟨rfl, ps', hi, hf, hg⟩
        have eR : AS.rename k t a = (0, a.record ⟨k, t, i⟩) := by
          unfold AS.rename
          rw [e]
          simp only [t0, tk, Bool.false_eq_true, if_false]
        refine Did.ps hi hf hg rfl (by rw [eR]) ⟨bl, ?_⟩
        rw [eR]
        simp only
        rw [← Ab.record]
        have e2 : cc bl ⟨k, t, i⟩ = ⟨k, t, some (bl i)⟩ := by
          unfold cc
          simp only [t0, Bool.false_eq_true, if_false]
        rw [e2]
theorem syncdir1_is (B F p : Nat) (o : Loc) (s : St) (a : AS) (W : World) (h : Is W B o s) (ha : Ab a s) (hF : o.F = F) (hp : W.cell? ⟨p, 0, none⟩ = some (.pointer (some ⟨F, 0, none⟩))) :
    Calls Try.prog 36 #[.pointer (some ⟨p, 0, none⟩)] W (Did B o s W AS.syncdir a) := by
  obtain ⟨bl, rfl⟩ := id ha
  obtain ⟨es, ck, hm⟩ := h.names.block
  subst hF
  obtain ⟨c1, -, -, -, -, -, fz⟩ := fs_flags h.fs
  obtain ⟨c3, -⟩ := fs_at3 h.fs
  have hB := Nat.le_trans h.bF (Nat.le_of_lt (lt_of_heap h.fs))
  refine (syncdir1_walk o.F p o.nb W _ _ es ck hp (fs_at0 h.fs) c1 c3 (fz 1) (fz 3) hm).mono ?_
  rintro e w' ⟨rfl, rfl⟩
  have hi := Is.synced (w := W.drewN 1) (h.drewN 1) es ck hm hB
  have f1 : Fr W (W.drew.alloc (.map es ck)) (foot o (conc bl a)) := (Fr.drewN W 1 _).trans (Fr.of_below ((Below.refl (W.drewN 1).heap.size (W.drewN 1)).alloc (Nat.le_refl _) (.map es ck)) (foot o (conc bl a))) (fun _ _ e => e)
  have f2 := (f1.trans (Fr.set _ ⟨o.F, 1, none⟩ (.map (some W.heap.size)) (foot o (conc bl a)) (.inl rfl)) (fun _ _ e => e)).trans (Fr.set _ ⟨o.F, 3, none⟩ (.slice none 0 0) (foot o (conc bl a)) (.inl rfl)) (fun _ _ e => e)
  refine ⟨0, _, { o with db := W.heap.size, ps := .slice none 0 0 }, rfl, ⟨rfl, bl, rfl⟩, rfl, rfl, hi, f2, ?_⟩
  rintro k' (rfl | rfl | rfl | hk' | hk' | ⟨f, hf, rfl⟩)
  · exact .inl (.inl rfl)
  · exact .inl (.inr (.inl rfl))
  · exact .inr (Nat.le_refl _)
  · exact .inl (.inr (.inr (.inr (.inl hk'))))
  · simp [Value.ownBlock] at hk'
  · exact .inl (.inr (.inr (.inr (.inr (.inr ⟨f, hf, rfl⟩)))))
theorem empty_data {k : ByteArray} (h : k.toList.isEmpty = true) : k = ⟨#[]⟩ := by
  rw [Lib.toList_data] at h
  obtain ⟨⟨l⟩⟩ := k
  simp only [List.isEmpty_iff] at h
  subst h
  rfl
theorem put_is (B F : Nat) (o : Loc) (s : St) (a : AS) (k : ByteArray) (v : Value) (l : List UInt8) (W : World) (h : Is W B o s) (ha : Ab a s) (hw : a.Wf) (hs : a.Sm) (hF : o.F = F) (hk : k.size ≤ 1000000) (hl : l.length ≤ 1000000) (hv : Rd W v l) :
    Calls Try.prog 32 #[.pointer (some ⟨F, 0, none⟩), .string k, v] W (Did B o s W (AS.put k l) a) := by
  obtain ⟨bl, rfl⟩ := id ha
  subst hF
  cases k0 : k.toList.isEmpty with
  | true =>
    have ek := empty_data k0
    subst ek
    refine (put_none B o v W).mono ?_
    rintro e w' ⟨rfl, rfl⟩
    have e1 : AS.put ⟨#[]⟩ l a = (2, a) := by unfold AS.put; rw [if_pos k0]
    exact Did.quiet (r := 2) h ha 0 (by rw [e1]; rfl) (by rw [e1])
  | false =>
    cases e : findS a.names k.data.toList with
    | none =>
      refine (put_new B o _ k v l W h hk k0 hl hv (Ab.find_none e) (by simpa [conc] using hs.files) (by simpa [conc, cn_len] using hs.names) (by simpa [conc] using hs.pend)).mono ?_
      rintro e w' ⟨r, s', o', rfl, ⟨rfl, b, hb, rfl⟩, h1, h2, h3, h4, h5⟩
      refine ⟨0, _, o', rfl, ⟨?_, ⟨_, Ab.put_new hw hb k0 e⟩⟩, h1, h2, h3, h4, h5⟩
      unfold AS.put
      rw [k0, e]
      rfl
    | some i =>
      obtain ⟨f, hm, hb⟩ := Ab.file (bl := bl) (hw.find e)
      refine (put_old B (bl i) o _ k v l f W h hk k0 hl hv (Ab.find_some e) hm hb).mono ?_
      rintro e w' ⟨rfl, hi, hf⟩
      refine ⟨0, _, o, rfl, ⟨?_, bl, Ab.put_old hw h.dist k0 e⟩, rfl, rfl, hi, hf, fun k' hk' => .inl (foot_turn (b := bl i) (g := fun x => { x with data := l, synced := false }) (fun _ => rfl) hk')⟩
      unfold AS.put
      rw [k0, e]
      rfl
end Go.Proofs.Ytcobjjaicckgpaa.Vf
/- Write's closures; the flags. -/
namespace Go.Proofs.Ytcobjjaicckgpaa.Vf
open Go Go.RowKit Go.Maps Go.Proofs.Ytcobjjaicckgpaa Go.Proofs.Ytcobjjaicckgpaa.Bs
set_option linter.unusedVariables false

set_option maxRecDepth 100000 in
set_option maxHeartbeats 4000000 in
theorem write1_is (B F p q r : Nat) (o : Loc) (s : St) (a : AS) (k : ByteArray) (v : Value) (l : List UInt8) (W : World) (h : Is W B o s) (ha : Ab a s) (hw : a.Wf) (hs : a.Sm) (hF : o.F = F) (hp : W.cell? ⟨p, 0, none⟩ = some (.pointer (some ⟨F, 0, none⟩))) (hq : W.cell? ⟨q, 0, none⟩ = some (.string k)) (hr : W.cell? ⟨r, 0, none⟩ = some v) (hk : k.size ≤ 1000000) (hl : l.length ≤ 1000000) (hv : Rd W v l) :
    Calls Try.prog 31 #[.pointer (some ⟨p, 0, none⟩), .pointer (some ⟨q, 0, none⟩), .pointer (some ⟨r, 0, none⟩)] W (Did B o s W (AS.put k l) a) := by
  have cP := Lib.hid (put_is B F o s a k v l W h ha hw hs hF hk hl hv)
  obtain ⟨a1, n1, p1, hdv⟩ := hv.slice
  subst hdv
  clear h ha hw hs hv
  go_enter Try.func31, Try.ntmps31
  go_wp2_with fail
  refine cP.out.mono ?_
  rintro e w1 ⟨r, s', o', rfl, hR⟩
  have HR := Lib.hid hR
  clear hR
  go_wp2_with fail
  go_ret
  exact ⟨r, s', o', rfl, HR.out⟩
theorem Did.from {B : Nat} {o : Loc} {s : St} {W W1 w' : World} {p : AS → Int × AS} {a : AS} {e : Ending} (hf : Fr W W1 (foot o s)) (h : Did B o s W1 p a e w') : Did B o s W p a e w' := by
  obtain ⟨r, s', o', h0, h1, h2, h3, h4, h5, h6⟩ := h
  exact ⟨r, s', o', h0, h1, h2, h3, h4, hf.trans h5 (fun _ _ e => e), fun k hk => (h6 k hk).imp id (fun e => Nat.le_trans hf.size e)⟩
theorem Rd.half {w : World} {ad : Option Addr} {n c : Nat} {l : List UInt8} (h : Rd w (.slice ad n c) l) : n = l.length ∧ n ≤ c ∧ Rd w (.slice ad (n / 2) c) (l.take (l.length / 2)) := by
  rcases h with ⟨h1, rfl⟩ | ⟨g, cap, cur, fr, h1, h2, h3, h4⟩
  · injection h1 with e1 e2 e3
    subst e1 e2 e3
    exact ⟨rfl, Nat.le_refl _, .inl ⟨rfl, rfl⟩⟩
  · injection h1 with e1 e2 e3
    subst e1 e2 e3
    refine ⟨rfl, h3, .inr ⟨g, c, cur, fr, ?_, h2, ?_, ?_⟩⟩
    · rw [List.length_take, Nat.min_eq_left (Nat.div_le_self _ _)]
    · rw [List.length_take]; omega
    · rw [List.length_take, Nat.min_eq_left (Nat.div_le_self _ _)]
      have := congrArg (List.take (l.length / 2)) h4
      rw [List.take_take, Nat.min_eq_left (Nat.div_le_self _ _)] at this
      rw [this]
      simp [Lib.byteCells, List.map_take]
set_option maxRecDepth 100000 in
set_option maxHeartbeats 4000000 in
theorem write2_is (B F p q r : Nat) (o : Loc) (s : St) (a : AS) (k : ByteArray) (v : Value) (l : List UInt8) (W : World) (h : Is W B o s) (ha : Ab a s) (hw : a.Wf) (hs : a.Sm) (hF : o.F = F) (hp : W.cell? ⟨p, 0, none⟩ = some (.pointer (some ⟨F, 0, none⟩))) (hq : W.cell? ⟨q, 0, none⟩ = some (.string k)) (hr : W.cell? ⟨r, 0, none⟩ = some v) (hk : k.size ≤ 1000000) (hl : l.length ≤ 1000000) (hv : Rd W v l) :
    Calls Try.prog 33 #[.pointer (some ⟨p, 0, none⟩), .pointer (some ⟨q, 0, none⟩), .pointer (some ⟨r, 0, none⟩)] W fun e w' => e = .returned (.tuple #[]) ∧ ∃ e', Did B o s W (AS.put k (l.take (l.length / 2))) a e' w' := by
  obtain ⟨a1, n1, p1, hdv⟩ := hv.slice
  subst hdv
  obtain ⟨hn, hc, hv2⟩ := hv.half
  have hv3 : Rd W.drew (.slice a1 (n1 / 2) p1) (l.take (l.length / 2)) := hv2.kept (fun _ _ _ _ => rfl)
  have cP := Lib.hid (put_is B F o s a k (.slice a1 (n1 / 2) p1) (l.take (l.length / 2)) W.drew (h.drewN 1) ha hw hs hF hk (by rw [List.length_take]; omega) hv3)
  obtain ⟨m, hm⟩ : ∃ m, n1 / 2 = m := ⟨_, rfl⟩
  rw [hm] at cP
  have i4 : IntKind.i64.wrap ((n1 : Int) / 2) = (m : Int) := by
    rw [IntKind.wrap_i64]
    omega
  have i1 : (0 : Int) ≤ (m : Int) := by omega
  have i2 : (m : Int) ≤ (p1 : Int) := by omega
  clear h ha hw hs hv hn hv2 hv3 hm hl hc
  go_enter Try.func33, Try.ntmps33
  go_still_tail 7, (by kernel_rfl)
  change wpList _ _ _ _ _ W.drew
  go_wp2_with fail
  refine cP.out.mono ?_
  rintro e w1 ⟨r, s', o', rfl, hR⟩
  have HR := Lib.hid hR
  clear hR
  go_wp2_with fail
  go_end0
  exact ⟨rfl, _, Did.from (Fr.drewN W 1 _) ⟨r, s', o', rfl, HR.out⟩⟩
end Go.Proofs.Ytcobjjaicckgpaa.Vf
/- operate, over each of the closures. -/
namespace Go.Proofs.Ytcobjjaicckgpaa.Vf
open Go Go.RowKit Go.Maps Go.Proofs.Ytcobjjaicckgpaa Go.Proofs.Ytcobjjaicckgpaa.Bs
set_option linter.unusedVariables false

/-- A field of the file system that is a flag is set. -/
theorem Is.flag {w : World} {B j : Nat} {o : Loc} {s s' : St} {v : Value} (h : Is w B o s) (h1 : s'.files = s.files) (h2 : s'.names = s.names) (h3 : s'.dur = s.dur) (h4 : s'.pend = s.pend) (hc : (fsCells o s).setIfInBounds j v = fsCells o s') : Is (w.setCell ⟨o.F, j, none⟩ v) B o s' := by
  have hF := heap_setCell_same w o.F j _ _ v h.fs
  have K : ∀ k, k ≠ o.F → (w.setCell ⟨o.F, j, none⟩ v).heap[k]? = w.heap[k]? := fun k hk => heap_setCell_other _ _ _ _ hk
  have KC : ∀ k cur t fr, w.heap[k]? = some (Obj.cells cur t fr) → t ≠ 64 → (w.setCell ⟨o.F, j, none⟩ v).heap[k]? = w.heap[k]? := fun k cur t fr hk ht => K k (ne_of hk h.fs ht)
  have KM : ∀ b m, Dir w b m → (w.setCell ⟨o.F, j, none⟩ v).heap[b]? = w.heap[b]? := fun b m hd => K b (fun e => hd.neB h.fs e.symm)
  exact
    { fs := by rw [hF]; rw [← hc]
      names := by rw [h2]; exact h.names.of_block (KM _ _ h.names)
      dur := by rw [h3]; exact h.dur.of_block (KM _ _ h.dur)
      nd := h.nd
      files := by rw [h1]; exact own_kept h.files fun k hk => by obtain ⟨cur, hc⟩ := own_block h.files hk; exact KC _ _ _ _ hc (by decide)
      pend := by rw [h4]; exact own_kept h.pend fun k hk => by obtain ⟨cur, hc⟩ := own_block h.pend hk; exact KC _ _ _ _ hc (by decide)
      each := fun f hf => by
        rw [h1] at hf
        exact (h.each f hf).kept (by obtain ⟨dv, rv, h1, _⟩ := h.each f hf; exact KC _ _ _ _ h1 (by decide)) (fun k cur fr hc => KC _ _ _ _ hc (by decide))
      zl := zl_kept h.zl (fun k cur fr hc => KC _ _ _ _ hc (by decide))
      dist := by rw [h1]; exact h.dist
      bF := h.bF
      bn := h.bn
      bd := h.bd
      bf := by rw [h1]; exact h.bf }
theorem run_neq_func {P : Program} (w : World) (t : TypeId) (fn : Fn) (fi ca : Array Value) {ps rs : Array TypeId} {vd : Bool} (ht : P.underlying t = some (.func ps rs vd)) :
    (binOp .neq t (.func fn fi ca) .nilFunc).run P w = .ok (.bool true) w := by
  have h : ∀ d : Nat, (Op.equalIn (d + 1) t (.func fn fi ca) .nilFunc).run P w = .ok false w := fun d => by
    simp [Op.equalIn, run_underlying ht]
  simp only [binOp]
  simp [Op.equal, Op.maxDepth, h 9999]
theorem run_neq_nilfunc {P : Program} (w : World) (t : TypeId) {ps rs : Array TypeId} {vd : Bool} (ht : P.underlying t = some (.func ps rs vd)) :
    (binOp .neq t .nilFunc .nilFunc).run P w = .ok (.bool false) w := by
  have h : ∀ d : Nat, (Op.equalIn (d + 1) t .nilFunc .nilFunc).run P w = .ok true w := fun d => by
    simp [Op.equalIn, run_underlying ht]
  simp only [binOp]
  simp [Op.equal, Op.maxDepth, h 9999]
theorem foot_flag {o : Loc} {s s' : St} {k : Nat} (h1 : s'.files = s.files) (h : foot o s' k) : foot o s k := by
  unfold foot at h ⊢
  rw [h1] at h
  exact h
theorem op_down {B : Nat} {o : Loc} {s : St} {a : AS} {W : World} {P : AS → Int × AS} {Q : AS → AS} (p q : Value) (h : Is W B o s) (ha : Ab a s) (hd : a.down = true) :
    Calls Try.prog 30 #[.pointer (some ⟨o.F, 0, none⟩), p, q] W (Did B o s W (AS.op P Q) a) := by
  obtain ⟨bl, rfl⟩ := id ha
  refine (operate_down B o _ p q W h hd).mono ?_
  rintro e w' ⟨rfl, rfl⟩
  have e1 : AS.op P Q a = (24, a) := by unfold AS.op; rw [if_pos hd]
  exact Did.quiet (r := 24) h ha 0 (by rw [e1]; rfl) (by rw [e1])
theorem Did.weak {B : Nat} {o : Loc} {s : St} {a : AS} {W w' : World} {p p' : AS → Int × AS} {e : Ending} (h : Did B o s W p a e w') (hp : p' a = p a) : Did B o s W p' a e w' := by
  obtain ⟨r, s', o', h0, ⟨h1, h2⟩, h3⟩ := h
  exact ⟨r, s', o', h0, ⟨by rw [hp]; exact h1, by rw [hp]; exact h2⟩, h3⟩
set_option maxRecDepth 100000 in
set_option maxHeartbeats 4000000 in
theorem after_write (B : Nat) (o : Loc) (s : St) (z : Int) (x1 x2 x3 q : Value) (W : World) (Q : Int → World → Prop) (h : Is W B o s) (hd : s.down = false) (ha : s.armed = true) (hz : (0 : Int) < s.after) (hw : IntKind.i64.wrap (s.after - 1) = z)
    (hp : Calls Try.prog 31 #[x1, x2, x3] (W.setCell ⟨o.F, 6, none⟩ (.int .i64 z)) fun e w' => ∃ r, e = .returned (.int .i64 r) ∧ Q r w') :
    Calls Try.prog 30 #[.pointer (some ⟨o.F, 0, none⟩), .func (.func 31) #[] #[x1, x2, x3], q] W fun e w' => ∃ r, e = .returned (.int .i64 r) ∧ Q r w' := by
  obtain ⟨-, -, c4, c5, c6, -, fz⟩ := fs_flags h.fs
  have f6 := fz 6
  rw [hd] at c4
  rw [ha] at c5
  generalize s.after = x at c6 hz hw
  clear h fz
  have HP := Lib.hid hp
  clear hp
  go_enter Try.func30, Try.ntmps30
  go_wp2_with fail
  refine HP.out.mono ?_
  rintro e w1 ⟨r, rfl, hQ⟩
  have HQ := Lib.hid hQ
  clear hQ
  go_wp2_with fail
  go_ret
  exact ⟨r, rfl, HQ.out⟩
set_option maxRecDepth 100000 in
set_option maxHeartbeats 4000000 in
theorem after_sync (B : Nat) (o : Loc) (s : St) (z : Int) (x1 x2 q : Value) (W : World) (Q : Int → World → Prop) (h : Is W B o s) (hd : s.down = false) (ha : s.armed = true) (hz : (0 : Int) < s.after) (hw : IntKind.i64.wrap (s.after - 1) = z)
    (hp : Calls Try.prog 34 #[x1, x2] (W.setCell ⟨o.F, 6, none⟩ (.int .i64 z)) fun e w' => ∃ r, e = .returned (.int .i64 r) ∧ Q r w') :
    Calls Try.prog 30 #[.pointer (some ⟨o.F, 0, none⟩), .func (.func 34) #[] #[x1, x2], q] W fun e w' => ∃ r, e = .returned (.int .i64 r) ∧ Q r w' := by
  obtain ⟨-, -, c4, c5, c6, -, fz⟩ := fs_flags h.fs
  have f6 := fz 6
  rw [hd] at c4
  rw [ha] at c5
  generalize s.after = x at c6 hz hw
  clear h fz
  have HP := Lib.hid hp
  clear hp
  go_enter Try.func30, Try.ntmps30
  go_wp2_with fail
  refine HP.out.mono ?_
  rintro e w1 ⟨r, rfl, hQ⟩
  have HQ := Lib.hid hQ
  clear hQ
  go_wp2_with fail
  go_ret
  exact ⟨r, rfl, HQ.out⟩
set_option maxRecDepth 100000 in
set_option maxHeartbeats 4000000 in
theorem after_syncdir (B : Nat) (o : Loc) (s : St) (z : Int) (x1 q : Value) (W : World) (Q : Int → World → Prop) (h : Is W B o s) (hd : s.down = false) (ha : s.armed = true) (hz : (0 : Int) < s.after) (hw : IntKind.i64.wrap (s.after - 1) = z)
    (hp : Calls Try.prog 36 #[x1] (W.setCell ⟨o.F, 6, none⟩ (.int .i64 z)) fun e w' => ∃ r, e = .returned (.int .i64 r) ∧ Q r w') :
    Calls Try.prog 30 #[.pointer (some ⟨o.F, 0, none⟩), .func (.func 36) #[] #[x1], q] W fun e w' => ∃ r, e = .returned (.int .i64 r) ∧ Q r w' := by
  obtain ⟨-, -, c4, c5, c6, -, fz⟩ := fs_flags h.fs
  have f6 := fz 6
  rw [hd] at c4
  rw [ha] at c5
  generalize s.after = x at c6 hz hw
  clear h fz
  have HP := Lib.hid hp
  clear hp
  go_enter Try.func30, Try.ntmps30
  go_wp2_with fail
  refine HP.out.mono ?_
  rintro e w1 ⟨r, rfl, hQ⟩
  have HQ := Lib.hid hQ
  clear hQ
  go_wp2_with fail
  go_ret
  exact ⟨r, rfl, HQ.out⟩
set_option maxRecDepth 100000 in
set_option maxHeartbeats 4000000 in
theorem after_rename (B : Nat) (o : Loc) (s : St) (z : Int) (x1 x2 x3 q : Value) (W : World) (Q : Int → World → Prop) (h : Is W B o s) (hd : s.down = false) (ha : s.armed = true) (hz : (0 : Int) < s.after) (hw : IntKind.i64.wrap (s.after - 1) = z)
    (hp : Calls Try.prog 38 #[x1, x2, x3] (W.setCell ⟨o.F, 6, none⟩ (.int .i64 z)) fun e w' => ∃ r, e = .returned (.int .i64 r) ∧ Q r w') :
    Calls Try.prog 30 #[.pointer (some ⟨o.F, 0, none⟩), .func (.func 38) #[] #[x1, x2, x3], q] W fun e w' => ∃ r, e = .returned (.int .i64 r) ∧ Q r w' := by
  obtain ⟨-, -, c4, c5, c6, -, fz⟩ := fs_flags h.fs
  have f6 := fz 6
  rw [hd] at c4
  rw [ha] at c5
  generalize s.after = x at c6 hz hw
  clear h fz
  have HP := Lib.hid hp
  clear hp
  go_enter Try.func30, Try.ntmps30
  go_wp2_with fail
  refine HP.out.mono ?_
  rintro e w1 ⟨r, rfl, hQ⟩
  have HQ := Lib.hid hQ
  clear hQ
  go_wp2_with fail
  go_ret
  exact ⟨r, rfl, HQ.out⟩
set_option maxRecDepth 100000 in
set_option maxHeartbeats 4000000 in
theorem after_remove (B : Nat) (o : Loc) (s : St) (z : Int) (x1 x2 q : Value) (W : World) (Q : Int → World → Prop) (h : Is W B o s) (hd : s.down = false) (ha : s.armed = true) (hz : (0 : Int) < s.after) (hw : IntKind.i64.wrap (s.after - 1) = z)
    (hp : Calls Try.prog 51 #[x1, x2] (W.setCell ⟨o.F, 6, none⟩ (.int .i64 z)) fun e w' => ∃ r, e = .returned (.int .i64 r) ∧ Q r w') :
    Calls Try.prog 30 #[.pointer (some ⟨o.F, 0, none⟩), .func (.func 51) #[] #[x1, x2], q] W fun e w' => ∃ r, e = .returned (.int .i64 r) ∧ Q r w' := by
  obtain ⟨-, -, c4, c5, c6, -, fz⟩ := fs_flags h.fs
  have f6 := fz 6
  rw [hd] at c4
  rw [ha] at c5
  generalize s.after = x at c6 hz hw
  clear h fz
  have HP := Lib.hid hp
  clear hp
  go_enter Try.func30, Try.ntmps30
  go_wp2_with fail
  refine HP.out.mono ?_
  rintro e w1 ⟨r, rfl, hQ⟩
  have HQ := Lib.hid hQ
  clear hQ
  go_wp2_with fail
  go_ret
  exact ⟨r, rfl, HQ.out⟩
set_option maxRecDepth 100000 in
set_option maxHeartbeats 4000000 in
theorem fail_nil (B : Nat) (o : Loc) (s : St) (dn : Bool) (p : Value) (W : World) (h : Is W B o s) (hd : s.down = false) (ha : s.armed = true) (hz : decide ((0 : Int) < s.after) = false) (he : (s.err == 24) = dn) :
    Calls Try.prog 30 #[.pointer (some ⟨o.F, 0, none⟩), p, .nilFunc] W fun e w' => e = .returned (.int .i64 s.err) ∧ w' = (W.setCell ⟨o.F, 5, none⟩ (.bool false)).setCell ⟨o.F, 4, none⟩ (.bool dn) := by
  obtain ⟨-, -, c4, c5, c6, c7, fz⟩ := fs_flags h.fs
  have f5 := fz 5
  have f4 := fz 4
  rw [hd] at c4
  rw [ha] at c5
  generalize s.after = x at c6 hz
  generalize s.err = y at c7 he ⊢
  clear h fz
  have hN : ∀ w : World, (binOp .neq 1 .nilFunc .nilFunc).run Try.prog w = .ok (.bool false) w := fun w => run_neq_nilfunc w _ Try.underlying1
  go_enter Try.func30, Try.ntmps30
  go_wp2_with fail
  go_ret
  exact ⟨rfl, rfl⟩
set_option maxRecDepth 100000 in
set_option maxHeartbeats 4000000 in
theorem fail_write (B : Nat) (o : Loc) (s : St) (dn : Bool) (p x1 x2 x3 : Value) (W : World) (Q : World → Prop) (h : Is W B o s) (hd : s.down = false) (ha : s.armed = true) (hz : decide ((0 : Int) < s.after) = false) (he : (s.err == 24) = dn)
    (hq : Calls Try.prog 33 #[x1, x2, x3] (W.setCell ⟨o.F, 5, none⟩ (.bool false)) fun e w' => e = .returned (.tuple #[]) ∧ Q w' ∧ w'.cell? ⟨o.F, 7, none⟩ = some (.int .i64 s.err) ∧ w'.cell? ⟨o.F, 4, none⟩ = some (.bool false) ∧ w'.frozen? ⟨o.F, 4, none⟩ = false) :
    Calls Try.prog 30 #[.pointer (some ⟨o.F, 0, none⟩), p, .func (.func 33) #[] #[x1, x2, x3]] W fun e w' => e = .returned (.int .i64 s.err) ∧ ∃ w1, Q w1 ∧ w' = w1.setCell ⟨o.F, 4, none⟩ (.bool dn) := by
  obtain ⟨-, -, c4, c5, c6, c7, fz⟩ := fs_flags h.fs
  have f5 := fz 5
  rw [hd] at c4
  rw [ha] at c5
  generalize s.after = x at c6 hz
  generalize s.err = y at c7 he hq ⊢
  have HQ := Lib.hid hq
  clear h fz hq
  have hN : ∀ w : World, (binOp .neq 1 (.func (.func 33) #[] #[x1, x2, x3]) .nilFunc).run Try.prog w = .ok (.bool true) w := fun w => run_neq_func w _ _ _ _ Try.underlying1
  go_enter Try.func30, Try.ntmps30
  go_wp2_with fail
  refine HQ.out.mono ?_
  clear c4 c5 c6 c7 f5
  rintro e w1 ⟨rfl, hR, c7, c4, f4⟩
  have HR := Lib.hid hR
  clear hR
  go_wp2_with fail
  go_ret
  exact ⟨rfl, w1, HR.out, rfl⟩
end Go.Proofs.Ytcobjjaicckgpaa.Vf
/- The operations. -/
namespace Go.Proofs.Ytcobjjaicckgpaa.Vf
open Go Go.RowKit Go.Maps Go.Proofs.Ytcobjjaicckgpaa Go.Proofs.Ytcobjjaicckgpaa.Bs
set_option linter.unusedVariables false

theorem Did.split {B : Nat} {o : Loc} {s : St} {W : World} {p : AS → Int × AS} {a : AS} {e : Ending} {w' : World} (h : Did B o s W p a e w') : ∃ r, e = .returned (.int .i64 r) ∧ Did B o s W p a (.returned (.int .i64 r)) w' := by
  obtain ⟨r, s', o', rfl, h⟩ := h
  exact ⟨r, rfl, r, s', o', rfl, h⟩
/-- 'after' is a number that an int holds. -/
def AS.Af (a : AS) : Prop := 0 ≤ a.after ∧ a.after ≤ 9223372036854775807
theorem wrap_pred {x : Int} (h0 : 0 < x) (h1 : x ≤ 9223372036854775807) : IntKind.i64.wrap (x - 1) = x - 1 := by rw [IntKind.wrap_i64]; omega
theorem fail_done {B : Nat} {o : Loc} {s : St} {a : AS} {W : World} {P : AS → Int × AS} (h : Is W B o s) (ha : Ab a s) (hd : a.down = false) (hr : a.armed = true) (hz : ¬ 0 < a.after) :
    Did B o s W (AS.op P id) a (.returned (.int .i64 s.err)) ((W.setCell ⟨o.F, 5, none⟩ (.bool false)).setCell ⟨o.F, 4, none⟩ (.bool (a.err == 24))) := by
  obtain ⟨bl, rfl⟩ := id ha
  have h1 : Is (W.setCell ⟨o.F, 5, none⟩ (.bool false)) B o { conc bl a with armed := false } := h.flag rfl rfl rfl rfl rfl
  have h2 : Is ((W.setCell ⟨o.F, 5, none⟩ (.bool false)).setCell ⟨o.F, 4, none⟩ (.bool (a.err == 24))) B o { conc bl a with armed := false, down := a.err == 24 } := h1.flag rfl rfl rfl rfl rfl
  have e1 : AS.op P id a = (a.err, { a with armed := false, down := a.err == 24 }) := by
    unfold AS.op
    simp only [hd, hr, hz, Bool.false_eq_true, Bool.true_eq_false, if_false, id]
  refine ⟨_, _, o, rfl, ⟨by rw [e1]; rfl, bl, by rw [e1]; rfl⟩, rfl, rfl, h2, (Fr.set _ _ _ _ (.inl rfl)).trans (Fr.set _ _ _ (foot o (conc bl a)) (.inl rfl)) (fun _ _ e => e), fun k hk => .inl hk⟩
/-- operate, where nothing is done if it fails. -/
theorem op_nil {B : Nat} {o : Loc} {s : St} {a : AS} {W : World} {P : AS → Int × AS} {p : Value} (C : World → (Ending → World → Prop) → Prop) (h : Is W B o s) (ha : Ab a s) (hw : a.Wf) (hs : a.Sm) (hf : a.Af)
    (plain : ∀ Q : Int → World → Prop, s.down = false → s.armed = false → C W (fun e w' => ∃ r, e = .returned (.int .i64 r) ∧ Q r w') → Calls Try.prog 30 #[.pointer (some ⟨o.F, 0, none⟩), p, .nilFunc] W fun e w' => ∃ r, e = .returned (.int .i64 r) ∧ Q r w')
    (after : ∀ (z : Int) (Q : Int → World → Prop), s.down = false → s.armed = true → (0 : Int) < s.after → IntKind.i64.wrap (s.after - 1) = z → C (W.setCell ⟨o.F, 6, none⟩ (.int .i64 z)) (fun e w' => ∃ r, e = .returned (.int .i64 r) ∧ Q r w') → Calls Try.prog 30 #[.pointer (some ⟨o.F, 0, none⟩), p, .nilFunc] W fun e w' => ∃ r, e = .returned (.int .i64 r) ∧ Q r w')
    (mono : ∀ (w : World) (Q Q' : Ending → World → Prop), C w Q → (∀ e w', Q e w' → Q' e w') → C w Q')
    (hc : ∀ (W' : World) (s' : St) (a' : AS), Is W' B o s' → Ab a' s' → a'.Wf → a'.Sm → (∀ k, k ≠ o.F → W'.heap[k]? = W.heap[k]?) → C W' (Did B o s' W' P a')) :
    Calls Try.prog 30 #[.pointer (some ⟨o.F, 0, none⟩), p, .nilFunc] W (Did B o s W (AS.op P id) a) := by
  obtain ⟨bl, rfl⟩ := id ha
  cases hd : a.down with
  | true => exact op_down p .nilFunc h ha hd
  | false =>
    cases hr : a.armed with
    | false =>
      refine (plain (fun r w' => Did B o (conc bl a) W P a (.returned (.int .i64 r)) w') hd hr (mono _ _ _ (hc W _ a h ha hw hs fun _ _ => rfl) fun e w' hD => hD.split)).mono ?_
      rintro e w' ⟨r, rfl, hD⟩
      exact hD.weak (by unfold AS.op; simp only [hd, hr, Bool.false_eq_true, if_false, if_true])
    | true =>
      by_cases hz : 0 < a.after
      · have h1 : Is (W.setCell ⟨o.F, 6, none⟩ (.int .i64 (a.after - 1))) B o { conc bl a with after := a.after - 1 } := h.flag rfl rfl rfl rfl rfl
        have ha1 : Ab { a with after := a.after - 1 } { conc bl a with after := a.after - 1 } := ⟨bl, rfl⟩
        refine (after (a.after - 1) (fun r w' => Did B o { conc bl a with after := a.after - 1 } (W.setCell ⟨o.F, 6, none⟩ (.int .i64 (a.after - 1))) P { a with after := a.after - 1 } (.returned (.int .i64 r)) w') hd hr hz (wrap_pred hz hf.2) (mono _ _ _ (hc _ _ _ h1 ha1 ⟨hw.names, hw.dur, hw.pend⟩ ⟨hs.files, hs.names, hs.pend⟩ fun k hk => heap_setCell_other _ _ _ _ hk) fun e w' hD => hD.split)).mono ?_
        rintro e w' ⟨r, rfl, hD⟩
        have e1 : AS.op P id a = P { a with after := a.after - 1 } := by
          unfold AS.op
          simp only [hd, hr, hz, Bool.false_eq_true, Bool.true_eq_false, if_false, if_true]
        obtain ⟨r', s', o', g0, ⟨g1, g2⟩, g3, g4, g5, g6, g7⟩ := Did.from (s := { conc bl a with after := a.after - 1 }) (Fr.set W ⟨o.F, 6, none⟩ (.int .i64 (a.after - 1)) (foot o { conc bl a with after := a.after - 1 }) (.inl rfl)) hD
        exact ⟨r', s', o', g0, ⟨by rw [e1]; exact g1, by rw [e1]; exact g2⟩, g3, g4, g5, g6, g7⟩
      · refine (fail_nil B o _ (a.err == 24) p W h hd hr (decide_eq_false hz) rfl).mono ?_
        rintro e w' ⟨rfl, rfl⟩
        exact fail_done h ha hd hr hz
theorem keep_cell {W W' : World} {F p : Nat} {v : Value} (hn : p ≠ F) (hK : ∀ k, k ≠ F → W'.heap[k]? = W.heap[k]?) (h : W.cell? ⟨p, 0, none⟩ = some v) : W'.cell? ⟨p, 0, none⟩ = some v := by
  unfold World.cell? at h ⊢
  rw [hK p hn]
  exact h
theorem cell_alloc {w : World} {p : Nat} {v : Value} (h : w.cell? ⟨p, 0, none⟩ = some v) (x : Obj) : (w.alloc x).cell? ⟨p, 0, none⟩ = some v := by
  have hlt := lt_of_cell h
  unfold World.cell? at h ⊢
  rw [old_block _ _ _ hlt]
  exact h
theorem op_sync {B p q : Nat} {o : Loc} {s : St} {a : AS} {W : World} {k : ByteArray} (h : Is W B o s) (ha : Ab a s) (hw : a.Wf) (hs : a.Sm) (hf : a.Af) (hp : W.cell? ⟨p, 0, none⟩ = some (.pointer (some ⟨o.F, 0, none⟩))) (hq : W.cell? ⟨q, 0, none⟩ = some (.string k)) (np : p ≠ o.F) (nq : q ≠ o.F) (hk : k.size ≤ 1000000) :
    Calls Try.prog 30 #[.pointer (some ⟨o.F, 0, none⟩), .func (.func 34) #[] #[.pointer (some ⟨p, 0, none⟩), .pointer (some ⟨q, 0, none⟩)], .nilFunc] W (Did B o s W (AS.op (AS.sync k) id) a) :=
  op_nil (fun w Q => Calls Try.prog 34 #[.pointer (some ⟨p, 0, none⟩), .pointer (some ⟨q, 0, none⟩)] w Q) h ha hw hs hf
    (fun Q hd hr hp => plain_sync B o s _ _ .nilFunc W Q h hd hr hp)
    (fun z Q hd hr hz hwr hp => after_sync B o s z _ _ .nilFunc W Q h hd hr hz hwr hp)
    (fun w Q Q' hq hm => hq.mono fun e w' => hm e w')
    (fun W' s' a' hI hA hw' hs' hK => sync1_is B o.F p q o s' a' k W' hI hA hw' rfl (keep_cell np hK hp) (keep_cell nq hK hq) hk)
set_option maxRecDepth 100000 in
set_option maxHeartbeats 4000000 in
theorem sync_is (B : Nat) (o : Loc) (s : St) (a : AS) (k : ByteArray) (W : World) (h : Is W B o s) (ha : Ab a s) (hw : a.Wf) (hs : a.Sm) (hf : a.Af) (hk : k.size ≤ 1000000) :
    Calls Try.prog 10 #[.pointer (some ⟨o.F, 0, none⟩), .string k] W (Did B o s W (AS.op (AS.sync k) id) a) := by
  obtain ⟨F, hF⟩ : ∃ F, o.F = F := ⟨_, rfl⟩
  have hlt := lt_of_heap h.fs
  rw [hF] at hlt ⊢
  have b0 : Below W.heap.size W (W.alloc (.cells #[.pointer (some ⟨F, 0, none⟩)] 26)) := (Below.refl W.heap.size W).alloc (Nat.le_refl _) (.cells #[.pointer (some ⟨F, 0, none⟩)] 26)
  have s0 : W.heap.size = W.heap.size := rfl
  have c0 : (W.alloc (.cells #[.pointer (some ⟨F, 0, none⟩)] 26)).cell? ⟨W.heap.size, 0, none⟩ = some (.pointer (some ⟨F, 0, none⟩)) := by unfold World.cell?; simp only [heap_alloc_new]; rfl
  have b1 : Below W.heap.size W ((W.alloc (.cells #[.pointer (some ⟨F, 0, none⟩)] 26)).alloc (.cells #[.string k] 9)) := b0.alloc (b0.size) (.cells #[.string k] 9)
  have s1 : (W.alloc (.cells #[.pointer (some ⟨F, 0, none⟩)] 26)).heap.size = W.heap.size + 1 := by rw [alloc_sz, s0]
  have c1 : ((W.alloc (.cells #[.pointer (some ⟨F, 0, none⟩)] 26)).alloc (.cells #[.string k] 9)).cell? ⟨W.heap.size + 1, 0, none⟩ = some (.string k) := by rw [← s1]; unfold World.cell?; simp only [heap_alloc_new]; rfl
  have c0_ := cell_alloc c0 (.cells #[.string k] 9)
  have cO := op_sync (o := o) (h.below b1) ha hw hs hf (by rw [hF]; exact c0_) c1 (by omega) (by omega) hk
  rw [hF] at cO
  have HO := Lib.hid cO
  have HF := Lib.hid (Fr.of_below b1 (foot o s))
  clear h cO b0 b1 s0 s1 c0 hF
  go_enter Try.func10, Try.ntmps10
  go_wp2_with fail
  refine HO.out.mono ?_
  rintro e w1 hD
  obtain ⟨r, rfl, hD⟩ := hD.split
  have HD := Lib.hid hD
  clear hD
  go_wp2_with fail
  go_ret
  exact HD.out.from HF.out
theorem op_remove {B p q : Nat} {o : Loc} {s : St} {a : AS} {W : World} {k : ByteArray} (h : Is W B o s) (ha : Ab a s) (hw : a.Wf) (hs : a.Sm) (hf : a.Af) (hp : W.cell? ⟨p, 0, none⟩ = some (.pointer (some ⟨o.F, 0, none⟩))) (hq : W.cell? ⟨q, 0, none⟩ = some (.string k)) (np : p ≠ o.F) (nq : q ≠ o.F) (hk : k.size ≤ 1000000) :
    Calls Try.prog 30 #[.pointer (some ⟨o.F, 0, none⟩), .func (.func 51) #[] #[.pointer (some ⟨p, 0, none⟩), .pointer (some ⟨q, 0, none⟩)], .nilFunc] W (Did B o s W (AS.op (AS.remove k) id) a) :=
  op_nil (fun w Q => Calls Try.prog 51 #[.pointer (some ⟨p, 0, none⟩), .pointer (some ⟨q, 0, none⟩)] w Q) h ha hw hs hf
    (fun Q hd hr hp => plain_remove B o s _ _ .nilFunc W Q h hd hr hp)
    (fun z Q hd hr hz hwr hp => after_remove B o s z _ _ .nilFunc W Q h hd hr hz hwr hp)
    (fun w Q Q' hq hm => hq.mono fun e w' => hm e w')
    (fun W' s' a' hI hA hw' hs' hK => remove1_is B o.F p q o s' a' k W' hI hA hw' hs' rfl (keep_cell np hK hp) (keep_cell nq hK hq) hk)
set_option maxRecDepth 100000 in
set_option maxHeartbeats 4000000 in
theorem remove_is (B : Nat) (o : Loc) (s : St) (a : AS) (k : ByteArray) (W : World) (h : Is W B o s) (ha : Ab a s) (hw : a.Wf) (hs : a.Sm) (hf : a.Af) (hk : k.size ≤ 1000000) :
    Calls Try.prog 28 #[.pointer (some ⟨o.F, 0, none⟩), .string k] W (Did B o s W (AS.op (AS.remove k) id) a) := by
  obtain ⟨F, hF⟩ : ∃ F, o.F = F := ⟨_, rfl⟩
  have hlt := lt_of_heap h.fs
  rw [hF] at hlt ⊢
  have b0 : Below W.heap.size W (W.alloc (.cells #[.pointer (some ⟨F, 0, none⟩)] 26)) := (Below.refl W.heap.size W).alloc (Nat.le_refl _) (.cells #[.pointer (some ⟨F, 0, none⟩)] 26)
  have s0 : W.heap.size = W.heap.size := rfl
  have c0 : (W.alloc (.cells #[.pointer (some ⟨F, 0, none⟩)] 26)).cell? ⟨W.heap.size, 0, none⟩ = some (.pointer (some ⟨F, 0, none⟩)) := by unfold World.cell?; simp only [heap_alloc_new]; rfl
  have b1 : Below W.heap.size W ((W.alloc (.cells #[.pointer (some ⟨F, 0, none⟩)] 26)).alloc (.cells #[.string k] 9)) := b0.alloc (b0.size) (.cells #[.string k] 9)
  have s1 : (W.alloc (.cells #[.pointer (some ⟨F, 0, none⟩)] 26)).heap.size = W.heap.size + 1 := by rw [alloc_sz, s0]
  have c1 : ((W.alloc (.cells #[.pointer (some ⟨F, 0, none⟩)] 26)).alloc (.cells #[.string k] 9)).cell? ⟨W.heap.size + 1, 0, none⟩ = some (.string k) := by rw [← s1]; unfold World.cell?; simp only [heap_alloc_new]; rfl
  have c0_ := cell_alloc c0 (.cells #[.string k] 9)
  have cO := op_remove (o := o) (h.below b1) ha hw hs hf (by rw [hF]; exact c0_) c1 (by omega) (by omega) hk
  rw [hF] at cO
  have HO := Lib.hid cO
  have HF := Lib.hid (Fr.of_below b1 (foot o s))
  clear h cO b0 b1 s0 s1 c0 hF
  go_enter Try.func28, Try.ntmps28
  go_wp2_with fail
  refine HO.out.mono ?_
  rintro e w1 hD
  obtain ⟨r, rfl, hD⟩ := hD.split
  have HD := Lib.hid hD
  clear hD
  go_wp2_with fail
  go_ret
  exact HD.out.from HF.out
theorem op_rename {B p q r : Nat} {o : Loc} {s : St} {a : AS} {W : World} {k t : ByteArray} (h : Is W B o s) (ha : Ab a s) (hw : a.Wf) (hs : a.Sm) (hf : a.Af) (hp : W.cell? ⟨p, 0, none⟩ = some (.pointer (some ⟨o.F, 0, none⟩))) (hq : W.cell? ⟨q, 0, none⟩ = some (.string k)) (hr : W.cell? ⟨r, 0, none⟩ = some (.string t)) (np : p ≠ o.F) (nq : q ≠ o.F) (nr : r ≠ o.F) (hk : k.size ≤ 1000000) (ht : t.size ≤ 1000000) :
    Calls Try.prog 30 #[.pointer (some ⟨o.F, 0, none⟩), .func (.func 38) #[] #[.pointer (some ⟨p, 0, none⟩), .pointer (some ⟨q, 0, none⟩), .pointer (some ⟨r, 0, none⟩)], .nilFunc] W (Did B o s W (AS.op (AS.rename k t) id) a) :=
  op_nil (fun w Q => Calls Try.prog 38 #[.pointer (some ⟨p, 0, none⟩), .pointer (some ⟨q, 0, none⟩), .pointer (some ⟨r, 0, none⟩)] w Q) h ha hw hs hf
    (fun Q hd hr hp => plain_rename B o s _ _ _ .nilFunc W Q h hd hr hp)
    (fun z Q hd hr hz hwr hp => after_rename B o s z _ _ _ .nilFunc W Q h hd hr hz hwr hp)
    (fun w Q Q' hq hm => hq.mono fun e w' => hm e w')
    (fun W' s' a' hI hA hw' hs' hK => rename1_is B o.F p q r o s' a' k t W' hI hA hw' hs' rfl (keep_cell np hK hp) (keep_cell nq hK hq) (keep_cell nr hK hr) hk ht)
set_option maxRecDepth 100000 in
set_option maxHeartbeats 4000000 in
theorem rename_is (B : Nat) (o : Loc) (s : St) (a : AS) (k t : ByteArray) (W : World) (h : Is W B o s) (ha : Ab a s) (hw : a.Wf) (hs : a.Sm) (hf : a.Af) (hk : k.size ≤ 1000000) (ht : t.size ≤ 1000000) :
    Calls Try.prog 12 #[.pointer (some ⟨o.F, 0, none⟩), .string k, .string t] W (Did B o s W (AS.op (AS.rename k t) id) a) := by
  obtain ⟨F, hF⟩ : ∃ F, o.F = F := ⟨_, rfl⟩
  have hlt := lt_of_heap h.fs
  rw [hF] at hlt ⊢
  have b0 : Below W.heap.size W (W.alloc (.cells #[.pointer (some ⟨F, 0, none⟩)] 26)) := (Below.refl W.heap.size W).alloc (Nat.le_refl _) (.cells #[.pointer (some ⟨F, 0, none⟩)] 26)
  have s0 : W.heap.size = W.heap.size := rfl
  have c0 : (W.alloc (.cells #[.pointer (some ⟨F, 0, none⟩)] 26)).cell? ⟨W.heap.size, 0, none⟩ = some (.pointer (some ⟨F, 0, none⟩)) := by unfold World.cell?; simp only [heap_alloc_new]; rfl
  have b1 : Below W.heap.size W ((W.alloc (.cells #[.pointer (some ⟨F, 0, none⟩)] 26)).alloc (.cells #[.string k] 9)) := b0.alloc (b0.size) (.cells #[.string k] 9)
  have s1 : (W.alloc (.cells #[.pointer (some ⟨F, 0, none⟩)] 26)).heap.size = W.heap.size + 1 := by rw [alloc_sz, s0]
  have c1 : ((W.alloc (.cells #[.pointer (some ⟨F, 0, none⟩)] 26)).alloc (.cells #[.string k] 9)).cell? ⟨W.heap.size + 1, 0, none⟩ = some (.string k) := by rw [← s1]; unfold World.cell?; simp only [heap_alloc_new]; rfl
  have b2 : Below W.heap.size W (((W.alloc (.cells #[.pointer (some ⟨F, 0, none⟩)] 26)).alloc (.cells #[.string k] 9)).alloc (.cells #[.string t] 9)) := b1.alloc (b1.size) (.cells #[.string t] 9)
  have s2 : ((W.alloc (.cells #[.pointer (some ⟨F, 0, none⟩)] 26)).alloc (.cells #[.string k] 9)).heap.size = W.heap.size + 2 := by rw [alloc_sz, s1]
  have c2 : (((W.alloc (.cells #[.pointer (some ⟨F, 0, none⟩)] 26)).alloc (.cells #[.string k] 9)).alloc (.cells #[.string t] 9)).cell? ⟨W.heap.size + 2, 0, none⟩ = some (.string t) := by rw [← s2]; unfold World.cell?; simp only [heap_alloc_new]; rfl
  have c0_ := cell_alloc c0 (.cells #[.string k] 9)
  have c0__ := cell_alloc c0_ (.cells #[.string t] 9)
  have c1_ := cell_alloc c1 (.cells #[.string t] 9)
  have cO := op_rename (o := o) (h.below b2) ha hw hs hf (by rw [hF]; exact c0__) c1_ c2 (by omega) (by omega) (by omega) hk ht
  rw [hF] at cO
  have HO := Lib.hid cO
  have HF := Lib.hid (Fr.of_below b2 (foot o s))
  clear h cO b0 b1 b2 s0 s1 s2 c0 c0_ c1 hF
  go_enter Try.func12, Try.ntmps12
  go_wp2_with fail
  refine HO.out.mono ?_
  rintro e w1 hD
  obtain ⟨r, rfl, hD⟩ := hD.split
  have HD := Lib.hid hD
  clear hD
  go_wp2_with fail
  go_ret
  exact HD.out.from HF.out
theorem op_syncdir {B p : Nat} {o : Loc} {s : St} {a : AS} {W : World}  (h : Is W B o s) (ha : Ab a s) (hw : a.Wf) (hs : a.Sm) (hf : a.Af) (hp : W.cell? ⟨p, 0, none⟩ = some (.pointer (some ⟨o.F, 0, none⟩))) (np : p ≠ o.F)  :
    Calls Try.prog 30 #[.pointer (some ⟨o.F, 0, none⟩), .func (.func 36) #[] #[.pointer (some ⟨p, 0, none⟩)], .nilFunc] W (Did B o s W (AS.op AS.syncdir id) a) :=
  op_nil (fun w Q => Calls Try.prog 36 #[.pointer (some ⟨p, 0, none⟩)] w Q) h ha hw hs hf
    (fun Q hd hr hp => plain_syncdir B o s _ .nilFunc W Q h hd hr hp)
    (fun z Q hd hr hz hwr hp => after_syncdir B o s z _ .nilFunc W Q h hd hr hz hwr hp)
    (fun w Q Q' hq hm => hq.mono fun e w' => hm e w')
    (fun W' s' a' hI hA hw' hs' hK => syncdir1_is B o.F p o s' a' W' hI hA rfl (keep_cell np hK hp))
set_option maxRecDepth 100000 in
set_option maxHeartbeats 4000000 in
theorem syncdir_is (B : Nat) (o : Loc) (s : St) (a : AS)  (W : World) (h : Is W B o s) (ha : Ab a s) (hw : a.Wf) (hs : a.Sm) (hf : a.Af)  :
    Calls Try.prog 11 #[.pointer (some ⟨o.F, 0, none⟩)] W (Did B o s W (AS.op AS.syncdir id) a) := by
  obtain ⟨F, hF⟩ : ∃ F, o.F = F := ⟨_, rfl⟩
  have hlt := lt_of_heap h.fs
  rw [hF] at hlt ⊢
  have b0 : Below W.heap.size W (W.alloc (.cells #[.pointer (some ⟨F, 0, none⟩)] 26)) := (Below.refl W.heap.size W).alloc (Nat.le_refl _) (.cells #[.pointer (some ⟨F, 0, none⟩)] 26)
  have s0 : W.heap.size = W.heap.size := rfl
  have c0 : (W.alloc (.cells #[.pointer (some ⟨F, 0, none⟩)] 26)).cell? ⟨W.heap.size, 0, none⟩ = some (.pointer (some ⟨F, 0, none⟩)) := by unfold World.cell?; simp only [heap_alloc_new]; rfl
  have cO := op_syncdir (o := o) (h.below b0) ha hw hs hf (by rw [hF]; exact c0) (by omega) 
  rw [hF] at cO
  have HO := Lib.hid cO
  have HF := Lib.hid (Fr.of_below b0 (foot o s))
  clear h cO b0 s0 hF
  go_enter Try.func11, Try.ntmps11
  go_wp2_with fail
  refine HO.out.mono ?_
  rintro e w1 hD
  obtain ⟨r, rfl, hD⟩ := hD.split
  have HD := Lib.hid hD
  clear hD
  go_wp2_with fail
  go_ret
  exact HD.out.from HF.out
end Go.Proofs.Ytcobjjaicckgpaa.Vf
/- Write. -/
namespace Go.Proofs.Ytcobjjaicckgpaa.Vf
open Go Go.RowKit Go.Maps Go.Proofs.Ytcobjjaicckgpaa Go.Proofs.Ytcobjjaicckgpaa.Bs
set_option linter.unusedVariables false

theorem AS.put_flags (k : ByteArray) (l : List UInt8) (a : AS) : (AS.put k l a).2.err = a.err ∧ (AS.put k l a).2.down = a.down ∧ (AS.put k l a).2.armed = a.armed ∧ (AS.put k l a).2.after = a.after := by
  unfold AS.put
  split
  · exact ⟨rfl, rfl, rfl, rfl⟩
  · split <;> exact ⟨rfl, rfl, rfl, rfl⟩
/-- What a failing Write does. -/
def AS.tear (k : ByteArray) (l : List UInt8) (a : AS) : AS := (AS.put k (l.take (l.length / 2)) a).2
theorem op_write {B p q r : Nat} {o : Loc} {s : St} {a : AS} {W : World} {k : ByteArray} {v : Value} {l : List UInt8} (h : Is W B o s) (ha : Ab a s) (hw : a.Wf) (hs : a.Sm) (hf : a.Af) (hp : W.cell? ⟨p, 0, none⟩ = some (.pointer (some ⟨o.F, 0, none⟩))) (hq : W.cell? ⟨q, 0, none⟩ = some (.string k)) (hr : W.cell? ⟨r, 0, none⟩ = some v) (np : p ≠ o.F) (nq : q ≠ o.F) (nr : r ≠ o.F) (hk : k.size ≤ 1000000) (hl : l.length ≤ 1000000) (hv : Rd W v l) :
    Calls Try.prog 30 #[.pointer (some ⟨o.F, 0, none⟩), .func (.func 31) #[] #[.pointer (some ⟨p, 0, none⟩), .pointer (some ⟨q, 0, none⟩), .pointer (some ⟨r, 0, none⟩)], .func (.func 33) #[] #[.pointer (some ⟨p, 0, none⟩), .pointer (some ⟨q, 0, none⟩), .pointer (some ⟨r, 0, none⟩)]] W (Did B o s W (AS.op (AS.put k l) (AS.tear k l)) a) := by
  obtain ⟨bl, rfl⟩ := id ha
  have KV : ∀ (j : Nat) (x : Value), Rd (W.setCell ⟨o.F, j, none⟩ x) v l := fun j x => hv.kept fun g cur fr hc => heap_setCell_other _ _ _ _ (ne_of hc h.fs (by decide))
  cases hd : a.down with
  | true => exact op_down _ _ h ha hd
  | false =>
    cases hr' : a.armed with
    | false =>
      refine (plain_write B o _ _ _ _ _ W (fun r w' => Did B o (conc bl a) W (AS.put k l) a (.returned (.int .i64 r)) w') h hd hr' ((write1_is B o.F p q r o _ a k v l W h ha hw hs rfl hp hq hr hk hl hv).mono fun e w' hD => hD.split)).mono ?_
      rintro e w' ⟨r, rfl, hD⟩
      exact hD.weak (by unfold AS.op; simp only [hd, hr', Bool.false_eq_true, if_false, if_true])
    | true =>
      by_cases hz : 0 < a.after
      · have h1 : Is (W.setCell ⟨o.F, 6, none⟩ (.int .i64 (a.after - 1))) B o { conc bl a with after := a.after - 1 } := h.flag rfl rfl rfl rfl rfl
        have ha1 : Ab { a with after := a.after - 1 } { conc bl a with after := a.after - 1 } := ⟨bl, rfl⟩
        have hK : ∀ k, k ≠ o.F → (W.setCell ⟨o.F, 6, none⟩ (.int .i64 (a.after - 1))).heap[k]? = W.heap[k]? := fun k hk => heap_setCell_other _ _ _ _ hk
        refine (after_write B o _ (a.after - 1) _ _ _ _ W (fun r w' => Did B o { conc bl a with after := a.after - 1 } (W.setCell ⟨o.F, 6, none⟩ (.int .i64 (a.after - 1))) (AS.put k l) { a with after := a.after - 1 } (.returned (.int .i64 r)) w') h hd hr' hz (wrap_pred hz hf.2)
          ((write1_is B o.F p q r o _ _ k v l _ h1 ha1 ⟨hw.names, hw.dur, hw.pend⟩ ⟨hs.files, hs.names, hs.pend⟩ rfl (keep_cell np hK hp) (keep_cell nq hK hq) (keep_cell nr hK hr) hk hl (KV 6 _)).mono fun e w' hD => hD.split)).mono ?_
        rintro e w' ⟨r, rfl, hD⟩
        have e1 : AS.op (AS.put k l) (AS.tear k l) a = AS.put k l { a with after := a.after - 1 } := by
          unfold AS.op
          simp only [hd, hr', hz, Bool.false_eq_true, Bool.true_eq_false, if_false, if_true]
        obtain ⟨r', s', o', g0, ⟨g1, g2⟩, g3, g4, g5, g6, g7⟩ := Did.from (s := { conc bl a with after := a.after - 1 }) (Fr.set W ⟨o.F, 6, none⟩ (.int .i64 (a.after - 1)) (foot o { conc bl a with after := a.after - 1 }) (.inl rfl)) hD
        exact ⟨r', s', o', g0, ⟨by rw [e1]; exact g1, by rw [e1]; exact g2⟩, g3, g4, g5, g6, g7⟩
      · have h1 : Is (W.setCell ⟨o.F, 5, none⟩ (.bool false)) B o { conc bl a with armed := false } := h.flag rfl rfl rfl rfl rfl
        have ha1 : Ab { a with armed := false } { conc bl a with armed := false } := ⟨bl, rfl⟩
        have hK : ∀ k, k ≠ o.F → (W.setCell ⟨o.F, 5, none⟩ (.bool false)).heap[k]? = W.heap[k]? := fun k hk => heap_setCell_other _ _ _ _ hk
        have hfl := AS.put_flags k (l.take (l.length / 2)) { a with armed := false }
        refine (fail_write B o _ (a.err == 24) _ _ _ _ W (fun w' => ∃ e', Did B o { conc bl a with armed := false } (W.setCell ⟨o.F, 5, none⟩ (.bool false)) (AS.put k (l.take (l.length / 2))) { a with armed := false } e' w') h hd hr' (decide_eq_false hz) rfl
          ((write2_is B o.F p q r o _ _ k v l _ h1 ha1 ⟨hw.names, hw.dur, hw.pend⟩ ⟨hs.files, hs.names, hs.pend⟩ rfl (keep_cell np hK hp) (keep_cell nq hK hq) (keep_cell nr hK hr) hk hl (KV 5 _)).mono ?_)).mono ?_
        · rintro e w' ⟨rfl, e', hD⟩
          refine ⟨rfl, ⟨e', hD⟩, ?_⟩
          obtain ⟨r', s', o', g0, ⟨g1, bl', g2⟩, g3, g4, g5, g6, g7⟩ := hD
          obtain ⟨-, -, c4, -, -, c7, fz⟩ := fs_flags g5.fs
          rw [g3] at c4 c7 fz
          subst g2
          refine ⟨?_, ?_, fz 4⟩
          · rw [c7]; exact congrArg (fun x => some (Value.int .i64 x)) hfl.1
          · rw [c4]; exact congrArg (fun x => some (Value.bool x)) (hfl.2.1.trans hd)
        · rintro e w' ⟨rfl, w1, ⟨e', r', s', o', g0, ⟨g1, bl', g2⟩, g3, g4, g5, g6, g7⟩, rfl⟩
          subst g2
          have h2 : Is (w1.setCell ⟨o'.F, 4, none⟩ (.bool (a.err == 24))) B o' { conc bl' (AS.put k (l.take (l.length / 2)) { a with armed := false }).2 with down := a.err == 24 } := g5.flag rfl rfl rfl rfl rfl
          rw [g3] at h2
          have e1 : AS.op (AS.put k l) (AS.tear k l) a = (a.err, { AS.tear k l { a with armed := false } with down := a.err == 24 }) := by
            unfold AS.op
            simp only [hd, hr', hz, Bool.false_eq_true, Bool.true_eq_false, if_false]
          have f1 := ((Fr.set W ⟨o.F, 5, none⟩ (.bool false) (foot o (conc bl a)) (.inl rfl)).trans g6 (fun _ _ e => e)).trans (Fr.set w1 ⟨o.F, 4, none⟩ (.bool (a.err == 24)) (foot o (conc bl a)) (.inl rfl)) (fun _ _ e => e)
          refine ⟨_, _, o', rfl, ⟨by rw [e1]; rfl, bl', by rw [e1]; rfl⟩, g3, g4, h2, f1, fun k hk => ?_⟩
          rcases g7 k hk with e | e
          · exact .inl e
          · exact .inr (by simpa using e)
theorem cell_allocV {w : World} {p : Nat} {v : Value} (h : w.cell? ⟨p, 0, none⟩ = some v) (x : Obj) : (w.alloc x).cell? ⟨p, 0, none⟩ = some v := cell_alloc h x
set_option maxRecDepth 100000 in
set_option maxHeartbeats 4000000 in
theorem write_is (B : Nat) (o : Loc) (s : St) (a : AS) (k : ByteArray) (v : Value) (l : List UInt8) (W : World) (h : Is W B o s) (ha : Ab a s) (hw : a.Wf) (hs : a.Sm) (hf : a.Af) (hk : k.size ≤ 1000000) (hl : l.length ≤ 1000000) (hv : Rd W v l) :
    Calls Try.prog 9 #[.pointer (some ⟨o.F, 0, none⟩), .string k, v] W (Did B o s W (AS.op (AS.put k l) (AS.tear k l)) a) := by
  obtain ⟨F, hF⟩ : ∃ F, o.F = F := ⟨_, rfl⟩
  have hlt := lt_of_heap h.fs
  rw [hF] at hlt ⊢
  obtain ⟨a1, n1, p1, hdv⟩ := hv.slice
  subst hdv
  have b0 : Below W.heap.size W (W.alloc (.cells #[.pointer (some ⟨F, 0, none⟩)] 26)) := (Below.refl W.heap.size W).alloc (Nat.le_refl _) (.cells #[.pointer (some ⟨F, 0, none⟩)] 26)
  have c0 : (W.alloc (.cells #[.pointer (some ⟨F, 0, none⟩)] 26)).cell? ⟨W.heap.size, 0, none⟩ = some (.pointer (some ⟨F, 0, none⟩)) := by unfold World.cell?; simp only [heap_alloc_new]; rfl
  have b1 : Below W.heap.size W ((W.alloc (.cells #[.pointer (some ⟨F, 0, none⟩)] 26)).alloc (.cells #[.string k] 9)) := b0.alloc b0.size (.cells #[.string k] 9)
  have s1 : (W.alloc (.cells #[.pointer (some ⟨F, 0, none⟩)] 26)).heap.size = W.heap.size + 1 := by rw [alloc_sz]
  have c1 : ((W.alloc (.cells #[.pointer (some ⟨F, 0, none⟩)] 26)).alloc (.cells #[.string k] 9)).cell? ⟨W.heap.size + 1, 0, none⟩ = some (.string k) := by rw [← s1]; unfold World.cell?; simp only [heap_alloc_new]; rfl
  have c0_ := cell_alloc c0 (.cells #[.string k] 9)
  have b2 : Below W.heap.size W (((W.alloc (.cells #[.pointer (some ⟨F, 0, none⟩)] 26)).alloc (.cells #[.string k] 9)).alloc (.cells #[.slice a1 n1 p1] 30)) := b1.alloc b1.size (.cells #[.slice a1 n1 p1] 30)
  have s2 : ((W.alloc (.cells #[.pointer (some ⟨F, 0, none⟩)] 26)).alloc (.cells #[.string k] 9)).heap.size = W.heap.size + 2 := by rw [alloc_sz, s1]
  have c2 : (((W.alloc (.cells #[.pointer (some ⟨F, 0, none⟩)] 26)).alloc (.cells #[.string k] 9)).alloc (.cells #[.slice a1 n1 p1] 30)).cell? ⟨W.heap.size + 2, 0, none⟩ = some (.slice a1 n1 p1) := by rw [← s2]; unfold World.cell?; simp only [heap_alloc_new]; rfl
  have c1_ := cell_alloc c1 (.cells #[.slice a1 n1 p1] 30)
  have c0__ := cell_alloc c0_ (.cells #[.slice a1 n1 p1] 30)
  have hv2 := hv.kept (fun g cur fr hc => b2.block g (lt_of_heap hc))
  have cO := op_write (o := o) (h.below b2) ha hw hs hf (by rw [hF]; exact c0__) c1_ c2 (by omega) (by omega) (by omega) hk hl hv2
  rw [hF] at cO
  have HO := Lib.hid cO
  have HF := Lib.hid (Fr.of_below b2 (foot o s))
  clear h cO b0 b1 b2 s1 s2 c0 c1 c2 c0_ c0__ c1_ hF hv hv2
  go_enter Try.func9, Try.ntmps9
  go_wp2_with fail
  refine HO.out.mono ?_
  rintro e w1 hD
  obtain ⟨r, rfl, hD⟩ := hD.split
  have HD := Lib.hid hD
  clear hD
  go_wp2_with fail
  go_ret
  exact HD.out.from HF.out
end Go.Proofs.Ytcobjjaicckgpaa.Vf
/- New, Arm, Down. -/
namespace Go.Proofs.Ytcobjjaicckgpaa.Vf
open Go Go.RowKit Go.Maps Go.Proofs.Ytcobjjaicckgpaa Go.Proofs.Ytcobjjaicckgpaa.Bs
set_option linter.unusedVariables false

def AS.new : AS := ⟨[], [], [], [], false, false, 0, 0⟩
set_option maxRecDepth 100000 in
set_option maxHeartbeats 4000000 in
theorem new_is (W : World) :
    Calls Try.prog 8 #[] W fun e w' => ∃ o s, e = .returned (.pointer (some ⟨o.F, 0, none⟩)) ∧ Is w' W.heap.size o s ∧ Ab AS.new s ∧ (o.Z = fun _ => False) ∧ Below W.heap.size W w' ∧ ∀ k, foot o s k → W.heap.size ≤ k := by
  have b0 := (Below.refl W.heap.size W).alloc (Nat.le_refl _) (.map #[] 0)
  have b1 := b0.alloc b0.size (.map #[] 0)
  have s1 : (W.alloc (.map #[] 0)).heap.size = W.heap.size + 1 := alloc_sz _ _
  have s2 : ((W.alloc (.map #[] 0)).alloc (.map #[] 0)).heap.size = W.heap.size + 2 := by rw [alloc_sz, s1]
  have b2 := b1.alloc b1.size (.cells #[.map (some W.heap.size), .map (some (W.heap.size + 1)), .slice none 0 0, .slice none 0 0, .bool false, .bool false, .int .i64 0, .int .i64 0] 64)
  have hF := new_block ((W.alloc (.map #[] 0)).alloc (.map #[] 0)) (.cells #[.map (some W.heap.size), .map (some (W.heap.size + 1)), .slice none 0 0, .slice none 0 0, .bool false, .bool false, .int .i64 0, .int .i64 0] 64)
  rw [s2] at hF
  have hN : Dir (W.alloc (.map #[] 0)) W.heap.size [] := ⟨0, World.ownsMap_made W Try.prog 9 Rp⟩
  have hD : Dir ((W.alloc (.map #[] 0)).alloc (.map #[] 0)) (W.heap.size + 1) [] := by
    have := World.ownsMap_made (W.alloc (.map #[] 0)) Try.prog 9 Rp
    rw [s1] at this
    exact ⟨0, this⟩
  have HI : Hid (Is (((W.alloc (.map #[] 0)).alloc (.map #[] 0)).alloc (.cells #[.map (some W.heap.size), .map (some (W.heap.size + 1)), .slice none 0 0, .slice none 0 0, .bool false, .bool false, .int .i64 0, .int .i64 0] 64)) W.heap.size ⟨W.heap.size + 2, W.heap.size, W.heap.size + 1, .slice none 0 0, .slice none 0 0, fun _ => False⟩ (conc id AS.new)) :=
    { fs := hF
      names := (hN.of_block (old_block _ _ _ (by omega))).of_block (old_block _ _ _ (by omega))
      dur := hD.of_block (old_block _ _ _ (by omega))
      nd := by show W.heap.size ≠ W.heap.size + 1; omega
      files := ⟨rfl, .inl ⟨rfl, rfl⟩⟩
      pend := ⟨rfl, .inl ⟨rfl, rfl⟩⟩
      each := fun f hf => by cases hf
      zl := fun k hk => hk.elim
      dist := List.nodup_nil
      bF := by show W.heap.size ≤ W.heap.size + 2; omega
      bn := Nat.le_refl _
      bd := by show W.heap.size ≤ W.heap.size + 1; omega
      bf := fun f hf => by cases hf }
  have HB := Lib.hid b2
  clear b0 b1 b2 s1 s2 hF hN hD
  have hM : ∀ w : World, (Instr.makeMap 58 none).run Try.prog w = .ok (.map (some w.heap.size)) (w.alloc (.map #[] 0)) := fun w => rfl
  go_enter Try.func8, Try.ntmps8
  go_wp2_with fail
  go_ret
  refine ⟨⟨W.heap.size + 2, W.heap.size, W.heap.size + 1, .slice none 0 0, .slice none 0 0, fun _ => False⟩, _, rfl, HI.out, ⟨id, rfl⟩, rfl, HB.out, ?_⟩
  rintro k (rfl | rfl | rfl | hk | hk | ⟨f, hf, rfl⟩)
  · show W.heap.size ≤ W.heap.size + 2; omega
  · exact Nat.le_refl _
  · show W.heap.size ≤ W.heap.size + 1; omega
  · simp [Value.ownBlock] at hk
  · simp [Value.ownBlock] at hk
  · cases hf
set_option maxRecDepth 100000 in
set_option maxHeartbeats 4000000 in
theorem down_is (B : Nat) (o : Loc) (s : St) (W : World) (h : Is W B o s) :
    Calls Try.prog 24 #[.pointer (some ⟨o.F, 0, none⟩)] W fun e w' => e = .returned (.bool s.down) ∧ w' = W := by
  obtain ⟨-, -, c4, -⟩ := fs_flags h.fs
  generalize s.down = x at c4 ⊢
  clear h
  cases x
  all_goals
    go_enter Try.func24, Try.ntmps24
    go_wp2_with fail
    go_ret
    exact ⟨rfl, rfl⟩
set_option maxRecDepth 100000 in
set_option maxHeartbeats 4000000 in
theorem down_nil (W : World) :
    Calls Try.prog 24 #[.pointer none] W fun e w' => e = .returned (.bool false) ∧ w' = W := by
  go_enter Try.func24, Try.ntmps24
  go_wp2_with fail
  go_ret
  exact ⟨rfl, rfl⟩
set_option maxRecDepth 100000 in
set_option maxHeartbeats 4000000 in
theorem arm_nil (n e : Int) (W : World) :
    Calls Try.prog 21 #[.pointer none, .int .i64 n, .int .i64 e] W fun e w' => e = .returned (.int .i64 1) ∧ w' = W := by
  go_enter Try.func21, Try.ntmps21
  go_wp2_with fail
  go_ret
  exact ⟨rfl, rfl⟩
set_option maxRecDepth 100000 in
set_option maxHeartbeats 4000000 in
theorem arm_neg (B : Nat) (o : Loc) (n e : Int) (W : World) (hn : decide (n < (0 : Int)) = true) :
    Calls Try.prog 21 #[.pointer (some ⟨o.F, 0, none⟩), .int .i64 n, .int .i64 e] W fun e w' => e = .returned (.int .i64 2) ∧ w' = W := by
  go_enter Try.func21, Try.ntmps21
  go_wp2_with fail
  go_ret
  exact ⟨rfl, rfl⟩
set_option maxRecDepth 100000 in
set_option maxHeartbeats 4000000 in
theorem arm_bad (B : Nat) (o : Loc) (n e : Int) (W : World) (hn : decide (n < (0 : Int)) = false) (h1 : (e != (25 : Int)) = true) (h2 : (e != (26 : Int)) = true) (h3 : (e != (24 : Int)) = true) :
    Calls Try.prog 21 #[.pointer (some ⟨o.F, 0, none⟩), .int .i64 n, .int .i64 e] W fun e w' => e = .returned (.int .i64 2) ∧ w' = W := by
  go_enter Try.func21, Try.ntmps21
  go_wp2_with fail
  go_ret
  exact ⟨rfl, rfl⟩
set_option maxRecDepth 100000 in
set_option maxHeartbeats 4000000 in
theorem arm_down (B : Nat) (o : Loc) (s : St) (n e : Int) (W : World) (h : Is W B o s) (hd : s.down = true) (hn : decide (n < (0 : Int)) = false) (he : e = 25 ∨ e = 26 ∨ e = 24) :
    Calls Try.prog 21 #[.pointer (some ⟨o.F, 0, none⟩), .int .i64 n, .int .i64 e] W fun e w' => e = .returned (.int .i64 24) ∧ w' = W := by
  obtain ⟨-, -, c4, -⟩ := fs_flags h.fs
  rw [hd] at c4
  clear h
  rcases he with rfl | rfl | rfl
  all_goals
    go_enter Try.func21, Try.ntmps21
    go_wp2_with fail
    go_ret
    exact ⟨rfl, rfl⟩
set_option maxRecDepth 100000 in
set_option maxHeartbeats 4000000 in
theorem arm_ok (B : Nat) (o : Loc) (s : St) (n e : Int) (W : World) (h : Is W B o s) (hd : s.down = false) (hn : decide (n < (0 : Int)) = false) (he : e = 25 ∨ e = 26 ∨ e = 24) :
    Calls Try.prog 21 #[.pointer (some ⟨o.F, 0, none⟩), .int .i64 n, .int .i64 e] W fun e' w' => e' = .returned (.int .i64 0) ∧ w' = ((W.setCell ⟨o.F, 5, none⟩ (.bool true)).setCell ⟨o.F, 6, none⟩ (.int .i64 n)).setCell ⟨o.F, 7, none⟩ (.int .i64 e) := by
  obtain ⟨-, -, c4, c5, c6, c7, fz⟩ := fs_flags h.fs
  have f5 := fz 5
  have f6 := fz 6
  have f7 := fz 7
  rw [hd] at c4
  clear h fz
  rcases he with rfl | rfl | rfl
  all_goals
    go_enter Try.func21, Try.ntmps21
    go_wp2_with fail
    go_ret
    exact ⟨rfl, rfl⟩
def AS.arm (n e : Int) (a : AS) : Int × AS := if n < 0 ∨ ¬ (e = 25 ∨ e = 26 ∨ e = 24) then (2, a) else if a.down = true then (24, a) else (0, { a with armed := true, after := n, err := e })
theorem arm_is (B : Nat) (o : Loc) (s : St) (a : AS) (n e : Int) (W : World) (h : Is W B o s) (ha : Ab a s) :
    Calls Try.prog 21 #[.pointer (some ⟨o.F, 0, none⟩), .int .i64 n, .int .i64 e] W (Did B o s W (AS.arm n e) a) := by
  obtain ⟨bl, rfl⟩ := id ha
  by_cases hn : n < 0
  · have e1 : AS.arm n e a = (2, a) := by unfold AS.arm; rw [if_pos (.inl hn)]
    refine (arm_neg B o n e W (decide_eq_true hn)).mono ?_
    rintro e w' ⟨rfl, rfl⟩
    exact Did.quiet (r := 2) h ha 0 (by rw [e1]; rfl) (by rw [e1])
  by_cases he : e = 25 ∨ e = 26 ∨ e = 24
  · have hc : ¬ (n < 0 ∨ ¬ (e = 25 ∨ e = 26 ∨ e = 24)) := by
      rintro (h1 | h1)
      · exact hn h1
      · exact h1 he
    cases hd : a.down with
    | true =>
      have e1 : AS.arm n e a = (24, a) := by unfold AS.arm; rw [if_neg hc, if_pos hd]
      refine (arm_down B o _ n e W h hd (decide_eq_false hn) he).mono ?_
      rintro e' w' ⟨rfl, rfl⟩
      exact Did.quiet (r := 24) h ha 0 (by rw [e1]; rfl) (by rw [e1])
    | false =>
      have e1 : AS.arm n e a = (0, { a with armed := true, after := n, err := e }) := by unfold AS.arm; rw [if_neg hc, if_neg (by rw [hd]; decide)]
      refine (arm_ok B o _ n e W h hd (decide_eq_false hn) he).mono ?_
      rintro e' w' ⟨rfl, rfl⟩
      have h1 : Is (W.setCell ⟨o.F, 5, none⟩ (.bool true)) B o { conc bl a with armed := true } := h.flag rfl rfl rfl rfl rfl
      have h2 : Is ((W.setCell ⟨o.F, 5, none⟩ (.bool true)).setCell ⟨o.F, 6, none⟩ (.int .i64 n)) B o { conc bl a with armed := true, after := n } := h1.flag rfl rfl rfl rfl rfl
      have h3 : Is (((W.setCell ⟨o.F, 5, none⟩ (.bool true)).setCell ⟨o.F, 6, none⟩ (.int .i64 n)).setCell ⟨o.F, 7, none⟩ (.int .i64 e)) B o { conc bl a with armed := true, after := n, err := e } := h2.flag rfl rfl rfl rfl rfl
      exact ⟨0, _, o, rfl, ⟨by rw [e1], bl, by rw [e1]; rfl⟩, rfl, rfl, h3, ((Fr.set _ _ _ _ (.inl rfl)).trans (Fr.set _ _ _ (foot o (conc bl a)) (.inl rfl)) (fun _ _ e => e)).trans (Fr.set _ _ _ (foot o (conc bl a)) (.inl rfl)) (fun _ _ e => e), fun k hk => .inl hk⟩
  · have e1 : AS.arm n e a = (2, a) := by unfold AS.arm; rw [if_pos (.inr he)]
    have h25 : e ≠ 25 := fun h => he (.inl h)
    have h26 : e ≠ 26 := fun h => he (.inr (.inl h))
    have h24 : e ≠ 24 := fun h => he (.inr (.inr h))
    refine (arm_bad B o n e W (decide_eq_false hn) (by simpa using h25) (by simpa using h26) (by simpa using h24)).mono ?_
    rintro e w' ⟨rfl, rfl⟩
    exact Did.quiet (r := 2) h ha 0 (by rw [e1]; rfl) (by rw [e1])
end Go.Proofs.Ytcobjjaicckgpaa.Vf
/- Read and Pending in plain words. -/
namespace Go.Proofs.Ytcobjjaicckgpaa.Vf
open Go Go.RowKit Go.Maps Go.Proofs.Ytcobjjaicckgpaa Go.Proofs.Ytcobjjaicckgpaa.Bs
set_option linter.unusedVariables false

def AS.read (k : ByteArray) (a : AS) : List UInt8 × Int :=
  if a.down = true then ([], 24) else match findS a.names k.data.toList with | none => ([], 23) | some i => ((a.files.getD i ⟨[], [], true⟩).data, 0)
def AS.Dl (a : AS) : Prop := ∀ f ∈ a.files, f.data.length ≤ 1000000
theorem Ab.fileD {bl : Nat → Nat} {a : AS} {i : Nat} (h : i < a.files.length) : ∃ f ∈ (conc bl a).files, f.blk = bl i ∧ f.data = (a.files.getD i ⟨[], [], true⟩).data := by
  refine ⟨(a.files.mapIdx (cf bl))[i]'(by simpa using h), List.getElem_mem _, ?_, ?_⟩
  · simp [cf]
  · simp [cf, List.getD_eq_getElem?_getD, List.getElem?_eq_getElem h]
theorem read_is (B : Nat) (o : Loc) (s : St) (a : AS) (k : ByteArray) (W : World) (h : Is W B o s) (ha : Ab a s) (hw : a.Wf) (hl : a.Dl) (hk : k.size ≤ 1000000) :
    Calls Try.prog 14 #[.pointer (some ⟨o.F, 0, none⟩), .string k] W fun e w' => ∃ v, e = .returned (.tuple #[v, .int .i64 (a.read k).2]) ∧ Rd w' v (a.read k).1 ∧ (∀ g, v.ownBlock = some g → W.heap.size ≤ g) ∧ Below W.heap.size W w' := by
  obtain ⟨bl, rfl⟩ := id ha
  unfold AS.read
  cases hd : a.down with
  | true =>
    refine (read_down B o _ k W h hd).mono ?_
    rintro e w' ⟨rfl, rfl⟩
    exact ⟨_, rfl, .inl ⟨rfl, rfl⟩, fun g hg => by simp [Value.ownBlock] at hg, Below.refl _ _⟩
  | false =>
    rw [if_neg (by decide)]
    cases e : findS a.names k.data.toList with
    | none =>
      refine (read_none B o _ k W h hd hk (Ab.find_none e)).mono ?_
      rintro e w' ⟨rfl, rfl⟩
      exact ⟨_, rfl, .inl ⟨rfl, rfl⟩, fun g hg => by simp [Value.ownBlock] at hg, Below.refl _ _⟩
    | some i =>
      obtain ⟨f, hm, hb, hf⟩ := Ab.fileD (bl := bl) (hw.find e)
      have hi := hw.find e
      have hlen : f.data.length ≤ 1000000 := by
        rw [hf, List.getD_eq_getElem?_getD, List.getElem?_eq_getElem hi]
        exact hl _ (List.getElem_mem _)
      refine (read_some B (bl i) o _ k f W h hd hk (Ab.find_some e) hm hb hlen).mono ?_
      rintro e w' ⟨v, rfl, h1, h2, h3⟩
      exact ⟨v, rfl, (show Rd w' v (a.files.getD i ⟨[], [], true⟩).data by rw [← hf]; exact h1), h2, h3⟩
def Flag (v : Value) (b : Bool) : Prop := v = .bool b
/-- The files' pointers, one behind the other. -/
theorem Is.filesAt {w : World} {B : Nat} {o : Loc} {s : St} (h : Is w B o s) : ∃ g ad cap, o.fs = .slice ad s.files.length cap ∧ (0 < s.files.length → ad = some ⟨g, 0, none⟩) ∧ ∀ j (hj : j < s.files.length), w.cell? ⟨g, j, none⟩ = some (fptr s.files[j].blk) := by
  rcases h.files.2 with ⟨e, h0⟩ | ⟨g, cap, cur, e, _, hg, hc, _, _, ht⟩
  · exact ⟨0, none, 0, by rw [e, h0], fun hp => by omega, fun j hj => by omega⟩
  · refine ⟨g, _, cap, e, fun _ => rfl, fun j hj => ?_⟩
    unfold World.cell?
    simp only [hg]
    have := congrArg (fun l : List Value => l[j]?) ht
    simp only [Nat.mul_one, List.getElem?_take, if_pos hj, List.getElem?_map, List.getElem?_eq_getElem hj, Option.map_some] at this
    simpa using this
def dirty (fs : List Fl) : Nat := (fs.filter fun f => !f.synced).length
theorem dirty_step (fs : List Fl) (k : Nat) (hk : k < fs.length) : dirty (fs.take (k + 1)) = dirty (fs.take k) + if fs[k].synced = true then 0 else 1 := by
  unfold dirty
  rw [List.take_add_one, List.filter_append, List.length_append, List.getElem?_eq_getElem hk]
  simp only [Option.toList_some, List.filter_cons, List.filter_nil]
  cases fs[k].synced <;> rfl
theorem dirty_le (fs : List Fl) : dirty fs ≤ fs.length := List.length_filter_le _ _
set_option maxRecDepth 100000 in
set_option maxHeartbeats 4000000 in
theorem pending_walk (B : Nat) (o : Loc) (s : St) (W : World) (h : Is W B o s) (hf : s.files.length ≤ 1000000) (hp : s.pend.length ≤ 1000000) :
    Calls Try.prog 27 #[.pointer (some ⟨o.F, 0, none⟩)] W fun e w' => e = .returned (.tuple #[.int .i64 s.pend.length, .int .i64 (dirty s.files)]) ∧ w' = W := by
  obtain ⟨-, c2, -⟩ := fs_flags h.fs
  obtain ⟨c3, -⟩ := fs_at3 h.fs
  obtain ⟨g, ad, cap, e1, had, hcl⟩ := h.filesAt
  obtain ⟨ap, cp, e2⟩ : ∃ ap cp, o.ps = .slice ap s.pend.length cp := by
    rcases h.pend.2 with ⟨e, h0⟩ | ⟨g, cap, cur, e, _⟩
    · exact ⟨none, 0, by rw [e, h0]⟩
    · exact ⟨_, _, e⟩
  rw [e1] at c2
  rw [e2] at c3
  have HC : Hid (∀ j (hj : j < s.files.length), W.cell? ⟨g, j, none⟩ = some (fptr s.files[j].blk) ∧ W.cell? ⟨s.files[j].blk, 2, none⟩ = some (.bool s.files[j].synced)) := fun j hj => by
    obtain ⟨dv, rv, hc, _⟩ := h.each s.files[j] (List.getElem_mem hj)
    exact ⟨hcl j hj, (file_cells hc).2.2.1⟩
  obtain ⟨n, hn⟩ : ∃ n, s.files.length = n := ⟨_, rfl⟩
  obtain ⟨m, hm⟩ : ∃ m, s.pend.length = m := ⟨_, rfl⟩
  rw [hn] at c2 had hf
  rw [hm] at c3 hp ⊢
  have HA := Lib.hid had
  have HN := Lib.hid hn
  have HD0 : Hid (∀ k, dirty (s.files.take k) ≤ k) := fun k => Nat.le_trans (dirty_le _) (by rw [List.length_take]; omega)
  clear h e1 e2 hcl had hn hm
  go_enter Try.func27, Try.ntmps27
  go_wp2_with fail
  go_loop [4, 14] (fun c i => ∃ k d : Nat, k ≤ n ∧ d ≤ k ∧ i = .int .i64 k ∧ c = .int .i64 d ∧ Hid (dirty (s.files.take k) = d)) (fun _ i => n - (intOf i).toNat)
  case atStart => exact ⟨0, 0, Nat.zero_le _, Nat.le_refl _, rfl, rfl, rfl⟩
  case round =>
    obtain ⟨k, d, hk, hd, rfl, rfl, HD⟩ := hrel
    by_cases hlt : k < n
    · obtain rfl := HA.out (by omega)
      have hlt2 : k < s.files.length := by rw [HN.out]; exact hlt
      obtain ⟨q1, q2⟩ := HC.out k hlt2
      have HS := Lib.hid (dirty_step s.files k hlt2)
      generalize s.files[k].blk = b at q1 q2
      cases hs : s.files[k].synced with
      | true =>
        rw [hs] at q2
        have HS2 : Hid (dirty (s.files.take (k + 1)) = d) := by rw [HS.out, hs, HD.out]; rfl
        clear hs HS hlt2
        simp only [fptr] at q1
        go_wp2_with fail
        go_round
        case rel => exact ⟨k + 1, d, by omega, by omega, by go_num, rfl, HS2⟩
        case measure => simp [intOf]; omega
      | false =>
        rw [hs] at q2
        have HS2 : Hid (dirty (s.files.take (k + 1)) = d + 1) := by rw [HS.out, hs, HD.out]; rfl
        clear hs HS hlt2
        simp only [fptr] at q1
        go_wp2_with fail
        go_round
        case rel => exact ⟨k + 1, d + 1, by omega, by omega, by go_num, by go_num, HS2⟩
        case measure => simp [intOf]; omega
    · go_wp2_with fail
      go_ret2
      have hkn : k = n := by omega
      have := HD.out
      rw [hkn, ← HN.out, List.take_length] at this
      exact ⟨by rw [this]; rfl, rfl⟩
end Go.Proofs.Ytcobjjaicckgpaa.Vf
/- List. -/
namespace Go.Proofs.Ytcobjjaicckgpaa.Vf
open Go Go.RowKit Go.Maps Go.Proofs.Ytcobjjaicckgpaa Go.Proofs.Ytcobjjaicckgpaa.Bs
set_option linter.unusedVariables false

theorem lt_of_before : ∀ (a b : List UInt8), bytesBefore a b = true → a < b
  | [], [], h => by cases h
  | [], _ :: _, _ => List.nil_lt_cons _ _
  | _ :: _, [], h => by cases h
  | a :: r, b :: s, h => by
    simp only [bytesBefore, Bool.or_eq_true, decide_eq_true_eq, Bool.and_eq_true, beq_iff_eq] at h
    rw [List.cons_lt_cons_iff]
    rcases h with h | ⟨h1, h2⟩
    · exact .inl h
    · exact .inr ⟨h1, lt_of_before r s h2⟩
/-- The names, in ascending order. -/
def So (m : Nm) : Prop := m.Pairwise fun p q => bytesBefore p.1 q.1 = true
theorem sort_names (m : Nm) (h : So m) (ss : List (List UInt8)) (hp : ss.Perm (strKeys (Dm m))) : ss.mergeSort (fun x y => decide (x ≤ y)) = m.map (·.1) := by
  have hk : strKeys (Dm m) = m.map (·.1) := by
    unfold Dm strKeys
    simp only [List.map_map]
    rfl
  rw [hk] at hp
  refine (Go.mergeSort_of_perm hp).trans ?_
  have tr : ∀ a b c : List UInt8, leB a b = true → leB b c = true → leB a c = true := fun a b c h1 h2 => by simp only [leB, decide_eq_true_eq] at *; exact List.le_trans h1 h2
  have to : ∀ a b : List UInt8, (leB a b || leB b a) = true := fun a b => by simp only [leB, Bool.or_eq_true, decide_eq_true_eq]; exact List.le_total a b
  have hs : (m.map (·.1)).Pairwise fun a b => leB a b = true := by
    rw [List.pairwise_map]
    refine h.imp fun {p q} hpq => ?_
    simp only [leB, decide_eq_true_eq]
    exact List.le_of_lt (lt_of_before _ _ hpq)
  refine List.Perm.eq_of_pairwise (le := fun a b => leB a b = true) (fun a b _ _ h1 h2 => ?_) (List.pairwise_mergeSort tr to _) hs (List.mergeSort_perm _ _)
  simp only [leB, decide_eq_true_eq] at h1 h2
  exact List.le_antisymm h1 h2
theorem own_base {w : World} {b c n size : Nat} {e : TypeId} {v : Value} {xs : List Value} (h : w.ownsRow c e size v n xs) (hb : b ≤ c) : w.ownsRow b e size v n xs := by
  refine ⟨h.1, ?_⟩
  rcases h.2 with h0 | ⟨g, cap, cur, e1, h1, r⟩
  · exact .inl h0
  · exact .inr ⟨g, cap, cur, e1, Nat.le_trans hb h1, r⟩
set_option maxRecDepth 100000 in
set_option maxHeartbeats 4000000 in
theorem sorted_is (F o b : Nat) (m : Nm) (W : World) (hs : So m) (hm : m.length ≤ 1000000) (hc : W.cell? ⟨F, o, none⟩ = some (.map (some b))) (hD : Dir W b m) :
    Calls Try.prog 50 #[.pointer (some ⟨F, o, none⟩)] W fun e w' => ∃ v, e = .returned v ∧ w'.ownsRow W.heap.size 9 1 v m.length (m.map fun p => encStr p.1) ∧ Below W.heap.size W w' := by
  have hsz : Maps.size (Dm m) = m.length := by simp [Dm, Maps.size]
  have cK := Lib.hid (callsIn_wide.1 (Try.maps_Keys_59 (some b) W))
  have cS := Lib.hid (callsIn_wide.1 (Try.slices_Sorted_keys_58_59 b m.length (Dm m) Rp W hD.tight (by rw [hsz]; unfold maxLen; omega) (by rw [hsz]; omega)))
  have HB := Lib.hid ((Below.refl W.heap.size W).alloc (Nat.le_refl _) (.cells #[.map (some b)] 58))
  clear hD
  go_enter Try.func50, Try.ntmps50
  go_wp2_with fail
  refine cK.out.mono ?_
  rintro e w1 ⟨rfl, rfl⟩
  go_wp2_with fail
  refine cS.out.mono ?_
  rintro e w2 ⟨v, ss, rfl, hp, ho, -, hb⟩
  rw [sort_names m hs ss hp] at ho
  have hlen : ss.length = m.length := by
    rw [hp.length_eq]
    unfold Dm strKeys
    simp
  rw [hlen, List.map_map] at ho
  have H := Lib.hid (And.intro (own_base (b := W.heap.size) ho HB.out.size) (below_trans HB.out hb))
  clear hp ho hb
  go_wp2_with fail
  go_ret
  exact ⟨v, rfl, H.out.1, H.out.2⟩
set_option maxRecDepth 100000 in
set_option maxHeartbeats 4000000 in
theorem list_nil (W : World) :
    Calls Try.prog 25 #[.pointer none] W fun e w' => e = .returned (.slice none 0 0) ∧ w' = W := by
  go_enter Try.func25, Try.ntmps25
  go_wp2_with fail
  go_ret
  exact ⟨rfl, rfl⟩
set_option maxRecDepth 100000 in
set_option maxHeartbeats 4000000 in
theorem list_down (B : Nat) (o : Loc) (s : St) (W : World) (h : Is W B o s) (hd : s.down = true) :
    Calls Try.prog 25 #[.pointer (some ⟨o.F, 0, none⟩)] W fun e w' => e = .returned (.slice none 0 0) ∧ w' = W := by
  obtain ⟨-, -, c4, -⟩ := fs_flags h.fs
  rw [hd] at c4
  clear h
  go_enter Try.func25, Try.ntmps25
  go_wp2_with fail
  go_ret
  exact ⟨rfl, rfl⟩
set_option maxRecDepth 100000 in
set_option maxHeartbeats 4000000 in
theorem list_up (B : Nat) (o : Loc) (s : St) (W : World) (h : Is W B o s) (hd : s.down = false) (hs : So s.names) (hm : s.names.length ≤ 1000000) :
    Calls Try.prog 25 #[.pointer (some ⟨o.F, 0, none⟩)] W fun e w' => ∃ v, e = .returned v ∧ w'.ownsRow W.heap.size 9 1 v s.names.length (s.names.map fun p => encStr p.1) ∧ Below W.heap.size W w' := by
  obtain ⟨-, -, c4, -⟩ := fs_flags h.fs
  rw [hd] at c4
  have cS := Lib.hid (sorted_is o.F 0 o.nb s.names W hs hm (fs_at0 h.fs) h.names)
  clear h
  go_enter Try.func25, Try.ntmps25
  go_wp2_with fail
  refine cS.out.mono ?_
  rintro e w2 ⟨v, rfl, H⟩
  have HH := Lib.hid H
  clear H
  go_wp2_with fail
  go_ret
  exact ⟨v, rfl, HH.out⟩
def AS.list (a : AS) : List (List UInt8) := if a.down = true then [] else a.names.map (·.1)
theorem list_is (B : Nat) (o : Loc) (s : St) (a : AS) (W : World) (h : Is W B o s) (ha : Ab a s) (hs : So a.names) (hm : a.names.length ≤ 1000000) :
    Calls Try.prog 25 #[.pointer (some ⟨o.F, 0, none⟩)] W fun e w' => ∃ v, e = .returned v ∧ w'.ownsRow W.heap.size 9 1 v a.list.length (a.list.map encStr) ∧ Below W.heap.size W w' := by
  obtain ⟨bl, rfl⟩ := id ha
  unfold AS.list
  cases hd : a.down with
  | true =>
    refine (list_down B o _ W h hd).mono ?_
    rintro e w' ⟨rfl, rfl⟩
    exact ⟨_, rfl, ⟨rfl, .inl ⟨rfl, rfl⟩⟩, Below.refl _ _⟩
  | false =>
    have hso : So (conc bl a).names := by
      show So (cn bl a.names)
      unfold So cn
      rw [List.pairwise_map]
      exact hs
    refine (list_up B o _ W h hd hso (by simpa [conc, cn_len] using hm)).mono ?_
    rintro e w' ⟨v, rfl, h1, h2⟩
    refine ⟨v, rfl, ?_, h2⟩
    rw [if_neg (by decide)]
    have e1 : (conc bl a).names.length = (a.names.map (·.1)).length := by simp [conc, cn]
    have e2 : ((conc bl a).names.map fun p => encStr p.1) = (a.names.map (·.1)).map encStr := by simp [conc, cn]
    rw [e1, e2] at h1
    exact h1
end Go.Proofs.Ytcobjjaicckgpaa.Vf
/- Crash: what it computes, and what its loops need. -/
namespace Go.Proofs.Ytcobjjaicckgpaa.Vf
open Go Go.RowKit Go.Maps Go.Proofs.Ytcobjjaicckgpaa Go.Proofs.Ytcobjjaicckgpaa.Bs
set_option linter.unusedVariables false

/-- The durable directory behind the first k changes. -/
def AS.durK (a : AS) (ch : List Bool) : Nat → Nm
  | 0 => a.dur
  | k + 1 => match a.pend[k]? with
    | none => a.durK ch k
    | some c => if ch.getD k false = true then applyS (a.durK ch k) c.src c.dst c.file else a.durK ch k
def crashF (n : Int) (f : AF) : AF :=
  if f.synced = true then f else
  let d := if n < 0 then f.dur else if n < f.data.length then f.data.take n.toNat else f.data
  ⟨d, d, true⟩
def dirtyA (fs : List AF) : Nat := (fs.filter fun f => !f.synced).length
/-- The files behind the first k. -/
def AS.filesK (a : AS) (ls : List Int) : Nat → List AF
  | 0 => a.files
  | k + 1 => (a.filesK ls k).modify k (crashF (ls.getD (dirtyA (a.files.take k)) (-1)))
def AS.crash (ch : List Bool) (ls : List Int) (a : AS) : AS :=
  let d := a.durK ch a.pend.length
  ⟨a.filesK ls a.files.length, d, d, [], false, false, a.after, a.err⟩
theorem ins_len (x : List UInt8 × Nat) : ∀ m : Nm, (insS x m).length = m.length + 1
  | [] => rfl
  | y :: r => by
    unfold insS
    split
    · rfl
    · simp [ins_len x r]
theorem apply_len (m : Nm) (f t : ByteArray) (x : Nat) : (applyS m f t x).length ≤ m.length + 1 := by
  unfold applyS putS
  have h := del_len m f.data.toList
  simp only
  split <;> split
  · omega
  · omega
  · rw [ins_len]; have := del_len m t.data.toList; omega
  · rw [ins_len]; have := del_len (delS m f.data.toList) t.data.toList; omega
theorem AS.durK_len (a : AS) (ch : List Bool) : ∀ k, (a.durK ch k).length ≤ a.dur.length + k
  | 0 => Nat.le_refl _
  | k + 1 => by
    have ih := a.durK_len ch k
    unfold AS.durK
    split
    · omega
    · rename_i c _
      split
      · have := apply_len (a.durK ch k) c.src c.dst c.file; omega
      · omega
theorem AS.filesK_len (a : AS) (ls : List Int) : ∀ k, (a.filesK ls k).length = a.files.length
  | 0 => rfl
  | k + 1 => by
    unfold AS.filesK
    rw [List.length_modify, a.filesK_len ls k]
/-- Not yet reached: as at the start. -/
theorem AS.filesK_at (a : AS) (ls : List Int) (j : Nat) : ∀ k, k ≤ j → (a.filesK ls k)[j]? = a.files[j]?
  | 0, _ => rfl
  | k + 1, h => by
    unfold AS.filesK
    rw [List.getElem?_modify, a.filesK_at ls j k (by omega)]
    have hne : ¬ k = j := by omega
    simp [hne]
theorem dirtyA_step (fs : List AF) (k : Nat) (hk : k < fs.length) : dirtyA (fs.take (k + 1)) = dirtyA (fs.take k) + if fs[k].synced = true then 0 else 1 := by
  unfold dirtyA
  rw [List.take_add_one, List.filter_append, List.length_append, List.getElem?_eq_getElem hk]
  simp only [Option.toList_some, List.filter_cons, List.filter_nil]
  cases fs[k].synced <;> rfl

/-! ### the arguments' slices -/
/-- A slice of bools that reads as l, in block g. -/
def Bl (w : World) (v : Value) (l : List Bool) : Prop := ∃ g off ad c, v = .slice ad l.length c ∧ (0 < l.length → ad = some ⟨g, off, none⟩) ∧ ∀ j (hj : j < l.length), w.cell? ⟨g, off + j, none⟩ = some (.bool l[j])
def Il (w : World) (v : Value) (l : List Int) : Prop := ∃ g off ad c, v = .slice ad l.length c ∧ l.length ≤ c ∧ (0 < l.length → ad = some ⟨g, off, none⟩) ∧ ∀ j (hj : j < l.length), w.cell? ⟨g, off + j, none⟩ = some (.int .i64 l[j])
theorem Bl.kept {w w' : World} {v : Value} {l : List Bool} (h : Bl w v l) (hk : ∀ g, v.ownBlock = some g → w'.heap[g]? = w.heap[g]?) : Bl w' v l := by
  obtain ⟨g, off, ad, c, rfl, h1, h2⟩ := h
  refine ⟨g, off, ad, c, rfl, h1, fun j hj => ?_⟩
  have e := h1 (by omega)
  subst e
  have hc := h2 j hj
  unfold World.cell? at hc ⊢
  rw [hk g rfl]
  exact hc
theorem Il.kept {w w' : World} {v : Value} {l : List Int} (h : Il w v l) (hk : ∀ g, v.ownBlock = some g → w'.heap[g]? = w.heap[g]?) : Il w' v l := by
  obtain ⟨g, off, ad, c, rfl, h0, h1, h2⟩ := h
  refine ⟨g, off, ad, c, rfl, h0, h1, fun j hj => ?_⟩
  have e := h1 (by omega)
  subst e
  have hc := h2 j hj
  unfold World.cell? at hc ⊢
  rw [hk g rfl]
  exact hc
theorem Il.lt {w : World} {g off c n : Nat} {l : List Int} (h : Il w (.slice (some ⟨g, off, none⟩) n c) l) (h0 : 0 < l.length) : g < w.heap.size := by
  obtain ⟨g', off', ad, c', e, _, h1, h2⟩ := h
  injection e with e1
  rw [h1 h0] at e1
  injection e1 with e1
  injection e1 with e1
  subst e1
  exact lt_of_cell (h2 0 h0)
theorem run_tail (g off n c : Nat) (hn : 1 ≤ n) (hc : n ≤ c) : ∃ ad, (∀ w : World, (Instr.slice 24 (.slice (some ⟨g, off, none⟩) n c) (some (.int .i64 1)) none none).run Try.prog w = .ok (.slice ad (n - 1) (c - 1)) w) ∧ (0 < n - 1 → ad = some ⟨g, off + 1, none⟩) ∧ (ad = some ⟨g, off, none⟩ ∨ ad = some ⟨g, off + 1, none⟩) := by
  have h1 : ∀ w : World, (Instr.sliceBound (.int .i64 1) n .sliceB).run Try.prog w = .ok 1 w := fun w => by
    have := run_sliceBound (P := Try.prog) (w := w) .i64 1 n .sliceB (by omega) (by omega)
    simpa using this
  refine ⟨if c = 1 then some ⟨g, off, none⟩ else some ⟨g, off + 1, none⟩, fun w => ?_, ?_, ?_⟩
  · unfold Instr.slice Instr.sliceBounds
    simp [run_underlying Try.underlying24, h1 w, Addr.add]
  · intro h
    rw [if_neg (by omega)]
  · by_cases h : c = 1
    · rw [if_pos h]; exact .inl rfl
    · rw [if_neg h]; exact .inr rfl
theorem run_sliceAt_any {P : Program} {t e : TypeId} {x : Value} {lo hi mx : Option Value} (w : World) (h : P.underlying t = some (.slice e)) : (Instr.sliceAt t x lo hi mx).run P w = (Instr.slice t x lo hi mx).run P w := by
  simp [Instr.sliceAt, run_underlying h]
theorem drop_none {ls : List Int} {d : Nat} (h : ls.drop d = []) : ls.getD d (-1) = -1 := by
  have : ls.length ≤ d := List.drop_eq_nil_iff.1 h
  rw [List.getD_eq_getElem?_getD, List.getElem?_eq_none this]; rfl
theorem drop_some {ls r : List Int} {d : Nat} {n : Int} (h : ls.drop d = n :: r) : ls.getD d (-1) = n ∧ ls.drop (d + 1) = r := by
  constructor
  · have : (ls.drop d)[0]? = some n := by rw [h]; rfl
    rw [List.getElem?_drop] at this
    rw [List.getD_eq_getElem?_getD, show d = d + 0 from rfl, this]; rfl
  · rw [← List.tail_drop, h]; rfl
theorem modify_same {l : List AF} {k : Nat} {f : AF} {g : AF → AF} (h : l[k]? = some f) (hg : g f = f) : l.modify k g = l := by
  apply List.ext_getElem?
  intro j
  rw [List.getElem?_modify]
  by_cases e : k = j
  · subst e
    rw [h]
    simp [hg]
  · simp [e]
/-- The lengths that are left, behind one. -/
theorem Il.cons {w : World} {v : Value} {n : Int} {r : List Int} (h : Il w v (n :: r)) : ∃ g off c nn ad, v = .slice (some ⟨g, off, none⟩) nn c ∧ nn = r.length + 1 ∧ nn ≤ c ∧ w.cell? ⟨g, off, none⟩ = some (.int .i64 n) ∧ (∀ w : World, (Instr.slice 24 v (some (.int .i64 1)) none none).run Try.prog w = .ok (.slice ad (nn - 1) (c - 1)) w) ∧ (∀ w : World, (Instr.sliceAt 24 v (some (.int .i64 1)) none none).run Try.prog w = .ok (.slice ad (nn - 1) (c - 1)) w) ∧ Il w (.slice ad (nn - 1) (c - 1)) r ∧ ∀ b, (Value.slice ad (nn - 1) (c - 1)).ownBlock = some b → v.ownBlock = some b := by
  obtain ⟨g, off, ad, c, rfl, h0, h1, h2⟩ := h
  have e := h1 (by simp)
  subst e
  obtain ⟨ad', t1, t2, t3⟩ := run_tail g off (n :: r).length c (by simp) h0
  refine ⟨g, off, c, (n :: r).length, ad', rfl, by simp, h0, h2 0 (by simp), t1, fun w => ?_, ?_, ?_⟩
  · exact (run_sliceAt_any w Try.underlying24).trans (t1 w)
  · refine ⟨g, off + 1, ad', c - 1, by simp, by simp at h0 ⊢; omega, fun hr => t2 (by simpa using hr), fun j hj => ?_⟩
    have := h2 (j + 1) (by simpa using hj)
    rw [show off + 1 + j = off + (j + 1) by omega]
    exact this
  · intro b hb
    rcases t3 with rfl | rfl <;> exact hb
theorem Il.nil {w : World} {v : Value} (h : Il w v []) : ∃ ad c, v = .slice ad 0 c := by
  obtain ⟨g, off, ad, c, rfl, _⟩ := h
  exact ⟨ad, c, rfl⟩
end Go.Proofs.Ytcobjjaicckgpaa.Vf
/- Crash: its walk. -/
namespace Go.Proofs.Ytcobjjaicckgpaa.Vf
open Go Go.RowKit Go.Maps Go.Proofs.Ytcobjjaicckgpaa Go.Proofs.Ytcobjjaicckgpaa.Bs
set_option linter.unusedVariables false

/-- The durable directory has turned, nothing else. -/
theorem Is.dured {w w1 : World} {B : Nat} {o : Loc} {s : St} {m : Nm} (h : Is w B o s) (hB : But o.db w w1) (hD : Dir w1 o.db m) : Is w1 B o { s with dur := m } := by
  have hk : ∀ k cur t fr, w.heap[k]? = some (Obj.cells cur t fr) → w1.heap[k]? = w.heap[k]? := fun k cur t fr hc => hB.block k (lt_of_heap hc) (by intro e; injection e with e; exact h.dur.neB hc e)
  exact
    { fs := by rw [hk _ _ _ _ h.fs]; exact h.fs
      names := h.names.of_block (hB.block _ h.names.lt (by intro e; injection e with e; exact h.nd e))
      dur := hD
      nd := h.nd
      files := own_kept h.files fun g hg => by obtain ⟨cur, hc⟩ := own_block h.files hg; exact hk _ _ _ _ hc
      pend := own_kept h.pend fun g hg => by obtain ⟨cur, hc⟩ := own_block h.pend hg; exact hk _ _ _ _ hc
      each := fun f hf => (h.each f hf).kept (by obtain ⟨dv, rv, h1, _⟩ := h.each f hf; exact hk _ _ _ _ h1) (fun g cur fr hc => hk _ _ _ _ hc)
      zl := zl_kept h.zl (fun k cur fr hc => hk k cur _ fr hc)
      dist := h.dist
      bF := h.bF
      bn := h.bn
      bd := h.bd
      bf := h.bf }
theorem flat_at (l : List Ch) (k : Nat) (hk : k < l.length) : (l.flatMap chCells)[k * 3]? = some (.string l[k].src) ∧ (l.flatMap chCells)[k * 3 + 1]? = some (.string l[k].dst) ∧ (l.flatMap chCells)[k * 3 + 2]? = some (fptrO l[k].file) := by
  induction l generalizing k with
  | nil => simp at hk
  | cons c r ih =>
    cases k with
    | zero => exact ⟨rfl, rfl, rfl⟩
    | succ k =>
      have h := ih k (by simpa using hk)
      have e : ∀ j, ((c :: r).flatMap chCells)[(k + 1) * 3 + j]? = (r.flatMap chCells)[k * 3 + j]? := fun j => by
        rw [List.flatMap_cons, List.getElem?_append_right (by simp [chCells]; omega)]
        congr 1
        simp [chCells]
        omega
      refine ⟨(e 0).trans h.1, (e 1).trans h.2.1, (e 2).trans h.2.2⟩
theorem Is.pendAt {w : World} {B : Nat} {o : Loc} {s : St} (h : Is w B o s) : ∃ g ad cap, o.ps = .slice ad s.pend.length cap ∧ (0 < s.pend.length → ad = some ⟨g, 0, none⟩ ∧ o.ps.ownBlock = some g) ∧ s.pend.length ≤ cap := by
  rcases h.pend.2 with ⟨e, h0⟩ | ⟨g, cap, cur, e, _, hg, hc, _, _, ht⟩
  · exact ⟨0, none, 0, by rw [e, h0], fun hp => by omega, by omega⟩
  · exact ⟨g, _, cap, e, fun _ => ⟨rfl, by rw [e]; rfl⟩, hc⟩
theorem Is.pendCells {w : World} {B g n cap : Nat} {o : Loc} {s : St} (h : Is w B o s) (e : o.ps = .slice (some ⟨g, 0, none⟩) n cap) (k : Nat) (hk : k < s.pend.length) :
    w.cell? ⟨g, k * 3, none⟩ = some (.string s.pend[k].src) ∧ w.cell? ⟨g, k * 3 + 1, none⟩ = some (.string s.pend[k].dst) ∧ w.cell? ⟨g, k * 3 + 2, none⟩ = some (fptrO s.pend[k].file) := by
  rcases h.pend.2 with ⟨e1, h0⟩ | ⟨g', cap', cur, e1, _, hg, hc, _, _, ht⟩
  · omega
  · rw [e] at e1
    injection e1 with e2
    injection e2 with e2
    injection e2 with e2
    subst e2
    have hx : ∀ j, j < 3 → cur[k * 3 + j]? = (s.pend.flatMap chCells)[k * 3 + j]? := fun j hj => by
      have := congrArg (fun l : List Value => l[k * 3 + j]?) ht
      simp only [List.getElem?_take, if_pos (show k * 3 + j < s.pend.length * 3 by omega)] at this
      simpa using this
    obtain ⟨f0, f1, f2⟩ := flat_at s.pend k hk
    unfold World.cell?
    simp only [hg]
    exact ⟨(hx 0 (by omega)).trans f0, (hx 1 (by omega)).trans f1, (hx 2 (by omega)).trans f2⟩
theorem cell_allocA {w : World} {a : Addr} {v : Value} (h : w.cell? a = some v) (x : Obj) : (w.alloc x).cell? a = some v := by
  have hlt := lt_of_cell h
  unfold World.cell? at h ⊢
  rw [old_block _ _ _ hlt]
  exact h
/-- A call's post, where nothing is returned. -/
def DidU (B : Nat) (o : Loc) (s : St) (W : World) (a' : AS) (e : Ending) (w' : World) : Prop :=
  ∃ s' o', e = .returned (.tuple #[]) ∧ Ab a' s' ∧ o'.F = o.F ∧ o'.Z = o.Z ∧ Is w' B o' s' ∧ Fr W w' (foot o s) ∧ ∀ k, foot o' s' k → foot o s k ∨ W.heap.size ≤ k
structure AS.Cr (a : AS) : Prop where
  files : a.files.length ≤ 1000000
  dur : a.dur.length + a.pend.length ≤ 1000000
  pend : ∀ c ∈ a.pend, c.src.size ≤ 1000000 ∧ c.dst.size ≤ 1000000
  data : ∀ f ∈ a.files, f.data.length ≤ 1000000 ∧ f.dur.length ≤ 1000000
/-- The names are the durable ones, nothing is pending. -/
theorem Is.restored {w : World} {B : Nat} {o : Loc} {s : St} (h : Is w B o s) (es : Array MapEntry) (ck : Nat) (hm : w.heap[o.db]? = some (.map es ck)) (hB : B ≤ w.heap.size) :
    Is (((w.alloc (.map es ck)).setCell ⟨o.F, 0, none⟩ (.map (some w.heap.size))).setCell ⟨o.F, 3, none⟩ (.slice none 0 0)) B { o with nb := w.heap.size, ps := .slice none 0 0 } { s with names := s.dur, pend := [] } := by
  have hF := lt_of_heap h.fs
  have hF0 : (w.alloc (.map es ck)).heap[o.F]? = some (Obj.cells (fsCells o s) 64 (0, 0)) := by rw [old_block _ _ _ hF]; exact h.fs
  have h1 := heap_setCell_same _ o.F 0 _ _ (.map (some w.heap.size)) hF0
  have h2 := heap_setCell_same _ o.F 3 _ _ (.slice none 0 0) h1
  have K : ∀ k, k < w.heap.size → k ≠ o.F → (((w.alloc (.map es ck)).setCell ⟨o.F, 0, none⟩ (.map (some w.heap.size))).setCell ⟨o.F, 3, none⟩ (.slice none 0 0)).heap[k]? = w.heap[k]? := fun k hk hn => by
    rw [heap_setCell_other _ _ _ _ hn, heap_setCell_other _ _ _ _ hn, old_block _ _ _ hk]
  have KC : ∀ k cur t fr, w.heap[k]? = some (Obj.cells cur t fr) → t ≠ 64 → (((w.alloc (.map es ck)).setCell ⟨o.F, 0, none⟩ (.map (some w.heap.size))).setCell ⟨o.F, 3, none⟩ (.slice none 0 0)).heap[k]? = w.heap[k]? := fun k cur t fr hk ht => K k (lt_of_heap hk) (ne_of hk h.fs ht)
  have KD := K o.db h.dur.lt (fun e => h.dur.neB h.fs e.symm)
  have hD : Dir (((w.alloc (.map es ck)).setCell ⟨o.F, 0, none⟩ (.map (some w.heap.size))).setCell ⟨o.F, 3, none⟩ (.slice none 0 0)) w.heap.size s.dur := by
    obtain ⟨n, es', ck', hh, r⟩ := h.dur
    rw [hm] at hh
    simp only [Option.some.injEq, Obj.map.injEq] at hh
    obtain ⟨rfl, rfl⟩ := hh
    refine ⟨n, es, ck, ?_, r⟩
    have hn : w.heap.size ≠ o.F := by omega
    rw [heap_setCell_other _ _ _ _ hn, heap_setCell_other _ _ _ _ hn]
    exact new_block w _
  exact
    { fs := by rw [h2]; rfl
      names := hD
      dur := h.dur.of_block KD
      nd := by have := h.dur.lt; show w.heap.size ≠ o.db; omega
      files := own_kept h.files fun k hk => by obtain ⟨cur, hc⟩ := own_block h.files hk; exact KC _ _ _ _ hc (by decide)
      pend := ⟨rfl, .inl ⟨rfl, rfl⟩⟩
      each := fun f hf => (h.each f hf).kept (by obtain ⟨dv, rv, h1, _⟩ := h.each f hf; exact KC _ _ _ _ h1 (by decide)) (fun k cur fr hc => KC _ _ _ _ hc (by decide))
      zl := zl_kept h.zl (fun k cur fr hc => KC _ _ _ _ hc (by decide))
      dist := h.dist
      bF := h.bF
      bn := hB
      bd := h.bd
      bf := h.bf }
def gF (n : Int) (x : Fl) : Fl := ⟨x.blk, (crashF n ⟨x.data, x.dur, x.synced⟩).data, (crashF n ⟨x.data, x.dur, x.synced⟩).dur, (crashF n ⟨x.data, x.dur, x.synced⟩).synced⟩
theorem crash_dirty (n : Int) (f : AF) (h : f.synced = false) : (crashF n f).synced = true ∧ (crashF n f).dur = (crashF n f).data := by
  unfold crashF
  rw [if_neg (by rw [h]; decide)]
  exact ⟨rfl, rfl⟩
/-- A file's block holds what a crash leaves of it. -/
theorem Is.crashed {w w' : World} {B k : Nat} {o : Loc} {bl : Nat → Nat} {a : AS} {f : AF} {n : Int} {nd : Value} (h : Is w B o (conc bl a)) (hk : a.files[k]? = some f) (hs : f.synced = false) (K : ∀ j, j ≠ bl k → w'.heap[j]? = w.heap[j]?)
    (hb : w'.heap[bl k]? = some (Obj.cells #[nd, nd, .bool true] 70 (0, 0))) (hr : Rz o.Z w nd (crashF n f).data) : Is w' B o (conc bl { a with files := a.files.modify k (crashF n) }) := by
  have hkl : k < a.files.length := by
    rcases Nat.lt_or_ge k a.files.length with h1 | h1
    · exact h1
    · rw [List.getElem?_eq_none h1] at hk; cases hk
  have hfe : a.files[k] = f := by rw [List.getElem?_eq_getElem hkl] at hk; injection hk
  obtain ⟨fl, hm, hb0⟩ := Ab.file (bl := bl) hkl
  obtain ⟨d0, r0, hc0, -, -⟩ := h.each fl hm
  rw [hb0] at hc0
  have hbytes : ∀ (g : Nat) (cur : Array Value) (fr : Nat × Nat), w.heap[g]? = some (Obj.cells cur 5 fr) → w'.heap[g]? = w.heap[g]? := fun g cur fr hg => K g (ne_of hg hc0 (by decide))
  have ht := h.turned (w' := w') (g := gF n) (fun _ => rfl) fl hm hb0 K (fun x hx hxb => by
    obtain ⟨j, hj, e⟩ := List.getElem_of_mem hx
    have hj2 : j < a.files.length := by simpa [conc] using hj
    have ex : x = cf bl j a.files[j] := by rw [← e]; simp [conc]
    have hjk : j = k := by
      have h1 : ((a.files.mapIdx (cf bl)).map (·.blk))[j]'(by simpa using hj2) = bl j := by simp [cf]
      have h2 : ((a.files.mapIdx (cf bl)).map (·.blk))[k]'(by simpa using hkl) = bl k := by simp [cf]
      have h3 : bl j = bl k := by rw [← hxb, ex]; rfl
      rcases Nat.lt_trichotomy j k with hlt | heq | hlt
      · exact absurd (h1.trans (h3.trans h2.symm)) (List.pairwise_iff_getElem.1 h.dist j k _ _ hlt)
      · exact heq
      · exact absurd (h2.trans (h3.symm.trans h1.symm)) (List.pairwise_iff_getElem.1 h.dist k j _ _ hlt)
    subst hjk
    rw [hfe] at ex
    subst ex
    obtain ⟨c1, c2⟩ := crash_dirty n f hs
    refine ⟨nd, nd, ?_, hr.kept hbytes, ?_⟩
    · show w'.heap[bl j]? = _
      rw [hb]
      show _ = some (Obj.cells #[nd, nd, .bool (crashF n f).synced] _ _)
      rw [c1]
    · show Rz o.Z w' nd (crashF n f).dur
      rw [c2]
      exact hr.kept hbytes)
  have e := turn_conc bl a.files h.dist k hkl (gF n) (crashF n) (fun j f => rfl)
  have e2 : ({ conc bl a with files := turnFile (conc bl a).files (bl k) (gF n) } : St) = conc bl { a with files := a.files.modify k (crashF n) } := by
    show ({ conc bl a with files := turnFile (a.files.mapIdx (cf bl)) (bl k) (gF n) } : St) = _
    rw [e]
    rfl
  rw [← e2]
  exact ht
theorem three_set {w : World} {b : Nat} {x y z : Value} (u v t : Value) (h : w.heap[b]? = some (Obj.cells #[x, y, z] 70 (0, 0))) : (((w.setCell ⟨b, 0, none⟩ u).setCell ⟨b, 1, none⟩ v).setCell ⟨b, 2, none⟩ t).heap[b]? = some (Obj.cells #[u, v, t] 70 (0, 0)) ∧ ∀ j, j ≠ b → (((w.setCell ⟨b, 0, none⟩ u).setCell ⟨b, 1, none⟩ v).setCell ⟨b, 2, none⟩ t).heap[j]? = w.heap[j]? := by
  have h1 := heap_setCell_same w b 0 _ _ u h
  have h2 := heap_setCell_same _ b 1 _ _ v h1
  have h3 := heap_setCell_same _ b 2 _ _ t h2
  refine ⟨by rw [h3]; rfl, fun j hj => ?_⟩
  rw [heap_setCell_other _ _ _ _ hj, heap_setCell_other _ _ _ _ hj, heap_setCell_other _ _ _ _ hj]
theorem two_set {w : World} {b : Nat} {x y z : Value} (v t : Value) (h : w.heap[b]? = some (Obj.cells #[x, y, z] 70 (0, 0))) : ((w.setCell ⟨b, 1, none⟩ v).setCell ⟨b, 2, none⟩ t).heap[b]? = some (Obj.cells #[x, v, t] 70 (0, 0)) ∧ ∀ j, j ≠ b → ((w.setCell ⟨b, 1, none⟩ v).setCell ⟨b, 2, none⟩ t).heap[j]? = w.heap[j]? := by
  have h2 := heap_setCell_same _ b 1 _ _ v h
  have h3 := heap_setCell_same _ b 2 _ _ t h2
  refine ⟨by rw [h3]; rfl, fun j hj => ?_⟩
  rw [heap_setCell_other _ _ _ _ hj, heap_setCell_other _ _ _ _ hj]
theorem Rd.len {w : World} {ad : Option Addr} {n c : Nat} {l : List UInt8} (h : Rd w (.slice ad n c) l) : n = l.length ∧ n ≤ c := ⟨h.half.1, h.half.2.1⟩
theorem Rd.cut {w : World} {ad : Option Addr} {n c : Nat} {l : List UInt8} (q : Nat) (hq : q ≤ l.length) (h : Rd w (.slice ad n c) l) : Rd w (.slice ad q c) (l.take q) := by
  rcases h with ⟨h1, rfl⟩ | ⟨g, cap, cur, fr, h1, h2, h3, h4⟩
  · injection h1 with e1 e2 e3
    subst e1 e2 e3
    have : q = 0 := by simpa using hq
    subst this
    exact .inl ⟨rfl, rfl⟩
  · injection h1 with e1 e2 e3
    subst e1 e2 e3
    refine .inr ⟨g, c, cur, fr, ?_, h2, ?_, ?_⟩
    · rw [List.length_take, Nat.min_eq_left hq]
    · rw [List.length_take]; omega
    · rw [List.length_take, Nat.min_eq_left hq]
      have := congrArg (List.take q) h4
      rw [List.take_take, Nat.min_eq_left hq] at this
      rw [this]
      simp [Lib.byteCells, List.map_take]
theorem Is.fileAt {w : World} {B k : Nat} {o : Loc} {bl : Nat → Nat} {a : AS} {f : AF} (h : Is w B o (conc bl a)) (hk : a.files[k]? = some f) : ∃ dv rv, w.heap[bl k]? = some (Obj.cells #[dv, rv, .bool f.synced] 70 (0, 0)) ∧ Rz o.Z w dv f.data ∧ Rz o.Z w rv f.dur := by
  have hm : cf bl k f ∈ (conc bl a).files := by
    have : (conc bl a).files[k]? = some (cf bl k f) := by simp [conc, hk]
    exact List.mem_of_getElem? this
  exact h.each _ hm
theorem Is.fileCell {w : World} {B k n cap g : Nat} {o : Loc} {bl : Nat → Nat} {a : AS} (h : Is w B o (conc bl a)) (e : o.fs = .slice (some ⟨g, 0, none⟩) n cap) (hk : k < a.files.length) : w.cell? ⟨g, k, none⟩ = some (.pointer (some ⟨bl k, 0, none⟩)) := by
  obtain ⟨g', ad, cap', e1, h1, h2⟩ := h.filesAt
  have hk2 : k < (conc bl a).files.length := by simpa [conc] using hk
  rw [e, h1 (by omega)] at e1
  injection e1 with e2
  injection e2 with e2
  injection e2 with e2
  subst e2
  rw [h2 k hk2]
  simp [conc, cf, fptr]
end Go.Proofs.Ytcobjjaicckgpaa.Vf
