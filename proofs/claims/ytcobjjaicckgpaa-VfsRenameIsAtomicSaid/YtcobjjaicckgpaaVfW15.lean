/- The closures, in plain words. -/
import Derived.Test.YtcobjjaicckgpaaVf2
namespace Go.Proofs.Ytcobjjaicckgpaa.Vf
open Go Go.RowKit Go.Maps Go.Proofs.Ytcobjjaicckgpaa Go.Proofs.Ytcobjjaicckgpaa.Bs
set_option linter.unusedVariables false

def ARes (p : AS → Int × AS) (a : AS) : Int → St → Prop := fun r s' => r = (p a).1 ∧ Ab (p a).2 s'
/-- A call's post in plain words: p has been done. -/
abbrev Did (B : Nat) (o : Loc) (s : St) (W : World) (p : AS → Int × AS) (a : AS) : Ending → World → Prop := Stp B o s W (ARes p a)
structure AS.Sm (a : AS) : Prop where
  files : a.files.length ≤ 1000000
  names : a.names.length ≤ 1000000
  pend : a.pend.length ≤ 1000000
theorem Fr.drewN (W : World) (n : Nat) (p : Nat → Prop) : Fr W (W.drewN n) p := ⟨rfl, rfl, rfl, Nat.le_refl _, fun _ _ _ => rfl⟩
theorem Did.quiet {B r : Nat} {o : Loc} {s : St} {W : World} {p : AS → Int × AS} {a : AS} (h : Is W B o s) (ha : Ab a s) (n : Nat) (h1 : (p a).1 = r) (h2 : (p a).2 = a) : Did B o s W p a (.returned (.int .i64 r)) (W.drewN n) :=
  ⟨r, s, o, rfl, ⟨h1.symm, by rw [h2]; exact ha⟩, rfl, rfl, h.drewN n, Fr.drewN _ _ _, fun _ hk => .inl hk⟩
theorem Did.ps {B : Nat} {o : Loc} {s s' : St} {W w' : World} {p : AS → Int × AS} {a : AS} {r : Int} {ps' : Value} (hi : Is w' B { o with ps := ps' } s') (hf : Fr W w' (foot o s)) (hg : ∀ g, ps'.ownBlock = some g → o.ps.ownBlock = some g ∨ W.heap.size ≤ g) (hs : s'.files = s.files)
    (h1 : (p a).1 = r) (h2 : Ab (p a).2 s') : Did B o s W p a (.returned (.int .i64 r)) w' := by
  refine ⟨r, s', { o with ps := ps' }, rfl, ⟨h1.symm, h2⟩, rfl, rfl, hi, hf, ?_⟩
  rintro k' (rfl | rfl | rfl | hk' | hk' | ⟨f, hf, rfl⟩)
  · exact .inl (.inl rfl)
  · exact .inl (.inr (.inl rfl))
  · exact .inl (.inr (.inr (.inl rfl)))
  · exact .inl (.inr (.inr (.inr (.inl hk'))))
  · rcases hg k' hk' with e | e
    · exact .inl (.inr (.inr (.inr (.inr (.inl e)))))
    · exact .inr e
  · rw [hs] at hf
    exact .inl (.inr (.inr (.inr (.inr (.inr ⟨f, hf, rfl⟩)))))
theorem foot_turn {o : Loc} {s : St} {b k : Nat} {g : Fl → Fl} (hg : ∀ f, (g f).blk = f.blk) (h : foot o { s with files := turnFile s.files b g } k) : foot o s k := by
  rcases h with h | h | h | h | h | ⟨f, hf, rfl⟩
  · exact .inl h
  · exact .inr (.inl h)
  · exact .inr (.inr (.inl h))
  · exact .inr (.inr (.inr (.inl h)))
  · exact .inr (.inr (.inr (.inr (.inl h))))
  · obtain ⟨f0, hf0, rfl⟩ := List.mem_map.1 (show f ∈ turnFile _ _ _ from hf)
    have e : (if f0.blk = b then g f0 else f0 : Fl).blk = f0.blk := by split <;> simp [hg]
    rw [e]
    exact .inr (.inr (.inr (.inr (.inr ⟨f0, hf0, rfl⟩))))
theorem Ab.find_none {bl : Nat → Nat} {a : AS} {k : List UInt8} (e : findS a.names k = none) : findS (conc bl a).names k = none := by
  show findS (cn bl a.names) k = none
  rw [cn_find, e]
  rfl
theorem Ab.find_some {bl : Nat → Nat} {a : AS} {k : List UInt8} {i : Nat} (e : findS a.names k = some i) : findS (conc bl a).names k = some (bl i) := by
  show findS (cn bl a.names) k = _
  rw [cn_find, e]
  rfl
theorem Ab.file {bl : Nat → Nat} {a : AS} {i : Nat} (h : i < a.files.length) : ∃ f ∈ (conc bl a).files, f.blk = bl i := by
  refine ⟨(a.files.mapIdx (cf bl))[i]'(by simpa using h), List.getElem_mem _, ?_⟩
  simp [cf]
theorem sync1_is (B F p q : Nat) (o : Loc) (s : St) (a : AS) (k : ByteArray) (W : World) (h : Is W B o s) (ha : Ab a s) (hw : a.Wf) (hF : o.F = F) (hp : W.cell? ⟨p, 0, none⟩ = some (.pointer (some ⟨F, 0, none⟩))) (hq : W.cell? ⟨q, 0, none⟩ = some (.string k)) (hk : k.size ≤ 1000000) :
    Calls Try.prog 34 #[.pointer (some ⟨p, 0, none⟩), .pointer (some ⟨q, 0, none⟩)] W (Did B o s W (AS.sync k) a) := by
  obtain ⟨bl, rfl⟩ := id ha
  cases e : findS a.names k.data.toList with
  | none =>
    refine (sync1_none B F p q o _ k W h hF hp hq hk (Ab.find_none e)).mono ?_
    rintro e w' ⟨rfl, n, rfl⟩
    exact Did.quiet h ha n (by unfold AS.sync; rw [e]; rfl) (by unfold AS.sync; rw [e])
  | some i =>
    obtain ⟨f, hm, hb⟩ := Ab.file (bl := bl) (hw.find e)
    refine (sync1_some B (bl i) F p q o _ k f W h hF hp hq hk (Ab.find_some e) hm hb).mono ?_
    rintro e w' ⟨rfl, hi, hf⟩
    exact ⟨0, _, o, rfl, ⟨by unfold AS.sync; rw [e], bl, Ab.sync hw h.dist e⟩, rfl, rfl, hi, hf, fun k' hk' => .inl (foot_turn (b := bl i) (g := fun x => { x with dur := x.data, synced := true }) (fun _ => rfl) hk')⟩
theorem remove1_is (B F p q : Nat) (o : Loc) (s : St) (a : AS) (k : ByteArray) (W : World) (h : Is W B o s) (ha : Ab a s) (hw : a.Wf) (hs : a.Sm) (hF : o.F = F) (hp : W.cell? ⟨p, 0, none⟩ = some (.pointer (some ⟨F, 0, none⟩))) (hq : W.cell? ⟨q, 0, none⟩ = some (.string k)) (hk : k.size ≤ 1000000) :
    Calls Try.prog 51 #[.pointer (some ⟨p, 0, none⟩), .pointer (some ⟨q, 0, none⟩)] W (Did B o s W (AS.remove k) a) := by
  obtain ⟨bl, rfl⟩ := id ha
  cases e : findS a.names k.data.toList with
  | none =>
    refine (remove1_none B F p q o _ k W h hF hp hq hk (Ab.find_none e)).mono ?_
    rintro e w' ⟨rfl, n, rfl⟩
    exact Did.quiet h ha n (by unfold AS.remove; rw [e]; rfl) (by unfold AS.remove; rw [e])
  | some i =>
    refine (remove1_some B (bl i) F p q o _ k W h hF hp hq hk (Ab.find_some e) (by simpa [conc, cn_len] using hs.names) (by simpa [conc] using hs.pend)).mono ?_
    rintro e w' ⟨rfl, ps', hi, hf, hg⟩
    refine Did.ps hi hf hg rfl (by unfold AS.remove; rw [e]) ⟨bl, ?_⟩
    unfold AS.remove
    rw [e]
    simp only
    rw [← Ab.record, apply_any _ k ⟨#[]⟩ 0 (bl 0) (by rw [Lib.toList_data]; rfl)]
    have e2 : cc bl ⟨k, ⟨#[]⟩, 0⟩ = ⟨k, ⟨#[]⟩, none⟩ := by
      unfold cc
      rw [if_pos (by rw [Lib.toList_data]; rfl)]
    rw [e2]
theorem rename1_is (B F p q r : Nat) (o : Loc) (s : St) (a : AS) (k t : ByteArray) (W : World) (h : Is W B o s) (ha : Ab a s) (hw : a.Wf) (hs : a.Sm) (hF : o.F = F) (hp : W.cell? ⟨p, 0, none⟩ = some (.pointer (some ⟨F, 0, none⟩))) (hq : W.cell? ⟨q, 0, none⟩ = some (.string k)) (hr : W.cell? ⟨r, 0, none⟩ = some (.string t)) (hk : k.size ≤ 1000000) (ht : t.size ≤ 1000000) :
    Calls Try.prog 38 #[.pointer (some ⟨p, 0, none⟩), .pointer (some ⟨q, 0, none⟩), .pointer (some ⟨r, 0, none⟩)] W (Did B o s W (AS.rename k t) a) := by
  obtain ⟨bl, rfl⟩ := id ha
  cases e : findS a.names k.data.toList with
  | none =>
    refine (rename1_none B 0 F p q r o _ k t W h hF hp hq hr hk (Ab.find_none e)).mono ?_
    rintro e w' ⟨rfl, n, rfl⟩
    exact Did.quiet h ha n (by unfold AS.rename; rw [e]; rfl) (by unfold AS.rename; rw [e])
  | some i =>
    cases t0 : t.toList.isEmpty with
    | true =>
      refine (rename1_empty B (bl i) F p q r o _ k t W h hF hp hq hr hk (Ab.find_some e) t0).mono ?_
      rintro e w' ⟨rfl, n, rfl⟩
      exact Did.quiet h ha n (by unfold AS.rename; rw [e]; simp only [t0]; rfl) (by unfold AS.rename; rw [e]; simp only [t0]; rfl)
    | false =>
      cases tk : k.toList == t.toList with
      | true =>
        refine (rename1_same B (bl i) F p q r o _ k t W h hF hp hq hr hk (Ab.find_some e) t0 tk).mono ?_
        rintro e w' ⟨rfl, n, rfl⟩
        exact Did.quiet h ha n (by unfold AS.rename; rw [e]; simp only [t0, tk]; rfl) (by unfold AS.rename; rw [e]; simp only [t0, tk]; rfl)
      | false =>
        refine (rename1_some B (bl i) F p q r o _ k t W h hF hp hq hr hk ht (Ab.find_some e) t0 tk (by simpa [conc, cn_len] using hs.names) (by simpa [conc] using hs.pend)).mono ?_
        rintro e w' ⟨rfl, ps', hi, hf, hg⟩
        have eR : AS.rename k t a = (0, a.record ⟨k, t, i⟩) := by
          unfold AS.rename
          rw [e]
          simp only [t0, tk, Bool.false_eq_true, if_false]
        refine Did.ps hi hf hg rfl (by rw [eR]) ⟨bl, ?_⟩
        rw [eR]
        simp only
        rw [← Ab.record]
        have e2 : cc bl ⟨k, t, i⟩ = ⟨k, t, some (bl i)⟩ := by
          unfold cc
          simp only [t0, Bool.false_eq_true, if_false]
        rw [e2]
theorem syncdir1_is (B F p : Nat) (o : Loc) (s : St) (a : AS) (W : World) (h : Is W B o s) (ha : Ab a s) (hF : o.F = F) (hp : W.cell? ⟨p, 0, none⟩ = some (.pointer (some ⟨F, 0, none⟩))) :
    Calls Try.prog 36 #[.pointer (some ⟨p, 0, none⟩)] W (Did B o s W AS.syncdir a) := by
  obtain ⟨bl, rfl⟩ := id ha
  obtain ⟨es, ck, hm⟩ := h.names.block
  subst hF
  obtain ⟨c1, -, -, -, -, -, fz⟩ := fs_flags h.fs
  obtain ⟨c3, -⟩ := fs_at3 h.fs
  have hB := Nat.le_trans h.bF (Nat.le_of_lt (lt_of_heap h.fs))
  refine (syncdir1_walk o.F p o.nb W _ _ es ck hp (fs_at0 h.fs) c1 c3 (fz 1) (fz 3) hm).mono ?_
  rintro e w' ⟨rfl, rfl⟩
  have hi := Is.synced (w := W.drewN 1) (h.drewN 1) es ck hm hB
  have f1 : Fr W (W.drew.alloc (.map es ck)) (foot o (conc bl a)) := (Fr.drewN W 1 _).trans (Fr.of_below ((Below.refl (W.drewN 1).heap.size (W.drewN 1)).alloc (Nat.le_refl _) (.map es ck)) (foot o (conc bl a))) (fun _ _ e => e)
  have f2 := (f1.trans (Fr.set _ ⟨o.F, 1, none⟩ (.map (some W.heap.size)) (foot o (conc bl a)) (.inl rfl)) (fun _ _ e => e)).trans (Fr.set _ ⟨o.F, 3, none⟩ (.slice none 0 0) (foot o (conc bl a)) (.inl rfl)) (fun _ _ e => e)
  refine ⟨0, _, { o with db := W.heap.size, ps := .slice none 0 0 }, rfl, ⟨rfl, bl, rfl⟩, rfl, rfl, hi, f2, ?_⟩
  rintro k' (rfl | rfl | rfl | hk' | hk' | ⟨f, hf, rfl⟩)
  · exact .inl (.inl rfl)
  · exact .inl (.inr (.inl rfl))
  · exact .inr (Nat.le_refl _)
  · exact .inl (.inr (.inr (.inr (.inl hk'))))
  · simp [Value.ownBlock] at hk'
  · exact .inl (.inr (.inr (.inr (.inr (.inr ⟨f, hf, rfl⟩)))))
theorem empty_data {k : ByteArray} (h : k.toList.isEmpty = true) : k = ⟨#[]⟩ := by
  rw [Lib.toList_data] at h
  obtain ⟨⟨l⟩⟩ := k
  simp only [List.isEmpty_iff] at h
  subst h
  rfl
theorem put_is (B F : Nat) (o : Loc) (s : St) (a : AS) (k : ByteArray) (v : Value) (l : List UInt8) (W : World) (h : Is W B o s) (ha : Ab a s) (hw : a.Wf) (hs : a.Sm) (hF : o.F = F) (hk : k.size ≤ 1000000) (hl : l.length ≤ 1000000) (hv : Rd W v l) :
    Calls Try.prog 32 #[.pointer (some ⟨F, 0, none⟩), .string k, v] W (Did B o s W (AS.put k l) a) := by
  obtain ⟨bl, rfl⟩ := id ha
  subst hF
  cases k0 : k.toList.isEmpty with
  | true =>
    have ek := empty_data k0
    subst ek
    refine (put_none B o v W).mono ?_
    rintro e w' ⟨rfl, rfl⟩
    have e1 : AS.put ⟨#[]⟩ l a = (2, a) := by unfold AS.put; rw [if_pos k0]
    exact Did.quiet (r := 2) h ha 0 (by rw [e1]; rfl) (by rw [e1])
  | false =>
    cases e : findS a.names k.data.toList with
    | none =>
      refine (put_new B o _ k v l W h hk k0 hl hv (Ab.find_none e) (by simpa [conc] using hs.files) (by simpa [conc, cn_len] using hs.names) (by simpa [conc] using hs.pend)).mono ?_
      rintro e w' ⟨r, s', o', rfl, ⟨rfl, b, hb, rfl⟩, h1, h2, h3, h4, h5⟩
      refine ⟨0, _, o', rfl, ⟨?_, ⟨_, Ab.put_new hw hb k0 e⟩⟩, h1, h2, h3, h4, h5⟩
      unfold AS.put
      rw [k0, e]
      rfl
    | some i =>
      obtain ⟨f, hm, hb⟩ := Ab.file (bl := bl) (hw.find e)
      refine (put_old B (bl i) o _ k v l f W h hk k0 hl hv (Ab.find_some e) hm hb).mono ?_
      rintro e w' ⟨rfl, hi, hf⟩
      refine ⟨0, _, o, rfl, ⟨?_, bl, Ab.put_old hw h.dist k0 e⟩, rfl, rfl, hi, hf, fun k' hk' => .inl (foot_turn (b := bl i) (g := fun x => { x with data := l, synced := false }) (fun _ => rfl) hk')⟩
      unfold AS.put
      rw [k0, e]
      rfl
end Go.Proofs.Ytcobjjaicckgpaa.Vf
