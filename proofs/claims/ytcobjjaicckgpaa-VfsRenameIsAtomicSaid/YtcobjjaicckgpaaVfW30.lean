/- The file system as its callers see it. -/
import Derived.Test.YtcobjjaicckgpaaVfW29
import Derived.Lib.ConvBytes
namespace Go.Proofs.Ytcobjjaicckgpaa.Vf
open Go Go.RowKit Go.Maps Go.Proofs.Ytcobjjaicckgpaa Go.Proofs.Ytcobjjaicckgpaa.Bs
set_option linter.unusedVariables false

/-- At block F lies a file system with contents a, whose blocks are those of p. -/
def Fs (w : World) (B F : Nat) (Z : Nat → Prop) (a : AS) (p : Nat → Prop) : Prop := ∃ o s, o.F = F ∧ o.Z = Z ∧ Is w B o s ∧ Ab a s ∧ foot o s = p
structure AS.Ok (a : AS) (n : Nat) : Prop where
  wf : a.Wf
  sn : So a.names
  sd : So a.dur
  af : a.Af
  files : a.files.length ≤ n
  names : a.names.length ≤ n
  dp : a.dur.length + a.pend.length ≤ n
  strs : ∀ c ∈ a.pend, c.src.size ≤ 1000000 ∧ c.dst.size ≤ 1000000
  data : ∀ f ∈ a.files, f.data.length ≤ 1000000 ∧ f.dur.length ≤ 1000000
theorem AS.Ok.dur {a : AS} {n : Nat} (h : a.Ok n) : a.dur.length ≤ n := by have := h.dp; omega
theorem AS.Ok.pend {a : AS} {n : Nat} (h : a.Ok n) : a.pend.length ≤ n := by have := h.dp; omega
theorem AS.Ok.sm {a : AS} {n : Nat} (h : a.Ok n) (hn : n ≤ 400000) : a.Sm := ⟨Nat.le_trans h.files (by omega), Nat.le_trans h.names (by omega), Nat.le_trans h.pend (by omega)⟩
theorem AS.Ok.cr {a : AS} {n : Nat} (h : a.Ok n) (hn : n ≤ 400000) : a.Cr := ⟨Nat.le_trans h.files (by omega), by have := h.dp; omega, h.strs, h.data⟩
theorem AS.Ok.mono {a : AS} {n m : Nat} (h : a.Ok n) (hm : n ≤ m) : a.Ok m := ⟨h.wf, h.sn, h.sd, h.af, Nat.le_trans h.files hm, Nat.le_trans h.names hm, Nat.le_trans h.dp hm, h.strs, h.data⟩
theorem AS.Ok.new : AS.new.Ok 0 := ⟨⟨(by intro p hp; cases hp), (by intro p hp; cases hp), (by intro c hc; cases hc)⟩, So.nil, So.nil, ⟨by decide, by decide⟩, Nat.le_refl _, Nat.le_refl _, Nat.le_refl _, (by intro c hc; cases hc), (by intro c hc; cases hc)⟩
/-- After a call: the result, the contents behind it, and what it has left alone. -/
def Aft (W : World) (B F : Nat) (Z p : Nat → Prop) (r : Value) (a' : AS) (e : Ending) (w' : World) : Prop := e = .returned r ∧ ∃ p', Fs w' B F Z a' p' ∧ Fr W w' p ∧ ∀ k, p' k → p k ∨ W.heap.size ≤ k
theorem Did.aft {B F : Nat} {Z p : Nat → Prop} {o : Loc} {s : St} {W w' : World} {P : AS → Int × AS} {a : AS} {e : Ending} (h : Did B o s W P a e w') (hF : o.F = F) (hZ : o.Z = Z) (hp : foot o s = p) : Aft W B F Z p (.int .i64 (P a).1) (P a).2 e w' := by
  obtain ⟨r, s', o', rfl, ⟨h1, h2⟩, h3, h4, h5, h6, h7⟩ := h
  rw [hp] at h6 h7
  exact ⟨by rw [h1], _, ⟨o', s', h3.trans hF, h4.trans hZ, h5, h2, rfl⟩, h6, h7⟩
theorem DidU.aft {B F : Nat} {Z p : Nat → Prop} {o : Loc} {s : St} {W w' : World} {a' : AS} {e : Ending} (h : DidU B o s W a' e w') (hF : o.F = F) (hZ : o.Z = Z) (hp : foot o s = p) : Aft W B F Z p (.tuple #[]) a' e w' := by
  obtain ⟨s', o', rfl, h2, h3, h4, h5, h6, h7⟩ := h
  rw [hp] at h6 h7
  exact ⟨rfl, _, ⟨o', s', h3.trans hF, h4.trans hZ, h5, h2, rfl⟩, h6, h7⟩
section
variable {W : World} {B F n : Nat} {Z p : Nat → Prop} {a : AS}
theorem write_fs (h : Fs W B F Z a p) (ok : a.Ok n) (hn : n ≤ 400000) (k : ByteArray) (v : Value) (l : List UInt8) (hk : k.size ≤ 1000000) (hl : l.length ≤ 1000000) (hv : Rd W v l) :
    Calls Try.prog 9 #[.pointer (some ⟨F, 0, none⟩), .string k, v] W (Aft W B F Z p (.int .i64 (AS.op (AS.put k l) (AS.tear k l) a).1) (AS.op (AS.put k l) (AS.tear k l) a).2) := by
  obtain ⟨o, s, hF, hZ, hI, hA, hp⟩ := h
  subst hF
  exact (write_is B o s a k v l W hI hA ok.wf (ok.sm hn) ok.af hk hl hv).mono fun e w' hD => hD.aft rfl hZ hp
theorem sync_fs (h : Fs W B F Z a p) (ok : a.Ok n) (hn : n ≤ 400000) (k : ByteArray) (hk : k.size ≤ 1000000) :
    Calls Try.prog 10 #[.pointer (some ⟨F, 0, none⟩), .string k] W (Aft W B F Z p (.int .i64 (AS.op (AS.sync k) id a).1) (AS.op (AS.sync k) id a).2) := by
  obtain ⟨o, s, hF, hZ, hI, hA, hp⟩ := h
  subst hF
  exact (sync_is B o s a k W hI hA ok.wf (ok.sm hn) ok.af hk).mono fun e w' hD => hD.aft rfl hZ hp
theorem remove_fs (h : Fs W B F Z a p) (ok : a.Ok n) (hn : n ≤ 400000) (k : ByteArray) (hk : k.size ≤ 1000000) :
    Calls Try.prog 28 #[.pointer (some ⟨F, 0, none⟩), .string k] W (Aft W B F Z p (.int .i64 (AS.op (AS.remove k) id a).1) (AS.op (AS.remove k) id a).2) := by
  obtain ⟨o, s, hF, hZ, hI, hA, hp⟩ := h
  subst hF
  exact (remove_is B o s a k W hI hA ok.wf (ok.sm hn) ok.af hk).mono fun e w' hD => hD.aft rfl hZ hp
theorem rename_fs (h : Fs W B F Z a p) (ok : a.Ok n) (hn : n ≤ 400000) (k t : ByteArray) (hk : k.size ≤ 1000000) (ht : t.size ≤ 1000000) :
    Calls Try.prog 12 #[.pointer (some ⟨F, 0, none⟩), .string k, .string t] W (Aft W B F Z p (.int .i64 (AS.op (AS.rename k t) id a).1) (AS.op (AS.rename k t) id a).2) := by
  obtain ⟨o, s, hF, hZ, hI, hA, hp⟩ := h
  subst hF
  exact (rename_is B o s a k t W hI hA ok.wf (ok.sm hn) ok.af hk ht).mono fun e w' hD => hD.aft rfl hZ hp
theorem syncdir_fs (h : Fs W B F Z a p) (ok : a.Ok n) (hn : n ≤ 400000) :
    Calls Try.prog 11 #[.pointer (some ⟨F, 0, none⟩)] W (Aft W B F Z p (.int .i64 (AS.op AS.syncdir id a).1) (AS.op AS.syncdir id a).2) := by
  obtain ⟨o, s, hF, hZ, hI, hA, hp⟩ := h
  subst hF
  exact (syncdir_is B o s a W hI hA ok.wf (ok.sm hn) ok.af).mono fun e w' hD => hD.aft rfl hZ hp
theorem arm_fs (h : Fs W B F Z a p) (m e : Int) :
    Calls Try.prog 21 #[.pointer (some ⟨F, 0, none⟩), .int .i64 m, .int .i64 e] W (Aft W B F Z p (.int .i64 (AS.arm m e a).1) (AS.arm m e a).2) := by
  obtain ⟨o, s, hF, hZ, hI, hA, hp⟩ := h
  subst hF
  exact (arm_is B o s a m e W hI hA).mono fun e w' hD => hD.aft rfl hZ hp
theorem down_fs (h : Fs W B F Z a p) :
    Calls Try.prog 24 #[.pointer (some ⟨F, 0, none⟩)] W fun e w' => e = .returned (.bool a.down) ∧ w' = W := by
  obtain ⟨o, s, hF, hZ, hI, ⟨bl, rfl⟩, hp⟩ := h
  subst hF
  exact down_is B o _ W hI
theorem read_fs (h : Fs W B F Z a p) (ok : a.Ok n) (k : ByteArray) (hk : k.size ≤ 1000000) :
    Calls Try.prog 14 #[.pointer (some ⟨F, 0, none⟩), .string k] W fun e w' => ∃ v, e = .returned (.tuple #[v, .int .i64 (a.read k).2]) ∧ Rd w' v (a.read k).1 ∧ (∀ g, v.ownBlock = some g → W.heap.size ≤ g) ∧ Below W.heap.size W w' := by
  obtain ⟨o, s, hF, hZ, hI, hA, hp⟩ := h
  subst hF
  exact read_is B o s a k W hI hA ok.wf (fun f hf => (ok.data f hf).1) hk
theorem list_fs (h : Fs W B F Z a p) (ok : a.Ok n) (hn : n ≤ 400000) :
    Calls Try.prog 25 #[.pointer (some ⟨F, 0, none⟩)] W fun e w' => ∃ v, e = .returned v ∧ w'.ownsRow W.heap.size 9 1 v a.list.length (a.list.map encStr) ∧ Below W.heap.size W w' := by
  obtain ⟨o, s, hF, hZ, hI, hA, hp⟩ := h
  subst hF
  exact list_is B o s a W hI hA ok.sn (by have := ok.names; omega)
theorem dirty_conc (bl : Nat → Nat) (a : AS) : dirty (conc bl a).files = dirtyA a.files := by
  have h : ∀ (l : List AF) (bl : Nat → Nat), dirty (l.mapIdx (cf bl)) = dirtyA l := by
    intro l
    induction l with
    | nil => intro bl; rfl
    | cons f r ih =>
      intro bl
      have h2 := ih (fun i => bl (i + 1))
      unfold dirty dirtyA at h2 ⊢
      rw [List.mapIdx_cons]
      have h3 : (r.mapIdx fun i => cf bl (i + 1)) = r.mapIdx (cf fun i => bl (i + 1)) := rfl
      rw [h3]
      simp only [List.filter_cons]
      show (if !f.synced then _ else _ : List Fl).length = _
      cases f.synced
      · simp only [Bool.not_false, if_true, List.length_cons, h2]
      · simp only [Bool.not_true, Bool.false_eq_true, if_false, h2]
  exact h a.files bl
theorem pending_fs (h : Fs W B F Z a p) (ok : a.Ok n) (hn : n ≤ 400000) :
    Calls Try.prog 27 #[.pointer (some ⟨F, 0, none⟩)] W fun e w' => e = .returned (.tuple #[.int .i64 a.pend.length, .int .i64 (dirtyA a.files)]) ∧ w' = W := by
  obtain ⟨o, s, hF, hZ, hI, ⟨bl, rfl⟩, hp⟩ := h
  subst hF
  have h1 : (conc bl a).files.length = a.files.length := by simp [conc]
  have h2 : (conc bl a).pend.length = a.pend.length := by simp [conc]
  have h3 := dirty_conc bl a
  have := pending_walk B o (conc bl a) W hI (by rw [h1]; have := ok.files; omega) (by rw [h2]; have := ok.pend; omega)
  rw [h2, h3] at this
  exact this
theorem crash_fs (h : Fs W B F Z a p) (ok : a.Ok n) (hn : n ≤ 400000) (v1 v2 : Value) (ch : List Bool) (ls : List Int) (h1 : Bl W v1 ch) (h2 : Il W v2 ls) (g1 : ∀ g, v1.ownBlock = some g → ¬ p g) (g2 : ∀ g, v2.ownBlock = some g → ¬ p g) (hc : ch.length ≤ 1000000000) (hl : ls.length ≤ 1000000000) :
    Calls Try.prog 13 #[.pointer (some ⟨F, 0, none⟩), v1, v2] W (Aft W B F Z p (.tuple #[]) (a.crash ch ls)) := by
  obtain ⟨o, s, hF, hZ, hI, ⟨bl, rfl⟩, hp⟩ := h
  subst hF
  obtain ⟨g, off, ad, c, rfl, hb1, hb2⟩ := h1
  rw [← hp] at g1 g2
  refine (crash_is B o.F bl o a v2 ch ls W g off ch.length c ad hI ok.wf (ok.cr hn) rfl rfl hc hb1 hb2 (fun h0 => ?_) h2 hl g2).mono fun e w' hD => hD.aft rfl hZ hp
  have := hb1 h0
  subst this
  exact g1 g rfl
theorem clone_fs (h : Fs W B F Z a p) (ok : a.Ok n) (hn : n ≤ 400000) :
    Calls Try.prog 29 #[.pointer (some ⟨F, 0, none⟩)] W fun e w' => ∃ p', e = .returned (.pointer (some ⟨W.heap.size + 2, 0, none⟩)) ∧ Fs w' W.heap.size (W.heap.size + 2) Z a p' ∧ Below W.heap.size W w' ∧ ∀ k, p' k → W.heap.size ≤ k := by
  obtain ⟨o, s, hF, hZ, hI, ⟨bl, rfl⟩, hp⟩ := h
  subst hF
  refine (clone_walk B o.F W.heap.size bl o a W hI ok.wf rfl rfl (by have := ok.files; omega) (by have := ok.pend; omega) (by have := ok.names; omega) (by have := ok.dur; omega) ok.sn ok.sd).mono ?_
  rintro e w' ⟨o', bl', rfl, h1, h2, h3, h4⟩
  refine ⟨_, rfl, ⟨o', conc bl' a, h1, h2.trans hZ, h3, ⟨bl', rfl⟩, rfl⟩, h4, ?_⟩
  rintro k (rfl | rfl | rfl | hk | hk | ⟨f, hf, rfl⟩)
  · exact h3.bF
  · exact h3.bn
  · exact h3.bd
  · exact (h3.files.lt k hk).1
  · exact (h3.pend.lt k hk).1
  · exact h3.bf f hf
end
theorem new_fs (W : World) :
    Calls Try.prog 8 #[] W fun e w' => ∃ F p, e = .returned (.pointer (some ⟨F, 0, none⟩)) ∧ Fs w' W.heap.size F (fun _ => False) AS.new p ∧ Below W.heap.size W w' ∧ ∀ k, p k → W.heap.size ≤ k := by
  refine (new_is W).mono ?_
  rintro e w' ⟨o, s, rfl, h1, h2, h3, h4, h5⟩
  exact ⟨o.F, _, rfl, ⟨o, s, rfl, h3, h1, h2, rfl⟩, h4, h5⟩

/-! ### what other calls leave alone -/
theorem Fs.lt {w : World} {B F : Nat} {Z p : Nat → Prop} {a : AS} (h : Fs w B F Z a p) : ∀ k, p k → k < w.heap.size ∧ B ≤ k := by
  obtain ⟨o, s, rfl, rfl, hI, hA, rfl⟩ := h
  rintro k (rfl | rfl | rfl | hk | hk | ⟨f, hf, rfl⟩)
  · exact ⟨lt_of_heap hI.fs, hI.bF⟩
  · exact ⟨hI.names.lt, hI.bn⟩
  · exact ⟨hI.dur.lt, hI.bd⟩
  · exact ⟨(hI.files.lt k hk).2, (hI.files.lt k hk).1⟩
  · exact ⟨(hI.pend.lt k hk).2, (hI.pend.lt k hk).1⟩
  · obtain ⟨dv, rv, h1, _⟩ := hI.each f hf
    exact ⟨lt_of_heap h1, hI.bf f hf⟩
theorem Fs.kept {w w' : World} {B F : Nat} {Z p : Nat → Prop} {a : AS} (h : Fs w B F Z a p) (hk : ∀ k, p k → w'.heap[k]? = w.heap[k]?) (hb : ∀ (g : Nat) (cur : Array Value) (fr : Nat × Nat), w.heap[g]? = some (Obj.cells cur 5 fr) → w'.heap[g]? = w.heap[g]?) : Fs w' B F Z a p := by
  obtain ⟨o, s, h1, h2, hI, hA, hp⟩ := h
  exact ⟨o, s, h1, h2, hI.kept (fun k h => hk k (by rw [← hp]; exact h)) hb, hA, hp⟩
theorem Fs.below {w w' : World} {B F : Nat} {Z p : Nat → Prop} {a : AS} (h : Fs w B F Z a p) (hb : Below w.heap.size w w') : Fs w' B F Z a p :=
  h.kept (fun k hk => hb.block k (h.lt k hk).1) (fun g cur fr hg => hb.block g (lt_of_heap hg))
/-- No block of a file system holds bytes. -/
theorem Fs.ne_bytes {w : World} {B F : Nat} {Z p : Nat → Prop} {a : AS} (h : Fs w B F Z a p) {k : Nat} (hk : p k) (cur : Array Value) (fr : Nat × Nat) : w.heap[k]? ≠ some (Obj.cells cur 5 fr) := by
  obtain ⟨o, s, h1, h2, hI, hA, rfl⟩ := h
  exact hI.foot_ne hk cur fr
/-- Another file system's call leaves this one alone. -/
theorem Fs.apart {w w' : World} {B F B' F' : Nat} {Z p Z' q : Nat → Prop} {a a' : AS} (h : Fs w B F Z a p) (h' : Fs w B' F' Z' a' q) (hd : ∀ k, p k → ¬ q k) (hf : Fr w w' q) : Fs w' B F Z a p :=
  h.kept (fun k hk => hf.block k (h.lt k hk).1 (hd k hk)) (fun g cur fr hg => hf.block g (lt_of_heap hg) fun e => h'.ne_bytes e cur fr hg)

/-! ### bytes and strings -/
theorem Rd.conv {w : World} {v : Value} {l : List UInt8} (h : Rd w v l) : (convert 30 9 v).run Try.prog w = .ok (.string ⟨l.toArray⟩) w := by
  rcases h with ⟨rfl, rfl⟩ | ⟨g, cap, cur, fr, rfl, hg, hc, ht⟩
  · exact Lib.run_convert_nil_bytes w 30 9 5 0 Try.underlying30 Try.underlying5 Try.underlying9
  · refine run_convert_bytes_back w 30 9 5 ⟨g, 0, none⟩ cap l Try.underlying30 Try.underlying5 Try.underlying9 (fun j hj => ?_)
    exact Rd.cells hg ht j _ (by simp [Lib.byteCells, List.getElem?_eq_getElem hj])
theorem world_belowV (w : World) (e : TypeId) (s : ByteArray) : Below w.heap.size w (Lib.bytesWorld w e s) :=
  ⟨rfl, rfl, rfl, by rw [Lib.bytesWorld_size]; omega, fun k hk => Lib.bytesWorld_at_old w e s k hk⟩
theorem conv_str (w : World) (s : ByteArray) : ∃ cap w', (convert 9 30 (.string s)).run Try.prog w = .ok (.slice (some ⟨w.heap.size, 0, none⟩) s.size cap) w' ∧ Rd w' (.slice (some ⟨w.heap.size, 0, none⟩) s.size cap) s.data.toList ∧ Below w.heap.size w w' := by
  have hcv := Lib.run_convert_string_bytes (P := Try.prog) w 9 30 5 s (u := .string) Try.underlying9 Try.underlying30 Try.underlying5
  have hne := Lib.bytesWorld_at_new w 5 s
  have hsz : s.data.toList.length = s.size := by simp
  refine ⟨grownCap w s.size 0 5, _, hcv, .inr ⟨w.heap.size, grownCap w s.size 0 5, Lib.bytesCells w 5 s, _, by rw [hsz], hne, ?_, ?_⟩, world_belowV w _ s⟩
  · rw [hsz]; exact grownCap_ge _ _ _ _
  · rw [hsz]
    unfold Lib.bytesCells Lib.byteCells
    have hl : (s.data.map fun b => Value.int .u8 b.toNat).toList.length = s.size := by simp
    rw [Array.toList_append, List.take_append_of_le_length (by rw [hl]; exact Nat.le_refl _), List.take_of_length_le (by rw [hl]; exact Nat.le_refl _), Array.toList_map]
end Go.Proofs.Ytcobjjaicckgpaa.Vf
