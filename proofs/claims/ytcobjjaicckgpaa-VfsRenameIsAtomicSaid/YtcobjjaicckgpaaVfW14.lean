/- put where the name is not there. -/
import Derived.Test.YtcobjjaicckgpaaVfW13
namespace Go.Proofs.Ytcobjjaicckgpaa.Vf
open Go Go.RowKit Go.Maps Go.Proofs.Ytcobjjaicckgpaa Go.Proofs.Ytcobjjaicckgpaa.Bs
set_option linter.unusedVariables false

/-- The post of an operation: the result, the state behind it, and what it has left alone. -/
def Stp (B : Nat) (o : Loc) (s : St) (W : World) (R : Int → St → Prop) (e : Ending) (w' : World) : Prop :=
  ∃ r s' o', e = .returned (.int .i64 r) ∧ R r s' ∧ o'.F = o.F ∧ o'.Z = o.Z ∧ Is w' B o' s' ∧ Fr W w' (foot o s) ∧ ∀ k, foot o' s' k → foot o s k ∨ W.heap.size ≤ k
theorem infoP : (Try.prog.info? 66).map (fun i => (i.zero, i.size, i.bytes)) = some (some (.pointer none), 1, 8) := by kernel_rfl
theorem grow_atP {w1 w2 : World} {x y : Obj} {row : Option Nat} {F : Nat} (h : (w1.alloc x).grownBy w2 row) (hc : w1.heap[F]? = some y) (hne : row ≠ some F) : w2.heap[F]? = some y := by
  have hlt := lt_of_heap hc
  have hc2 : (w1.alloc x).heap[F]? = some y := by rw [old_block w1 x F hlt]; exact hc
  rw [h.block F (lt_of_heap hc2) (fun e => hne e.symm)]
  exact hc2
/-- A file is appended. -/
theorem Is.filed {w1 w2 : World} {x : Obj} {B g cap b : Nat} {o : Loc} {s : St} (h : Is w1 B o s) (hbB : B ≤ b) (hb : w1.heap[b]? = some (Obj.cells #[.slice none 0 0, .slice none 0 0, .bool false] 70 (0, 0))) (hn : ∀ f ∈ s.files, f.blk ≠ b) (hg : (w1.alloc x).grownBy w2 o.fs.ownBlock)
    (ho : w2.ownsRow B 66 1 (.slice (some ⟨g, 0, none⟩) (s.files.length + 1) cap) (s.files.length + 1) (s.files.map (fun f => fptr f.blk) ++ [fptr b])) :
    Is (w2.setCell ⟨o.F, 2, none⟩ (.slice (some ⟨g, 0, none⟩) (s.files.length + 1) cap)) B { o with fs := .slice (some ⟨g, 0, none⟩) (s.files.length + 1) cap } { s with files := s.files ++ [⟨b, [], [], false⟩] } := by
  have K : ∀ k y, w1.heap[k]? = some y → o.fs.ownBlock ≠ some k → k ≠ o.F → (w2.setCell ⟨o.F, 2, none⟩ (.slice (some ⟨g, 0, none⟩) (s.files.length + 1) cap)).heap[k]? = some y := fun k y hy hne hF => by
    rw [heap_setCell_other _ _ _ _ hF]; exact grow_atP hg hy hne
  have KC : ∀ k cur t fr, w1.heap[k]? = some (Obj.cells cur t fr) → t ≠ 66 → t ≠ 64 → (w2.setCell ⟨o.F, 2, none⟩ (.slice (some ⟨g, 0, none⟩) (s.files.length + 1) cap)).heap[k]? = w1.heap[k]? := fun k cur t fr hy h1 h2 => by
    rw [hy]; exact K k _ hy (own_ne h.files hy h1) (ne_of hy h.fs h2)
  have KM : ∀ b m, Dir w1 b m → (w2.setCell ⟨o.F, 2, none⟩ (.slice (some ⟨g, 0, none⟩) (s.files.length + 1) cap)).heap[b]? = w1.heap[b]? := fun b m hd => by
    obtain ⟨es, ck, hb⟩ := hd.block
    rw [hb]
    exact K b _ hb (fun e => by obtain ⟨cur, hc⟩ := own_block h.files e; rw [hb] at hc; simp at hc) (fun e => hd.neB h.fs e.symm)
  have hF2 := grow_atP hg h.fs (own_ne h.files h.fs (by decide))
  exact
    { fs := by rw [heap_setCell_same _ _ _ _ _ _ hF2]; rfl
      names := h.names.of_block (KM _ _ h.names)
      dur := h.dur.of_block (KM _ _ h.dur)
      nd := h.nd
      pend := own_kept h.pend fun k hk => by obtain ⟨cur, hc⟩ := own_block h.pend hk; exact KC _ _ _ _ hc (by decide) (by decide)
      files := by
        have e1 : (s.files ++ [(⟨b, [], [], false⟩ : Fl)]).length = s.files.length + 1 := by simp
        have e2 : (s.files ++ [(⟨b, [], [], false⟩ : Fl)]).map (fun f => fptr f.blk) = s.files.map (fun f => fptr f.blk) ++ [fptr b] := by simp
        show World.ownsRow _ _ _ _ _ (s.files ++ [(⟨b, [], [], false⟩ : Fl)]).length ((s.files ++ [(⟨b, [], [], false⟩ : Fl)]).map fun f => fptr f.blk)
        rw [e1, e2]
        refine own_kept ho fun k hk => ?_
        obtain ⟨cur, hc⟩ := own_block ho hk
        exact heap_setCell_other _ _ _ _ (ne_of hc hF2 (by decide))
      each := fun f hf => by
        rcases List.mem_append.1 hf with hf | hf
        · exact (h.each f hf).kept (by obtain ⟨dv, rv, h1, _⟩ := h.each f hf; exact KC _ _ _ _ h1 (by decide) (by decide)) (fun k cur fr hc => KC _ _ _ _ hc (by decide) (by decide))
        · obtain rfl := List.mem_singleton.1 hf
          exact ⟨.slice none 0 0, .slice none 0 0, (KC _ _ _ _ hb (by decide) (by decide)).trans hb, ⟨.inl ⟨rfl, rfl⟩, fun g hg => by simp [Value.ownBlock] at hg⟩, ⟨.inl ⟨rfl, rfl⟩, fun g hg => by simp [Value.ownBlock] at hg⟩⟩
      zl := zl_kept h.zl (fun k cur fr hc => KC k cur _ fr hc (by decide) (by decide))
      dist := by
        show ((s.files ++ [(⟨b, [], [], false⟩ : Fl)]).map (·.blk)).Nodup
        rw [List.map_append, List.nodup_append]
        refine ⟨h.dist, by simp, ?_⟩
        intro a ha c hc
        simp only [List.map_cons, List.map_nil, List.mem_singleton] at hc
        subst hc
        obtain ⟨f, hf, rfl⟩ := List.mem_map.1 ha
        exact hn f hf
      bF := h.bF
      bn := h.bn
      bd := h.bd
      bf := fun f hf => by
        rcases List.mem_append.1 hf with hf | hf
        · exact h.bf f hf
        · obtain rfl := List.mem_singleton.1 hf
          exact hbB }
theorem Fr.growP {w1 w2 : World} {x : Obj} {row : Option Nat} (h : (w1.alloc x).grownBy w2 row) (p : Nat → Prop) (hp : ∀ k, row = some k → p k) : Fr w1 w2 p :=
  ⟨h.os, h.tape, h.output, Nat.le_trans (by rw [alloc_sz]; exact Nat.le_succ _) h.size, fun k hk hn => by
    have hlt : k < (w1.alloc x).heap.size := by rw [alloc_sz]; exact Nat.lt_succ_of_lt hk
    rw [h.block k hlt (fun e => hn (hp k e.symm))]
    exact old_block w1 x k hk⟩
theorem new_cellP (w : World) (xs : List Value) (j : Nat) (u : Value) (hj : xs[j]? = some u) : (w.alloc (.cells xs.toArray 66)).cell? ((⟨w.heap.size, 0, none⟩ : Addr).add j) = some u := by
  have h2 := new_block w (.cells xs.toArray 66)
  have e : ((⟨w.heap.size, 0, none⟩ : Addr).add j) = ⟨w.heap.size, j, none⟩ := by simp [Addr.add]; omega
  rw [e]
  unfold World.cell?
  simp only [h2]
  simpa using hj
theorem Is.foot_ne {w : World} {B k : Nat} {o : Loc} {s : St} (h : Is w B o s) (hk : foot o s k) (cur : Array Value) (fr : Nat × Nat) : w.heap[k]? ≠ some (Obj.cells cur 5 fr) := by
  intro hc
  rcases hk with rfl | rfl | rfl | hk | hk | ⟨f, hf, rfl⟩
  · exact ne_of hc h.fs (by decide) rfl
  · exact h.names.neB hc rfl
  · exact h.dur.neB hc rfl
  · exact own_ne h.files hc (by decide) hk
  · exact own_ne h.pend hc (by decide) hk
  · obtain ⟨dv, rv, h1, _⟩ := h.each f hf
    exact ne_of hc h1 (by decide) rfl
theorem Fr.bytes {w w' : World} {B : Nat} {o : Loc} {s : St} (g : Fr w w' (foot o s)) (h : Is w B o s) : ∀ (k : Nat) (cur : Array Value) (fr : Nat × Nat), w.heap[k]? = some (Obj.cells cur 5 fr) → w'.heap[k]? = w.heap[k]? :=
  fun k cur fr hc => g.block k (lt_of_heap hc) fun hk => h.foot_ne hk cur fr hc
/-- The state behind a new file. -/
def St.filed (s : St) (b : Nat) (k : ByteArray) : St := { s with files := s.files ++ [⟨b, [], [], false⟩], names := applyS s.names ⟨#[]⟩ k b, pend := s.pend ++ [⟨⟨#[]⟩, k, some b⟩] }
def St.put (s : St) (b : Nat) (l : List UInt8) : St := { s with files := setFile s.files b l }
set_option maxRecDepth 100000 in
set_option maxHeartbeats 4000000 in
theorem put_new (B : Nat) (o : Loc) (s : St) (k : ByteArray) (v : Value) (l : List UInt8) (W : World) (h : Is W B o s) (hk : k.size ≤ 1000000) (k0 : k.toList.isEmpty = false) (hl : l.length ≤ 1000000) (hv : Rd W v l) (hf : findS s.names k.data.toList = none) (hfl : s.files.length ≤ 1000000) (hn : s.names.length ≤ 1000000) (hpl : s.pend.length ≤ 1000000) :
    Calls Try.prog 32 #[.pointer (some ⟨o.F, 0, none⟩), .string k, v] W (Stp B o s W fun r s' => r = 0 ∧ ∃ b, (∀ f ∈ s.files, f.blk ≠ b) ∧ s' = (s.filed b k).put b l) := by
  have h0 := fs_at0 h.fs
  have HI := Lib.hid h
  have HV := Lib.hid hv
  have HF := Lib.hid hf
  obtain ⟨F, hF⟩ : ∃ F, o.F = F := ⟨_, rfl⟩
  rw [hF] at h0 ⊢
  have HS := Lib.hid hF
  have hBW := Nat.le_trans h.bF (Nat.le_of_lt (lt_of_heap h.fs))
  -- the new file's block
  have hI1 : Is (W.alloc (.cells #[.slice none 0 0, .slice none 0 0, .bool false] 70)) B o s := h.below ((Below.refl W.heap.size W).alloc (Nat.le_refl _) _)
  have hb1 := heap_alloc_new W (.cells #[.slice none 0 0, .slice none 0 0, .bool false] 70)
  obtain ⟨i0, hi, hz0, hz1, hz2⟩ := info_parts infoP
  have hne : ∀ f ∈ s.files, f.blk ≠ W.heap.size := fun f hm e => by
    obtain ⟨dv, rv, hc, _⟩ := h.each f hm
    have := lt_of_heap hc
    omega
  have HNE := Lib.hid hne
  have HI1 := Lib.hid hI1
  have HB1 := Lib.hid hb1
  have HFR1 := Lib.hid (Fr.of_below ((Below.refl W.heap.size W).alloc (Nat.le_refl _) (.cells #[.slice none 0 0, .slice none 0 0, .bool false] 70)) (foot o s))
  have hsz1 : (W.alloc (.cells #[.slice none 0 0, .slice none 0 0, .bool false] 70)).heap.size = W.heap.size + 1 := alloc_sz _ _
  have hfs1 := (fs_flags hI1.fs).2.1
  rw [hF] at hfs1
  have II := Lib.hid (And.intro hi (And.intro hz0 (And.intro hz1 hz2)))
  have HN0 := Lib.hid h.names
  clear h hv hf hne hI1 hb1 hF hi hz0 hz1 hz2
  go_enter Try.func32, Try.ntmps32
  go_wp2_with fail
  refine (lookup_is F 0 o.nb k s.names W hk h0 HN0.out).mono ?_
  rintro e w1 ⟨rfl, rfl⟩
  rw [HF.out]
  simp only [fptrO, Option.isSome_none]
  clear h0
  have hown := HI1.out.files.alloc (.cells #[fptr w1.heap.size] 66)
  have hnc : ∀ (j : Nat) (u : Value), [fptr w1.heap.size][j]? = some u → ((w1.alloc (.cells #[.slice none 0 0, .slice none 0 0, .bool false] 70)).alloc (.cells #[fptr w1.heap.size] 66)).cell? ((⟨w1.heap.size + 1, 0, none⟩ : Addr).add j) = some u := by
    rw [← hsz1]; exact new_cellP _ [fptr w1.heap.size]
  have HOW := Lib.hid (And.intro hown hnc)
  have HSZ := Lib.hid hsz1
  clear hown hnc hsz1
  go_wp2_with (at_builtin; refine wpList_append_lies _ rfl _ _ 61 rfl B 66 i0 (.pointer none) 1 8 Try.underlying61 II.out.1 II.out.2.1 II.out.2.2.1 II.out.2.2.2 rfl (by decide) _ _ _ rfl HOW.out.1 ⟨w1.heap.size + 1, 0, none⟩ 1 1 [fptr w1.heap.size] rfl rfl HOW.out.2 ?a1 (by decide) ?a2 ?a3 ?a4 (w1.heap.size + 2) ?a5 ?_)
  case a1 => intro u hu; obtain rfl := List.mem_singleton.1 hu; rfl
  case a2 => unfold maxLen; omega
  case a3 => omega
  case a4 => show _ ≤ (World.alloc _ _).heap.size; rw [alloc_sz, HSZ.out]; omega
  case a5 => show (World.alloc _ _).heap.size = _; rw [alloc_sz, HSZ.out]
  intro g1 cap1 w2 hown2 hgrow2 hg1 hg2
  have hne2 := own_ne HI1.out.files HI1.out.fs (by decide)
  have hfb2 := grow_atP hgrow2 HI1.out.fs hne2
  rw [HS.out] at hfb2
  obtain ⟨-, hc2, -, -, -, -, hz2⟩ := fs_flags hfb2
  have hz2 := hz2 2
  have HR := Lib.hid (HI1.out.filed hBW HB1.out HNE.out hgrow2 hown2)
  have HFR2 := Lib.hid ((HFR1.out.trans (Fr.growP hgrow2 (foot o s) (fun k e => .inr (.inr (.inr (.inl e))))) (fun _ _ e => e)).trans (Fr.set w2 ⟨o.F, 2, none⟩ (.slice (some ⟨g1, 0, none⟩) (s.files.length + 1) cap1) (foot o s) (.inl rfl)) (fun _ _ e => e))
  have HFT : Hid (∀ k', foot { o with fs := .slice (some ⟨g1, 0, none⟩) (s.files.length + 1) cap1 } { s with files := s.files ++ [⟨w1.heap.size, [], [], false⟩] } k' → foot o s k' ∨ w1.heap.size ≤ k') := by
    rintro k' (rfl | rfl | rfl | hk' | hk' | ⟨f, hf, rfl⟩)
    · exact .inl (.inl rfl)
    · exact .inl (.inr (.inl rfl))
    · exact .inl (.inr (.inr (.inl rfl)))
    · simp only [Value.ownBlock, Option.some.injEq] at hk'
      subst hk'
      rcases hg1 with e | e
      · exact .inl (.inr (.inr (.inr (.inl e))))
      · exact .inr (by omega)
    · exact .inl (.inr (.inr (.inr (.inr (.inl hk')))))
    · rcases List.mem_append.1 hf with hf | hf
      · exact .inl (.inr (.inr (.inr (.inr (.inr ⟨f, hf, rfl⟩)))))
      · obtain rfl := List.mem_singleton.1 hf
        exact .inr (Nat.le_refl _)
  have eW : w2.setCell ⟨o.F, 2, none⟩ (.slice (some ⟨g1, 0, none⟩) (s.files.length + 1) cap1) = w2.setCell ⟨F, 2, none⟩ (.slice (some ⟨g1, 0, none⟩) (s.files.length + 1) cap1) := by rw [HS.out]
  rw [eW] at HR HFR2
  clear eW
  clear hown2 hgrow2 hfb2 hne2 hg1 hg2
  go_wp2_with fail
  clear hc2 hz2
  generalize (w2.setCell ⟨F, 2, none⟩ (.slice (some ⟨g1, 0, none⟩) (s.files.length + 1) cap1)) = w3 at *
  generalize ho2 : ({ o with fs := .slice (some ⟨g1, 0, none⟩) (s.files.length + 1) cap1 } : Loc) = o2 at *
  have HO2 : Hid (o2.F = o.F ∧ o2.Z = o.Z) := by subst ho2; exact ⟨rfl, rfl⟩
  have hF2 : o2.F = F := HO2.out.1.trans HS.out
  have cR := record_is B w1.heap.size o2 { s with files := s.files ++ [⟨w1.heap.size, [], [], false⟩] } ⟨⟨#[]⟩, k, some w1.heap.size⟩ w3 HR.out (show (⟨#[]⟩ : ByteArray).size ≤ 1000000 by decide) hk hn hpl (fun _ => rfl)
  rw [hF2] at cR
  have HF2 := Lib.hid hF2
  clear ho2 hF2
  refine cR.mono ?_
  clear cR
  rintro e w4 ⟨rfl, ps', hI4, hF4, hG4⟩
  have HI4 := Lib.hid hI4
  have HF4 := Lib.hid (HFR2.out.trans hF4 (fun k' hk' e => by rcases HFT.out k' e with e | e; exact e; omega))
  have HG4 : Hid (∀ k', foot { o2 with ps := ps' } (s.filed w1.heap.size k) k' → foot o s k' ∨ w1.heap.size ≤ k') := by
    rintro k' (rfl | rfl | rfl | hk' | hk' | ⟨f, hf, rfl⟩)
    · exact HFT.out _ (.inl rfl)
    · exact HFT.out _ (.inr (.inl rfl))
    · exact HFT.out _ (.inr (.inr (.inl rfl)))
    · exact HFT.out _ (.inr (.inr (.inr (.inl hk'))))
    · rcases hG4 k' hk' with e | e
      · exact HFT.out _ (.inr (.inr (.inr (.inr (.inl e)))))
      · exact .inr (Nat.le_trans HFR2.out.size e)
    · exact HFT.out _ (.inr (.inr (.inr (.inr (.inr ⟨f, hf, rfl⟩)))))
  have HV4 := Lib.hid (HV.out.kept (HF4.out.bytes HI.out))
  clear hI4 hF4 hG4
  go_wp2_with fail
  refine (clone_is v l _ hl HV4.out).mono ?_
  rintro e w5 ⟨v5, rfl, hr5', hg5, hb5⟩
  have hr5 : Rz o2.Z w5 v5 l := ⟨hr5', fun g hg hz => by
    obtain ⟨cur, fr, hc⟩ := HI4.out.zl g hz
    have e1 := lt_of_heap hc
    have e2 := hg5 g hg
    omega⟩
  clear hr5' hg5
  obtain ⟨a5, n5, cp5, hv5⟩ := hr5.1.slice
  subst hv5
  have HI5 := Lib.hid (HI4.out.below hb5)
  have hm : (⟨w1.heap.size, [], [], false⟩ : Fl) ∈ (s.filed w1.heap.size k).files := List.mem_append.2 (.inr (List.mem_singleton.2 rfl))
  obtain ⟨dv, rv, hc, -, -⟩ := HI5.out.each _ hm
  obtain ⟨c0, c1, c2, cf⟩ := file_cells hc
  have f0 := cf 0
  have f2 := cf 2
  have HR5 := Lib.hid (HI5.out.wrote _ hm rfl hr5)
  have HFR5 := Lib.hid (((HF4.out.trans (Fr.of_below hb5 (foot o s)) (fun _ _ e => e)).trans (Fr.set w5 ⟨w1.heap.size, 0, none⟩ (.slice a5 n5 cp5) (fun k' => k' = w1.heap.size) rfl) (fun k' hk' e => by omega)).trans (Fr.set _ ⟨w1.heap.size, 2, none⟩ (.bool false) (fun k' => k' = w1.heap.size) rfl) (fun k' hk' e => by omega))
  have HM := Lib.hid hm
  clear hr5 hb5 hc cf hm
  go_wp2_with fail
  go_ret
  refine ⟨0, _, { o2 with F := F, ps := ps' }, rfl, ⟨rfl, _, HNE.out, rfl⟩, HS.out.symm, HO2.out.2, HR5.out, HFR5.out, ?_⟩
  rintro k' (rfl | rfl | rfl | hk' | hk' | ⟨f, hf, rfl⟩)
  · exact HG4.out _ (.inl HF2.out.symm)
  · exact HG4.out _ (.inr (.inl rfl))
  · exact HG4.out _ (.inr (.inr (.inl rfl)))
  · exact HG4.out _ (.inr (.inr (.inr (.inl hk'))))
  · exact HG4.out _ (.inr (.inr (.inr (.inr (.inl hk')))))
  · obtain ⟨f0, hf0, rfl⟩ := List.mem_map.1 (show f ∈ setFile _ _ _ from hf)
    have e : (if f0.blk = w1.heap.size then { f0 with data := l, synced := false } else f0 : Fl).blk = f0.blk := by split <;> rfl
    rw [e]
    exact HG4.out _ (.inr (.inr (.inr (.inr (.inr ⟨f0, hf0, rfl⟩)))))
end Go.Proofs.Ytcobjjaicckgpaa.Vf
