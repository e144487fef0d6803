/- Parts of this proof, joined: VfR7, VfR8, VfR9, VfR10, VfR11, VfR12, VfO, VfR13, VfR14. -/
import Derived.Deep.CutBlock
import Derived.WalkKit
import Derived.ProofKit
import Derived.OpenShut
import Derived.ShutString
import Derived.ChangeOld
import Derived.Below
import Derived.SizedLaws
import Derived.ChangeSlices
import Derived.Deep.Grids
import Derived.Laws.IdiomArrays
import Derived.Lib.SmallJoins
import Derived.Test.YtcobjjaicckgpaaK04
/- The reference: put. -/
namespace Go.Proofs.Ytcobjjaicckgpaa.Vf
open Go Go.RowKit Go.Maps Go.Proofs.Ytcobjjaicckgpaa Go.Proofs.Ytcobjjaicckgpaa.Bs
set_option linter.unusedVariables false

/-- One cell of an owned row is set. -/
theorem own_set {w : World} {base size b n cap j : Nat} {t : TypeId} {xs : List Value} (h : w.ownsRow base t size (.slice (some ⟨b, 0, none⟩) n cap) n xs) (v : Value) : (w.setCell ⟨b, j, none⟩ v).ownsRow base t size (.slice (some ⟨b, 0, none⟩) n cap) n (xs.set j v) := by
  refine ⟨by rw [List.length_set]; exact h.1, ?_⟩
  rcases h.2 with ⟨e, _⟩ | ⟨g, c, cur, e, hb, hg, hnc, hcm, hcs, ht⟩
  · cases e
  · have e1 : b = g := by injection e with e; injection e with e; injection e
    have e2 : cap = c := by injection e
    subst e1 e2
    refine .inr ⟨b, cap, cur.setIfInBounds j v, rfl, hb, heap_setCell_same w b j _ _ v hg, hnc, hcm, by simpa using hcs, ?_⟩
    rw [← ht, Array.toList_setIfInBounds, List.take_set]
theorem flat_set {α : Type} (g : α → List Value) (s : Nat) (hg : ∀ x, (g x).length = s) (f : α → α) (l : List α) (k j : Nat) (v : Value) (hk : k < l.length) (hj : j < s) (hf : g (f l[k]) = (g l[k]).set j v) : (l.flatMap g).set (k * s + j) v = (l.modify k f).flatMap g := by
  induction l generalizing k with
  | nil => simp at hk
  | cons c r ih =>
    cases k with
    | zero =>
      simp only [List.flatMap_cons, List.modify_zero_cons, Nat.zero_mul, Nat.zero_add]
      have hf2 : g (f c) = (g c).set j v := hf
      rw [List.set_append_left _ _ (by rw [hg]; omega), hf2]
    | succ k =>
      simp only [List.flatMap_cons, List.modify_succ_cons]
      rw [List.set_append_right _ _ (by rw [hg, Nat.succ_mul]; omega), hg]
      have e : (k + 1) * s + j - s = k * s + j := by rw [Nat.succ_mul]; omega
      rw [e, ih k (by simpa using hk) hf]
/-- One field of one file is set. -/
theorem Ri.fset {w : World} {B b i j cap : Nat} {o : RL} {a : AS} (h : Ri w B o a) (hfv : o.fv = .slice (some ⟨b, 0, none⟩) a.files.length cap) (hi : i < a.files.length) (hj : j < 3) (v : Value) (f : AF → AF) (hf : fcells (f a.files[i]) = (fcells a.files[i]).set j v) : Ri (w.setCell ⟨b, i * 3 + j, none⟩ v) B o { a with files := a.files.modify i f } := by
  have hF := h.files
  rw [hfv] at hF
  obtain ⟨cur, hb⟩ := own_block hF rfl
  have KC : ∀ (k : Nat) (cur : Array Value) (t : TypeId) (fr : Nat × Nat), w.heap[k]? = some (Obj.cells cur t fr) → t ≠ 90 → (w.setCell ⟨b, i * 3 + j, none⟩ v).heap[k]? = w.heap[k]? := fun k cur t fr hk ht => heap_setCell_other _ _ _ _ (ne_of hk hb ht)
  exact
    { fs := by rw [KC _ _ _ _ h.fs (by decide)]; exact h.fs
      files := by
        have h1 := own_set (j := i * 3 + j) hF v
        rw [flat_set fcells 3 (fun _ => rfl) f a.files i j v hi hj hf] at h1
        show World.ownsRow _ _ _ _ _ (a.files.modify i f).length _
        rw [List.length_modify, hfv]
        exact h1
      dir := own_kept h.dir fun g hg => by obtain ⟨cur, hc⟩ := own_block h.dir hg; exact KC _ _ _ _ hc (by decide)
      dur := own_kept h.dur fun g hg => by obtain ⟨cur, hc⟩ := own_block h.dur hg; exact KC _ _ _ _ hc (by decide)
      pend := own_kept h.pend fun g hg => by obtain ⟨cur, hc⟩ := own_block h.pend hg; exact KC _ _ _ _ hc (by decide)
      bG := h.bG }
/-- The files' row: cells and the right to write. -/
theorem Ri.filesF {w : World} {B : Nat} {o : RL} {a : AS} (h : Ri w B o a) {i : Nat} (hi : i < a.files.length) : ∃ b cap, o.fv = .slice (some ⟨b, 0, none⟩) a.files.length cap ∧ a.files.length ≤ cap ∧ (∀ k (hk : k < a.files.length), w.cell? ⟨b, k * 3, none⟩ = some (.string (bs a.files[k].data)) ∧ w.cell? ⟨b, k * 3 + 1, none⟩ = some (.string (bs a.files[k].dur)) ∧ w.cell? ⟨b, k * 3 + 2, none⟩ = some (.bool a.files[k].synced)) ∧ ∀ j, w.frozen? ⟨b, j, none⟩ = false := by
  obtain ⟨b, ad, cap, e, hc, had, hcell⟩ := h.filesAt
  obtain rfl := had (by omega)
  have hF := h.files
  rw [e] at hF
  obtain ⟨cur, hb⟩ := own_block hF rfl
  refine ⟨b, cap, e, hc, hcell, fun j => ?_⟩
  unfold World.frozen?
  simp only [hb]
  simp
theorem mod_mod {α : Type} (f g : α → α) (l : List α) (i : Nat) : (l.modify i f).modify i g = l.modify i (fun x => g (f x)) := by
  apply List.ext_getElem
  · simp
  intro j h1 h2
  simp only [List.getElem_modify]
  split <;> rfl
/-- A put to an old file. -/
def AS.put1 (a : AS) (i : Nat) (l : List UInt8) : AS := { a with files := a.files.modify i fun f => { f with data := l, synced := false } }
theorem Ri.put1 {w : World} {B b i cap : Nat} {o : RL} {a : AS} (h : Ri w B o a) (hfv : o.fv = .slice (some ⟨b, 0, none⟩) a.files.length cap) (hi : i < a.files.length) (d : ByteArray) : Ri ((w.setCell ⟨b, i * 3, none⟩ (.string d)).setCell ⟨b, i * 3 + 2, none⟩ (.bool false)) B o (a.put1 i d.data.toList) := by
  have h1 := h.fset (i := i) (j := 0) hfv hi (by omega) (.string d) (fun f => { f with data := d.data.toList }) (by simp [fcells, bs_of])
  have h2 := h1.fset (i := i) (j := 2) (by show o.fv = .slice _ (a.files.modify i _).length _; rw [List.length_modify]; exact hfv) (by show i < (a.files.modify i _).length; rw [List.length_modify]; exact hi) (by omega) (.bool false) (fun f => { f with synced := false }) (by simp [fcells])
  have e : ({ { a with files := a.files.modify i fun f => { f with data := d.data.toList } } with files := (a.files.modify i fun f => { f with data := d.data.toList }).modify i fun f => { f with synced := false } } : AS) = a.put1 i d.data.toList := by
    show AS.mk _ _ _ _ _ _ _ _ = AS.mk _ _ _ _ _ _ _ _
    rw [mod_mod]
  rw [← e]
  exact h2
set_option maxRecDepth 100000 in
set_option maxHeartbeats 4000000 in
theorem rput_old (B : Nat) (o : RL) (a : AS) (k d : ByteArray) (i : Nat) (W : World) (h : Ri W B o a) (hi : i < a.files.length) (e : findS a.names k.data.toList = some i) (hn : a.names.length ≤ 1000000) (hfn : a.files.length ≤ 1000000) :
    Calls Try.prog 56 #[.pointer (some ⟨o.G, 0, none⟩), .string k, .string d] W (RAft W B o (.tuple #[]) (a.put1 i d.data.toList)) := by
  have cF := Lib.hid (find_is B o.dv k a.names W h.dir hn)
  have HF := Lib.hid (fnd_some e)
  obtain ⟨b, cap, hfv, hcap, hcell, fb⟩ := h.filesF hi
  obtain ⟨c0, c1, -, -, -, -, -, -⟩ := g_flags h
  rw [hfv] at c0
  obtain ⟨q0, -, q2⟩ := hcell i hi
  have HE := Lib.hid (h.put1 hfv hi d)
  have f0 := fb (i * 3)
  have f2 := fb (i * 3 + 2)
  have hbG : b ≠ o.G := by
    have h1 := h.files
    rw [hfv] at h1
    obtain ⟨cur, hc⟩ := own_block h1 rfl
    exact ne_of hc h.fs (by decide)
  have hft : Hid (rfoot o b) := .inr (by rw [hfv]; rfl)
  obtain ⟨n, hn2⟩ : ∃ n, a.files.length = n := ⟨_, rfl⟩
  rw [hn2] at c0 hcap hi hfn
  have g1 : (0 : Int) ≤ (i : Int) := by omega
  have g2 : (i : Int) < (n : Int) := by omega
  have g3 : decide ((i : Int) < (0 : Int)) = false := decide_eq_false (by omega)
  generalize (bs a.files[i].data) = z0 at q0
  generalize a.files[i].synced = z2 at q2
  clear h hcell hfv fb e hn2
  go_enter Try.func56, Try.ntmps56
  go_wp2_with fail
  refine cF.out.mono ?_
  rintro e w1 ⟨rfl, rfl⟩
  rw [HF.out]
  go_wp2_with fail
  go_end0
  exact ⟨rfl, o, rfl, HE.out, (Fr.set _ _ _ _ hft.out).trans (Fr.set _ _ _ (rfoot o) hft.out) (fun _ _ e => e), fun k hk => .inl hk⟩
theorem fcells_one (l : List AF) : ∀ u ∈ l.flatMap fcells, u.oneCell' = true := by
  intro u hu
  obtain ⟨c, _, h⟩ := List.mem_flatMap.1 hu
  simp only [fcells, List.mem_cons, List.not_mem_nil, or_false] at h
  rcases h with rfl | rfl | rfl <;> rfl
/-- The state behind a new file, ahead of its entry. -/
def AS.more (a : AS) : AS := { a with files := a.files ++ [⟨[], [], false⟩] }
theorem more_end {W w3 : World} {B n m cap : Nat} {ad : Option Addr} {o : RL} {a : AS} (h : Ri W B o a) (hN : a.files.length = n) (hb : Below W.heap.size W w3)
    (ho : w3.ownsRow W.heap.size 90 3 (.slice ad m cap) (n + 1) (a.files.flatMap fcells ++ [.string ⟨#[]⟩, .string ⟨#[]⟩, .bool false])) :
    Ri (w3.setCell ⟨o.G, 0, none⟩ (.slice ad m cap)) B { o with fv := .slice ad m cap } a.more ∧ Fr W (w3.setCell ⟨o.G, 0, none⟩ (.slice ad m cap)) (fun k => k = o.G) ∧ ∀ g, (Value.slice ad m cap).ownBlock = some g → W.heap.size ≤ g := by
  have h3 := h.below hb
  have hB : B ≤ W.heap.size := by have := lt_of_heap h.fs; have := h.bG; omega
  refine ⟨h3.set (j := 0) (o' := { o with fv := .slice ad m cap }) (a' := a.more) rfl (by unfold gCells armI AS.more; simp) ?_ h3.dir h3.dur h3.pend, (Fr.of_below hb _).trans (Fr.set _ _ _ (fun k => k = o.G) rfl) (fun _ _ e => e), fun g hg => (ho.lt g hg).1⟩
  have e1 : a.more.files.length = a.files.length + 1 := by simp [AS.more]
  have e2 : a.more.files.flatMap fcells = a.files.flatMap fcells ++ [.string ⟨#[]⟩, .string ⟨#[]⟩, .bool false] := by simp [AS.more, fcells, bs]
  rw [e1, e2, hN]
  exact own_base ho hB
set_option maxRecDepth 100000 in
set_option maxHeartbeats 4000000 in
theorem rput_new (B : Nat) (o : RL) (a : AS) (k d : ByteArray) (W : World) (h : Ri W B o a) (hs : So a.names) (hne : ∀ p ∈ a.names, p.1 ≠ []) (e : findS a.names k.data.toList = none) (hn : a.names.length ≤ 1000000) (hp : a.pend.length ≤ 1000000) (hfn : a.files.length ≤ 1000000) :
    Calls Try.prog 56 #[.pointer (some ⟨o.G, 0, none⟩), .string k, .string d] W (RAft W B o (.tuple #[]) ((a.more.record ⟨⟨#[]⟩, k, a.files.length⟩).put1 a.files.length d.data.toList)) := by
  have cF := Lib.hid (find_is B o.dv k a.names W h.dir hn)
  have HF := Lib.hid (fnd_none e)
  obtain ⟨c0, c1, -, -, -, -, -, fz⟩ := g_flags h
  have HPO := h.files
  obtain ⟨adF, capF, hfv⟩ := own_slice HPO
  have p1 := own_alloc (.cells #[] 90) HPO
  have e1 := heap_alloc_new W (.cells #[] 90)
  have q1 : Below W.heap.size W (W.alloc (.cells #[] 90)) := (Below.refl _ _).alloc (Nat.le_refl _) _
  have a0 := cell_alloc2 (.cells #[] 90) c0
  rw [hfv] at c0 a0 p1
  obtain ⟨i0, hi, hz0, hz1, hz2⟩ := info_parts infoFr
  have II := Lib.hid (And.intro hi (And.intro hz0 (And.intro hz1 hz2)))
  have HE := Lib.hid e1
  have HP := Lib.hid p1
  have HQ := Lib.hid q1
  have HI := Lib.hid h
  have HSo := Lib.hid (And.intro hn (And.intro hp (And.intro hs hne)))
  have HFV := Lib.hid hfv
  obtain ⟨n, hn2⟩ : ∃ n, a.files.length = n := ⟨_, rfl⟩
  have HN := Lib.hid hn2
  rw [hn2] at c0 a0 hfn HP
  clear h hs hne e hn hp e1 p1 q1 hi hz0 hz1 hz2 fz HPO hfv
  rw [hn2]
  clear hn2
  go_enter Try.func56, Try.ntmps56
  go_wp2_with fail
  refine cF.out.mono ?_
  rintro e w1 ⟨rfl, rfl⟩
  rw [HF.out]
  go_wp2_with (at_builtin; refine wpList_append_row _ rfl (.tmp 21) (.tmp 25) 76 rfl w1.heap.size B 90 i0 (.agg #[.string ByteArray.empty, .string ByteArray.empty, .bool false]) 3 40 Try.underlying76 II.out.1 II.out.2.1 II.out.2.2.1 II.out.2.2.2 rfl (by decide) _ 0 [] rfl (own_empty HE.out (Nat.le_refl _)) _ n (a.files.flatMap fcells) rfl HP.out (fcells_one a.files) ?a1 ?a2 ?a3 ?_)
  case a1 => unfold maxLen; omega
  case a2 => omega
  case a3 => rw [alloc_sz]; omega
  intro v2 w2 hown2 hg2 hb2
  have HB2 := Lib.hid (below_grew (u := w1) (S := w1.heap.size) hg2 HQ.out (by intro k hk; have hk2 := Option.some.inj hk; rw [← hk2]; exact Nat.le_refl _) (by rw [alloc_sz]; omega))
  obtain ⟨adV, capV, rfl⟩ := own_slice hown2
  try rw [Nat.zero_add, List.nil_append] at hown2
  try rw [Nat.zero_add]
  have Hown2 := Lib.hid hown2
  clear hown2 hg2 hb2 a0 c0 c1
  go_wp2_with (at_builtin; refine wpList_append_row _ rfl (.tmp 26) (.tmp 28) 76 rfl w1.heap.size w1.heap.size 90 i0 (.agg #[.string ByteArray.empty, .string ByteArray.empty, .bool false]) 3 40 Try.underlying76 II.out.1 II.out.2.1 II.out.2.2.1 II.out.2.2.2 rfl (by decide) _ n (a.files.flatMap fcells) rfl (own_alloc _ Hown2.out) _ 1 [.string ⟨#[]⟩, .string ⟨#[]⟩, .bool false] rfl (own_new (heap_alloc_new w2 _) HB2.out.size rfl (by unfold maxLen; omega)) (by intro u hu; simp only [List.mem_cons, List.not_mem_nil, or_false] at hu; rcases hu with rfl | rfl | rfl <;> rfl) ?b1 ?b2 ?b3 ?_)
  case b1 => unfold maxLen; omega
  case b2 => omega
  case b3 => show _ ≤ (World.alloc _ _).heap.size; rw [alloc_sz]; have := HB2.out.size; omega
  intro v3 w3 hown3 hg3 hb3
  have HB3 := Lib.hid (below_grew (u := w1) (S := w1.heap.size) hg3 (HB2.out.alloc HB2.out.size _) (fun k hk => (Hown2.out.lt k hk).1) (by show _ ≤ (World.alloc _ _).heap.size; rw [alloc_sz]; have := HB2.out.size; omega))
  obtain ⟨adV3, capV3, rfl⟩ := own_slice hown3
  have HM := Lib.hid (more_end HI.out HN.out HB3.out hown3)
  clear hg3 hb3
  have z3 := (g_flags (HI.out.below HB3.out)).1
  have f3 := (g_flags (HI.out.below HB3.out)).2.2.2.2.2.2.2 0
  go_wp2_with fail
  clear z3 f3 hown3 HB3 HB2 Hown2 HE HP HQ II
  generalize w3.setCell ⟨o.G, 0, none⟩ (.slice adV3 (n + 1) capV3) = w4 at HM ⊢
  refine (rchange_is B { o with fv := .slice adV3 (n + 1) capV3 } a.more ⟨⟨#[]⟩, k, n⟩ w4 HM.out.1 HSo.out.2.2.1 HSo.out.2.2.2 HSo.out.1 HSo.out.2.1).mono ?_
  rintro e w5 ⟨rfl, o5, hG5, hv5, hR5, hF5⟩
  have hl5 : (a.more.record ⟨⟨#[]⟩, k, n⟩).files.length = n + 1 := by rw [← HN.out]; simp [AS.record, AS.more]
  have hl6 : n < (a.more.record ⟨⟨#[]⟩, k, n⟩).files.length := by omega
  obtain ⟨b, cap, hfv, hcap, hcell, fb⟩ := hR5.filesF hl6
  obtain ⟨c0, -, -, -, -, -, -, -⟩ := g_flags hR5
  have hG6 : o5.G = o.G := hG5
  rw [hfv, hl5, hG6] at c0
  obtain ⟨q0, -, q2⟩ := hcell n hl6
  have HE := Lib.hid (hR5.put1 hfv hl6 d)
  have f0 := fb (n * 3)
  have f2 := fb (n * 3 + 2)
  have hbG : b ≠ o.G := by
    have h1 := hR5.files
    rw [hfv] at h1
    obtain ⟨cur, hc⟩ := own_block h1 rfl
    rw [← hG6]
    exact ne_of hc hR5.fs (by decide)
  have hft : Hid (w1.heap.size ≤ b) := HM.out.2.2 b (by have h1 : o5.fv.ownBlock = some b := by rw [hfv]; rfl
                                                        rw [hv5] at h1; exact h1)
  have HFr := Lib.hid (hF5.mono (q := rfoot o) (fun k hk => .inl hk))
  have HO5 := Lib.hid (And.intro hG6 hfv)
  rw [hl5] at hcap
  have g1 : (0 : Int) ≤ (n : Int) := by omega
  have g2 : (n : Int) < ((n + 1 : Nat) : Int) := by omega
  generalize (bs (a.more.record ⟨⟨#[]⟩, k, n⟩).files[n].data) = z0 at q0
  generalize (a.more.record ⟨⟨#[]⟩, k, n⟩).files[n].synced = z2 at q2
  clear hR5 hcell hfv fb hF5 hv5 hl5 hl6 hG5 hG6
  go_wp2_with fail
  go_end0
  have fr1 : Fr w1 w5 (rfoot o) := (HM.out.2.1.mono (q := rfoot o) (fun k hk => .inl hk)).trans HFr.out (fun _ _ e => e)
  have fr2 := fr1.trans (Fr.set w5 ⟨b, n * 3, none⟩ (.string d) (fun k => k = b) rfl) (fun k h1 h2 => by have := hft.out; omega)
  have fr3 := fr2.trans (Fr.set (w5.setCell ⟨b, n * 3, none⟩ (.string d)) ⟨b, n * 3 + 2, none⟩ (.bool false) (fun k => k = b) rfl) (fun k h1 h2 => by have := hft.out; omega)
  refine ⟨rfl, o5, HO5.out.1, HE.out, fr3, ?_⟩
  rintro k (hk | hk)
  · exact .inl (.inl (by rw [hk, HO5.out.1]))
  · rw [HO5.out.2] at hk
    have h1 : b = k := Option.some.inj hk
    right
    rw [← h1]
    exact hft.out
theorem rput_some {a : AS} {k : ByteArray} {l : List UInt8} {i : Nat} (hk : k.toList.isEmpty = false) (e : findS a.names k.data.toList = some i) : a.put k l = (0, a.put1 i l) := by
  unfold AS.put
  rw [e, hk]
  rfl
theorem rput_none {a : AS} {k : ByteArray} {l : List UInt8} (hk : k.toList.isEmpty = false) (e : findS a.names k.data.toList = none) : a.put k l = (0, (a.more.record ⟨⟨#[]⟩, k, a.files.length⟩).put1 a.files.length l) := by
  unfold AS.put
  rw [e, hk]
  have h1 : (a.files ++ [(⟨[], [], false⟩ : AF)]).modify a.files.length (fun f => { f with data := l, synced := false }) = a.files ++ [⟨l, [], false⟩] := by
    apply List.ext_getElem
    · simp
    intro j h1 h2
    simp only [List.getElem_modify]
    by_cases hj : a.files.length = j
    · subst hj
      simp
    · rw [if_neg hj]
      simp only [List.length_append, List.length_singleton] at h2
      rw [List.getElem_append_left (by omega), List.getElem_append_left (by omega)]
  simp only [AS.put1, AS.record, AS.more, Bool.false_eq_true, if_false, h1]
/-- What the reference's functions ask of a state. -/
structure AS.Rk (a : AS) (n : Nat) : Prop where
  ok : a.Ok n
  hn : ∀ p ∈ a.names, p.1 ≠ []
  hd : ∀ p ∈ a.dur, p.1 ≠ []
  er : a.armed = true → a.err ≠ 0
  sy : ∀ f ∈ a.files, f.synced = true → f.dur = f.data
theorem rput_is (B n : Nat) (o : RL) (a : AS) (k d : ByteArray) (W : World) (h : Ri W B o a) (hk : a.Rk n) (hn : n ≤ 400000) (hk0 : k.toList.isEmpty = false) :
    Calls Try.prog 56 #[.pointer (some ⟨o.G, 0, none⟩), .string k, .string d] W (RAft W B o (.tuple #[]) (a.put k d.data.toList).2) := by
  cases e : findS a.names k.data.toList with
  | some i =>
    rw [rput_some hk0 e]
    exact rput_old B o a k d i W h (hk.ok.wf.find e) e (by have := hk.ok.names; omega) (by have := hk.ok.files; omega)
  | none =>
    rw [rput_none hk0 e]
    exact rput_new B o a k d W h hk.ok.sn hk.hn e (by have := hk.ok.names; omega) (by have := hk.ok.pend; omega) (by have := hk.ok.files; omega)
end Go.Proofs.Ytcobjjaicckgpaa.Vf
/- The reference: the operations. -/
namespace Go.Proofs.Ytcobjjaicckgpaa.Vf
open Go Go.RowKit Go.Maps Go.Proofs.Ytcobjjaicckgpaa Go.Proofs.Ytcobjjaicckgpaa.Bs
set_option linter.unusedVariables false

theorem begin_parts (a : AS) : a.begin.2.files = a.files ∧ a.begin.2.names = a.names ∧ a.begin.2.dur = a.dur ∧ a.begin.2.pend = a.pend := by
  unfold AS.begin
  split
  · exact ⟨rfl, rfl, rfl, rfl⟩
  split
  · exact ⟨rfl, rfl, rfl, rfl⟩
  split <;> exact ⟨rfl, rfl, rfl, rfl⟩
theorem AS.Rk.begin {a : AS} {n : Nat} (h : a.Rk n) : a.begin.2.Rk n := by
  unfold AS.begin
  split
  · exact h
  split
  · exact h
  split
  · rename_i h1 h2 h3
    have := h.ok.flags a.down a.armed (a.after - 1) a.err (by omega) (by have := h.ok.af.2; omega)
    exact ⟨this, h.hn, h.hd, h.er, h.sy⟩
  · have := h.ok.flags (a.err == 24) false a.after a.err h.ok.af.1 h.ok.af.2
    exact ⟨this, h.hn, h.hd, (fun h => by cases h), h.sy⟩
theorem op_id {a : AS} {n : Nat} (h : a.Rk n) (p : AS → Int × AS) : AS.op p id a = if a.begin.1 = 0 then p a.begin.2 else (a.begin.1, a.begin.2) := by
  unfold AS.op AS.begin
  split
  · rfl
  split
  · rfl
  split
  · rfl
  · rename_i h1 h2 h3
    have := h.er (by cases e : a.armed; exact absurd e h2; rfl)
    show _ = if a.err = 0 then _ else _
    rw [if_neg this]
    rfl
theorem tear_flags (a : AS) (k : ByteArray) (l : List UInt8) (d : Bool) : AS.tear k l { a with down := d } = { AS.tear k l a with down := d } := by
  unfold AS.tear AS.put
  split
  · rfl
  cases findS a.names k.data.toList with
  | none => rfl
  | some i => rfl
theorem op_tear {a : AS} {n : Nat} (h : a.Rk n) (k : ByteArray) (l : List UInt8) : AS.op (AS.put k l) (AS.tear k l) a = if a.begin.1 = 0 then a.begin.2.put k l else (a.begin.1, if a.down = true then a.begin.2 else AS.tear k l a.begin.2) := by
  unfold AS.op AS.begin
  split
  · simp
  split
  · rfl
  split
  · rfl
  · rename_i h1 h2 h3
    have := h.er (by cases e : a.armed; exact absurd e h2; rfl)
    show _ = if a.err = 0 then _ else _
    rw [if_neg this]
    exact congrArg (Prod.mk a.err) (tear_flags { a with armed := false } k l _).symm
theorem RAft.seq {W w1 w2 : World} {B : Nat} {o o1 : RL} {r : Value} {a : AS} {e : Ending} (hG : o1.G = o.G) (hf : Fr W w1 (rfoot o)) (hk : ∀ k, rfoot o1 k → rfoot o k ∨ W.heap.size ≤ k) (h : RAft w1 B o1 r a e w2) : RAft W B o r a e w2 := by
  obtain ⟨he, o2, hG2, hR, hf2, hk2⟩ := h
  refine ⟨he, o2, hG2.trans hG, hR, hf.trans hf2 (fun k hlt h1 => (hk k h1).resolve_right (by omega)), fun k h1 => ?_⟩
  rcases hk2 k h1 with h3 | h3
  · exact hk k h3
  · exact .inr (Nat.le_trans hf.size h3)
theorem RAft.same {W w1 : World} {B : Nat} {o o1 : RL} {a : AS} (hG : o1.G = o.G) (hR : Ri w1 B o1 a) (hf : Fr W w1 (rfoot o)) (hk : ∀ k, rfoot o1 k → rfoot o k ∨ W.heap.size ≤ k) (r : Value) : RAft W B o r a (.returned r) w1 := ⟨rfl, o1, hG, hR, hf, hk⟩
theorem extract_take (d : ByteArray) : (d.extract 0 (d.size / 2)).data.toList = d.data.toList.take (d.data.toList.length / 2) := by
  have e : d.data.toList.length = d.size := by simp
  rw [e, ByteArray.data_extract]
  simp
theorem RAft.res {W w : World} {B : Nat} {o : RL} {r : Value} {a : AS} {e : Ending} (h : RAft W B o r a e w) : e = .returned r := h.1
theorem RAft.as {W w : World} {B : Nat} {o : RL} {r : Value} {a : AS} {e : Ending} (h : RAft W B o r a e w) (r2 : Value) : RAft W B o r2 a (.returned r2) w := ⟨rfl, h.2⟩
theorem put_fst {k : ByteArray} {l : List UInt8} {a : AS} (hk : k.toList.isEmpty = false) : (AS.put k l a).1 = 0 := by
  cases e : findS a.names k.data.toList with
  | some i => rw [rput_some hk e]
  | none => rw [rput_none hk e]
set_option maxRecDepth 100000 in
set_option maxHeartbeats 4000000 in
theorem rwrite_is (B n : Nat) (o : RL) (a : AS) (k d : ByteArray) (W : World) (h : Ri W B o a) (hk : a.Rk n) (hn : n ≤ 400000) (hd : d.size ≤ 1000000) :
    Calls Try.prog 44 #[.pointer (some ⟨o.G, 0, none⟩), .string k, .string d] W (RAft W B o (.int .i64 (AS.op (AS.put k d.data.toList) (AS.tear k d.data.toList) a).1) (AS.op (AS.put k d.data.toList) (AS.tear k d.data.toList) a).2) := by
  rw [op_tear hk]
  have cB := Lib.hid (begin_is B o a W h hk.ok.af)
  have HK := Lib.hid hk.begin
  obtain ⟨-, -, -, -, c4, -, -, -⟩ := g_flags h
  obtain ⟨c, hc⟩ : ∃ c, a.begin.1 = c := ⟨_, rfl⟩
  obtain ⟨a1, ha1⟩ : ∃ a1, a.begin.2 = a1 := ⟨_, rfl⟩
  rw [hc, ha1] at cB ⊢
  rw [ha1] at HK
  by_cases hc0 : c = 0
  · rw [if_pos hc0]
    have g0 : (c != (0 : Int)) = false := by simpa using hc0
    cases hk0 : k.toList.isEmpty with
    | true =>
      have e1 : AS.put k d.data.toList a1 = (2, a1) := by unfold AS.put; rw [if_pos hk0]
      rw [e1]
      clear h hk hc ha1 e1 hc0
      go_enter Try.func44, Try.ntmps44
      go_wp2_with fail
      refine cB.out.mono ?_
      rintro e w1 ⟨rfl, o1, hG, hR, hf, hkk⟩
      have HR := Lib.hid (RAft.same hG hR hf hkk (.int .i64 2))
      go_wp2_with fail
      go_ret
      exact HR.out
    | false =>
      have e1 : (AS.put k d.data.toList a1).1 = 0 := put_fst hk0
      rw [e1]
      clear h hk hc ha1 e1 hc0
      go_enter Try.func44, Try.ntmps44
      go_wp2_with fail
      refine cB.out.mono ?_
      rintro e w1 ⟨rfl, o1, hG, hR, hf, hkk⟩
      have HR := Lib.hid (And.intro hG (And.intro hf hkk))
      have cP := Lib.hid (rput_is B n o1 a1 k d w1 hR HK.out hn hk0)
      rw [hG] at cP
      clear hG hR hf hkk
      go_wp2_with fail
      refine cP.out.mono ?_
      rintro e w2 h2
      have h3 := RAft.res h2
      subst h3
      have HR2 := Lib.hid (RAft.as (RAft.seq HR.out.1 HR.out.2.1 HR.out.2.2 h2) (.int .i64 0))
      clear h2
      go_wp2_with fail
      go_ret
      exact HR2.out
  · rw [if_neg hc0]
    have g0 : (c != (0 : Int)) = true := by simpa using hc0
    cases hdn : a.down with
    | true =>
      rw [if_pos rfl]
      rw [hdn] at c4
      clear h hk hc ha1 hc0
      go_enter Try.func44, Try.ntmps44
      go_wp2_with fail
      refine cB.out.mono ?_
      rintro e w1 ⟨rfl, o1, hG, hR, hf, hkk⟩
      have HR := Lib.hid (RAft.same hG hR hf hkk (.int .i64 c))
      go_wp2_with fail
      go_ret
      exact HR.out
    | false =>
      rw [if_neg (by decide)]
      rw [hdn] at c4
      cases hk0 : k.toList.isEmpty with
      | true =>
        have e1 : AS.tear k d.data.toList a1 = a1 := by unfold AS.tear AS.put; rw [if_pos hk0]
        rw [e1]
        clear h hk hc ha1 e1 hc0
        go_enter Try.func44, Try.ntmps44
        go_wp2_with fail
        refine cB.out.mono ?_
        rintro e w1 ⟨rfl, o1, hG, hR, hf, hkk⟩
        have HR := Lib.hid (RAft.same hG hR hf hkk (.int .i64 c))
        go_wp2_with fail
        go_ret
        exact HR.out
      | false =>
        clear h hk hc ha1 hc0
        go_enter Try.func44, Try.ntmps44
        go_wp2_with fail
        refine cB.out.mono ?_
        rintro e w1 ⟨rfl, o1, hG, hR, hf, hkk⟩
        have HR := Lib.hid (And.intro hG (And.intro hf hkk))
        have cP := Lib.hid (rput_is B n o1 a1 k (d.extract 0 (d.size / 2)) w1 hR HK.out hn hk0)
        rw [hG, extract_take] at cP
        clear hG hR hf hkk
        go_wp2_with fail
        refine cP.out.mono ?_
        rintro e w2 h2
        have h3 := RAft.res h2
        subst h3
        have HR2 := Lib.hid (RAft.as (RAft.seq HR.out.1 HR.out.2.1 HR.out.2.2 h2) (.int .i64 c))
        clear h2
        go_wp2_with fail
        go_ret
        exact HR2.out
end Go.Proofs.Ytcobjjaicckgpaa.Vf
/- The reference: Sync, Rename, Remove, SyncDir. -/
namespace Go.Proofs.Ytcobjjaicckgpaa.Vf
open Go Go.RowKit Go.Maps Go.Proofs.Ytcobjjaicckgpaa Go.Proofs.Ytcobjjaicckgpaa.Bs
set_option linter.unusedVariables false

theorem fr_drew (w : World) (p : Nat → Prop) : Fr w w.drew p := ⟨rfl, rfl, rfl, Nat.le_refl _, fun _ _ _ => rfl⟩
theorem change_aft {W w1 w3 : World} {B : Nat} {o o1 o3 : RL} {a : AS} (hG : o1.G = o.G) (hf : Fr W w1 (rfoot o)) (hk : ∀ k, rfoot o1 k → rfoot o k ∨ W.heap.size ≤ k) (hG3 : o3.G = o.G) (hv3 : o3.fv = o1.fv) (hR3 : Ri w3 B o3 a) (hF3 : Fr w1 w3 (fun k => k = o.G)) (r : Value) : RAft W B o r a (.returned r) w3 :=
  RAft.seq hG hf hk ⟨rfl, o3, hG3.trans hG.symm, hR3, hF3.mono (fun k e => .inl (e.trans hG.symm)), fun k h => .inl (by unfold rfoot at h ⊢; rw [hG3, hv3] at h; rw [hG]; exact h)⟩
def AS.sync1 (a : AS) (i : Nat) : AS := { a with files := a.files.modify i fun f => { f with dur := f.data, synced := true } }
theorem Ri.sync1 {w : World} {B b i cap : Nat} {o : RL} {a : AS} (h : Ri w B o a) (hfv : o.fv = .slice (some ⟨b, 0, none⟩) a.files.length cap) (hi : i < a.files.length) : Ri ((w.setCell ⟨b, i * 3 + 1, none⟩ (.string (bs a.files[i].data))).setCell ⟨b, i * 3 + 2, none⟩ (.bool true)) B o (a.sync1 i) := by
  have h1 := h.fset (i := i) (j := 1) hfv hi (by omega) (.string (bs a.files[i].data)) (fun f => { f with dur := f.data }) (by simp [fcells])
  have h2 := h1.fset (i := i) (j := 2) (by show o.fv = .slice _ (a.files.modify i _).length _; rw [List.length_modify]; exact hfv) (by show i < (a.files.modify i _).length; rw [List.length_modify]; exact hi) (by omega) (.bool true) (fun f => { f with synced := true }) (by simp [fcells])
  have e : ({ { a with files := a.files.modify i fun f => { f with dur := f.data } } with files := (a.files.modify i fun f => { f with dur := f.data }).modify i fun f => { f with synced := true } } : AS) = a.sync1 i := by
    unfold AS.sync1
    show AS.mk _ _ _ _ _ _ _ _ = AS.mk _ _ _ _ _ _ _ _
    rw [mod_mod]
  rw [← e]
  exact h2

set_option maxRecDepth 100000 in
set_option maxHeartbeats 4000000 in
theorem rsync_is (B n : Nat) (o : RL) (a : AS) (k : ByteArray) (W : World) (h : Ri W B o a) (hk : a.Rk n) (hn : n ≤ 400000) :
    Calls Try.prog 45 #[.pointer (some ⟨o.G, 0, none⟩), .string k] W (RAft W B o (.int .i64 (AS.op (AS.sync k) id a).1) (AS.op (AS.sync k) id a).2) := by
  rw [op_id hk]
  have cB := Lib.hid (begin_is B o a W h hk.ok.af)
  have HK := Lib.hid hk.begin
  obtain ⟨c, hc⟩ : ∃ c, a.begin.1 = c := ⟨_, rfl⟩
  obtain ⟨a1, ha1⟩ : ∃ a1, a.begin.2 = a1 := ⟨_, rfl⟩
  rw [hc, ha1] at cB ⊢
  rw [ha1] at HK
  by_cases hc0 : c = 0
  case neg =>
    rw [if_neg hc0]
    have g0 : (c != (0 : Int)) = true := by simpa using hc0
    clear h hk hc ha1 hc0
    go_enter Try.func45, Try.ntmps45
    go_wp2_with fail
    refine cB.out.mono ?_
    rintro e w1 ⟨rfl, o1, hG, hR, hf, hkk⟩
    have HR := Lib.hid (RAft.same hG hR hf hkk (.int .i64 c))
    go_wp2_with fail
    go_ret
    exact HR.out
  rw [if_pos hc0]
  have g0 : (c != (0 : Int)) = false := by simpa using hc0
  clear h hk hc ha1 hc0
  cases e : findS a1.names k.data.toList with
  | none =>
    have e1 : AS.sync k a1 = (23, a1) := by unfold AS.sync; rw [e]
    rw [e1]
    have HF := Lib.hid (fnd_none e)
    clear e e1
    go_enter Try.func45, Try.ntmps45
    go_wp2_with fail
    refine cB.out.mono ?_
    rintro e w1 ⟨rfl, o1, hG, hR, hf, hkk⟩
    obtain ⟨c0, c1, -, -, -, -, -, fz⟩ := g_flags hR
    have cF := Lib.hid (find_is B o1.dv k a1.names w1 hR.dir (by have := HK.out.ok.names; omega))
    rw [hG] at c0 c1 fz
    have HG := Lib.hid (And.intro hG (And.intro hR (And.intro hf hkk)))
    have HR := Lib.hid (RAft.same hG hR hf hkk (.int .i64 23))
    clear hG hR hf hkk fz c0
    go_wp2_with fail
    refine cF.out.mono ?_
    rintro e w2 ⟨rfl, rfl⟩
    rw [HF.out]
    go_wp2_with fail
    go_ret
    exact HR.out
  | some i =>
    have e1 : AS.sync k a1 = (0, a1.sync1 i) := by unfold AS.sync; rw [e]; rfl
    rw [e1]
    have HF := Lib.hid (fnd_some e)
    have hi := HK.out.ok.wf.find e
    have hfn : a1.files.length ≤ 1000000 := by have := HK.out.ok.files; omega
    clear e e1
    go_enter Try.func45, Try.ntmps45
    go_wp2_with fail
    refine cB.out.mono ?_
    rintro e w1 ⟨rfl, o1, hG, hR, hf, hkk⟩
    obtain ⟨c0, c1, -, -, -, -, -, fz⟩ := g_flags hR
    have cF := Lib.hid (find_is B o1.dv k a1.names w1 hR.dir (by have := HK.out.ok.names; omega))
    rw [hG] at c0 c1 fz
    have HG := Lib.hid (And.intro hG (And.intro hR (And.intro hf hkk)))
    obtain ⟨b, cap, hfv, hcap, hcell, fb⟩ := hR.filesF hi
    rw [hfv] at c0
    obtain ⟨q0, q1, q2⟩ := hcell i hi
    have HE := Lib.hid (hR.sync1 hfv hi)
    have f1 := fb (i * 3 + 1)
    have f2 := fb (i * 3 + 2)
    have hbG : b ≠ o.G := by
      have h1 := hR.files
      rw [hfv] at h1
      obtain ⟨cur, hc⟩ := own_block h1 rfl
      rw [← hG]
      exact ne_of hc hR.fs (by decide)
    have hft : Hid (rfoot o1 b) := .inr (by rw [hfv]; rfl)
    obtain ⟨m, hn2⟩ : ∃ m, a1.files.length = m := ⟨_, rfl⟩
    rw [hn2] at c0 hcap hi hfn
    have g1 : (0 : Int) ≤ (i : Int) := by omega
    have g2 : (i : Int) < (m : Int) := by omega
    have g3 : decide ((i : Int) < (0 : Int)) = false := decide_eq_false (by omega)
    generalize (bs a1.files[i].data) = z0 at q0 HE
    generalize (bs a1.files[i].dur) = z1 at q1
    generalize a1.files[i].synced = z2 at q2
    clear hG hR hf hkk fz hcell hfv fb hn2
    go_wp2_with fail
    refine cF.out.mono ?_
    rintro e w2 ⟨rfl, rfl⟩
    rw [HF.out]
    go_wp2_with fail
    go_still_tail 15, (by kernel_rfl)
    go_wp2_with fail
    go_ret
    exact RAft.seq HG.out.1 HG.out.2.2.1 HG.out.2.2.2 ⟨rfl, o1, rfl, HE.out.kept (fun _ _ _ _ _ _ => rfl), ((fr_drew w2 (rfoot o1)).trans (Fr.set _ _ _ (rfoot o1) hft.out) (fun _ _ e => e)).trans (Fr.set _ _ _ (rfoot o1) hft.out) (fun _ _ e => e), fun k hk => .inl hk⟩
set_option maxRecDepth 100000 in
set_option maxHeartbeats 4000000 in
theorem rsyncdir_is (B n : Nat) (o : RL) (a : AS) (W : World) (h : Ri W B o a) (hk : a.Rk n) (hn : n ≤ 400000) :
    Calls Try.prog 48 #[.pointer (some ⟨o.G, 0, none⟩)] W (RAft W B o (.int .i64 (AS.op AS.syncdir id a).1) (AS.op AS.syncdir id a).2) := by
  rw [op_id hk]
  have cB := Lib.hid (begin_is B o a W h hk.ok.af)
  have HK := Lib.hid hk.begin
  obtain ⟨c, hc⟩ : ∃ c, a.begin.1 = c := ⟨_, rfl⟩
  obtain ⟨a1, ha1⟩ : ∃ a1, a.begin.2 = a1 := ⟨_, rfl⟩
  rw [hc, ha1] at cB ⊢
  rw [ha1] at HK
  by_cases hc0 : c = 0
  case neg =>
    rw [if_neg hc0]
    have g0 : (c != (0 : Int)) = true := by simpa using hc0
    clear h hk hc ha1 hc0
    go_enter Try.func48, Try.ntmps48
    go_wp2_with fail
    refine cB.out.mono ?_
    rintro e w1 ⟨rfl, o1, hG, hR, hf, hkk⟩
    have HR := Lib.hid (RAft.same hG hR hf hkk (.int .i64 c))
    go_wp2_with fail
    go_ret
    exact HR.out
  rw [if_pos hc0]
  have g0 : (c != (0 : Int)) = false := by simpa using hc0
  clear h hk hc ha1 hc0
  have e1 : AS.syncdir a1 = (0, { a1 with dur := a1.names, pend := [] }) := rfl
  rw [e1]
  clear e1
  go_enter Try.func48, Try.ntmps48
  go_wp2_with fail
  refine cB.out.mono ?_
  rintro e w1 ⟨rfl, o1, hG, hR, hf, hkk⟩
  obtain ⟨c0, c1, c2, c3, -, -, -, fz⟩ := g_flags hR
  rw [hG] at c0 c1 c2 c3 fz
  have f2 := fz 2
  have f3 := fz 3
  have hS1 := hR.set (j := 2) (v := o1.dv) (o' := { o1 with uv := o1.dv }) (a' := { a1 with dur := a1.names }) rfl (by unfold gCells armI; simp) hR.files hR.dir hR.dir hR.pend
  have hS2 := hS1.set (j := 3) (v := .slice none 0 0) (o' := { o1 with uv := o1.dv, pv := .slice none 0 0 }) (a' := { a1 with dur := a1.names, pend := [] }) rfl (by unfold gCells armI; simp) hS1.files hS1.dir hS1.dur ⟨rfl, .inl ⟨rfl, rfl⟩⟩
  have HE := Lib.hid (hS2)
  obtain ⟨adD, capD, hdv⟩ := own_slice hR.dir
  have HG := Lib.hid (And.intro hG (And.intro hR (And.intro hf hkk)))
  have HD := Lib.hid hdv
  rw [hdv] at c1 HE
  clear hR hf hkk fz hS1 hS2 hdv
  go_wp2_with fail
  go_ret
  have hE := HE.out
  rw [hG] at hE
  refine ⟨rfl, ⟨o.G, o1.fv, .slice adD (List.length a1.names) capD, .slice adD (List.length a1.names) capD, .slice none 0 0⟩, rfl, hE, (HG.out.2.2.1.trans (Fr.set _ _ _ (rfoot o) (.inl rfl)) (fun _ _ e => e)).trans (Fr.set _ _ _ (rfoot o) (.inl rfl)) (fun _ _ e => e), ?_⟩
  rintro k (hk | hk)
  · exact .inl (.inl hk)
  · exact HG.out.2.2.2 k (.inr hk)
set_option maxRecDepth 100000 in
set_option maxHeartbeats 4000000 in
theorem rremove_is (B n : Nat) (o : RL) (a : AS) (k : ByteArray) (W : World) (h : Ri W B o a) (hk : a.Rk n) (hn : n ≤ 400000) :
    Calls Try.prog 47 #[.pointer (some ⟨o.G, 0, none⟩), .string k] W (RAft W B o (.int .i64 (AS.op (AS.remove k) id a).1) (AS.op (AS.remove k) id a).2) := by
  rw [op_id hk]
  have cB := Lib.hid (begin_is B o a W h hk.ok.af)
  have HK := Lib.hid hk.begin
  obtain ⟨c, hc⟩ : ∃ c, a.begin.1 = c := ⟨_, rfl⟩
  obtain ⟨a1, ha1⟩ : ∃ a1, a.begin.2 = a1 := ⟨_, rfl⟩
  rw [hc, ha1] at cB ⊢
  rw [ha1] at HK
  by_cases hc0 : c = 0
  case neg =>
    rw [if_neg hc0]
    have g0 : (c != (0 : Int)) = true := by simpa using hc0
    clear h hk hc ha1 hc0
    go_enter Try.func47, Try.ntmps47
    go_wp2_with fail
    refine cB.out.mono ?_
    rintro e w1 ⟨rfl, o1, hG, hR, hf, hkk⟩
    have HR := Lib.hid (RAft.same hG hR hf hkk (.int .i64 c))
    go_wp2_with fail
    go_ret
    exact HR.out
  rw [if_pos hc0]
  have g0 : (c != (0 : Int)) = false := by simpa using hc0
  clear h hk hc ha1 hc0
  cases e : findS a1.names k.data.toList with
  | none =>
    have e1 : AS.remove k a1 = (23, a1) := by unfold AS.remove; rw [e]
    rw [e1]
    have HF := Lib.hid (fnd_none e)
    clear e e1
    go_enter Try.func47, Try.ntmps47
    go_wp2_with fail
    refine cB.out.mono ?_
    rintro e w1 ⟨rfl, o1, hG, hR, hf, hkk⟩
    obtain ⟨c0, c1, -, -, -, -, -, fz⟩ := g_flags hR
    have cF := Lib.hid (find_is B o1.dv k a1.names w1 hR.dir (by have := HK.out.ok.names; omega))
    rw [hG] at c0 c1 fz
    have HG := Lib.hid (And.intro hG (And.intro hR (And.intro hf hkk)))
    have HR := Lib.hid (RAft.same hG hR hf hkk (.int .i64 23))
    clear hG hR hf hkk fz c0
    go_wp2_with fail
    refine cF.out.mono ?_
    rintro e w2 ⟨rfl, rfl⟩
    rw [HF.out]
    go_wp2_with fail
    go_ret
    exact HR.out
  | some i =>
    have e1 : AS.remove k a1 = (0, a1.record ⟨k, ⟨#[]⟩, 0⟩) := by unfold AS.remove; rw [e]
    rw [e1]
    have HF := Lib.hid (fnd_some e)
    have g3 : decide ((i : Int) < (0 : Int)) = false := decide_eq_false (by omega)
    clear e e1
    go_enter Try.func47, Try.ntmps47
    go_wp2_with fail
    refine cB.out.mono ?_
    rintro e w1 ⟨rfl, o1, hG, hR, hf, hkk⟩
    obtain ⟨c0, c1, -, -, -, -, -, fz⟩ := g_flags hR
    have cF := Lib.hid (find_is B o1.dv k a1.names w1 hR.dir (by have := HK.out.ok.names; omega))
    rw [hG] at c0 c1 fz
    have HG := Lib.hid (And.intro hG (And.intro hR (And.intro hf hkk)))
    have cC := Lib.hid (rchange_is B o1 a1 ⟨k, ⟨#[]⟩, 0⟩ w1 hR HK.out.ok.sn HK.out.hn (by have := HK.out.ok.names; omega) (by have := HK.out.ok.pend; omega))
    rw [hG] at cC
    clear hG hR hf hkk fz c0
    go_wp2_with fail
    refine cF.out.mono ?_
    rintro e w2 ⟨rfl, rfl⟩
    rw [HF.out]
    go_wp2_with fail
    refine cC.out.mono ?_
    rintro e w3 ⟨rfl, o3, hG3, hv3, hR3, hF3⟩
    have HE := Lib.hid (change_aft HG.out.1 HG.out.2.2.1 HG.out.2.2.2 hG3 hv3 hR3 hF3 (.int .i64 0))
    clear hG3 hv3 hR3 hF3
    go_wp2_with fail
    go_ret
    exact HE.out
set_option maxRecDepth 100000 in
set_option maxHeartbeats 4000000 in
theorem rrename_is (B n : Nat) (o : RL) (a : AS) (k t : ByteArray) (W : World) (h : Ri W B o a) (hk : a.Rk n) (hn : n ≤ 400000) :
    Calls Try.prog 46 #[.pointer (some ⟨o.G, 0, none⟩), .string k, .string t] W (RAft W B o (.int .i64 (AS.op (AS.rename k t) id a).1) (AS.op (AS.rename k t) id a).2) := by
  rw [op_id hk]
  have cB := Lib.hid (begin_is B o a W h hk.ok.af)
  have HK := Lib.hid hk.begin
  obtain ⟨c, hc⟩ : ∃ c, a.begin.1 = c := ⟨_, rfl⟩
  obtain ⟨a1, ha1⟩ : ∃ a1, a.begin.2 = a1 := ⟨_, rfl⟩
  rw [hc, ha1] at cB ⊢
  rw [ha1] at HK
  by_cases hc0 : c = 0
  case neg =>
    rw [if_neg hc0]
    have g0 : (c != (0 : Int)) = true := by simpa using hc0
    clear h hk hc ha1 hc0
    go_enter Try.func46, Try.ntmps46
    go_wp2_with fail
    refine cB.out.mono ?_
    rintro e w1 ⟨rfl, o1, hG, hR, hf, hkk⟩
    have HR := Lib.hid (RAft.same hG hR hf hkk (.int .i64 c))
    go_wp2_with fail
    go_ret
    exact HR.out
  rw [if_pos hc0]
  have g0 : (c != (0 : Int)) = false := by simpa using hc0
  clear h hk hc ha1 hc0
  cases e : findS a1.names k.data.toList with
  | none =>
    have e1 : AS.rename k t a1 = (23, a1) := by unfold AS.rename; rw [e]
    rw [e1]
    have HF := Lib.hid (fnd_none e)
    clear e e1
    go_enter Try.func46, Try.ntmps46
    go_wp2_with fail
    refine cB.out.mono ?_
    rintro e w1 ⟨rfl, o1, hG, hR, hf, hkk⟩
    obtain ⟨c0, c1, -, -, -, -, -, fz⟩ := g_flags hR
    have cF := Lib.hid (find_is B o1.dv k a1.names w1 hR.dir (by have := HK.out.ok.names; omega))
    rw [hG] at c0 c1 fz
    have HG := Lib.hid (And.intro hG (And.intro hR (And.intro hf hkk)))
    have HR := Lib.hid (RAft.same hG hR hf hkk (.int .i64 23))
    clear hG hR hf hkk fz c0
    go_wp2_with fail
    refine cF.out.mono ?_
    rintro e w2 ⟨rfl, rfl⟩
    rw [HF.out]
    go_wp2_with fail
    go_ret
    exact HR.out
  | some i =>
    have HF := Lib.hid (fnd_some e)
    have g3 : decide ((i : Int) < (0 : Int)) = false := decide_eq_false (by omega)
    cases ht : t.toList.isEmpty with
    | true =>
      have e1 : AS.rename k t a1 = (2, a1) := by unfold AS.rename; rw [e]; exact if_pos ht
      rw [e1]
      clear e e1
      go_enter Try.func46, Try.ntmps46
      go_wp2_with fail
      refine cB.out.mono ?_
      rintro e w1 ⟨rfl, o1, hG, hR, hf, hkk⟩
      obtain ⟨c0, c1, -, -, -, -, -, fz⟩ := g_flags hR
      have cF := Lib.hid (find_is B o1.dv k a1.names w1 hR.dir (by have := HK.out.ok.names; omega))
      rw [hG] at c0 c1 fz
      have HG := Lib.hid (And.intro hG (And.intro hR (And.intro hf hkk)))
      have HR := Lib.hid (RAft.same hG hR hf hkk (.int .i64 2))
      clear hG hR hf hkk fz c0
      go_wp2_with fail
      refine cF.out.mono ?_
      rintro e w2 ⟨rfl, rfl⟩
      rw [HF.out]
      go_wp2_with fail
      go_ret
      exact HR.out
    | false =>
      cases hkt : (k.toList == t.toList) with
      | true =>
        have e1 : AS.rename k t a1 = (0, a1) := by unfold AS.rename; rw [e]; simp only [ht, hkt]; rfl
        rw [e1]
        have hkt2 : (k.toList != t.toList) = false := by unfold bne; rw [hkt]; rfl
        clear e e1
        go_enter Try.func46, Try.ntmps46
        go_wp2_with fail
        refine cB.out.mono ?_
        rintro e w1 ⟨rfl, o1, hG, hR, hf, hkk⟩
        obtain ⟨c0, c1, -, -, -, -, -, fz⟩ := g_flags hR
        have cF := Lib.hid (find_is B o1.dv k a1.names w1 hR.dir (by have := HK.out.ok.names; omega))
        rw [hG] at c0 c1 fz
        have HG := Lib.hid (And.intro hG (And.intro hR (And.intro hf hkk)))
        have HR := Lib.hid (RAft.same hG hR hf hkk (.int .i64 0))
        clear hG hR hf hkk fz c0
        go_wp2_with fail
        refine cF.out.mono ?_
        rintro e w2 ⟨rfl, rfl⟩
        rw [HF.out]
        go_wp2_with fail
        go_ret
        exact HR.out
      | false =>
        have e1 : AS.rename k t a1 = (0, a1.record ⟨k, t, i⟩) := by unfold AS.rename; rw [e]; simp only [ht, hkt]; rfl
        rw [e1]
        have hkt2 : (k.toList != t.toList) = true := by unfold bne; rw [hkt]; rfl
        clear e e1
        go_enter Try.func46, Try.ntmps46
        go_wp2_with fail
        refine cB.out.mono ?_
        rintro e w1 ⟨rfl, o1, hG, hR, hf, hkk⟩
        obtain ⟨c0, c1, -, -, -, -, -, fz⟩ := g_flags hR
        have cF := Lib.hid (find_is B o1.dv k a1.names w1 hR.dir (by have := HK.out.ok.names; omega))
        rw [hG] at c0 c1 fz
        have HG := Lib.hid (And.intro hG (And.intro hR (And.intro hf hkk)))
        have cC := Lib.hid (rchange_is B o1 a1 ⟨k, t, i⟩ w1 hR HK.out.ok.sn HK.out.hn (by have := HK.out.ok.names; omega) (by have := HK.out.ok.pend; omega))
        rw [hG] at cC
        clear hG hR hf hkk fz c0
        go_wp2_with fail
        refine cF.out.mono ?_
        rintro e w2 ⟨rfl, rfl⟩
        rw [HF.out]
        go_wp2_with fail
        refine cC.out.mono ?_
        rintro e w3 ⟨rfl, o3, hG3, hv3, hR3, hF3⟩
        have HE := Lib.hid (change_aft HG.out.1 HG.out.2.2.1 HG.out.2.2.2 hG3 hv3 hR3 hF3 (.int .i64 0))
        clear hG3 hv3 hR3 hF3
        go_wp2_with fail
        go_ret
        exact HE.out
end Go.Proofs.Ytcobjjaicckgpaa.Vf
/- The reference: List. -/
namespace Go.Proofs.Ytcobjjaicckgpaa.Vf
open Go Go.RowKit Go.Maps Go.Proofs.Ytcobjjaicckgpaa Go.Proofs.Ytcobjjaicckgpaa.Bs
set_option linter.unusedVariables false

theorem infoSr : (Try.prog.info? 9).map (fun i => (i.zero, i.size, i.bytes)) = some (some (.string ByteArray.empty), 1, 16) := by kernel_rfl
structure Ls (W w : World) (v : Value) (q : Nat) (xs : List Value) : Prop where
  below : Below W.heap.size W w
  own : w.ownsRow W.heap.size 9 1 v q xs
set_option maxRecDepth 100000 in
set_option maxHeartbeats 4000000 in
theorem rlist_is (B : Nat) (o : RL) (a : AS) (W : World) (h : Ri W B o a) (hn : a.names.length ≤ 1000000) :
    Calls Try.prog 23 #[.pointer (some ⟨o.G, 0, none⟩)] W fun e w' => ∃ v, e = .returned v ∧ w'.ownsRow W.heap.size 9 1 v a.list.length (a.list.map encStr) ∧ Below W.heap.size W w' := by
  obtain ⟨b, ad, cap, hdv, hc, had, hcell⟩ := row_at lcells (fun _ => rfl) a.names h.dir
  obtain ⟨c0, c1, -, -, c4, -, -, -⟩ := g_flags h
  rw [hdv] at c1
  obtain ⟨n, hn2⟩ : ∃ n, a.names.length = n := ⟨_, rfl⟩
  have HC : Hid (∀ j (hj : j < a.names.length), W.cell? ⟨b, j * 2, none⟩ = some (.string (bs a.names[j].1))) := fun j hj => hcell j hj 0 (by omega)
  have HN := Lib.hid hn2
  rw [hn2] at hn hc had c1
  have HA := Lib.hid had
  obtain ⟨D, hD⟩ : ∃ D, a.down = D := ⟨_, rfl⟩
  have HD := Lib.hid hD
  rw [hD] at c4
  have HCC := Lib.hid (And.intro c1 c4)
  obtain ⟨i0, hi, hz0, hz1, hz2⟩ := info_parts infoSr
  have II := Lib.hid (And.intro hi (And.intro hz0 (And.intro hz1 hz2)))
  have HL0 : Hid (Ls W W (.slice none 0 0) 0 ((a.names.take 0).map fun p => .string (bs p.1))) := ⟨Below.refl _ _, ⟨rfl, .inl ⟨rfl, rfl⟩⟩⟩
  clear h hdv hcell had hn2 hD hi hz0 hz1 hz2 c0
  go_enter Try.func23, Try.ntmps23
  go_wp2_with fail
  go_loopw [3, 4] (fun l i wr => ∃ q : Nat, q ≤ n ∧ (D = true → q = 0) ∧ i = .int .i64 q ∧ Hid (Ls W wr l q ((a.names.take q).map fun p => .string (bs p.1)))) (fun _ i _ => n - (intOf i).toNat)
  case atStart => exact ⟨0, Nat.zero_le _, fun _ => rfl, rfl, HL0.out⟩
  case round =>
    clear HL0 c1 c4
    obtain ⟨q, hq, hq0, rfl, HP⟩ := hrel
    rename_i vl
    obtain ⟨adV, capV, hvl⟩ := own_slice HP.out.own
    subst hvl
    have d1 := cell_below HCC.out.1 HP.out.below rfl
    have d4 := cell_below HCC.out.2 HP.out.below rfl
    have hsz := HP.out.below.size
    by_cases hlt : q < n
    · have gl : decide ((q : Int) < (n : Int)) = true := decide_eq_true (by omega)
      cases hDD : D with
      | true =>
        have hz := hq0 hDD
        subst hz
        rw [hDD] at d4
        have HE : Hid (a.list = []) := by unfold AS.list; rw [HD.out, hDD]; rfl
        go_wp2_with fail
        go_ret
        rw [HE.out]
        exact ⟨_, rfl, by have := HP.out.own; simpa using this, HP.out.below⟩
      | false =>
        rw [hDD] at d4
        obtain rfl := HA.out (by omega)
        have hlt2 : q < a.names.length := by rw [HN.out]; exact hlt
        have d0 := cell_below (HC.out q hlt2) HP.out.below rfl
        have HS : Hid ((a.names.take (q + 1)).map (fun p => Value.string (bs p.1)) = (a.names.take q).map (fun p => Value.string (bs p.1)) ++ [.string (bs a.names[q].1)]) := by
          show _ = _
          rw [List.take_add_one, List.getElem?_eq_getElem hlt2, List.map_append]
          rfl
        obtain ⟨nm, hnm⟩ : ∃ nm, bs a.names[q].1 = nm := ⟨_, rfl⟩
        rw [hnm] at d0 HS
        obtain ⟨xs, hxs⟩ : ∃ xs, (a.names.take q).map (fun p => Value.string (bs p.1)) = xs := ⟨_, rfl⟩
        rw [hxs] at HP HS
        clear hnm hxs
        go_wp2_with (at_builtin; refine wpList_append_row _ rfl _ _ 52 rfl W.heap.size W.heap.size 9 i0 (.string ByteArray.empty) 1 16 Try.underlying52 II.out.1 II.out.2.1 II.out.2.2.1 II.out.2.2.2 rfl (by decide) _ q xs rfl (own_alloc _ HP.out.own) _ 1 [.string nm] rfl (own_new (heap_alloc_new _ _) hsz rfl (by unfold maxLen; omega)) (by intro u hu; simp only [List.mem_cons, List.not_mem_nil, or_false] at hu; rcases hu with rfl; rfl) ?a1 ?a2 ?a3 ?_)
        case a1 => unfold maxLen; omega
        case a2 => omega
        case a3 => omega
        intro v2 w2 hown2 hg2 hb2
        obtain ⟨adV2, capV2, hv2⟩ := own_slice hown2
        have HP2 : Hid (Ls W w2 v2 (q + 1) ((a.names.take (q + 1)).map fun p => .string (bs p.1))) :=
          ⟨below_grew hg2 (HP.out.below.alloc hsz _) (fun k hk => (HP.out.own.lt k hk).1) (by show _ ≤ (World.alloc _ _).heap.size; rw [alloc_sz]; omega), by rw [HS.out]; exact hown2⟩
        clear hown2 hg2 hb2 d0 d1 d4
        subst hv2
        go_wp2_with fail
        go_roundw
        case rel => exact ⟨q + 1, by omega, (fun e => by cases e), by go_num, HP2.out⟩
        case measure => simp [intOf]; omega
    · have gl : decide ((q : Int) < (n : Int)) = false := decide_eq_false (by omega)
      have hqn : q = n := by omega
      have HE : Hid (a.list.map encStr = (a.names.take q).map (fun p => Value.string (bs p.1)) ∧ a.list.length = q) := by
        have ht : a.names.take q = a.names := List.take_of_length_le (by rw [HN.out]; omega)
        show _ ∧ _
        rw [ht]
        unfold AS.list
        cases hDD : D with
        | true =>
          have hz := hq0 hDD
          have hnil : a.names = [] := List.eq_nil_of_length_eq_zero (by rw [HN.out]; omega)
          rw [HD.out, hDD, if_pos rfl, hnil, hz]
          exact ⟨rfl, rfl⟩
        | false =>
          rw [HD.out, hDD, if_neg (by decide), List.map_map, List.length_map, HN.out]
          exact ⟨rfl, hqn.symm⟩
      go_wp2_with fail
      go_ret
      rw [HE.out.1, HE.out.2]
      exact ⟨_, rfl, HP.out.own, HP.out.below⟩
end Go.Proofs.Ytcobjjaicckgpaa.Vf
/- The reference: Crash. -/
namespace Go.Proofs.Ytcobjjaicckgpaa.Vf
open Go Go.RowKit Go.Maps Go.Proofs.Ytcobjjaicckgpaa Go.Proofs.Ytcobjjaicckgpaa.Bs
set_option linter.unusedVariables false

/-- The durable directory has turned k changes. -/
structure Cd (W w : World) (B : Nat) (o : RL) (a : AS) (ch : List Bool) (k : Nat) : Prop where
  ex : ∃ o', o'.G = o.G ∧ o'.fv = o.fv ∧ o'.pv = o.pv ∧ Ri w B o' { a with dur := a.durK ch k }
  fr : Fr W w (fun k => k = o.G)
theorem Ri.pendAt {w : World} {B : Nat} {o : RL} {a : AS} (h : Ri w B o a) : ∃ b ad cap, o.pv = .slice ad a.pend.length cap ∧ a.pend.length ≤ cap ∧ (0 < a.pend.length → ad = some ⟨b, 0, none⟩) ∧ ∀ k (hk : k < a.pend.length), w.cell? ⟨b, k * 3, none⟩ = some (.string a.pend[k].src) ∧ w.cell? ⟨b, k * 3 + 1, none⟩ = some (.string a.pend[k].dst) ∧ w.cell? ⟨b, k * 3 + 2, none⟩ = some (.int .i64 a.pend[k].file) := by
  obtain ⟨b, ad, cap, h1, h2, h3, h4⟩ := row_at dcells (fun _ => rfl) a.pend h.pend
  exact ⟨b, ad, cap, h1, h2, h3, fun k hk => ⟨h4 k hk 0 (by omega), h4 k hk 1 (by omega), h4 k hk 2 (by omega)⟩⟩
theorem mem_apply1 {m : Nm} {f t : ByteArray} {i : Nat} {p : List UInt8 × Nat} (h : p ∈ applyS m f t i) : p ∈ m ∨ (t.toList.isEmpty = false ∧ p.1 = t.data.toList) := by
  unfold applyS at h
  simp only at h
  cases ht : t.toList.isEmpty with
  | true =>
    rw [ht] at h
    simp only [if_true] at h
    split at h
    · exact .inl h
    · exact .inl (List.mem_filter.1 h).1
  | false =>
    rw [ht] at h
    simp only [Bool.false_eq_true, if_false] at h
    rcases mem_put h with h | h
    · exact .inr ⟨rfl, by rw [h]⟩
    · split at h
      · exact .inl h
      · exact .inl (List.mem_filter.1 h).1
theorem ne_apply {m : Nm} {f t : ByteArray} {i : Nat} (h : ∀ p ∈ m, p.1 ≠ []) : ∀ p ∈ applyS m f t i, p.1 ≠ [] := by
  intro p hp
  rcases mem_apply1 hp with hp | ⟨h4, h5⟩
  · exact h p hp
  · rw [h5]; exact (toList_nonempty t).1 h4
theorem durK_ne {a : AS} {n : Nat} (h : a.Rk n) (ch : List Bool) : ∀ k, ∀ p ∈ a.durK ch k, p.1 ≠ []
  | 0 => h.hd
  | k + 1 => by
    have h1 := durK_ne h ch k
    unfold AS.durK
    split
    · exact h1
    · split
      · exact ne_apply h1
      · exact h1
/-- The durable directory has turned once more. -/
theorem dur_turn {w wA : World} {B G capA : Nat} {adA : Option Addr} {o : RL} {a : AS} {L : Nm} (h : Ri w B o a) (hG : o.G = G) (hb : Below w.heap.size w wA) (hB : B ≤ w.heap.size) (ho : wA.ownsRow w.heap.size 92 2 (.slice adA L.length capA) L.length (L.flatMap lcells)) :
    Ri (wA.setCell ⟨G, 2, none⟩ (.slice adA L.length capA)) B { o with uv := .slice adA L.length capA } { a with dur := L } := by
  subst hG
  have h1 := h.below hb
  exact h1.set (j := 2) (o' := { o with uv := .slice adA L.length capA }) (a' := { a with dur := L }) rfl (by unfold gCells armI; simp) h1.files h1.dir (own_base ho hB) h1.pend
/-- The files behind the first k of a crash. -/
structure Cf (W w : World) (B G : Nat) (o : RL) (a0 a : AS) (ls : List Int) (k : Nat) : Prop where
  ri : Ri w B o { a0 with files := a.filesK ls k }
  fr : Fr W w (fun k => k = G)
theorem Cf.at {W w : World} {B G nf cap k : Nat} {ad : Option Addr} {o : RL} {a0 a : AS} {ls : List Int} (h : Cf W w B G o a0 a ls k) (hfv : o.fv = .slice ad nf cap) (hN : a.files.length = nf) (hk : k < a.files.length) :
    ∃ b, ad = some ⟨b, 0, none⟩ ∧ nf ≤ cap ∧ w.cell? ⟨b, k * 3, none⟩ = some (.string (bs a.files[k].data)) ∧ w.cell? ⟨b, k * 3 + 1, none⟩ = some (.string (bs a.files[k].dur)) ∧ w.cell? ⟨b, k * 3 + 2, none⟩ = some (.bool a.files[k].synced) ∧ ∀ j, w.frozen? ⟨b, j, none⟩ = false := by
  have hl : (a.filesK ls k).length = nf := by rw [a.filesK_len, hN]
  have hkl : k < ({ a0 with files := a.filesK ls k } : AS).files.length := by show k < (a.filesK ls k).length; rw [a.filesK_len]; exact hk
  have he : (a.filesK ls k)[k]'hkl = a.files[k] := by
    have h1 := a.filesK_at ls k k (Nat.le_refl _)
    rw [List.getElem?_eq_getElem hkl, List.getElem?_eq_getElem hk] at h1
    exact Option.some.inj h1
  obtain ⟨b, cap', hfv', hcap, hcell, fb⟩ := h.ri.filesF hkl
  rw [hfv] at hfv'
  injection hfv' with e1 e2 e3
  obtain ⟨x0, x1, x2⟩ := hcell k hkl
  have hcap2 : (a.filesK ls k).length ≤ cap' := hcap
  rw [hl] at hcap2
  have y0 : w.cell? ⟨b, k * 3, none⟩ = some (.string (bs ((a.filesK ls k)[k]'hkl).data)) := x0
  have y1 : w.cell? ⟨b, k * 3 + 1, none⟩ = some (.string (bs ((a.filesK ls k)[k]'hkl).dur)) := x1
  have y2 : w.cell? ⟨b, k * 3 + 2, none⟩ = some (.bool ((a.filesK ls k)[k]'hkl).synced) := x2
  rw [he] at y0 y1 y2
  exact ⟨b, e1, by omega, y0, y1, y2, fb⟩
theorem rfile_cells {w : World} {S : Nat} {x y z : Value} (h : w.heap[S]? = some (Obj.cells #[x, y, z] 90 (0, 0))) : w.cell? ⟨S, 0, none⟩ = some x ∧ w.cell? ⟨S, 1, none⟩ = some y ∧ w.cell? ⟨S, 2, none⟩ = some z ∧ ∀ j, w.frozen? ⟨S, j, none⟩ = false := by
  unfold World.cell? World.frozen?
  simp only [h]
  exact ⟨rfl, rfl, rfl, fun j => by simp⟩
theorem extract_take2 (d : ByteArray) (n : Nat) : (d.extract 0 n).data.toList = d.data.toList.take n := by
  rw [ByteArray.data_extract]
  simp
/-- One more file. -/
theorem Cf.step {W w : World} {B G nf cap k d b : Nat} {o : RL} {a0 a : AS} {ls : List Int} {nd : ByteArray} (h : Cf W w B G o a0 a ls k) (hfv : o.fv = .slice (some ⟨b, 0, none⟩) nf cap) (hN : a.files.length = nf) (hk : k < a.files.length) (hd : dirtyA (a.files.take k) = d) (hcr : crashF (ls.getD d (-1)) a.files[k] = ⟨nd.data.toList, nd.data.toList, true⟩) (hb : W.heap.size ≤ b) :
    Cf W (((w.setCell ⟨b, k * 3, none⟩ (.string nd)).setCell ⟨b, k * 3 + 1, none⟩ (.string nd)).setCell ⟨b, k * 3 + 2, none⟩ (.bool true)) B G o a0 a ls (k + 1) := by
  have hl : (a.filesK ls k).length = nf := by rw [a.filesK_len, hN]
  have hkl : k < (a.filesK ls k).length := by rw [hl]; omega
  have hfv0 : o.fv = .slice (some ⟨b, 0, none⟩) (a.filesK ls k).length cap := by rw [hl]; exact hfv
  have h1 := h.ri.fset (i := k) (j := 0) hfv0 hkl (by omega) (.string nd) (fun f => { f with data := nd.data.toList }) (by simp [fcells, bs_of])
  have h2 := h1.fset (i := k) (j := 1) (by show o.fv = .slice _ ((a.filesK ls k).modify k _).length _; rw [List.length_modify]; exact hfv0) (by show k < ((a.filesK ls k).modify k _).length; rw [List.length_modify]; exact hkl) (by omega) (.string nd) (fun f => { f with dur := nd.data.toList }) (by simp [fcells, bs_of])
  have h3 := h2.fset (i := k) (j := 2) (by show o.fv = .slice _ (((a.filesK ls k).modify k _).modify k _).length _; rw [List.length_modify, List.length_modify]; exact hfv0) (by show k < (((a.filesK ls k).modify k _).modify k _).length; rw [List.length_modify, List.length_modify]; exact hkl) (by omega) (.bool true) (fun f => { f with synced := true }) (by simp [fcells])
  have he : (((a.filesK ls k).modify k (fun f => { f with data := nd.data.toList })).modify k (fun f => { f with dur := nd.data.toList })).modify k (fun f => { f with synced := true }) = a.filesK ls (k + 1) := by
    rw [mod_mod, mod_mod]
    show _ = (a.filesK ls k).modify k (crashF (ls.getD (dirtyA (a.files.take k)) (-1)))
    rw [hd]
    apply List.ext_getElem
    · simp
    intro j h1 h2
    simp only [List.getElem_modify]
    by_cases e : k = j
    · subst e
      have hg : (a.filesK ls k)[k]'hkl = a.files[k] := by
        have h1 := a.filesK_at ls k k (Nat.le_refl _)
        rw [List.getElem?_eq_getElem hkl, List.getElem?_eq_getElem hk] at h1
        exact Option.some.inj h1
      rw [if_pos rfl, if_pos rfl, hg, hcr]
    · rw [if_neg e, if_neg e]
  refine ⟨?_, ((h.fr.trans (Fr.set w ⟨b, k * 3, none⟩ (.string nd) (fun k => k = b) rfl) ?_).trans (Fr.set _ ⟨b, k * 3 + 1, none⟩ (.string nd) (fun k => k = b) rfl) ?_).trans (Fr.set _ ⟨b, k * 3 + 2, none⟩ (.bool true) (fun k => k = b) rfl) ?_⟩
  · rw [← he]
    exact h3
  all_goals
    intro j h4 h5
    omega
theorem Cf.heap {W w w' : World} {B G k : Nat} {o : RL} {a0 a : AS} {ls : List Int} (h : Cf W w B G o a0 a ls k) (h1 : w'.heap = w.heap) (h2 : w'.os = w.os) (h3 : w'.tape = w.tape) (h4 : w'.output = w.output) : Cf W w' B G o a0 a ls k :=
  ⟨h.ri.kept fun _ _ _ _ _ _ => by rw [h1], ⟨h2.trans h.fr.os, h3.trans h.fr.tape, h4.trans h.fr.output, by rw [h1]; exact h.fr.size, fun k hk hn => by rw [h1]; exact h.fr.block k hk hn⟩⟩
/-- The files' row is a copy in a fresh block. -/
theorem files_copy {w w3 : World} {B G n cap : Nat} {ad : Option Addr} {o : RL} {a : AS} (h : Ri w B o a) (hG : o.G = G) (hN : a.files.length = n) (hb : Below w.heap.size w w3) (ho : w3.ownsRow w.heap.size 90 3 (.slice ad n cap) n (a.files.flatMap fcells)) :
    Ri (w3.setCell ⟨G, 0, none⟩ (.slice ad n cap)) B { o with fv := .slice ad n cap } a ∧ ∀ g, (Value.slice ad n cap).ownBlock = some g → w.heap.size ≤ g := by
  subst hG
  have h1 := h.below hb
  have hB : B ≤ w.heap.size := by have := lt_of_heap h.fs; have := h.bG; omega
  exact ⟨h1.set (j := 0) (o' := { o with fv := .slice ad n cap }) (a' := a) rfl (by unfold gCells armI; simp) (by rw [hN]; exact own_base ho hB) h1.dir h1.dur h1.pend, fun g hg => (ho.lt g hg).1⟩
theorem dur_stop (a : AS) (ch : List Bool) (q m : Nat) (hq : ch.length ≤ q) (hm : q ≤ m) : a.durK ch m = a.durK ch q := by
  induction m with
  | zero => have : q = 0 := by omega
            rw [this]
  | succ m ih =>
    by_cases e : q = m + 1
    · rw [e]
    · rw [← ih (by omega)]
      have hd : ch.getD m false = false := by rw [List.getD_eq_getElem?_getD, List.getElem?_eq_none (by omega)]; rfl
      simp only [AS.durK, hd]
      cases a.pend[m]? with
      | none => rfl
      | some c => rfl
set_option maxRecDepth 100000 in
set_option maxHeartbeats 16000000 in
theorem rcrash_is (B : Nat) (o : RL) (a : AS) (v2 : Value) (ch : List Bool) (ls : List Int) (W : World) (bg off n c : Nat) (bad : Option Addr) (nn : Nat) (h : Ri W B o a) (hk : a.Rk nn) (hnn : nn ≤ 400000)
    (hv1 : n = ch.length) (hbn : n ≤ 1000000000) (hb1 : 0 < n → bad = some ⟨bg, off, none⟩) (hbc : ∀ j (hj : j < ch.length), W.cell? ⟨bg, off + j, none⟩ = some (.bool ch[j])) (hbf : 0 < n → ¬ rfoot o bg) (hil : Il W v2 ls) (hln : ls.length ≤ 1000000000) (hif : 0 < ls.length → ∀ g, v2.ownBlock = some g → ¬ rfoot o g) :
    Calls Try.prog 20 #[.pointer (some ⟨o.G, 0, none⟩), .slice bad n c, v2] W (RAft W B o (.tuple #[]) (a.crash ch ls)) := by
  obtain ⟨m, hm⟩ : ∃ m, a.pend.length = m := ⟨_, rfl⟩
  have hm2 : m ≤ 1000000 := by have := hk.ok.pend; omega
  have HI := Lib.hid h
  have HM := Lib.hid hm
  have HV := Lib.hid hv1
  have HB1 := Lib.hid hb1
  have HBC := Lib.hid hbc
  have HBF := Lib.hid hbf
  have HK := Lib.hid hk
  obtain ⟨ig, ioff, iad, ic, rfl, hic, hiad, hicell⟩ := hil
  obtain ⟨li, hli⟩ : ∃ li, ls.length = li := ⟨_, rfl⟩
  have hln2 : li ≤ 1000000000 := by rw [← hli]; exact hln
  rw [hli] at hic hiad hif ⊢
  have HIL := Lib.hid (And.intro hli (And.intro hiad (And.intro hicell hif)))
  clear h hm hv1 hb1 hbc hbf hk hln hif hli hiad hicell
  go_enter Try.func20, Try.ntmps20
  go_upto_block 0 with fail
  go_cut [6] from 11 to 44 (fun i wx => i = i ∧ Hid (Cd W wx B o a ch m))
  case first =>
    have HC0 : Hid (Cd W W B o a ch 0) := ⟨⟨o, rfl, rfl, rfl, HI.out⟩, Fr.drewN W 0 _⟩
    go_wp2_with fail
    go_loopw [6] (fun i wr => ∃ q : Nat, q ≤ m ∧ i = .int .i64 q ∧ Hid (Cd W wr B o a ch q)) (fun i _ => m - (intOf i).toNat)
    case atStart => exact ⟨0, Nat.zero_le _, rfl, HC0.out⟩
    case round =>
      clear HC0
      obtain ⟨q, hq, rfl, HP⟩ := hrel
      obtain ⟨⟨o', hG, hfv, hpv, hR⟩, hFr⟩ := HP.out
      obtain ⟨pb, pad, pcap, ep, hpc, hpad, hpcell⟩ := hR.pendAt
      obtain ⟨-, -, c2, c3, -, -, -, fz⟩ := g_flags hR
      have ep2 : o'.pv = .slice pad m pcap := by rw [← HM.out]; exact ep
      rw [ep2] at c3
      rw [hG] at c2 c3 fz
      have f2 := fz 2
      have hpc2 : m ≤ pcap := by rw [← HM.out]; exact hpc
      by_cases hlt : q < m
      · have hq3 : q < a.pend.length := by rw [HM.out]; exact hlt
        obtain rfl := hpad (by show 0 < a.pend.length; omega)
        obtain ⟨q0, q1, q2⟩ := hpcell q hq3
        have g1 : decide ((q : Int) < (m : Int)) = true := decide_eq_true (by omega)
        have HR := Lib.hid (And.intro hG (And.intro hfv (And.intro hpv (And.intro hR hFr))))
        by_cases hqn : q < n
        · have g2 : decide ((q : Int) < (n : Int)) = true := decide_eq_true (by omega)
          obtain rfl := HB1.out (by omega)
          have hkc : q < ch.length := by rw [← HV.out]; exact hqn
          have hcb := HBC.out q hkc
          have hcb2 : wr.cell? ⟨bg, off + q, none⟩ = some (.bool ch[q]) := by
            have hl := lt_of_cell hcb
            unfold World.cell? at hcb ⊢
            rw [hFr.block bg hl (fun e => HBF.out (by omega) (.inl e))]
            exact hcb
          have hgd : ch.getD q false = ch[q] := by rw [List.getD_eq_getElem?_getD, List.getElem?_eq_getElem hkc]; rfl
          have hget : a.pend[q]? = some a.pend[q] := List.getElem?_eq_getElem hq3
          have hstep : a.durK ch (q + 1) = if ch[q] = true then applyS (a.durK ch q) a.pend[q].src a.pend[q].dst a.pend[q].file else a.durK ch q := by
            simp only [AS.durK, hget, hgd]
          have HST := Lib.hid hstep
          clear hR hFr hG hfv hpv hpcell ep hpad ep2 hcb hgd hget hstep HP
          cases hb : ch[q] with
          | true =>
            have HST2 : Hid (a.durK ch (q + 1) = applyS (a.durK ch q) a.pend[q].src a.pend[q].dst a.pend[q].file) := by show _ = _; rw [HST.out, hb, if_pos rfl]
            rw [hb] at hcb2
            clear hb HST
            obtain ⟨f, hf⟩ : ∃ f, a.pend[q].src = f := ⟨_, rfl⟩
            obtain ⟨t, ht⟩ : ∃ t, a.pend[q].dst = t := ⟨_, rfl⟩
            obtain ⟨x, hx⟩ : ∃ x, a.pend[q].file = x := ⟨_, rfl⟩
            rw [hf] at q0 HST2
            rw [ht] at q1 HST2
            rw [hx] at q2 HST2
            have hdl : (a.durK ch q).length ≤ 1000000 := by have h1 := a.durK_len ch q; have h2 := HK.out.ok.dp; have h3 := HM.out; omega
            have cA := Lib.hid (fun (w : World) (hw : Ri w B o' { a with dur := a.durK ch q }) => rapply_is B o'.uv f t x (a.durK ch q) w hw.dur hdl)
            have HAP := Lib.hid (rapp_apply (a.durK ch q) f t x (So.durK HK.out.ok ch q).1 (durK_ne HK.out ch q))
            clear hf ht hx hdl
            go_wp2_with fail
            go_region_with (go_at_call_of 49 o'.uv; refine (cA.out _ (by exact HR.out.2.2.2.1.kept (fun _ _ _ _ _ _ => rfl))).mono ?_; rintro e wA ⟨vA, rfl, hvA, hbA⟩; have HbA := Lib.hid (below_keep (u := wr) hbA rfl rfl rfl rfl); obtain ⟨adA, capA, rfl⟩ := own_slice hvA; have HvA := Lib.hid hvA; clear hvA hbA; have yA := (g_flags (HR.out.2.2.2.1.below HbA.out)).2.2.1; have fA := (g_flags (HR.out.2.2.2.1.below HbA.out)).2.2.2.2.2.2.2 2; rw [HR.out.1] at yA fA)
            all_goals
              have HB : B ≤ wr.heap.size := by have := lt_of_heap HR.out.2.2.2.1.fs; have := HR.out.2.2.2.1.bG; omega
              have hI1 := Lib.hid (dur_turn HR.out.2.2.2.1 HR.out.1 HbA.out HB (adA := adA) (capA := capA) (L := applyS (a.durK ch q) f t x) (by have h1 := HvA.out; rw [HAP.out] at h1; exact h1))
              have hFr1 := Lib.hid ((HR.out.2.2.2.2.trans (Fr.of_below HbA.out (fun k => k = o.G)) (fun _ _ e => e)).trans (Fr.set wA ⟨o.G, 2, none⟩ (.slice adA (List.length (rapp f.data.toList t.data.toList x t.toList.isEmpty (a.durK ch q))) capA) (fun k => k = o.G) rfl) (fun _ _ e => e))
              clear HB yA fA
              go_wp2_with fail
              go_roundw
              case rel =>
                refine ⟨q + 1, by omega, by go_num, ⟨⟨{ o' with uv := .slice adA (List.length (applyS (a.durK ch q) f t x)) capA }, HR.out.1, HR.out.2.1, HR.out.2.2.1, ?_⟩, hFr1.out⟩⟩
                rw [HST2.out, HAP.out]
                exact hI1.out
              case measure => simp [intOf]; omega
          | false =>
            have HST2 : Hid (a.durK ch (q + 1) = a.durK ch q) := by show _ = _; rw [HST.out, hb, if_neg (by decide)]
            rw [hb] at hcb2
            clear hb HST
            go_wp2_with fail
            go_roundw
            case rel =>
              refine ⟨q + 1, by omega, by go_num, ⟨⟨o', HR.out.1, HR.out.2.1, HR.out.2.2.1, ?_⟩, HR.out.2.2.2.2⟩⟩
              rw [HST2.out]
              exact HR.out.2.2.2.1
            case measure => simp [intOf]; omega
        · have g2 : decide ((q : Int) < (n : Int)) = false := decide_eq_false (by omega)
          have HE : Hid (a.durK ch m = a.durK ch q) := by
            show _ = _
            exact dur_stop a ch q m (by rw [← HV.out]; omega) hq
          clear hR hFr hG hfv hpv hpcell ep hpad ep2 HP
          go_wp2_with fail
          go_meet
          refine ⟨trivial, ⟨⟨o', HR.out.1, HR.out.2.1, HR.out.2.2.1, ?_⟩, HR.out.2.2.2.2⟩⟩
          rw [HE.out]
          exact HR.out.2.2.2.1
      · have g1 : decide ((q : Int) < (m : Int)) = false := decide_eq_false (by omega)
        have hqm : q = m := by omega
        subst hqm
        clear hR hFr hG hfv hpv hpcell ep hpad ep2
        go_wp2_with fail
        go_meet
        exact ⟨trivial, HP.out⟩
  case rest =>
    obtain ⟨-, HP⟩ := hcut
    obtain ⟨⟨o', hG, hfv, hpv, hR⟩, hFr⟩ := HP.out
    obtain ⟨D, hD⟩ : ∃ D, a.durK ch m = D := ⟨_, rfl⟩
    rw [hD] at hR
    have HD := Lib.hid hD
    obtain ⟨adU, capU, hu⟩ := own_slice hR.dur
    obtain ⟨c0, c1, c2, c3, -, -, -, fz⟩ := g_flags hR
    have hS1 := hR.set (j := 1) (v := o'.uv) (o' := { o' with dv := o'.uv }) (a' := { a with dur := D, names := D }) rfl (by unfold gCells armI; simp) hR.files hR.dur hR.dur hR.pend
    have hS2 := hS1.set (j := 3) (v := .slice none 0 0) (o' := { o' with dv := o'.uv, pv := .slice none 0 0 }) (a' := { a with dur := D, names := D, pend := [] }) rfl (by unfold gCells armI; simp) hS1.files hS1.dir hS1.dur ⟨rfl, .inl ⟨rfl, rfl⟩⟩
    have hFr2 : Fr W ((wc.setCell ⟨o.G, 1, none⟩ o'.uv).setCell ⟨o.G, 3, none⟩ (.slice none 0 0)) (fun k => k = o.G) := (hFr.trans (Fr.set _ _ _ (fun k => k = o.G) rfl) (fun _ _ e => e)).trans (Fr.set _ _ _ (fun k => k = o.G) rfl) (fun _ _ e => e)
    rw [hG] at c0 c1 c2 c3 fz
    have hS3 : Ri ((wc.setCell ⟨o.G, 1, none⟩ o'.uv).setCell ⟨o.G, 3, none⟩ (.slice none 0 0)) B { o' with dv := o'.uv, pv := .slice none 0 0 } { a with dur := D, names := D, pend := [] } := by rw [← hG]; exact hS2
    have f1 := fz 1
    have f3 := fz 3
    rw [hu] at c2 hS3 hFr2
    have HG := Lib.hid (And.intro hG hfv)
    clear hS1 hS2 hFr hR hpv fz HP hD hG hfv
    go_upto_region 7 with fail
    generalize (wc.setCell ⟨o.G, 1, none⟩ (.slice adU (List.length D) capU)).setCell ⟨o.G, 3, none⟩ (.slice none 0 0) = w2 at hS3 hFr2 ⊢
    obtain ⟨c0, -, -, -, -, -, -, fz⟩ := g_flags hS3
    have HPO : w2.ownsRow B 90 3 o'.fv a.files.length (a.files.flatMap fcells) := hS3.files
    obtain ⟨adF, capF, hfv⟩ := own_slice HPO
    have hGo : o'.G = o.G := HG.out.1
    have c0' : w2.cell? ⟨o.G, 0, none⟩ = some o'.fv := by rw [← hGo]; exact c0
    have f0 : w2.frozen? ⟨o.G, 0, none⟩ = false := by rw [← hGo]; exact fz 0
    have p1 := own_alloc (.cells #[] 90) HPO
    have e1 := heap_alloc_new w2 (.cells #[] 90)
    have q1 : Below w2.heap.size w2 (w2.alloc (.cells #[] 90)) := (Below.refl _ _).alloc (Nat.le_refl _) _
    have a0 := cell_alloc2 (.cells #[] 90) c0'
    rw [hfv] at c0' a0 p1
    obtain ⟨i0, hi, hz0, hz1, hz2⟩ := info_parts infoFr
    have II := Lib.hid (And.intro hi (And.intro hz0 (And.intro hz1 hz2)))
    have HE := Lib.hid e1
    have HPW := Lib.hid p1
    have HQ := Lib.hid q1
    have HI3 := Lib.hid hS3
    have HFr := Lib.hid hFr2
    obtain ⟨nf, hn2⟩ : ∃ nf, a.files.length = nf := ⟨_, rfl⟩
    have hnf2 : nf ≤ 1000000 := by have := HK.out.ok.files; omega
    have HN := Lib.hid hn2
    rw [hn2] at c0' a0 HPW
    clear hS3 hFr2 fz HPO hfv p1 e1 q1 hi hz0 hz1 hz2 hn2 c0 hGo c1 c2 c3 f1 f3 hu HI
    go_wp2_with (at_builtin; refine wpList_append_row _ rfl (.tmp 56) (.tmp 60) 76 rfl w2.heap.size B 90 i0 (.agg #[.string ByteArray.empty, .string ByteArray.empty, .bool false]) 3 40 Try.underlying76 II.out.1 II.out.2.1 II.out.2.2.1 II.out.2.2.2 rfl (by decide) _ 0 [] rfl (own_empty HE.out (Nat.le_refl _)) _ nf (a.files.flatMap fcells) rfl HPW.out (fcells_one a.files) ?a1 ?a2 ?a3 ?_)
    case a1 => unfold maxLen; omega
    case a2 => omega
    intro v3 w3 hown3 hg3 hb3
    have HB3 := Lib.hid (below_grew (u := w2) (S := w2.heap.size) hg3 HQ.out (by intro k hk; have hk2 := Option.some.inj hk; rw [← hk2]; exact Nat.le_refl _) (by rw [alloc_sz]; omega))
    obtain ⟨adV, capV, rfl⟩ := own_slice hown3
    try rw [Nat.zero_add, List.nil_append] at hown3
    try rw [Nat.zero_add]
    have HM3 := Lib.hid (files_copy HI3.out HG.out.1 HN.out HB3.out hown3)
    have z3 := (g_flags (HI3.out.below HB3.out)).1
    have f4 := (g_flags (HI3.out.below HB3.out)).2.2.2.2.2.2.2 0
    have hGo : o'.G = o.G := HG.out.1
    have z4 : w3.cell? ⟨o.G, 0, none⟩ = some o'.fv := by rw [← hGo]; exact z3
    have f5 : w3.frozen? ⟨o.G, 0, none⟩ = false := by rw [← hGo]; exact f4
    have HF3 := Lib.hid ((HFr.out.trans (Fr.of_below HB3.out (fun k => k = o.G)) (fun _ _ e => e)).trans (Fr.set w3 ⟨o.G, 0, none⟩ (.slice adV nf capV) (fun k => k = o.G) rfl) (fun _ _ e => e))
    have HF2S : Hid (W.heap.size ≤ w2.heap.size) := HFr.out.size
    clear hown3 hg3 hb3 z3 f4 hGo a0 c0' f0 HE HPW HQ II HFr HI3
    go_upto_region 8 with fail
    generalize w3.setCell ⟨o.G, 0, none⟩ (.slice adV nf capV) = w4 at HM3 HF3 ⊢
    clear z4 f5
    obtain ⟨o2, h2G, h2f, hM⟩ : ∃ o2 : RL, o2.G = o.G ∧ o2.fv = .slice adV nf capV ∧ Ri w4 B o2 { a with dur := D, names := D, pend := [] } := by
      refine ⟨_, ?_, ?_, HM3.out.1⟩
      · exact HG.out.1
      · rfl
    have H2 := Lib.hid (And.intro h2G h2f)
    have HC0 : Hid (Cf W w4 B o.G o2 { a with dur := D, names := D, pend := [] } a ls 0) := ⟨hM, HF3.out⟩
    have HVb : Hid (∀ g, (Value.slice adV nf capV).ownBlock = some g → W.heap.size ≤ g) := fun g hg => Nat.le_trans HF2S.out (HM3.out.2 g hg)
    clear hM h2G h2f HM3 HF3
    go_wp2_with fail
    go_loopw [7, 8] (fun nv i wr => ∃ k d : Nat, k ≤ nf ∧ i = .int .i64 k ∧ nv = .int .i64 d ∧ d ≤ k ∧ Hid (dirtyA (a.files.take k) = d) ∧ Hid (Cf W wr B o.G o2 { a with dur := D, names := D, pend := [] } a ls k)) (fun _ i _ => nf - (intOf i).toNat)
    case atStart => exact ⟨0, 0, Nat.zero_le _, rfl, rfl, Nat.le_refl _, rfl, HC0.out⟩
    case round =>
      clear HC0
      obtain ⟨k, d, hk, rfl, rfl, hdk, HDT, HP⟩ := hrel
      obtain ⟨c0, -, -, -, -, -, -, -⟩ := g_flags HP.out.ri
      rw [H2.out.1, H2.out.2] at c0
      by_cases hlt : k < nf
      · have hka : k < a.files.length := by rw [HN.out]; exact hlt
        obtain ⟨b, rfl, hcap, q0, q1, q2, fb⟩ := HP.out.at H2.out.2 HN.out hka
        obtain ⟨fd, hfd⟩ : ∃ fd, bs a.files[k].data = fd := ⟨_, rfl⟩
        obtain ⟨fr, hfr⟩ : ∃ fr, bs a.files[k].dur = fr := ⟨_, rfl⟩
        obtain ⟨fs, hfs⟩ : ∃ fs, a.files[k].synced = fs := ⟨_, rfl⟩
        rw [hfd] at q0
        rw [hfr] at q1
        rw [hfs] at q2
        have HX := Lib.hid (And.intro hfd (And.intro hfr hfs))
        have g1 : decide ((k : Int) < (nf : Int)) = true := decide_eq_true (by omega)
        clear hfd hfr hfs
        go_upto_if 82 with fail
        have HB5 := Lib.hid ((Below.refl wr.heap.size wr).alloc (Nat.le_refl _) (.cells #[.string fd, .string fr, .bool fs] 90))
        have HX5 := Lib.hid (heap_alloc_new wr (.cells #[.string fd, .string fr, .bool fs] 90))
        have hS : Hid (wr.heap.size = wr.heap.size) := rfl
        generalize hw5 : wr.alloc (.cells #[.string fd, .string fr, .bool fs] 90) = w5 at HB5 HX5 ⊢
        obtain ⟨S, hSS⟩ : ∃ S, wr.heap.size = S := ⟨_, rfl⟩
        have HSS := Lib.hid hSS
        rw [hSS] at HB5 HX5 ⊢
        clear c0 q0 q1 q2 hS hSS hw5
        obtain ⟨z0, z1, z2, zf⟩ := rfile_cells HX5.out
        have zf0 := zf 0
        go_cut [7, 10] from 64 to 118 (fun nv kv wx => ∃ (nd : ByteArray) (d' : Nat), nv = .int .i64 d' ∧ d' ≤ k + 1 ∧ Hid (dirtyA (a.files.take (k + 1)) = d') ∧ Hid (crashF (ls.getD d (-1)) a.files[k] = ⟨nd.data.toList, nd.data.toList, true⟩) ∧ Hid (Below S wr wx) ∧ Hid (wx.heap[S]? = some (.cells #[.string nd, .string fr, .bool fs] 90 (0, 0))))
        case first =>
          have HST := Lib.hid (dirtyA_step a.files k hka)
          cases fs with
          | true =>
            have HE1 : Hid (crashF (ls.getD d (-1)) a.files[k] = ⟨fd.data.toList, fd.data.toList, true⟩) := by
              have h1 := HK.out.sy a.files[k] (List.getElem_mem _) HX.out.2.2
              show crashF _ _ = _
              unfold crashF
              rw [if_pos HX.out.2.2, ← HX.out.1, bs_data]
              have h2 : a.files[k] = ⟨a.files[k].data, a.files[k].dur, a.files[k].synced⟩ := rfl
              rw [h2, h1, HX.out.2.2]
            have HE2 : Hid (dirtyA (a.files.take (k + 1)) = d) := by show _ = _; rw [HST.out, HX.out.2.2, HDT.out]; rfl
            go_wp2_with fail
            go_meet
            exact ⟨fd, d, rfl, by omega, HE2.out, HE1.out, HB5.out, HX5.out⟩
          | false =>
            have HE2 : Hid (dirtyA (a.files.take (k + 1)) = d + 1) := by show _ = _; rw [HST.out, HX.out.2.2, HDT.out]; rfl
            have hcr : ∀ x, crashF x a.files[k] = ⟨(if x < 0 then fr.data.toList else if x < (fd.data.toList.length : Int) then fd.data.toList.take x.toNat else fd.data.toList), (if x < 0 then fr.data.toList else if x < (fd.data.toList.length : Int) then fd.data.toList.take x.toNat else fd.data.toList), true⟩ := by
              intro x
              unfold crashF
              rw [if_neg (by rw [HX.out.2.2]; decide), ← HX.out.1, ← HX.out.2.1, bs_data, bs_data]
            have HCR := Lib.hid hcr
            clear hcr
            by_cases hdl : d < li
            · have g2 : decide ((d : Int) < (li : Int)) = true := decide_eq_true (by omega)
              obtain rfl := HIL.out.2.1 (by omega)
              have hdl2 : d < ls.length := by rw [HIL.out.1]; exact hdl
              have hcW := HIL.out.2.2.1 d hdl2
              have hcw5 : w5.cell? ⟨ig, ioff + d, none⟩ = some (.int .i64 ls[d]) := by
                have hl := lt_of_cell hcW
                have h1 := HP.out.fr.block ig hl (fun e => HIL.out.2.2.2 (by omega) ig rfl (.inl e))
                have h2 : ig < wr.heap.size := Nat.lt_of_lt_of_le hl HP.out.fr.size
                have h3 := HB5.out.block ig (by rw [← HSS.out]; exact h2)
                unfold World.cell? at hcW ⊢
                rw [h3, h1]
                exact hcW
              have HGD : Hid (ls.getD d (-1) = ls[d]) := by show _ = _; rw [List.getD_eq_getElem?_getD, List.getElem?_eq_getElem hdl2]; rfl
              obtain ⟨x, hx⟩ : ∃ x, ls[d] = x := ⟨_, rfl⟩
              rw [hx] at hcw5 HGD
              clear hx hcW
              by_cases hx0 : x < 0
              · have g3 : decide (x < (0 : Int)) = true := decide_eq_true hx0
                have HE1 : Hid (crashF (ls.getD d (-1)) a.files[k] = ⟨fr.data.toList, fr.data.toList, true⟩) := by
                  show crashF _ _ = _
                  rw [HGD.out, HCR.out]
                  simp only [if_pos hx0]
                go_wp2_with fail
                go_meet
                exact ⟨fr, d + 1, by go_num, by omega, HE2.out, HE1.out, Below.setA HB5.out _ _ (Nat.le_refl S), heap_setCell_same w5 S 0 _ _ _ HX5.out⟩
              · have g3 : decide (x < (0 : Int)) = false := decide_eq_false hx0
                by_cases hxl : x < (fd.size : Int)
                · have g4 : decide (x < (fd.size : Int)) = true := decide_eq_true hxl
                  have hxl2 : x < (fd.data.toList.length : Int) := hxl
                  have HE1 : Hid (crashF (ls.getD d (-1)) a.files[k] = ⟨(fd.extract 0 x.toNat).data.toList, (fd.extract 0 x.toNat).data.toList, true⟩) := by
                    show crashF _ _ = _
                    rw [HGD.out, HCR.out]
                    simp only [if_neg hx0, if_pos hxl2, extract_take2]
                  go_wp2_with fail
                  go_meet
                  exact ⟨(fd.extract 0 x.toNat), d + 1, by go_num, by omega, HE2.out, HE1.out, Below.setA HB5.out _ _ (Nat.le_refl S), heap_setCell_same w5 S 0 _ _ _ HX5.out⟩
                · have g4 : decide (x < (fd.size : Int)) = false := decide_eq_false hxl
                  have hxl2 : ¬ x < (fd.data.toList.length : Int) := hxl
                  have HE1 : Hid (crashF (ls.getD d (-1)) a.files[k] = ⟨fd.data.toList, fd.data.toList, true⟩) := by
                    show crashF _ _ = _
                    rw [HGD.out, HCR.out]
                    simp only [if_neg hx0, if_neg hxl2]
                  go_wp2_with fail
                  go_meet
                  exact ⟨fd, d + 1, by go_num, by omega, HE2.out, HE1.out, HB5.out, HX5.out⟩
            · have g2 : decide ((d : Int) < (li : Int)) = false := decide_eq_false (by omega)
              have HE1 : Hid (crashF (ls.getD d (-1)) a.files[k] = ⟨fr.data.toList, fr.data.toList, true⟩) := by
                show crashF _ _ = _
                rw [List.getD_eq_getElem?_getD, List.getElem?_eq_none (by rw [HIL.out.1]; omega), HCR.out]
                rfl
              go_wp2_with fail
              go_meet
              exact ⟨fr, d + 1, by go_num, by omega, HE2.out, HE1.out, Below.setA HB5.out _ _ (Nat.le_refl S), heap_setCell_same w5 S 0 _ _ _ HX5.out⟩
        case rest =>
          obtain ⟨nd, d', rfl, hd', HDD, HCF, HBx, HXx⟩ := hcut
          have hbx : Below wr.heap.size wr wc := by rw [HSS.out]; exact HBx.out
          have hR := HP.out.ri.below hbx
          obtain ⟨c0, -, -, -, -, -, -, -⟩ := g_flags hR
          rw [H2.out.1, H2.out.2] at c0
          obtain ⟨z0, -, -, -⟩ := rfile_cells HXx.out
          have HC1 : Hid (Cf W wc B o.G o2 { a with dur := D, names := D, pend := [] } a ls k) := ⟨hR, HP.out.fr.trans (Fr.of_below hbx (fun k => k = o.G)) (fun _ _ e => e)⟩
          obtain ⟨b', eb, -, q0, q1, q2, fb'⟩ := HC1.out.at H2.out.2 HN.out hka
          have hbb : b = b' := by injection eb with eb; injection eb
          subst hbb
          have f0 := fb' (k * 3)
          have f1 := fb' (k * 3 + 1)
          have f2 := fb' (k * 3 + 2)
          have HC2 := Lib.hid (HC1.out.step (d := d) (nd := nd) H2.out.2 HN.out hka HDT.out HCF.out (HVb.out b rfl))
          clear hbx hR eb fb' HC1 HP fb
          go_wp2_with fail
          go_still_tail 11, (by kernel_rfl)
          go_wp2_with fail
          go_roundw
          case rel => exact ⟨k + 1, d', by omega, by go_num, rfl, hd', HDD.out, HC2.out.heap rfl rfl rfl rfl⟩
          case measure => simp [intOf]; omega
      · have g1 : decide ((k : Int) < (nf : Int)) = false := decide_eq_false (by omega)
        have hkn : k = nf := by omega
        subst hkn
        have hR := HP.out.ri
        have hc : a.filesK ls k = a.filesK ls a.files.length := by rw [HN.out]
        obtain ⟨-, -, -, -, c4, c5, -, fz⟩ := g_flags hR
        have hS1 := hR.set (j := 4) (v := .bool false) (o' := o2) (a' := { a with files := a.filesK ls k, dur := D, names := D, pend := [], down := false }) rfl (by unfold gCells armI; simp) hR.files hR.dir hR.dur hR.pend
        have hS2 := hS1.set (j := 5) (v := .int .i64 (-1)) (o' := o2) (a' := { a with files := a.filesK ls k, dur := D, names := D, pend := [], down := false, armed := false }) rfl (by unfold gCells armI; simp) hS1.files hS1.dir hS1.dur hS1.pend
        have e : ({ a with files := a.filesK ls k, dur := D, names := D, pend := [], down := false, armed := false } : AS) = a.crash ch ls := by
          unfold AS.crash
          rw [HM.out, HD.out, hc]
        rw [e, H2.out.1] at hS2
        rw [H2.out.1] at c4 c5 fz
        have f4 := fz 4
        have f5 := fz 5
        have HS2 := Lib.hid hS2
        have HFF := Lib.hid ((HP.out.fr.trans (Fr.set wr ⟨o.G, 4, none⟩ (.bool false) (fun k => k = o.G) rfl) (fun _ _ e => e)).trans (Fr.set _ ⟨o.G, 5, none⟩ (.int .i64 (-1)) (fun k => k = o.G) rfl) (fun _ _ e => e))
        clear hR hc hS1 hS2 e fz HP
        go_wp2_with fail
        go_end0
        refine ⟨rfl, o2, H2.out.1, HS2.out, HFF.out.mono (fun k e => .inl e), ?_⟩
        rintro j (hj | hj)
        · exact .inl (.inl (by rw [hj, H2.out.1]))
        · rw [H2.out.2] at hj
          exact .inr (HVb.out j hj)
end Go.Proofs.Ytcobjjaicckgpaa.Vf
/- What each operation keeps, for the reference. -/
namespace Go.Proofs.Ytcobjjaicckgpaa.Vf
open Go Go.RowKit Go.Maps Go.Proofs.Ytcobjjaicckgpaa Go.Proofs.Ytcobjjaicckgpaa.Bs
set_option linter.unusedVariables false

section
variable {a : AS} {n : Nat}
/-- The parts of Rk that AS.Ok has not. -/
structure AS.Rx (a : AS) : Prop where
  hn : ∀ p ∈ a.names, p.1 ≠ []
  hd : ∀ p ∈ a.dur, p.1 ≠ []
  er : a.armed = true → a.err ≠ 0
  sy : ∀ f ∈ a.files, f.synced = true → f.dur = f.data
theorem AS.Rk.rx (h : a.Rk n) : a.Rx := ⟨h.hn, h.hd, h.er, h.sy⟩
theorem AS.Rx.rk (h : a.Rx) (k : a.Ok n) : a.Rk n := ⟨k, h.hn, h.hd, h.er, h.sy⟩
theorem AS.Rx.record (h : a.Rx) (c : AC) : (a.record c).Rx := ⟨ne_apply h.hn, h.hd, h.er, h.sy⟩
theorem AS.Rx.modify (h : a.Rx) (i : Nat) (g : AF → AF) (hg : ∀ f : AF, (f.synced = true → f.dur = f.data) → (g f).synced = true → (g f).dur = (g f).data) : AS.Rx { a with files := a.files.modify i g } where
  hn := h.hn
  hd := h.hd
  er := h.er
  sy := fun f hf hs => by
    obtain ⟨f0, h0, rfl | rfl⟩ := mem_modify hf
    · exact h.sy f h0 hs
    · exact hg f0 (h.sy f0 h0) hs
theorem AS.Rx.more (h : a.Rx) (l : List UInt8) : AS.Rx { a with files := a.files ++ [⟨l, [], false⟩] } where
  hn := h.hn
  hd := h.hd
  er := h.er
  sy := fun f hf hs => by
    rcases List.mem_append.1 hf with hf | hf
    · exact h.sy f hf hs
    · rw [List.mem_singleton] at hf
      rw [hf] at hs
      cases hs
theorem AS.Rx.put (h : a.Rx) (k : ByteArray) (l : List UInt8) : (AS.put k l a).2.Rx := by
  unfold AS.put
  split
  · exact h
  split
  · exact h.modify _ _ fun f _ hs => by cases hs
  · exact (h.more l).record _
theorem AS.Rx.sync (h : a.Rx) (k : ByteArray) : (AS.sync k a).2.Rx := by
  unfold AS.sync
  split
  · exact h
  · exact h.modify _ _ fun f _ _ => rfl
theorem AS.Rx.rename (h : a.Rx) (k t : ByteArray) : (AS.rename k t a).2.Rx := by
  unfold AS.rename
  split
  · exact h
  split
  · exact h
  split
  · exact h
  · exact h.record _
theorem AS.Rx.remove (h : a.Rx) (k : ByteArray) : (AS.remove k a).2.Rx := by
  unfold AS.remove
  split
  · exact h
  · exact h.record _
theorem AS.Rx.syncdir (h : a.Rx) : (AS.syncdir a).2.Rx := ⟨h.hn, h.hn, h.er, h.sy⟩
theorem AS.Rx.flags (h : a.Rx) (d r : Bool) (x : Int) (hr : r = true → a.err ≠ 0) : AS.Rx { a with down := d, armed := r, after := x } := ⟨h.hn, h.hd, hr, h.sy⟩
theorem AS.Rx.arm (h : a.Rx) (m e : Int) : (AS.arm m e a).2.Rx := by
  unfold AS.arm
  split
  · exact h
  split
  · exact h
  · rename_i h1 h2
    have h3 : e = 25 ∨ e = 26 ∨ e = 24 := Classical.byContradiction fun h4 => h1 (.inr h4)
    have h4 : e ≠ 0 := by omega
    exact ⟨h.hn, h.hd, fun _ => h4, h.sy⟩
theorem AS.Rx.op (h : a.Rx) (p : AS → Int × AS) (q : AS → AS) (hp : ∀ b : AS, b.Rx → (p b).2.Rx) (hq : ∀ b : AS, b.Rx → (q b).Rx) : (AS.op p q a).2.Rx := by
  unfold AS.op
  split
  · exact h
  split
  · exact hp _ h
  split
  · exact hp _ ⟨h.hn, h.hd, h.er, h.sy⟩
  · have h1 := hq _ (show AS.Rx { a with armed := false } from ⟨h.hn, h.hd, fun e => (by cases e), h.sy⟩)
    exact ⟨h1.hn, h1.hd, h1.er, h1.sy⟩
theorem AS.Rx.write (h : a.Rx) (k : ByteArray) (l : List UInt8) : (AS.op (AS.put k l) (AS.tear k l) a).2.Rx := h.op _ _ (fun b hb => hb.put k l) (fun b hb => hb.put k _)
theorem AS.Rx.opsync (h : a.Rx) (k : ByteArray) : (AS.op (AS.sync k) id a).2.Rx := h.op _ _ (fun b hb => hb.sync k) (fun b hb => hb)
theorem AS.Rx.oprename (h : a.Rx) (k t : ByteArray) : (AS.op (AS.rename k t) id a).2.Rx := h.op _ _ (fun b hb => hb.rename k t) (fun b hb => hb)
theorem AS.Rx.opremove (h : a.Rx) (k : ByteArray) : (AS.op (AS.remove k) id a).2.Rx := h.op _ _ (fun b hb => hb.remove k) (fun b hb => hb)
theorem AS.Rx.opsyncdir (h : a.Rx) : (AS.op AS.syncdir id a).2.Rx := h.op _ _ (fun b hb => hb.syncdir) (fun b hb => hb)
theorem AS.Rx.filesK (h : a.Rx) (ls : List Int) : ∀ k, ∀ f ∈ a.filesK ls k, f.synced = true → f.dur = f.data
  | 0 => h.sy
  | k + 1 => fun f hf hs => by
    obtain ⟨f0, h0, rfl | rfl⟩ := mem_modify hf
    · exact AS.Rx.filesK h ls k _ h0 hs
    · unfold crashF
      split
      · rename_i h1; exact AS.Rx.filesK h ls k f0 h0 h1
      · rfl
theorem AS.Rk.crash (h : a.Rk n) (ch : List Bool) (ls : List Int) : (a.crash ch ls).Rx :=
  ⟨durK_ne h ch _, durK_ne h ch _, fun e => (by cases e), h.rx.filesK ls _⟩
theorem AS.Rx.new : AS.new.Rx := ⟨fun p h => absurd h (by simp [AS.new]), fun p h => absurd h (by simp [AS.new]), fun e => (by cases e), fun f h => absurd h (by simp [AS.new])⟩
end
end Go.Proofs.Ytcobjjaicckgpaa.Vf
/- How the laws' arguments are opened. -/
namespace Go.Proofs.Ytcobjjaicckgpaa.VfO
open Go Go.ChangeShapes Go.WideShapes Go.ChangeAt Go.RowKit Go.Proofs.Ytcobjjaicckgpaa Go.Proofs.Ytcobjjaicckgpaa.Vf Go.Proofs.Ytcobjjaicckgpaa.Bs
set_option linter.unusedVariables false

theorem slice_at {P : Program} {w : World} {r : Reach} {base : Nat} {t e : TypeId} {v : Value} (ht : P.underlying t = some (.slice e)) (h : Value.okWide P w r base t v) : v = .slice none 0 0 ∨ ∃ g off len cap, v = .slice (some ⟨g, off, none⟩) len cap ∧ g < w.heap.size := by
  simp only [Value.okWide, ht, Cell.okWide] at h
  cases v with
  | slice a len cap =>
    cases a with
    | none =>
      left
      simp only [Cell.ok, ht] at h
      split at h <;> simp_all
    | some a =>
      right
      simp only [Cell.ok, ht] at h
      obtain ⟨-, -, -, h2, row, cells, h3, -⟩ := h
      obtain ⟨g, off, spot⟩ := a
      simp only at h2
      subst h2
      refine ⟨g, off, len, cap, rfl, ?_⟩
      unfold World.shape? at h3
      cases hb : w.heap[g]? with
      | none => simp [hb] at h3
      | some o => exact lt_of_heap hb
  | _ => simp_all [Cell.ok]
section
variable {H : Type} {enc : TypeId × Value → H} {W : World}
set_option maxRecDepth 100000 in
theorem bools_at {v : Value} {d : DataW H} {p : List MemPlace} {base : Nat} (hv : Value.okWide Try.prog W .any base 23 v) (h : DataW.Trod enc Try.prog W 0 (fun _ => true) true 23 v d p) {ts : List TypeId} {ds : List (DataW H)} {j : Nat} (hj : ts[j]? = some 23) (hd : ds[j]? = some d) (hsz : (DataW.weightsEach Try.prog ts ds).all (· ≤ reachBytes) = true) :
    ∃ ch, Bl W v ch ∧ ch.length ≤ 140737488355328 ∧ ∀ g, v.ownBlock = some g → g < W.heap.size := by
  obtain ⟨fuel, hf⟩ := h
  rcases slice_at Try.underlying23 hv with rfl | ⟨g, off, len, cap, rfl, hg⟩
  · exact ⟨[], Bl.emp W, by simp, fun g hg => by simp [Value.ownBlock] at hg⟩
  · rcases Go.Deep.open_bools Try.underlying23 Try.underlying4 (show Try.prog.cellsOf 4 = 1 by kernel_rfl) (show DataW.trod enc Try.prog W 0 (fun _ => true) true fuel 23 [.slice (some ⟨g, off, none⟩) len cap] = some (d, p) from by simpa [Value.cells] using hf) with ⟨hcs, _⟩ | ⟨a, len', cap', Bf, hcs, _, hl, hm, hx, hcell⟩
    · simp at hcs
    · simp only [List.cons.injEq, Value.slice.injEq, Option.some.injEq, and_true] at hcs
      obtain ⟨rfl, rfl, rfl⟩ := hcs
      simp only [Prod.mk.injEq] at hx
      obtain ⟨rfl, -⟩ := hx
      have hs := sized_slice hsz hj hd Try.underlying23
      have hby : Try.prog.bytesOf 4 = 1 := by kernel_rfl
      have h2 : reachBytes = 140737488351232 := by kernel_rfl
      refine ⟨(List.range len).map Bf, ⟨g, off, _, cap, by simp, fun _ => rfl, fun j hj => ?_⟩, ?_, fun g' hg' => by have e : g = g' := (by simpa [Value.ownBlock] using hg'); omega⟩
      · have hj2 : j < len := by simpa using hj
        have := hcell j (by omega)
        rw [show (⟨g, off, none⟩ : Addr).add j = ⟨g, off + j, none⟩ by simp [Addr.add]] at this
        simpa using this
      · rw [hby, Nat.mul_one, List.length_map, List.length_range] at hs
        simp only [List.length_map, List.length_range] at hs ⊢
        omega
set_option maxRecDepth 100000 in
theorem ints_at {v : Value} {d : DataW H} {p : List MemPlace} {base : Nat} (hv : Value.okWide Try.prog W .any base 24 v) (h : DataW.Trod enc Try.prog W 0 (fun _ => true) true 24 v d p) {ts : List TypeId} {ds : List (DataW H)} {j : Nat} (hj : ts[j]? = some 24) (hd : ds[j]? = some d) (hsz : (DataW.weightsEach Try.prog ts ds).all (· ≤ reachBytes) = true) :
    ∃ ls, Il W v ls ∧ ls.length ≤ 140737488355328 ∧ ∀ g, v.ownBlock = some g → g < W.heap.size := by
  obtain ⟨fuel, hf⟩ := h
  rcases slice_at Try.underlying24 hv with rfl | ⟨g, off, len, cap, rfl, hg⟩
  · exact ⟨[], Il.emp W, by simp, fun g hg => by simp [Value.ownBlock] at hg⟩
  · rcases Go.ChangeShapes.open_ints (k := .i64) Try.underlying24 Try.underlying3 (show Try.prog.cellsOf 3 = 1 by kernel_rfl) (show DataW.trod enc Try.prog W 0 (fun _ => true) true fuel 24 [.slice (some ⟨g, off, none⟩) len cap] = some (d, p) from by simpa [Value.cells] using hf) with ⟨hcs, _⟩ | ⟨a, len', cap', zs, hcs, _, hl, hm, hz, hx, hcell, hwz⟩
    · simp at hcs
    · simp only [List.cons.injEq, Value.slice.injEq, Option.some.injEq, and_true] at hcs
      obtain ⟨rfl, rfl, rfl⟩ := hcs
      simp only [Prod.mk.injEq] at hx
      obtain ⟨rfl, -⟩ := hx
      simp only [if_true] at hz
      have hs := sized_slice hsz hj hd Try.underlying24
      have hby : Try.prog.bytesOf 3 = 8 := by kernel_rfl
      have h2 : reachBytes = 140737488351232 := by kernel_rfl
      have hlen : (zs.take len).length = len := by rw [List.length_take]; omega
      refine ⟨zs.take len, ⟨g, off, _, cap, by rw [hlen], by rw [hlen]; exact hl, fun _ => rfl, fun j hj => ?_⟩, ?_, fun g' hg' => by have e : g = g' := (by simpa [Value.ownBlock] using hg'); omega⟩
      · have hj2 : j < len := by omega
        have := hcell j (by omega)
        rw [show (⟨g, off, none⟩ : Addr).add j = ⟨g, off + j, none⟩ by simp [Addr.add]] at this
        rw [List.getElem_take]
        rw [List.getD_eq_getElem?_getD, List.getElem?_eq_getElem (by omega)] at this
        simpa using this
      · rw [hlen]
        rw [hby] at hs
        simp [lits] at hs
        omega
end
end Go.Proofs.Ytcobjjaicckgpaa.VfO
/- The program's and the reference's file system side by side. -/
namespace Go.Proofs.Ytcobjjaicckgpaa.Vf
open Go Go.RowKit Go.Maps Go.Proofs.Ytcobjjaicckgpaa Go.Proofs.Ytcobjjaicckgpaa.Bs
set_option linter.unusedVariables false

/-- The types of the reference's blocks. -/
def refT (t : TypeId) : Prop := t = 80 ∨ t = 90 ∨ t = 92 ∨ t = 88
theorem Is.foot_ref {w : World} {B k : Nat} {o : Loc} {s : St} (h : Is w B o s) (hk : foot o s k) (cur : Array Value) (t : TypeId) (ht : refT t) (fr : Nat × Nat) : w.heap[k]? ≠ some (Obj.cells cur t fr) := by
  intro hc
  rcases hk with rfl | rfl | rfl | hk | hk | ⟨f, hf, rfl⟩
  · exact ne_of hc h.fs (by rcases ht with rfl | rfl | rfl | rfl <;> decide) rfl
  · exact h.names.neB hc rfl
  · exact h.dur.neB hc rfl
  · exact own_ne h.files hc (by rcases ht with rfl | rfl | rfl | rfl <;> decide) hk
  · exact own_ne h.pend hc (by rcases ht with rfl | rfl | rfl | rfl <;> decide) hk
  · obtain ⟨dv, rv, h1, _⟩ := h.each f hf
    exact ne_of hc h1 (by rcases ht with rfl | rfl | rfl | rfl <;> decide) rfl
theorem Fs.ne_ref {w : World} {B F : Nat} {Z p : Nat → Prop} {a : AS} (h : Fs w B F Z a p) {k : Nat} (hk : p k) (cur : Array Value) (t : TypeId) (ht : refT t) (fr : Nat × Nat) : w.heap[k]? ≠ some (Obj.cells cur t fr) := by
  obtain ⟨o, s, h1, h2, hI, hA, rfl⟩ := h
  exact hI.foot_ref hk cur t ht fr
theorem Ri.kind {w : World} {B k : Nat} {o : RL} {a : AS} (h : Ri w B o a) (hk : rfoot o k) : ∃ cur t fr, refT t ∧ w.heap[k]? = some (Obj.cells cur t fr) := by
  rcases hk with rfl | hk
  · exact ⟨_, _, _, .inl rfl, h.fs⟩
  · obtain ⟨cur, hc⟩ := own_block h.files hk
    exact ⟨cur, _, _, .inr (.inl rfl), hc⟩
theorem Ri.lt {w : World} {B k : Nat} {o : RL} {a : AS} (h : Ri w B o a) (hk : rfoot o k) : k < w.heap.size ∧ B ≤ k := by
  obtain ⟨cur, t, fr, ht, hc⟩ := h.kind hk
  refine ⟨lt_of_heap hc, ?_⟩
  rcases hk with rfl | hk
  · exact h.bG
  · exact (h.files.lt k hk).1
theorem Fs.ref_apart {w : World} {B B' F : Nat} {Z p : Nat → Prop} {o : RL} {a b : AS} (h : Fs w B F Z a p) (h' : Ri w B' o b) (k : Nat) (hk : p k) : ¬ rfoot o k := fun hr => by
  obtain ⟨cur, t, fr, ht, hc⟩ := h'.kind hr
  exact h.ne_ref hk cur t ht fr hc
/-- A call of the program's leaves the reference alone. -/
theorem Ri.apart {w w' : World} {B B' F : Nat} {Z p : Nat → Prop} {o : RL} {a b : AS} (h : Ri w B o b) (h' : Fs w B' F Z a p) (hf : Fr w w' p) : Ri w' B o b :=
  h.kept fun k cur t fr hk ht => hf.block k (lt_of_heap hk) fun e => h'.ne_ref e cur t ht fr hk
/-- A call of the reference's leaves the program's system alone. -/
theorem Fs.rapart {w w' : World} {B B' F : Nat} {Z p : Nat → Prop} {o : RL} {a b : AS} (h : Fs w B F Z a p) (h' : Ri w B' o b) (hf : Fr w w' (rfoot o)) : Fs w' B F Z a p :=
  h.kept (fun k hk => hf.block k (h.lt k hk).1 (h.ref_apart h' k hk)) (fun g cur fr hg => hf.block g (lt_of_heap hg) fun e => by
    obtain ⟨cur2, t, fr2, ht, hc⟩ := h'.kind e
    rw [hg] at hc
    injection hc with hc
    injection hc with _ h2
    subst h2
    rcases ht with h | h | h | h <;> exact absurd h (by decide))
/-- The program's system and the reference's, in one state. -/
structure Two (W w : World) (f : Nat) (o : RL) (a : AS) (p : Nat → Prop) : Prop where
  f : Fs w W.heap.size f Zn a p
  g : Ri w W.heap.size o a
  below : Below W.heap.size W w
theorem Two.under {W w w' : World} {f : Nat} {o : RL} {a : AS} {p : Nat → Prop} (t : Two W w f o a p) (hb : Below w.heap.size w w') : Two W w' f o a p :=
  ⟨t.f.below hb, t.g.below hb, t.below.trans (hb.mono t.below.size)⟩
/-- Both have made a step. -/
theorem Two.step {W w w1 w2 : World} {f : Nat} {o : RL} {a a' : AS} {p p' : Nat → Prop} (t : Two W w f o a p) (hf : Fs w1 W.heap.size f Zn a' p') (hr : Fr w w1 p) (hk : ∀ k, p' k → p k ∨ w.heap.size ≤ k) {o' : RL} (hg : Ri w2 W.heap.size o' a') (hr2 : Fr w1 w2 (rfoot o)) : Two W w2 f o' a' p' ∧ Fr w w2 (fun k => p k ∨ rfoot o k) := by
  have hg1 := t.g.apart t.f hr
  refine ⟨⟨hf.rapart hg1 hr2, hg, (t.below.trans (hr.below (fun k hk => (t.f.lt k hk).2) t.below.size)).trans (hr2.below (fun k hk => (t.g.lt hk).2) ?_)⟩, (hr.mono fun k h => .inl h).trans (hr2.mono fun k h => .inr h) (fun _ _ e => e)⟩
  exact Nat.le_trans t.below.size hr.size
end Go.Proofs.Ytcobjjaicckgpaa.Vf
/- A call of the laws: in plain words. -/
namespace Go.Proofs.Ytcobjjaicckgpaa.Vf
open Go Go.RowKit Go.Maps Go.Proofs.Ytcobjjaicckgpaa Go.Proofs.Ytcobjjaicckgpaa.Bs
set_option linter.unusedVariables false

/-- The laws' Act. -/
structure Ac where
  kind : Int
  name : ByteArray
  new : ByteArray
  data : ByteArray
  after : Int
  err : Int
  ch : List Bool
  ls : List Int
def AS.act (c : Ac) (a : AS) : Int × AS :=
  if c.kind = 0 then AS.op (AS.put c.name c.data.data.toList) (AS.tear c.name c.data.data.toList) a
  else if c.kind = 1 then AS.op (AS.sync c.name) id a
  else if c.kind = 2 then AS.op (AS.rename c.name c.new) id a
  else if c.kind = 3 then AS.op (AS.remove c.name) id a
  else if c.kind = 4 then AS.op AS.syncdir id a
  else if c.kind = 5 then AS.arm c.after c.err a
  else (0, a.crash c.ch c.ls)
/-- Small enough. -/
structure Ac.Sm (c : Ac) : Prop where
  name : c.name.size ≤ 1000000
  new : c.new.size ≤ 1000000
  data : c.data.size ≤ 1000000
  after : c.after ≤ 9223372036854775807
theorem AS.Ok.act {a : AS} {n : Nat} (h : a.Ok n) (c : Ac) (hc : c.Sm) : (AS.act c a).2.Ok (n + 1) := by
  unfold AS.act
  split
  · exact h.write _ _ hc.name (by have := hc.data; simpa using this)
  split
  · exact h.opsync _
  split
  · exact h.oprename _ _ hc.name hc.new
  split
  · exact h.opremove _ hc.name
  split
  · exact h.opsyncdir
  split
  · exact (h.arm _ _ hc.after).mono (Nat.le_succ n)
  · exact (h.crash _ _).mono (Nat.le_succ n)
theorem AS.Rk.act {a : AS} {n : Nat} (h : a.Rk n) (c : Ac) (hc : c.Sm) : (AS.act c a).2.Rk (n + 1) := by
  refine AS.Rx.rk ?_ (h.ok.act c hc)
  unfold AS.act
  split
  · exact h.rx.write _ _
  split
  · exact h.rx.opsync _
  split
  · exact h.rx.oprename _ _
  split
  · exact h.rx.opremove _
  split
  · exact h.rx.opsyncdir
  split
  · exact h.rx.arm _ _
  · exact h.crash _ _
end Go.Proofs.Ytcobjjaicckgpaa.Vf
