/- Clone's closure: a directory of copies. -/
import Derived.Test.YtcobjjaicckgpaaVfW26
import Derived.Test.YtcobjjaicckgpaaVf3
namespace Go.Proofs.Ytcobjjaicckgpaa.Vf
open Go Go.RowKit Go.Maps Go.Proofs.Ytcobjjaicckgpaa Go.Proofs.Ytcobjjaicckgpaa.Bs
set_option linter.unusedVariables false

/-- What the map of copies tells. -/
structure Cps (w : World) (bl bl' : Nat → Nat) (cb n ck : Nat) : Prop where
  map : w.heap[cb]? = some (.map (cmap bl bl' n) ck)
  isF : ∀ i, i < n → IsF w (bl i)
  inj : ∀ i j, i < n → j < n → bl i = bl j → i = j
theorem Cps.look {w : World} {bl bl' : Nat → Nat} {cb n ck j : Nat} (h : Cps w bl bl' cb n ck) (hj : j < n) : (Instr.lookup 93 (.map (some cb)) (fptr (bl j)) false).run Try.prog w = .ok (fptr (bl' j)) w :=
  copies_look w bl bl' cb j n ck h.map hj h.isF (fun i hi e => h.inj i j hi hj e.symm)
theorem Cps.kept {w w' : World} {bl bl' : Nat → Nat} {cb n ck : Nat} (h : Cps w bl bl' cb n ck) (hb : Below w.heap.size w w') : Cps w' bl bl' cb n ck where
  map := by rw [hb.block cb (lt_of_heap h.map)]; exact h.map
  isF := fun i hi => by
    obtain ⟨cs, hc⟩ := h.isF i hi
    exact ⟨cs, by rw [hb.block _ (lt_of_heap hc)]; exact hc⟩
  inj := h.inj
theorem Cps.at {w w' : World} {bl bl' : Nat → Nat} {cb n ck : Nat} {B : Nat} (h : Cps w bl bl' cb n ck) (hb : Below B w w') (hB : w.heap.size ≤ B) : Cps w' bl bl' cb n ck := h.kept (hb.mono hB)
/-- The copies that have been laid so far: those whose names are no longer to come. -/
def Part (m M : Nm) (left : Lit → Bool) : Prop := ∀ k, findS M k = if left (.string k) = true then none else findS m k
theorem invK : ∀ (key : Value) (kl : Lit), keyOf Try.prog 9 key = some kl → ∃ x : ByteArray, key = .string x := fun key kl h => by
  obtain ⟨x, e, _⟩ := Go.Maps.keyOf_str Try.underlying9 h
  exact ⟨⟨x.toArray⟩, e⟩
theorem invV : ∀ (v : Value) (y : DataW Nat × List MemPlace), Rp v = some y → ∃ c : Option Nat, v = fptrO c := fun v y h => by
  obtain ⟨d, ps⟩ := y
  rcases Rp_inv h with ⟨e, _⟩ | ⟨b, e, _⟩
  · exact ⟨none, e⟩
  · exact ⟨some b, e⟩
theorem keyLit {x : ByteArray} {kl : Lit} (h : keyOf Try.prog 9 (.string x) = some kl) : kl = .string x.data.toList := by
  obtain ⟨y, e, hk, _⟩ := Go.Maps.keyOf_str Try.underlying9 h
  have : x = ⟨y.toArray⟩ := by
    injection e
  subst this
  rw [hk]
theorem step_file {bl : Nat → Nat} {m : Nm} {k : List UInt8} {c : Option Nat} {y : DataW Nat × List MemPlace} (hv : Rp (fptrO c) = some y) (hat : ∀ zd, (Dm (cn bl m)).atKey (.string k) zd = y.1) : ∃ i, findS m k = some i ∧ c = some (bl i) := by
  have h1 := hat (dt 0)
  have h2 := hat dnil
  rw [Dm_at, cn_find] at h1 h2
  cases e : findS m k with
  | none =>
    rw [e] at h1 h2
    have h1 : dt 0 = y.1 := h1
    have h2 : dnil = y.1 := h2
    exact absurd (h1.trans h2.symm) (dt_ne 0)
  | some i =>
    rw [e] at h1
    have h1 : dt (bl i) = y.1 := h1
    refine ⟨i, rfl, ?_⟩
    cases c with
    | none =>
      have : y = (dnil, []) := (Option.some.inj (Rp_nil.symm.trans hv)).symm
      rw [this] at h1
      exact absurd h1 (dt_ne _)
    | some b =>
      have : y = (dt b, []) := (Option.some.inj ((Rp_ptr b).symm.trans hv)).symm
      rw [this] at h1
      have e3 : (dt (bl i) : DataW Nat) = dt b := h1
      unfold dt at e3
      injection e3 with e3
      injection e3 with _ e3
      congr 1
      omega
set_option maxRecDepth 100000 in
set_option maxHeartbeats 4000000 in
theorem move_is (W : World) (bl bl' : Nat → Nat) (mb cbox cb n ck : Nat) (m : Nm) (hD : Dir W mb (cn bl m)) (hS : So m) (hm : ∀ p ∈ m, p.2 < n) (hl : m.length ≤ 1000000) (hbox : W.cell? ⟨cbox, 0, none⟩ = some (.map (some cb))) (hC : Cps W bl bl' cb n ck) :
    Calls Try.prog 52 #[.map (some mb), .pointer (some ⟨cbox, 0, none⟩)] W fun e w' => e = .returned (.map (some W.heap.size)) ∧ Dir w' W.heap.size (cn bl' m) ∧ Below W.heap.size W w' := by
  have hmm := @run_makeMap Try.prog
  have hown := hD.tight
  have hbl := hD.lt
  have hcl := lt_of_cell hbox
  have e1 : (W.alloc (.map #[] 0)).heap.size = W.heap.size + 1 := alloc_sz _ _
  have hsz : Maps.size (Dm (cn bl m)) = m.length := by simp [Dm, Maps.size, cn_len]
  have HC := Lib.hid hC
  have HB := Lib.hid hbox
  have HS := Lib.hid hS
  have HM := Lib.hid hm
  clear hbox hC hS hm
  go_enter Try.func52, Try.ntmps52
  go_wp2_with (first
    | (at_range; refine wpList_range_own _ rfl _ 58 rfl 9 66 law Try.underlying58 _ mb _ _ rfl (hown.alloc _) ?_; intro w0 hrg0 hg0 hs0)
    | go_in)
  try go_frame
  rw [e1] at hrg0 hs0
  go_loopw [5] (fun _ wr => ∃ (left : Lit → Bool) (cnt : Nat) (M : Nm), wr.ranges Try.prog 9 Rp mb (W.heap.size + 1) (cn bl m).length (Dm (cn bl m)) left cnt ∧ cnt ≤ m.length ∧
      wr.ownsMap Try.prog 9 Rp W.heap.size (m.length - cnt) (Dm (cn bl' M)) ∧ Hid (Part m M left) ∧ Hid (So M) ∧ Hid (Below W.heap.size W wr))
    (fun _ wr => wr.rangeLeft mb (W.heap.size + 1))
  case atStart =>
    refine ⟨_, _, [], hrg0, by rw [hsz]; exact Nat.le_refl _, ((World.ownsMap_made _ _ _ _).kept hg0 (by simp)).mono (Nat.zero_le _), ?_, So.nil, ((Below.refl _ _).alloc (Nat.le_refl _) _).grown hg0 (by simp) (fun j hj => by cases hj)⟩
    intro k
    show none = _
    rw [Dm_has, cn_find]
    cases findS m k <;> rfl
  case round =>
    obtain ⟨left, cnt, M, hrg, hcs, hout, hA, hSM, hnx⟩ := hrel
    go_wp2_with (first
      | (at_next; refine wpList_next_ranges _ rfl _ rfl 9 law Rp Value.string fptrO invK invV mb (W.heap.size + 1) _ _ _ _ rfl hrg ?_ ?_)
      | go_in)
    · intro hc0 hl0
      have HR := Lib.hid (show M = m from hSM.out.ext HS.out (fun k => by have := hA.out k; rw [hl0] at this; simpa using this))
      have HO := Lib.hid (And.intro hout hnx.out)
      clear hout hnx hA hSM hrg hrg0 hg0
      go_wp2_with fail
      go_ret
      have hfin := HO.out.1
      rw [HR.out] at hfin
      exact ⟨rfl, ⟨_, hfin⟩, HO.out.2⟩
    · intro x c kl d ps w1 cnt1 hkey hlx hv hat hrg1 hlt hg1 hs1 hen
      have hkl := keyLit hkey
      subst hkl
      obtain ⟨i, hfi, rfl⟩ := step_file (y := (d, ps)) hv hat
      have hin : i < n := HM.out _ (find_mem hfi)
      have hout1 := hout.kept hg1 (by simp)
      have hb1 : Below W.heap.size W w1 := hnx.out.grown hg1 hnx.out.size (fun j hj => by cases hj; exact Nat.le_succ _)
      have hlook := (HC.out.kept hb1).look hin
      have hbox1 : w1.cell? ⟨cbox, 0, none⟩ = some (.map (some cb)) := by
        have := HB.out
        unfold World.cell? at this ⊢
        rw [hb1.block cbox hcl]
        exact this
      obtain ⟨w2, hupd, hout2, hg2⟩ := hout1.update (t := 58) law Try.underlying58 (by unfold maxLen; omega) hkey (Rp_ptr (bl' i))
      rw [Dm_put, cn_put] at hout2
      have hb2 := hb1.grown hg2 (by have := hb1.size; omega) (fun j hj => by cases hj; exact Nat.le_refl _)
      have hrg2 := hrg1.kept hg2 (fun e => by have := Option.some.inj e; omega) (fun e => by have := Option.some.inj e; omega)
      have HP : Hid (Part m (putS M x.data.toList i) (fun z => left z && !z.sameKey (.string x.data.toList))) := by
        intro k
        rw [find_put]
        by_cases e : x.data.toList = k
        · subst e
          have e3 : Lit.sameKey (.string x.data.toList) (.string x.data.toList) = true := by simp [Lit.sameKey]
          simp [e3, hfi]
        · have e3 : Lit.sameKey (.string k) (.string x.data.toList) = false := by
            show (k == x.data.toList) = false
            simpa using fun e4 => e e4.symm
          rw [if_neg e, hA.out k]
          simp [e3]
      have HO := Lib.hid (And.intro hrg2 (And.intro hout2 (And.intro (hSM.out.put x.data.toList i) hb2)))
      have HL := Lib.hid hrg.left_eq
      have HL2 := Lib.hid hrg2.left_eq
      clear hrg hout hA hSM hnx hrg1 hout1 hb1 hrg2 hout2 hb2 hv hat hg1 hg2 hrg0 hg0 hown hkey hfi
      simp only [fptrO] at hen ⊢
      go_wp2_with fail
      go_roundw
      case rel => exact ⟨_, cnt1, _, HO.out.1, by omega, HO.out.2.1.mono (by omega), HP.out, HO.out.2.2.1, HO.out.2.2.2⟩
      case measure => rw [HL2.out, HL.out]; exact hlt
end Go.Proofs.Ytcobjjaicckgpaa.Vf
