/- List. -/
import Derived.Test.YtcobjjaicckgpaaVfW21
import Derived.Test.YtcobjjaicckgpaaIter
namespace Go.Proofs.Ytcobjjaicckgpaa.Vf
open Go Go.RowKit Go.Maps Go.Proofs.Ytcobjjaicckgpaa Go.Proofs.Ytcobjjaicckgpaa.Bs
set_option linter.unusedVariables false

theorem lt_of_before : ∀ (a b : List UInt8), bytesBefore a b = true → a < b
  | [], [], h => by cases h
  | [], _ :: _, _ => List.nil_lt_cons _ _
  | _ :: _, [], h => by cases h
  | a :: r, b :: s, h => by
    simp only [bytesBefore, Bool.or_eq_true, decide_eq_true_eq, Bool.and_eq_true, beq_iff_eq] at h
    rw [List.cons_lt_cons_iff]
    rcases h with h | ⟨h1, h2⟩
    · exact .inl h
    · exact .inr ⟨h1, lt_of_before r s h2⟩
/-- The names, in ascending order. -/
def So (m : Nm) : Prop := m.Pairwise fun p q => bytesBefore p.1 q.1 = true
theorem sort_names (m : Nm) (h : So m) (ss : List (List UInt8)) (hp : ss.Perm (strKeys (Dm m))) : ss.mergeSort (fun x y => decide (x ≤ y)) = m.map (·.1) := by
  have hk : strKeys (Dm m) = m.map (·.1) := by
    unfold Dm strKeys
    simp only [List.map_map]
    rfl
  rw [hk] at hp
  refine (Go.mergeSort_of_perm hp).trans ?_
  have tr : ∀ a b c : List UInt8, leB a b = true → leB b c = true → leB a c = true := fun a b c h1 h2 => by simp only [leB, decide_eq_true_eq] at *; exact List.le_trans h1 h2
  have to : ∀ a b : List UInt8, (leB a b || leB b a) = true := fun a b => by simp only [leB, Bool.or_eq_true, decide_eq_true_eq]; exact List.le_total a b
  have hs : (m.map (·.1)).Pairwise fun a b => leB a b = true := by
    rw [List.pairwise_map]
    refine h.imp fun {p q} hpq => ?_
    simp only [leB, decide_eq_true_eq]
    exact List.le_of_lt (lt_of_before _ _ hpq)
  refine List.Perm.eq_of_pairwise (le := fun a b => leB a b = true) (fun a b _ _ h1 h2 => ?_) (List.pairwise_mergeSort tr to _) hs (List.mergeSort_perm _ _)
  simp only [leB, decide_eq_true_eq] at h1 h2
  exact List.le_antisymm h1 h2
theorem own_base {w : World} {b c n size : Nat} {e : TypeId} {v : Value} {xs : List Value} (h : w.ownsRow c e size v n xs) (hb : b ≤ c) : w.ownsRow b e size v n xs := by
  refine ⟨h.1, ?_⟩
  rcases h.2 with h0 | ⟨g, cap, cur, e1, h1, r⟩
  · exact .inl h0
  · exact .inr ⟨g, cap, cur, e1, Nat.le_trans hb h1, r⟩
set_option maxRecDepth 100000 in
set_option maxHeartbeats 4000000 in
theorem sorted_is (F o b : Nat) (m : Nm) (W : World) (hs : So m) (hm : m.length ≤ 1000000) (hc : W.cell? ⟨F, o, none⟩ = some (.map (some b))) (hD : Dir W b m) :
    Calls Try.prog 50 #[.pointer (some ⟨F, o, none⟩)] W fun e w' => ∃ v, e = .returned v ∧ w'.ownsRow W.heap.size 9 1 v m.length (m.map fun p => encStr p.1) ∧ Below W.heap.size W w' := by
  have hsz : Maps.size (Dm m) = m.length := by simp [Dm, Maps.size]
  have cK := Lib.hid (callsIn_wide.1 (Try.maps_Keys_59 (some b) W))
  have cS := Lib.hid (callsIn_wide.1 (Try.slices_Sorted_keys_58_59 b m.length (Dm m) Rp W hD.tight (by rw [hsz]; unfold maxLen; omega) (by rw [hsz]; omega)))
  have HB := Lib.hid ((Below.refl W.heap.size W).alloc (Nat.le_refl _) (.cells #[.map (some b)] 58))
  clear hD
  go_enter Try.func50, Try.ntmps50
  go_wp2_with fail
  refine cK.out.mono ?_
  rintro e w1 ⟨rfl, rfl⟩
  go_wp2_with fail
  refine cS.out.mono ?_
  rintro e w2 ⟨v, ss, rfl, hp, ho, -, hb⟩
  rw [sort_names m hs ss hp] at ho
  have hlen : ss.length = m.length := by
    rw [hp.length_eq]
    unfold Dm strKeys
    simp
  rw [hlen, List.map_map] at ho
  have H := Lib.hid (And.intro (own_base (b := W.heap.size) ho HB.out.size) (below_trans HB.out hb))
  clear hp ho hb
  go_wp2_with fail
  go_ret
  exact ⟨v, rfl, H.out.1, H.out.2⟩
set_option maxRecDepth 100000 in
set_option maxHeartbeats 4000000 in
theorem list_nil (W : World) :
    Calls Try.prog 25 #[.pointer none] W fun e w' => e = .returned (.slice none 0 0) ∧ w' = W := by
  go_enter Try.func25, Try.ntmps25
  go_wp2_with fail
  go_ret
  exact ⟨rfl, rfl⟩
set_option maxRecDepth 100000 in
set_option maxHeartbeats 4000000 in
theorem list_down (B : Nat) (o : Loc) (s : St) (W : World) (h : Is W B o s) (hd : s.down = true) :
    Calls Try.prog 25 #[.pointer (some ⟨o.F, 0, none⟩)] W fun e w' => e = .returned (.slice none 0 0) ∧ w' = W := by
  obtain ⟨-, -, c4, -⟩ := fs_flags h.fs
  rw [hd] at c4
  clear h
  go_enter Try.func25, Try.ntmps25
  go_wp2_with fail
  go_ret
  exact ⟨rfl, rfl⟩
set_option maxRecDepth 100000 in
set_option maxHeartbeats 4000000 in
theorem list_up (B : Nat) (o : Loc) (s : St) (W : World) (h : Is W B o s) (hd : s.down = false) (hs : So s.names) (hm : s.names.length ≤ 1000000) :
    Calls Try.prog 25 #[.pointer (some ⟨o.F, 0, none⟩)] W fun e w' => ∃ v, e = .returned v ∧ w'.ownsRow W.heap.size 9 1 v s.names.length (s.names.map fun p => encStr p.1) ∧ Below W.heap.size W w' := by
  obtain ⟨-, -, c4, -⟩ := fs_flags h.fs
  rw [hd] at c4
  have cS := Lib.hid (sorted_is o.F 0 o.nb s.names W hs hm (fs_at0 h.fs) h.names)
  clear h
  go_enter Try.func25, Try.ntmps25
  go_wp2_with fail
  refine cS.out.mono ?_
  rintro e w2 ⟨v, rfl, H⟩
  have HH := Lib.hid H
  clear H
  go_wp2_with fail
  go_ret
  exact ⟨v, rfl, HH.out⟩
def AS.list (a : AS) : List (List UInt8) := if a.down = true then [] else a.names.map (·.1)
theorem list_is (B : Nat) (o : Loc) (s : St) (a : AS) (W : World) (h : Is W B o s) (ha : Ab a s) (hs : So a.names) (hm : a.names.length ≤ 1000000) :
    Calls Try.prog 25 #[.pointer (some ⟨o.F, 0, none⟩)] W fun e w' => ∃ v, e = .returned v ∧ w'.ownsRow W.heap.size 9 1 v a.list.length (a.list.map encStr) ∧ Below W.heap.size W w' := by
  obtain ⟨bl, rfl⟩ := id ha
  unfold AS.list
  cases hd : a.down with
  | true =>
    refine (list_down B o _ W h hd).mono ?_
    rintro e w' ⟨rfl, rfl⟩
    exact ⟨_, rfl, ⟨rfl, .inl ⟨rfl, rfl⟩⟩, Below.refl _ _⟩
  | false =>
    have hso : So (conc bl a).names := by
      show So (cn bl a.names)
      unfold So cn
      rw [List.pairwise_map]
      exact hs
    refine (list_up B o _ W h hd hso (by simpa [conc, cn_len] using hm)).mono ?_
    rintro e w' ⟨v, rfl, h1, h2⟩
    refine ⟨v, rfl, ?_, h2⟩
    rw [if_neg (by decide)]
    have e1 : (conc bl a).names.length = (a.names.map (·.1)).length := by simp [conc, cn]
    have e2 : ((conc bl a).names.map fun p => encStr p.1) = (a.names.map (·.1)).map encStr := by simp [conc, cn]
    rw [e1, e2] at h1
    exact h1
end Go.Proofs.Ytcobjjaicckgpaa.Vf
