/- Directories as sorted lists. -/
import Derived.Test.YtcobjjaicckgpaaVfW22
namespace Go.Proofs.Ytcobjjaicckgpaa.Vf
open Go Go.RowKit Go.Maps Go.Proofs.Ytcobjjaicckgpaa Go.Proofs.Ytcobjjaicckgpaa.Bs
set_option linter.unusedVariables false

theorem So.del {m : Nm} (h : So m) (k : List UInt8) : So (delS m k) := List.Pairwise.filter _ h
theorem mem_ins (x : List UInt8 × Nat) : ∀ (m : Nm) (p : List UInt8 × Nat), p ∈ insS x m ↔ p = x ∨ p ∈ m
  | [], p => by simp [insS]
  | y :: r, p => by
    unfold insS
    split
    · simp
    · simp only [List.mem_cons, mem_ins x r p]
      constructor
      · rintro (h | h | h)
        · exact .inr (.inl h)
        · exact .inl h
        · exact .inr (.inr h)
      · rintro (h | h | h)
        · exact .inr (.inl h)
        · exact .inl h
        · exact .inr (.inr h)
theorem before_or (a b : List UInt8) (h : a ≠ b) (hn : bytesBefore a b = false) : bytesBefore b a = true := by
  rcases WideAt.bytes_total a b h with h1 | h1
  · rw [hn] at h1; cases h1
  · exact h1
theorem So.ins {x : List UInt8 × Nat} : ∀ {m : Nm}, So m → (∀ p ∈ m, p.1 ≠ x.1) → So (insS x m)
  | [], _, _ => by simp [insS, So]
  | y :: r, h, hn => by
    unfold So at h
    rw [List.pairwise_cons] at h
    obtain ⟨h1, h2⟩ := h
    unfold insS
    cases e : bytesBefore x.1 y.1 with
    | true =>
      simp only [if_true]
      unfold So
      rw [List.pairwise_cons]
      refine ⟨fun p hp => ?_, by rw [List.pairwise_cons]; exact ⟨h1, h2⟩⟩
      rcases List.mem_cons.1 hp with rfl | hp
      · exact e
      · exact WideShapes.bytes_trans _ _ _ e (h1 p hp)
    | false =>
      simp only [Bool.false_eq_true, if_false]
      unfold So
      rw [List.pairwise_cons]
      refine ⟨fun p hp => ?_, So.ins h2 (fun p hp => hn p (List.mem_cons_of_mem _ hp))⟩
      rcases (mem_ins x r p).1 hp with rfl | hp
      · exact before_or _ _ (fun e2 => hn y (List.mem_cons_self) e2.symm) e
      · exact h1 p hp
theorem del_ne {m : Nm} {k : List UInt8} : ∀ p ∈ delS m k, p.1 ≠ k := fun p hp e => by
  have := (List.mem_filter.1 hp).2
  simp [e] at this
theorem So.put {m : Nm} (h : So m) (k : List UInt8) (i : Nat) : So (putS m k i) := (h.del k).ins del_ne
theorem So.nil : So [] := List.Pairwise.nil
theorem find_ins (x : List UInt8 × Nat) (k : List UInt8) : ∀ m : Nm, (∀ p ∈ m, p.1 ≠ x.1) → findS (insS x m) k = if x.1 = k then some x.2 else findS m k
  | [], _ => by
    unfold insS findS
    simp only [List.find?_cons]
    by_cases e : x.1 = k
    · simp [e]
    · have e2 : (x.1 == k) = false := by simpa using e
      simp [e, e2]
  | y :: r, hn => by
    have ih := find_ins x k r (fun p hp => hn p (List.mem_cons_of_mem _ hp))
    unfold insS
    split
    · unfold findS
      simp only [List.find?_cons]
      by_cases e : x.1 = k
      · simp [e]
      · have e2 : (x.1 == k) = false := by simpa using e
        simp [e, e2]
    · unfold findS at ih ⊢
      simp only [List.find?_cons]
      by_cases e : y.1 = k
      · have e3 : x.1 ≠ k := fun e4 => hn y (List.mem_cons_self) (e.trans e4.symm)
        simp [e, e3]
      · have e2 : (y.1 == k) = false := by simpa using e
        simp only [e2]
        exact ih
theorem find_del (m : Nm) (k k' : List UInt8) : findS (delS m k) k' = if k = k' then none else findS m k' := by
  unfold findS delS
  induction m with
  | nil => simp
  | cons y r ih =>
    simp only [List.filter_cons, List.find?_cons]
    by_cases e : y.1 = k
    · have e2 : (y.1 == k) = true := by simpa using e
      simp only [e2, Bool.not_true, Bool.false_eq_true, if_false]
      rw [ih]
      by_cases e3 : k = k'
      · simp [e3]
      · have e4 : (y.1 == k') = false := by rw [e]; simpa using e3
        simp [e3, e4]
    · have e2 : (y.1 == k) = false := by simpa using e
      simp only [e2, Bool.not_false, if_true, List.find?_cons]
      by_cases e3 : y.1 = k'
      · have e4 : (y.1 == k') = true := by simpa using e3
        have e5 : k ≠ k' := fun e6 => e (e3.trans e6.symm)
        simp [e4, e5]
      · have e4 : (y.1 == k') = false := by simpa using e3
        simp only [e4]
        exact ih
theorem find_put (m : Nm) (k : List UInt8) (i : Nat) (k' : List UInt8) : findS (putS m k i) k' = if k = k' then some i else findS m k' := by
  unfold putS
  rw [find_ins _ _ _ del_ne, find_del]
  simp only
  split <;> rfl
theorem find_none_iff (m : Nm) (k : List UInt8) : findS m k = none ↔ ∀ p ∈ m, p.1 ≠ k := by
  unfold findS
  rw [Option.map_eq_none_iff, List.find?_eq_none]
  constructor
  · intro h p hp e
    exact h p hp (by simpa using e)
  · intro h p hp
    simpa using h p hp
theorem So.find {m : Nm} (h : So m) {p : List UInt8 × Nat} (hp : p ∈ m) : findS m p.1 = some p.2 := by
  induction m with
  | nil => cases hp
  | cons y r ih =>
    unfold So at h
    rw [List.pairwise_cons] at h
    unfold findS
    simp only [List.find?_cons]
    rcases List.mem_cons.1 hp with rfl | hp
    · simp
    · have e : y.1 ≠ p.1 := fun e => by
        have := h.1 p hp
        rw [e, WideAt.bytes_irrefl] at this
        cases this
      have e2 : (y.1 == p.1) = false := by simpa using e
      simp only [e2]
      exact ih h.2 hp
theorem So.ext {m m' : Nm} (h : So m) (h' : So m') (he : ∀ k, findS m k = findS m' k) : m = m' := by
  refine List.Perm.eq_of_pairwise (le := fun (p q : List UInt8 × Nat) => bytesBefore p.1 q.1 = true) (fun a b ha hb h1 h2 => ?_) h h' ?_
  · have := WideShapes.bytes_trans _ _ _ h1 h2
    rw [WideAt.bytes_irrefl] at this
    cases this
  · have nd : ∀ {l : Nm}, So l → l.Nodup := fun {l} hl => hl.imp fun {p q} hpq e => by
      subst e
      rw [WideAt.bytes_irrefl] at hpq
      cases hpq
    refine (List.perm_ext_iff_of_nodup (nd h) (nd h')).2 fun p => ?_
    constructor
    · intro hp
      have := h.find hp
      rw [he] at this
      exact find_mem this
    · intro hp
      have := h'.find hp
      rw [← he] at this
      exact find_mem this
end Go.Proofs.Ytcobjjaicckgpaa.Vf
