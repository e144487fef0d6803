/- How long the text of a small archive is, in plain words. -/
import Derived.Test.YtjaojenalodolaaGreatDoorKW
import Derived.Lib.ItoaLen
namespace Go.Proofs.YtjaojenalodolaaGreatDoor.Ms
open Go Go.Proofs.YtjaojenalodolaaGreatDoor
set_option linter.unusedVariables false
theorem mem_sum {α : Type} (f : α → Nat) : ∀ {l : List α} {x : α}, x ∈ l → f x ≤ (l.map f).sum
  | y :: r, x, h => by
    rw [List.map_cons, List.sum_cons]
    rcases List.mem_cons.1 h with rfl | h
    · omega
    · have := mem_sum f h
      omega
theorem len_sum {α : Type} (f : α → Nat) (h1 : ∀ x, 1 ≤ f x) : ∀ l : List α, l.length ≤ (l.map f).sum
  | [] => by simp
  | y :: r => by
    rw [List.map_cons, List.sum_cons, List.length_cons]
    have := len_sum f h1 r
    have := h1 y
    omega
theorem sum_le {α : Type} (f g : α → Nat) (c : Nat) : ∀ (l : List α), (∀ x ∈ l, f x ≤ c * g x) → (l.map f).sum ≤ c * (l.map g).sum
  | [], _ => by simp
  | y :: r, h => by
    rw [List.map_cons, List.sum_cons, List.map_cons, List.sum_cons, Nat.mul_add]
    have h1 := sum_le f g c r (fun x hx => h x (List.mem_cons_of_mem _ hx))
    have h2 := h y (List.mem_cons_self ..)
    omega
theorem quote_len (s : ByteArray) : (Js.quote s.data.toList).length ≤ 6 * s.size + 2 := by
  have h := (Js.body_len s.data.toList).2
  have e : s.data.toList.length = s.size := by simp
  unfold Js.quote
  rw [e] at h
  simp only [List.length_cons, List.length_append, List.length_nil]
  omega
theorem k_len : (Js.quote Jv.kId.data.toList).length = 4 ∧ (Js.quote Jv.kTitle.data.toList).length = 7 ∧ (Js.quote Jv.kLink.data.toList).length = 6 ∧ (Js.quote Jv.kContent.data.toList).length = 9 ∧ (Js.quote Jv.kUpdated.data.toList).length = 9 ∧ (Js.quote Jv.kPath.data.toList).length = 6 ∧ (Js.quote Jv.kEntries.data.toList).length = 9 := by decide +kernel
theorem wtE_pos (e : Mo.En) : 1 ≤ Mo.wtE e := by unfold Mo.wtE; omega
theorem wtP_pos (p : ByteArray) : 1 ≤ Mo.wtP p := by unfold Mo.wtP; omega
theorem wtF_pos (f : Mo.Fd) : 1 ≤ Mo.wtF f := by unfold Mo.wtF; omega
def upOk (u : Int) : Prop := -9223372036854775808 ≤ u ∧ u ≤ 9223372036854775807
theorem encE_len (e : Mo.En) (h : Mo.wtE e ≤ 5000) (hu : upOk e.upd) : (Jv.enc (Jv.jE e)).length + 1 ≤ 76 * Mo.wtE e := by
  obtain ⟨k1, k2, k3, k4, k5, -, -⟩ := k_len
  have d := Lib.itoa_length_le e.upd hu.1 hu.2
  have q1 := quote_len e.id
  have q2 := quote_len e.title
  have q3 := quote_len e.link
  have q4 := quote_len e.content
  unfold Mo.wtE at h ⊢
  have hs : e.id.size + e.title.size + e.link.size + e.content.size ≤ 5000 := by omega
  rw [Nat.min_eq_left (by omega)]
  unfold Jv.jE
  simp only [Jv.enc, Jv.encM, Jv.encP, Jv.joinC, Jv.dig, List.length_cons, List.length_append, List.length_nil, k1, k2, k3, k4, k5]
  omega
theorem encF_len (f : Mo.Fd) (h : Mo.wtF f ≤ 5000) (hu : upOk f.upd) (he : ∀ e ∈ f.ents, upOk e.upd) : (Jv.enc (Jv.jF f)).length + 1 ≤ 87 * Mo.wtF f := by
  obtain ⟨k1, k2, k3, -, k5, k6, k7⟩ := k_len
  have d := Lib.itoa_length_le f.upd hu.1 hu.2
  have q1 := quote_len f.id
  have q2 := quote_len f.title
  have q3 := quote_len f.link
  have hP : (Jv.joinC (Jv.encL (f.path.map Jv.J.str))).length ≤ 6 * (f.path.map Mo.wtP).sum := by
    refine Nat.le_trans (Jv.joinC_len _) ?_
    rw [Jv.encL_map, List.map_map, List.map_map]
    refine sum_le _ Mo.wtP 6 f.path (fun p hp => ?_)
    have h1 := mem_sum Mo.wtP hp
    have h2 : Mo.wtP p ≤ 5000 := by unfold Mo.wtF at h; omega
    have h3 := quote_len p
    unfold Mo.wtP at h2 ⊢
    rw [Nat.min_eq_left (by omega)]
    simp only [Function.comp, Jv.enc]
    omega
  have hE : (Jv.joinC (Jv.encL (f.ents.map Jv.jE))).length ≤ 76 * (f.ents.map Mo.wtE).sum := by
    refine Nat.le_trans (Jv.joinC_len _) ?_
    rw [Jv.encL_map, List.map_map, List.map_map]
    refine sum_le _ Mo.wtE 76 f.ents (fun e he' => ?_)
    have h1 := mem_sum Mo.wtE he'
    exact encE_len e (by unfold Mo.wtF at h; omega) (he e he')
  unfold Mo.wtF at h ⊢
  have hs : f.id.size + f.title.size + f.link.size ≤ 5000 := by omega
  rw [Nat.min_eq_left (by omega)]
  unfold Jv.jF
  simp only [Jv.enc, Jv.encM, Jv.encP, Jv.joinC, Jv.dig, List.length_cons, List.length_append, List.length_nil, k1, k2, k3, k5, k6, k7]
  omega
theorem encA_len (a : List Mo.Fd) (h : Mo.wtA a ≤ 5000) (hu : ∀ f ∈ a, upOk f.upd ∧ ∀ e ∈ f.ents, upOk e.upd) : (Jv.enc (Jv.jA a)).length ≤ 1000000 := by
  have hE : (Jv.joinC (Jv.encL (a.map Jv.jF))).length ≤ 87 * (a.map Mo.wtF).sum := by
    refine Nat.le_trans (Jv.joinC_len _) ?_
    rw [Jv.encL_map, List.map_map, List.map_map]
    refine sum_le _ Mo.wtF 87 a (fun f hf => ?_)
    have h1 := mem_sum Mo.wtF hf
    exact encF_len f (by unfold Mo.wtA at h; omega) (hu f hf).1 (hu f hf).2
  unfold Mo.wtA at h
  unfold Jv.jA
  simp only [Jv.enc, List.length_cons, List.length_append, List.length_nil]
  omega
theorem str_jb {s : ByteArray} (h : s.size ≤ 1000000) : Me.JB (.str s) := by unfold Me.JB; exact h
theorem int_jb {n : Int} (h : upOk n) : Me.JB (.int n) := by unfold Me.JB; exact h
theorem key_ok : Jv.kId.size ≤ 1000000 ∧ Jv.kTitle.size ≤ 1000000 ∧ Jv.kLink.size ≤ 1000000 ∧ Jv.kContent.size ≤ 1000000 ∧ Jv.kUpdated.size ≤ 1000000 ∧ Jv.kPath.size ≤ 1000000 ∧ Jv.kEntries.size ≤ 1000000 := by decide +kernel
theorem jA_jb (a : List Mo.Fd) (h : Mo.wtA a ≤ 5000) (hu : ∀ f ∈ a, upOk f.upd ∧ ∀ e ∈ f.ents, upOk e.upd) : Me.JB (Jv.jA a) := by
  obtain ⟨k1, k2, k3, k4, k5, k6, k7⟩ := key_ok
  have hl := len_sum Mo.wtF wtF_pos a
  unfold Mo.wtA at h
  unfold Jv.jA
  unfold Me.JB
  rw [Me.JBL_iff]
  refine ⟨by rw [List.length_map]; omega, fun x hx => ?_⟩
  obtain ⟨f, hf, rfl⟩ := List.mem_map.1 hx
  have hw := mem_sum Mo.wtF hf
  have hwf : Mo.wtF f ≤ 5000 := by omega
  have hp := len_sum Mo.wtP wtP_pos f.path
  have he := len_sum Mo.wtE wtE_pos f.ents
  have hq := hwf
  unfold Mo.wtF at hq
  unfold Jv.jF
  unfold Me.JB
  simp only [Me.JBM, Me.JBP]
  refine ⟨by simp, ⟨k6, ?_⟩, ⟨k1, str_jb (by omega)⟩, ⟨k2, str_jb (by omega)⟩, ⟨k3, str_jb (by omega)⟩, ⟨k5, int_jb (hu f hf).1⟩, ⟨k7, ?_⟩, trivial⟩
  · unfold Me.JB
    rw [Me.JBL_iff]
    refine ⟨by rw [List.length_map]; omega, fun y hy => ?_⟩
    obtain ⟨s, hs, rfl⟩ := List.mem_map.1 hy
    have h1 := mem_sum Mo.wtP hs
    have h2 : Mo.wtP s ≤ 5000 := by omega
    unfold Mo.wtP at h2
    exact str_jb (by omega)
  · unfold Me.JB
    rw [Me.JBL_iff]
    refine ⟨by rw [List.length_map]; omega, fun y hy => ?_⟩
    obtain ⟨e, he', rfl⟩ := List.mem_map.1 hy
    have h1 := mem_sum Mo.wtE he'
    have h2 : Mo.wtE e ≤ 5000 := by omega
    unfold Mo.wtE at h2
    unfold Jv.jE
    unfold Me.JB
    simp only [Me.JBM, Me.JBP]
    exact ⟨by simp, ⟨k1, str_jb (by omega)⟩, ⟨k2, str_jb (by omega)⟩, ⟨k3, str_jb (by omega)⟩, ⟨k4, str_jb (by omega)⟩, ⟨k5, int_jb ((hu f hf).2 e he')⟩, trivial⟩
end Go.Proofs.YtjaojenalodolaaGreatDoor.Ms
