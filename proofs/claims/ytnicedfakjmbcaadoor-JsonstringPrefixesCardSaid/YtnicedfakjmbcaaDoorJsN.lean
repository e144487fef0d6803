import Derived.Test.YtnicedfakjmbcaaDoorJsC
namespace Go.Proofs.YtnicedfakjmbcaaDoor.Jw
open Go Go.RowKit Go.Proofs.YtnicedfakjmbcaaDoor Go.Proofs.YtnicedfakjmbcaaDoor.Tx

/-! ### sequences with four digits -/
def hexU (n : Nat) : UInt8 := if n < 10 then UInt8.ofNat (48 + n) else UInt8.ofNat (55 + n)
def hexC (u : Bool) (n : Nat) : UInt8 := if u = true then hexU n else Js.hexd n
theorem hexv_hexC (u : Bool) (n : Nat) (h : n < 16) : Js.hexv (hexC u n).toNat = some n := by
  have : ∀ (u : Bool) (m : Fin 16), Js.hexv (hexC u m.val).toNat = some m.val := by decide +kernel
  exact this u ⟨n, h⟩
theorem unit_dig (u : Bool) (a b c d : Nat) (ha : a < 16) (hb : b < 16) (hc : c < 16) (hd : d < 16) (t : List UInt8) :
    Js.unitV (92 :: 117 :: hexC u a :: hexC u b :: hexC u c :: hexC u d :: t) = some (((a * 16 + b) * 16 + c) * 16 + d) := by
  rw [Js.unit_six, hexv_hexC u a ha, hexv_hexC u b hb, hexv_hexC u c hc, hexv_hexC u d hd]
  rfl
theorem seq_u (t : List UInt8) : Js.seqV (92 :: 117 :: t) = numV (92 :: 117 :: t) := seq_num _ (by show letV 117 = none; decide)
theorem parse_u {t : List UInt8} {r m : Nat} (h : Js.seqV (92 :: 117 :: t) = (r, m)) (hm : m ≠ 0) :
    Js.parse (92 :: 117 :: t) = ((Js.parse ((92 :: 117 :: t).drop m)).1, m + (Js.parse ((92 :: 117 :: t).drop m)).2.1, Txt.enc r ++ (Js.parse ((92 :: 117 :: t).drop m)).2.2) :=
  st_seq (by simp) (Js.dec_ascii 92 _ (by decide)) (by simp) (by simp) h hm
theorem parse_u0 {t : List UInt8} (h : (Js.seqV (92 :: 117 :: t)).2 = 0) : Js.parse (92 :: 117 :: t) = (16, 0, []) :=
  st_esc (by simp) (Js.dec_ascii 92 _ (by decide)) (by simp) (by simp) h
theorem parse_q (t : List UInt8) : Js.parse (34 :: t) = (0, 1, []) := st_quo (by simp) (Js.dec_ascii 34 t (by decide)) (by simp)
theorem pv_str (t : List UInt8) : pv (34 :: t) 0 = fin 0 (Js.parse t) := by
  unfold pv
  rw [if_pos ⟨Int.le_refl _, by simp, rfl⟩]
  rfl
def one (u : Bool) (a b c d : Nat) : List UInt8 := [34, 92, 117, hexC u a, hexC u b, hexC u c, hexC u d, 34]
def two (u : Bool) (a b c d : Nat) : List UInt8 := [34, 92, 117, hexC u a, hexC u b, hexC u c, hexC u d, 92, 117, 100, 99, 48, 49, 34]
theorem one_ok (u : Bool) (a b c d n : Nat) (ha : a < 16) (hb : b < 16) (hc : c < 16) (hd : d < 16) (hn : ((a * 16 + b) * 16 + c) * 16 + d = n) (h : n < 55296 ∨ 57343 < n) :
    pv (one u a b c d) 0 = (Txt.enc (n : Int), 8, 0) := by
  have hs : Js.seqV (92 :: 117 :: [hexC u a, hexC u b, hexC u c, hexC u d, 34]) = (n, 6) := by
    rw [seq_u]; exact num_one (by rw [← hn]; exact unit_dig u a b c d ha hb hc hd [34]) h
  show pv (34 :: (92 :: 117 :: [hexC u a, hexC u b, hexC u c, hexC u d, 34])) 0 = _
  rw [pv_str, parse_u hs (by decide)]
  show fin 0 ((Js.parse [34]).1, 6 + (Js.parse [34]).2.1, Txt.enc (n : Int) ++ (Js.parse [34]).2.2) = _
  rw [parse_q]
  simp [fin]
theorem one_bad (u : Bool) (a b c d n : Nat) (ha : a < 16) (hb : b < 16) (hc : c < 16) (hd : d < 16) (hn : ((a * 16 + b) * 16 + c) * 16 + d = n) (h : 55296 ≤ n) (h' : n ≤ 57343) :
    pv (one u a b c d) 0 = ([], 1, 16) := by
  have hu : Js.unitV (92 :: 117 :: [hexC u a, hexC u b, hexC u c, hexC u d, 34]) = some n := by rw [← hn]; exact unit_dig u a b c d ha hb hc hd [34]
  have hs : (Js.seqV (92 :: 117 :: [hexC u a, hexC u b, hexC u c, hexC u d, 34])).2 = 0 := by
    rw [seq_u]
    by_cases h1 : 56320 ≤ n
    · rw [num_low hu h1 h']
    · rw [num_bad hu h (by omega) (fun m hm => by
        have e : Js.unitV ((92 :: 117 :: [hexC u a, hexC u b, hexC u c, hexC u d, 34]).drop 6) = none := Js.unit_short (by simp)
        rw [e] at hm; cases hm)]
  show pv (34 :: (92 :: 117 :: [hexC u a, hexC u b, hexC u c, hexC u d, 34])) 0 = _
  rw [pv_str, parse_u0 hs]
  rfl
theorem two_bad (u : Bool) (a b c d n : Nat) (ha : a < 16) (hb : b < 16) (hc : c < 16) (hd : d < 16) (hn : ((a * 16 + b) * 16 + c) * 16 + d = n) (h : 56320 ≤ n) (h' : n ≤ 57343) :
    pv (two u a b c d) 0 = ([], 1, 16) := by
  have hu : Js.unitV (92 :: 117 :: [hexC u a, hexC u b, hexC u c, hexC u d, 92, 117, 100, 99, 48, 49, 34]) = some n := by rw [← hn]; exact unit_dig u a b c d ha hb hc hd _
  have hs : (Js.seqV (92 :: 117 :: [hexC u a, hexC u b, hexC u c, hexC u d, 92, 117, 100, 99, 48, 49, 34])).2 = 0 := by
    rw [seq_u, num_low hu h h']
  show pv (34 :: (92 :: 117 :: [hexC u a, hexC u b, hexC u c, hexC u d, 92, 117, 100, 99, 48, 49, 34])) 0 = _
  rw [pv_str, parse_u0 hs]
  rfl
theorem two_ok (u : Bool) (a b c d n : Nat) (ha : a < 16) (hb : b < 16) (hc : c < 16) (hd : d < 16) (hn : ((a * 16 + b) * 16 + c) * 16 + d = n) (h : 55296 ≤ n) (h' : n < 56320) :
    pv (two u a b c d) 0 = (Txt.enc (65537 + ((n : Int) - 55296) * 1024), 14, 0) := by
  have hu : Js.unitV (92 :: 117 :: [hexC u a, hexC u b, hexC u c, hexC u d, 92, 117, 100, 99, 48, 49, 34]) = some n := by rw [← hn]; exact unit_dig u a b c d ha hb hc hd _
  have hu2 : Js.unitV ((92 :: 117 :: [hexC u a, hexC u b, hexC u c, hexC u d, 92, 117, 100, 99, 48, 49, 34]).drop 6) = some 56321 := by
    show Js.unitV [92, 117, 100, 99, 48, 49, 34] = some 56321
    decide +kernel
  have hs : Js.seqV (92 :: 117 :: [hexC u a, hexC u b, hexC u c, hexC u d, 92, 117, 100, 99, 48, 49, 34]) = ((n - 55296) * 1024 + (56321 - 56320) + 65536, 12) := by
    obtain ⟨m, hm⟩ : ∃ m : Nat, m = 56321 := ⟨_, rfl⟩
    rw [← hm] at hu2 ⊢
    have h3 := num_two hu h (by omega) hu2 (by omega) (by omega)
    rw [seq_u]; exact h3
  show pv (34 :: (92 :: 117 :: [hexC u a, hexC u b, hexC u c, hexC u d, 92, 117, 100, 99, 48, 49, 34])) 0 = _
  rw [pv_str, parse_u hs (by decide)]
  show fin 0 ((Js.parse [34]).1, 12 + (Js.parse [34]).2.1, Txt.enc (((n - 55296) * 1024 + (56321 - 56320) + 65536 : Nat) : Int) ++ (Js.parse [34]).2.2) = _
  rw [parse_q]
  have e : (((n - 55296) * 1024 + (56321 - 56320) + 65536 : Nat) : Int) = 65537 + ((n : Int) - 55296) * 1024 := by omega
  rw [e]
  simp [fin]

/-! ### proper prefixes -/
theorem quote_take (s : List UInt8) (k : Nat) (h1 : 1 ≤ k) (h2 : k < (Js.quote s).length) (hv : Lib.validD s = true) :
    pv ((Js.quote s).take k) 0 = ([], 0, 8) ∨ ∃ x z : Int, pv ((Js.quote s).take k) 0 = ([], x, z) ∧ 1 ≤ x ∧ (z = 5 ∨ z = 16) := by
  obtain ⟨j, rfl⟩ : ∃ j, k = j + 1 := ⟨k - 1, by omega⟩
  have hl : j ≤ (Js.body s).length := by simp [Js.quote] at h2; omega
  have e : (Js.quote s).take (j + 1) = 34 :: (Js.body s).take j := by
    rw [Js.quote, List.take_succ_cons, List.take_append_of_le_length hl]
  have hc := Js.cut_body s.length s ((Js.body s).take j) ((Js.body s).drop j) (Nat.le_refl _) hv (List.take_append_drop _ _).symm
  rw [e, pv_str]
  obtain ⟨t, o, l, hp⟩ : ∃ t o l, Js.parse ((Js.body s).take j) = (t, o, l) := ⟨_, _, _, rfl⟩
  rw [hp] at hc ⊢
  unfold fin
  rcases hc with h | h | h
  · simp only at h; subst h
    exact .inr ⟨_, _, rfl, by omega, .inl rfl⟩
  · simp only at h; subst h
    exact .inl rfl
  · simp only at h; subst h
    exact .inr ⟨_, _, rfl, by omega, .inr rfl⟩
end Go.Proofs.YtnicedfakjmbcaaDoor.Jw
