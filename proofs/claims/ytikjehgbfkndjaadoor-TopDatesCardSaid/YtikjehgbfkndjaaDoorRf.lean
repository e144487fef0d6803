/- Plain facts on dates and times in the form of RFC 3339: formatting and parsing. No program in sight. -/
import Derived.Test.YtikjehgbfkndjaaDoorCal
import GoSem.Op.String
namespace Go.Proofs.YtikjehgbfkndjaaDoor.Rf
open Go Go.Proofs.YtikjehgbfkndjaaDoor

/-! ### digits -/
def dig : Nat → Nat → List UInt8
  | 0, _ => []
  | w + 1, n => dig w (n / 10) ++ [UInt8.ofNat (48 + n % 10)]
theorem dig_len : ∀ (w n : Nat), (dig w n).length = w
  | 0, _ => rfl
  | w + 1, n => by simp [dig, dig_len w]
theorem dig_2 (n : Nat) : dig 2 n = [UInt8.ofNat (48 + n / 10 % 10), UInt8.ofNat (48 + n % 10)] := rfl
theorem dig_4 (n : Nat) : dig 4 n = [UInt8.ofNat (48 + n / 10 / 10 / 10 % 10), UInt8.ofNat (48 + n / 10 / 10 % 10), UInt8.ofNat (48 + n / 10 % 10), UInt8.ofNat (48 + n % 10)] := rfl
def isD (c : UInt8) : Bool := decide (48 ≤ c.toNat ∧ c.toNat ≤ 57)
theorem isD_t {c : UInt8} (h1 : 48 ≤ c.toNat) (h2 : c.toNat ≤ 57) : isD c = true := decide_eq_true ⟨h1, h2⟩
theorem isD_f {c : UInt8} (h : ¬ (48 ≤ c.toNat ∧ c.toNat ≤ 57)) : isD c = false := decide_eq_false h
theorem isD_iff {c : UInt8} : isD c = true ↔ 48 ≤ c.toNat ∧ c.toNat ≤ 57 := by unfold isD; rw [decide_eq_true_iff]
theorem isD_mk (n : Nat) : isD (UInt8.ofNat (48 + n % 10)) = true := by
  have h : (UInt8.ofNat (48 + n % 10)).toNat = 48 + n % 10 := by simp; omega
  exact isD_t (by omega) (by omega)
theorem mk_toNat (n : Nat) : (UInt8.ofNat (48 + n % 10)).toNat = 48 + n % 10 := by simp; omega
theorem getD_ge (l : List UInt8) (k : Nat) (h : l.length ≤ k) : l.getD k 0 = 0 := by simp [List.getD_eq_getElem?_getD, List.getElem?_eq_none h]
/-- The number that the first w bytes stand for. -/
def val (l : List UInt8) : Nat → Option Nat
  | 0 => some 0
  | i + 1 => if isD (l.getD i 0) = true then (val l i).map fun n => n * 10 + ((l.getD i 0).toNat - 48) else none
theorem val_bd (l : List UInt8) : ∀ (i n : Nat), val l i = some n → n < 10 ^ i
  | 0, n, h => by simp [val] at h; omega
  | i + 1, n, h => by
    unfold val at h
    split at h
    · rename_i hd
      rw [isD_iff] at hd
      simp only [Option.map_eq_some_iff] at h
      obtain ⟨m, hm, rfl⟩ := h
      have := val_bd l i m hm
      rw [Nat.pow_succ]; omega
    · cases h
theorem val_len (l : List UInt8) : ∀ (i n : Nat), val l i = some n → i ≤ l.length
  | 0, _, _ => Nat.zero_le _
  | i + 1, n, h => by
    unfold val at h
    split at h
    · rename_i hd
      by_cases hl : i < l.length
      · omega
      · rw [getD_ge _ _ (by omega)] at hd
        exact absurd hd (by decide)
    · cases h
theorem val_none (l : List UInt8) (i : Nat) (h : val l i = none) : ∀ j, i ≤ j → val l j = none := by
  intro j
  induction j with
  | zero => intro hj; obtain rfl : i = 0 := by omega
            exact h
  | succ j ih =>
    intro hj
    by_cases e : i = j + 1
    · subst e; exact h
    · unfold val; rw [ih (by omega)]; split <;> rfl
theorem val_short (l : List UInt8) (i : Nat) (h : l.length < i) : val l i = none := by
  cases e : val l i with
  | none => rfl
  | some n => have := val_len l i n e; omega
theorem val_congr (l m : List UInt8) : ∀ i, (∀ j, j < i → l.getD j 0 = m.getD j 0) → val l i = val m i
  | 0, _ => rfl
  | i + 1, h => by unfold val; rw [h i (by omega), val_congr l m i (fun j hj => h j (by omega))]
theorem dig_getD (w n : Nat) (r : List UInt8) : (dig (w + 1) n ++ r).getD w 0 = UInt8.ofNat (48 + n % 10) := by
  simp [dig, List.getD_eq_getElem?_getD, dig_len]
theorem val_dig : ∀ (w n : Nat) (r : List UInt8), n < 10 ^ w → val (dig w n ++ r) w = some n
  | 0, n, r, h => by simp at h; subst h; rfl
  | w + 1, n, r, h => by
    unfold val
    rw [dig_getD, if_pos (isD_mk n)]
    have e : dig (w + 1) n ++ r = dig w (n / 10) ++ ([UInt8.ofNat (48 + n % 10)] ++ r) := by simp [dig]
    rw [e, val_dig w (n / 10) _ (by rw [Nat.pow_succ] at h; omega), Option.map_some, mk_toNat]
    congr 1; omega
def numZ (l : List UInt8) (w : Nat) : Int := match val l w with | none => -1 | some n => n
theorem numZ_some {l : List UInt8} {w n : Nat} (h : val l w = some n) : numZ l w = n := by unfold numZ; rw [h]
theorem numZ_none {l : List UInt8} {w : Nat} (h : val l w = none) : numZ l w = -1 := by unfold numZ; rw [h]
theorem numZ_bd (l : List UInt8) (w : Nat) (hw : w ≤ 4) : -1 ≤ numZ l w ∧ numZ l w ≤ 9999 := by
  cases h : val l w with
  | none => rw [numZ_none h]; omega
  | some n =>
    rw [numZ_some h]
    have := val_bd l w n h
    have h2 : 10 ^ w ≤ 10 ^ 4 := Nat.pow_le_pow_right (by decide) hw
    omega
theorem numZ_dig (w n : Nat) (r : List UInt8) (h : n < 10 ^ w) : numZ (dig w n ++ r) w = n := numZ_some (val_dig w n r h)

/-! ### the parts of a text -/
def isB (l : List UInt8) (k : Nat) (a b : UInt8) : Bool := decide (l.getD k 0 = a ∨ l.getD k 0 = b)
def sepsB (l : List UInt8) : Bool := isB l 4 45 45 && isB l 7 45 45 && isB l 10 84 116 && isB l 13 58 58 && isB l 16 58 58
def okS (y m d h mi s : Int) : Bool := decide (1 ≤ d ∧ d ≤ Cal.dim y m) && decide (0 ≤ h ∧ h ≤ 23 ∧ 0 ≤ mi ∧ mi ≤ 59 ∧ 0 ≤ s ∧ s ≤ 59)
def secV (y m d h mi s : Int) : Int × Int := if okS y m d h mi s = true then (Cal.num y m d * 86400 + (h * 3600 + mi * 60 + s), 0) else (0, 3)
/-- How many digits a text begins with. -/
def nd : List UInt8 → Nat
  | [] => 0
  | c :: t => if isD c = true then nd t + 1 else 0
theorem nd_le : ∀ l : List UInt8, nd l ≤ l.length
  | [] => Nat.le_refl _
  | c :: t => by unfold nd; have := nd_le t; split <;> simp <;> omega
theorem nd_step (l : List UInt8) (k : Nat) (h : isD (l.getD k 0) = true) : nd (l.drop k) = nd (l.drop (k + 1)) + 1 := by
  by_cases hk : k < l.length
  · rw [List.drop_eq_getElem_cons hk]
    have : l.getD k 0 = l[k] := by simp [List.getD_eq_getElem?_getD, List.getElem?_eq_getElem hk]
    rw [this] at h
    show (if isD l[k] = true then nd (l.drop (k + 1)) + 1 else 0) = _
    rw [if_pos h]
  · rw [getD_ge _ _ (by omega)] at h
    exact absurd h (by decide)
theorem nd_stop (l : List UInt8) (k : Nat) (h : isD (l.getD k 0) = false) : nd (l.drop k) = 0 := by
  by_cases hk : k < l.length
  · rw [List.drop_eq_getElem_cons hk]
    have : l.getD k 0 = l[k] := by simp [List.getD_eq_getElem?_getD, List.getElem?_eq_getElem hk]
    rw [this] at h
    show (if isD l[k] = true then nd (l.drop (k + 1)) + 1 else 0) = _
    rw [h]; rfl
  · rw [List.drop_of_length_le (by omega)]; rfl
def frac (l : List UInt8) : Option (List UInt8) := if l.getD 0 0 = 46 then (if nd (l.drop 1) = 0 then none else some (l.drop (1 + nd (l.drop 1)))) else some l
def offs (l : List UInt8) : Option Int :=
  if l.getD 0 0 = 90 ∨ l.getD 0 0 = 122 then (if l.length = 1 then some 0 else none)
  else if (l.getD 0 0 = 43 ∨ l.getD 0 0 = 45) ∧ (0 ≤ numZ (l.drop 1) 2 ∧ numZ (l.drop 1) 2 ≤ 23) ∧ l.getD 3 0 = 58 ∧ (0 ≤ numZ (l.drop 4) 2 ∧ numZ (l.drop 4) 2 ≤ 59) ∧ l.length = 6 then
    some (if l.getD 0 0 = 45 then -(numZ (l.drop 1) 2 * 3600 + numZ (l.drop 4) 2 * 60) else numZ (l.drop 1) 2 * 3600 + numZ (l.drop 4) 2 * 60)
  else none
def rng (t : Int) : Int × Int := if t < -62135596800 ∨ 253402300799 < t then (0, 3) else (t, 0)
def tl (t : Int) (l : List UInt8) : Int × Int := match frac l with
  | none => (0, 20)
  | some r => match offs r with
    | none => (0, 20)
    | some n => rng (t - n)
def rp (l : List UInt8) : Int × Int :=
  if sepsB l = true ∧ okS (numZ l 4) (numZ (l.drop 5) 2) (numZ (l.drop 8) 2) (numZ (l.drop 11) 2) (numZ (l.drop 14) 2) (numZ (l.drop 17) 2) = true then
    tl (Cal.num (numZ l 4) (numZ (l.drop 5) 2) (numZ (l.drop 8) 2) * 86400 + (numZ (l.drop 11) 2 * 3600 + numZ (l.drop 14) 2 * 60 + numZ (l.drop 17) 2)) (l.drop 19)
  else (0, 20)
theorem offs_bd {l : List UInt8} {n : Int} (h : offs l = some n) : -86400 ≤ n ∧ n ≤ 86400 := by
  unfold offs at h
  split at h
  · split at h
    · cases h; omega
    · cases h
  · split at h
    · rename_i hc
      obtain ⟨_, h2, _, h4, _⟩ := hc
      split at h
      · cases h; omega
      · cases h; omega
    · cases h
theorem rng_tag (t : Int) : (rng t).2 = 0 ∨ (rng t).2 = 3 := by unfold rng; split <;> simp
theorem tl_tag (t : Int) (l : List UInt8) : (tl t l).2 = 0 ∨ (tl t l).2 = 3 ∨ (tl t l).2 = 20 := by
  unfold tl
  split
  · exact .inr (.inr rfl)
  · split
    · exact .inr (.inr rfl)
    · exact (rng_tag _).imp id .inl
theorem rp_tag (l : List UInt8) : (rp l).2 = 0 ∨ (rp l).2 = 3 ∨ (rp l).2 = 20 := by
  unfold rp
  split
  · exact tl_tag _ _
  · exact .inr (.inr rfl)

/-! ### groups of digits -/
def sepOk (c x : UInt8) : Bool := decide (x = c ∨ (c = 116 ∧ x = 84))
def grp (bt : List UInt8) : Nat → List Nat → List UInt8 → Option (List Nat × List UInt8)
  | _, [], l => some ([], l)
  | 0, w :: ws, l => (val l w).bind fun n => (grp bt 1 ws (l.drop w)).map fun p => (n :: p.1, p.2)
  | i + 1, w :: ws, l => if sepOk (bt.getD i 0) (l.getD 0 0) = true then (val (l.drop 1) w).bind fun n => (grp bt (i + 2) ws ((l.drop 1).drop w)).map fun p => (n :: p.1, p.2) else none
theorem getD_drop (l : List UInt8) (k i : Nat) : (l.drop k).getD i 0 = l.getD (k + i) 0 := by simp [List.getD_eq_getElem?_getD]
theorem grp_six (l : List UInt8) : grp [45, 45, 116, 58, 58] 0 [4, 2, 2, 2, 2, 2] l =
    (val l 4).bind fun a => if isB l 4 45 45 = true then (val (l.drop 5) 2).bind fun b => if isB l 7 45 45 = true then (val (l.drop 8) 2).bind fun c => if isB l 10 84 116 = true then
      (val (l.drop 11) 2).bind fun d => if isB l 13 58 58 = true then (val (l.drop 14) 2).bind fun e => if isB l 16 58 58 = true then (val (l.drop 17) 2).map fun f => ([a, b, c, d, e, f], l.drop 19)
      else none else none else none else none else none := by
  have e1 : ∀ k, sepOk 45 (l.getD k 0) = isB l k 45 45 := fun k => by unfold sepOk isB; simp
  have e2 : ∀ k, sepOk 58 (l.getD k 0) = isB l k 58 58 := fun k => by unfold sepOk isB; simp
  have e3 : ∀ k, sepOk 116 (l.getD k 0) = isB l k 84 116 := fun k => by unfold sepOk isB; simp [or_comm]
  simp only [grp, List.drop_drop, getD_drop, List.getD_cons_zero, List.getD_cons_succ, Nat.reduceAdd, Nat.add_zero, e1, e2, e3]
  cases val l 4 <;> simp
  split <;> simp
  cases val (l.drop 5) 2 <;> simp
  split <;> simp
  cases val (l.drop 8) 2 <;> simp
  split <;> simp
  cases val (l.drop 11) 2 <;> simp
  split <;> simp
  cases val (l.drop 14) 2 <;> simp
  split <;> simp
  cases val (l.drop 17) 2 <;> simp
theorem grp_two (l : List UInt8) : grp [58] 0 [2, 2] l = (val l 2).bind fun a => if isB l 2 58 58 = true then (val (l.drop 3) 2).map fun b => ([a, b], l.drop 5) else none := by
  have e2 : ∀ k, sepOk 58 (l.getD k 0) = isB l k 58 58 := fun k => by unfold sepOk isB; simp
  simp only [grp, List.drop_drop, getD_drop, List.getD_cons_zero, Nat.reduceAdd, Nat.add_zero, e2]
  cases val l 2 <;> simp
  split <;> simp
  cases val (l.drop 3) 2 <;> simp
theorem six_none {l : List UInt8} (h : grp [45, 45, 116, 58, 58] 0 [4, 2, 2, 2, 2, 2] l = none) : rp l = (0, 20) := by
  rw [grp_six] at h
  unfold rp
  rw [if_neg]
  rintro ⟨h1, h2⟩
  unfold sepsB at h1
  simp only [Bool.and_eq_true] at h1
  obtain ⟨⟨⟨⟨a1, a2⟩, a3⟩, a4⟩, a5⟩ := h1
  simp only [a1, a2, a3, a4, a5, if_true] at h
  unfold okS at h2
  simp only [Bool.and_eq_true, decide_eq_true_eq] at h2
  obtain ⟨⟨b1, b2⟩, b3, b4, b5, b6, b7, b8⟩ := h2
  have hy : numZ l 4 ≠ -1 := fun e => by
    rw [Cal.dim_out _ _ (.inl (by omega))] at b2; omega
  have hm : numZ (l.drop 5) 2 ≠ -1 := fun e => by
    rw [Cal.dim_out _ _ (.inr (.inr (.inl (by omega))))] at b2; omega
  have some_of : ∀ (q : List UInt8) (w : Nat), numZ q w ≠ -1 → ∃ n, val q w = some n := fun q w hq => by
    cases e : val q w with
    | none => exact absurd (numZ_none e) hq
    | some n => exact ⟨n, rfl⟩
  obtain ⟨n1, e1⟩ := some_of _ _ hy
  obtain ⟨n2, e2⟩ := some_of _ _ hm
  obtain ⟨n3, e3⟩ := some_of (l.drop 8) 2 (by omega)
  obtain ⟨n4, e4⟩ := some_of (l.drop 11) 2 (by omega)
  obtain ⟨n5, e5⟩ := some_of (l.drop 14) 2 (by omega)
  obtain ⟨n6, e6⟩ := some_of (l.drop 17) 2 (by omega)
  rw [e1, e2, e3, e4, e5, e6] at h
  simp at h
theorem six_some {l : List UInt8} {p : List Nat × List UInt8} (h : grp [45, 45, 116, 58, 58] 0 [4, 2, 2, 2, 2, 2] l = some p) :
    ∃ a b c d e f : Nat, p = ([a, b, c, d, e, f], l.drop 19) ∧ (a ≤ 9999 ∧ b ≤ 99 ∧ c ≤ 99 ∧ d ≤ 99 ∧ e ≤ 99 ∧ f ≤ 99) ∧ 19 ≤ l.length ∧
      rp l = if okS a b c d e f = true then tl (Cal.num a b c * 86400 + ((d : Int) * 3600 + (e : Int) * 60 + f)) (l.drop 19) else (0, 20) := by
  rw [grp_six] at h
  cases e1 : val l 4 with
  | none => rw [e1] at h; simp at h
  | some a =>
    cases e2 : val (l.drop 5) 2 with
    | none => rw [e1, e2] at h; simp at h
    | some b =>
      cases e3 : val (l.drop 8) 2 with
      | none => rw [e1, e2, e3] at h; simp at h
      | some c =>
        cases e4 : val (l.drop 11) 2 with
        | none => rw [e1, e2, e3, e4] at h; simp at h
        | some d =>
          cases e5 : val (l.drop 14) 2 with
          | none => rw [e1, e2, e3, e4, e5] at h; simp at h
          | some e =>
            cases e6 : val (l.drop 17) 2 with
            | none => rw [e1, e2, e3, e4, e5, e6] at h; simp at h
            | some f =>
              rw [e1, e2, e3, e4, e5, e6] at h
              simp at h
              obtain ⟨a1, a2, a3, a4, a5, rfl⟩ := h
              have hl := val_len _ _ _ e6
              rw [List.length_drop] at hl
              have g1 := val_bd _ _ _ e1
              have g2 := val_bd _ _ _ e2
              have g3 := val_bd _ _ _ e3
              have g4 := val_bd _ _ _ e4
              have g5 := val_bd _ _ _ e5
              have g6 := val_bd _ _ _ e6
              refine ⟨a, b, c, d, e, f, rfl, ⟨by omega, by omega, by omega, by omega, by omega, by omega⟩, by omega, ?_⟩
              unfold rp sepsB
              rw [a1, a2, a3, a4, a5, numZ_some e1, numZ_some e2, numZ_some e3, numZ_some e4, numZ_some e5, numZ_some e6]
              simp

/-! ### what is written is read back -/
def form (y m d h mi s : Nat) (T : UInt8) : List UInt8 := dig 4 y ++ (45 :: (dig 2 m ++ (45 :: (dig 2 d ++ (T :: (dig 2 h ++ (58 :: (dig 2 mi ++ (58 :: dig 2 s)))))))))
theorem form_len (y m d h mi s : Nat) (T : UInt8) : (form y m d h mi s T).length = 19 := rfl
theorem rp_form (y m d h mi s : Nat) (T : UInt8) (r : List UInt8) (hT : T = 84 ∨ T = 116) (h1 : y < 10000) (h2 : m < 100) (h3 : d < 100) (h4 : h < 100) (h5 : mi < 100) (h6 : s < 100) (ho : okS y m d h mi s = true) :
    rp (form y m d h mi s T ++ r) = tl (Cal.num y m d * 86400 + ((h : Int) * 3600 + (mi : Int) * 60 + s)) r := by
  have e1 : numZ (form y m d h mi s T ++ r) 4 = y := numZ_dig 4 y _ h1
  have e2 : numZ ((form y m d h mi s T ++ r).drop 5) 2 = m := numZ_dig 2 m _ h2
  have e3 : numZ ((form y m d h mi s T ++ r).drop 8) 2 = d := numZ_dig 2 d _ h3
  have e4 : numZ ((form y m d h mi s T ++ r).drop 11) 2 = h := numZ_dig 2 h _ h4
  have e5 : numZ ((form y m d h mi s T ++ r).drop 14) 2 = mi := numZ_dig 2 mi _ h5
  have e6 : numZ ((form y m d h mi s T ++ r).drop 17) 2 = s := numZ_dig 2 s _ h6
  have e7 : sepsB (form y m d h mi s T ++ r) = true := by
    have : isB (form y m d h mi s T ++ r) 10 84 116 = true := decide_eq_true hT
    unfold sepsB
    rw [this]; rfl
  unfold rp
  rw [e1, e2, e3, e4, e5, e6, e7, if_pos ⟨rfl, ho⟩]
  rfl
/-- The days and the parts of a time. -/
def dy (t : Int) : Int := t / 86400
def sc (t : Int) : Int := t % 86400
def fmt (t : Int) (T : UInt8) : List UInt8 :=
  form (Cal.dY (dy t)).toNat (Cal.dM (dy t)).toNat (Cal.dD (dy t)).toNat (sc t / 3600).toNat (sc t / 60 % 60).toNat (sc t % 60).toNat T
def fmtL (t : Int) : List UInt8 := fmt t 84 ++ [90]
theorem fmtL_len (t : Int) : (fmtL t).length = 20 := rfl
structure Parts (t : Int) (y m d h mi s : Nat) : Prop where
  v : Cal.valid y m d
  n : Cal.num y m d = dy t
  hb : h ≤ 23
  mib : mi ≤ 59
  sb : s ≤ 59
  te : t = Cal.num y m d * 86400 + ((h : Int) * 3600 + (mi : Int) * 60 + s)
  y4 : y ≤ 9999
  m2 : m ≤ 12
  d2 : d ≤ 31
theorem parts (t : Int) (h1 : -62135596800 ≤ t) (h2 : t ≤ 253402300799) : Parts t (Cal.dY (dy t)).toNat (Cal.dM (dy t)).toNat (Cal.dD (dy t)).toNat (sc t / 3600).toNat (sc t / 60 % 60).toNat (sc t % 60).toNat := by
  have b1 : -719162 ≤ dy t := by unfold dy; omega
  have b2 : dy t ≤ 2932896 := by unfold dy; omega
  obtain ⟨⟨v1, v2, v3, v4, v5, v6⟩, vn⟩ := Cal.date_valid (dy t) b1 b2
  have vd := Cal.dim_bd (Cal.dY (dy t)) (Cal.dM (dy t))
  have c1 : (((Cal.dY (dy t)).toNat : Nat) : Int) = Cal.dY (dy t) := Int.toNat_of_nonneg (by omega)
  have c2 : (((Cal.dM (dy t)).toNat : Nat) : Int) = Cal.dM (dy t) := Int.toNat_of_nonneg (by omega)
  have c3 : (((Cal.dD (dy t)).toNat : Nat) : Int) = Cal.dD (dy t) := Int.toNat_of_nonneg (by omega)
  have s1 : 0 ≤ sc t ∧ sc t < 86400 := by unfold sc; omega
  have s2 : t = dy t * 86400 + sc t := by unfold sc dy; omega
  refine ⟨by rw [c1, c2, c3]; exact ⟨v1, v2, v3, v4, v5, v6⟩, by rw [c1, c2, c3]; exact vn, by omega, by omega, by omega, ?_, by omega, by omega, by omega⟩
  rw [c1, c2, c3, vn]
  omega
theorem Parts.ok {t : Int} {y m d h mi s : Nat} (p : Parts t y m d h mi s) : okS y m d h mi s = true := by
  obtain ⟨_, _, _, _, a, b⟩ := p.v
  have h1 := p.hb
  have h2 := p.mib
  have h3 := p.sb
  unfold okS
  simp only [Bool.and_eq_true, decide_eq_true_eq]
  exact ⟨⟨a, b⟩, by omega, by omega, by omega, by omega, by omega, by omega⟩
theorem rp_fmt (t : Int) (T : UInt8) (r : List UInt8) (hT : T = 84 ∨ T = 116) (h1 : -62135596800 ≤ t) (h2 : t ≤ 253402300799) : rp (fmt t T ++ r) = tl t r := by
  have p := parts t h1 h2
  have q1 := p.y4
  have q2 := p.m2
  have q3 := p.d2
  have q4 := p.hb
  have q5 := p.mib
  have q6 := p.sb
  unfold fmt
  rw [rp_form _ _ _ _ _ _ T r hT (by omega) (by omega) (by omega) (by omega) (by omega) (by omega) p.ok, ← p.te]
theorem rng_in (t : Int) (h1 : -62135596800 ≤ t) (h2 : t ≤ 253402300799) : rng t = (t, 0) := by unfold rng; rw [if_neg (by omega)]
theorem rp_fmtL (t : Int) (h1 : -62135596800 ≤ t) (h2 : t ≤ 253402300799) : rp (fmtL t) = (t, 0) := by
  unfold fmtL
  rw [rp_fmt t 84 [90] (.inl rfl) h1 h2]
  show rng (t - 0) = (t, 0)
  rw [Int.sub_zero, rng_in t h1 h2]
theorem rng_ok {t u : Int} (h : rng t = (u, 0)) : -62135596800 ≤ u ∧ u ≤ 253402300799 := by
  unfold rng at h
  split at h
  · cases h
  · cases h; omega
theorem rp_ok {l : List UInt8} {t : Int} (h : rp l = (t, 0)) : -62135596800 ≤ t ∧ t ≤ 253402300799 := by
  unfold rp tl at h
  split at h
  · split at h
    · cases h
    · split at h
      · cases h
      · exact rng_ok h
  · cases h
end Go.Proofs.YtikjehgbfkndjaaDoor.Rf
