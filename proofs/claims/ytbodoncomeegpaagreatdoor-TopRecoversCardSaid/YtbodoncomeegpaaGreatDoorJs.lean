/- Plain facts on JSON strings: quoting and parsing. No program in sight. -/
import Derived.Test.YtbodoncomeegpaaGreatDoorTxt2
namespace Go.Proofs.YtbodoncomeegpaaGreatDoor.Js
open Go Go.Proofs.YtbodoncomeegpaaGreatDoor

/-! ### quoting -/
def hexd (n : Nat) : UInt8 := if n < 10 then UInt8.ofNat (48 + n) else UInt8.ofNat (87 + n)
def esc (c : UInt8) : List UInt8 :=
  if c = 34 ∨ c = 92 then [92, c] else if 32 ≤ c.toNat then [] else if c = 8 then [92, 98] else if c = 12 then [92, 102] else if c = 10 then [92, 110]
  else if c = 13 then [92, 114] else if c = 9 then [92, 116] else [92, 117, 48, 48, hexd (c.toNat / 16), hexd (c.toNat % 16)]
def q (c : UInt8) : List UInt8 := if esc c = [] then [c] else esc c
def body (l : List UInt8) : List UInt8 := l.flatMap q
def quote (l : List UInt8) : List UInt8 := 34 :: (body l ++ [34])
theorem body_nil : body [] = [] := rfl
theorem body_append (a b : List UInt8) : body (a ++ b) = body a ++ body b := by unfold body; rw [List.flatMap_append]
theorem body_cons (c : UInt8) (l : List UInt8) : body (c :: l) = q c ++ body l := rfl
theorem esc_len (c : UInt8) : (esc c).length ≤ 6 := by unfold esc; repeat' split
                                                       all_goals simp
theorem q_len (c : UInt8) : 1 ≤ (q c).length ∧ (q c).length ≤ 6 := by
  unfold q
  by_cases h : esc c = []
  · rw [if_pos h]; simp
  · rw [if_neg h]; exact ⟨List.length_pos_iff.2 h, esc_len c⟩
theorem body_len (l : List UInt8) : l.length ≤ (body l).length ∧ (body l).length ≤ 6 * l.length := by
  induction l with
  | nil => simp [body]
  | cons c l ih => rw [body_cons]; have := q_len c; simp only [List.length_append, List.length_cons]; omega

/-! ### parsing -/
def hexv (c : Nat) : Option Nat := if 48 ≤ c ∧ c ≤ 57 then some (c - 48) else if 97 ≤ c ∧ c ≤ 102 then some (c - 87) else if 65 ≤ c ∧ c ≤ 70 then some (c - 55) else none
def hx (l : List UInt8) : Nat → Option Nat
  | 0 => some 0
  | i + 1 => (hx l i).bind fun n => (hexv (l.getD (2 + i) 0).toNat).map fun d => n * 16 + d
def unitV (l : List UInt8) : Option Nat := if l.length < 6 ∨ l.getD 0 0 ≠ 92 ∨ l.getD 1 0 ≠ 117 then none else hx l 4
def seqV (l : List UInt8) : Nat × Nat :=
  if l.getD 1 0 = 34 ∨ l.getD 1 0 = 92 ∨ l.getD 1 0 = 47 then ((l.getD 1 0).toNat, 2)
  else if l.getD 1 0 = 98 then (8, 2) else if l.getD 1 0 = 102 then (12, 2) else if l.getD 1 0 = 110 then (10, 2) else if l.getD 1 0 = 114 then (13, 2) else if l.getD 1 0 = 116 then (9, 2)
  else match unitV l with
    | none => (0, 0)
    | some r => if 56320 ≤ r ∧ r ≤ 57343 then (0, 0) else if r < 55296 ∨ 57343 < r then (r, 6)
      else match unitV (l.drop 6) with
        | none => (0, 0)
        | some m => if m < 56320 ∨ 57343 < m then (0, 0) else ((r - 55296) * 1024 + (m - 56320) + 65536, 12)
/-- One step: an error or an end (tag, offset), or a rune and a length. -/
def prs : Nat → List UInt8 → Nat × Nat × List UInt8
  | 0, _ => (8, 0, [])
  | f + 1, l =>
    if l = [] then (8, 0, [])
    else if (Txt.dec l).2 = 0 then (5, 0, [])
    else if (Txt.dec l).1 < 32 then (6, 0, [])
    else if (Txt.dec l).1 = 34 then (0, 1, [])
    else if (Txt.dec l).1 = 92 then
      (if l.length = 1 then (8, 0, [])
       else if (seqV l).2 = 0 then (16, 0, [])
       else ((prs f (l.drop (seqV l).2)).1, (seqV l).2 + (prs f (l.drop (seqV l).2)).2.1, Txt.enc (seqV l).1 ++ (prs f (l.drop (seqV l).2)).2.2))
    else ((prs f (l.drop (Txt.dec l).2)).1, (Txt.dec l).2 + (prs f (l.drop (Txt.dec l).2)).2.1, Txt.enc (Txt.dec l).1 ++ (prs f (l.drop (Txt.dec l).2)).2.2)
def parse (l : List UInt8) : Nat × Nat × List UInt8 := prs l.length l
theorem hexv_bd {c d : Nat} (h : hexv c = some d) : d < 16 := by
  unfold hexv at h
  by_cases h1 : 48 ≤ c ∧ c ≤ 57
  · rw [if_pos h1] at h; cases h; omega
  · rw [if_neg h1] at h
    by_cases h2 : 97 ≤ c ∧ c ≤ 102
    · rw [if_pos h2] at h; cases h; omega
    · rw [if_neg h2] at h
      by_cases h3 : 65 ≤ c ∧ c ≤ 70
      · rw [if_pos h3] at h; cases h; omega
      · rw [if_neg h3] at h; cases h
theorem hx_bd (l : List UInt8) : ∀ (i n : Nat), hx l i = some n → n < 16 ^ i
  | 0, n, h => by simp [hx] at h; omega
  | i + 1, n, h => by
    simp only [hx, Option.bind_eq_some_iff, Option.map_eq_some_iff] at h
    obtain ⟨m, hm, d, hd, rfl⟩ := h
    have := hx_bd l i m hm
    have hd16 := hexv_bd hd
    rw [Nat.pow_succ]; omega
theorem unitV_bd {l : List UInt8} {n : Nat} (h : unitV l = some n) : n < 65536 ∧ 6 ≤ l.length := by
  unfold unitV at h
  split at h
  · cases h
  · rename_i hc
    exact ⟨hx_bd l 4 n h, by omega⟩
theorem seqV_bd (l : List UInt8) (h2 : 2 ≤ l.length) : (seqV l).2 ≤ l.length ∧ (seqV l).1 ≤ 1114111 ∧ ((seqV l).2 ≠ 0 → (seqV l).1 < 55296 ∨ 57343 < (seqV l).1) ∧ (seqV l).2 ≤ 12 := by
  have hc := UInt8.toNat_lt (l.getD 1 0)
  unfold seqV
  split
  · exact ⟨h2, by simp only; omega, fun _ => by left; simp only; omega, by simp⟩
  · split
    · exact ⟨h2, by simp, fun _ => by left; simp, by simp⟩
    · split
      · exact ⟨h2, by simp, fun _ => by left; simp, by simp⟩
      · split
        · exact ⟨h2, by simp, fun _ => by left; simp, by simp⟩
        · split
          · exact ⟨h2, by simp, fun _ => by left; simp, by simp⟩
          · split
            · exact ⟨h2, by simp, fun _ => by left; simp, by simp⟩
            · split
              · simp
              · rename_i r hr
                obtain ⟨a, b⟩ := unitV_bd hr
                split
                · simp
                · split
                  · exact ⟨b, by simp only; omega, fun _ => by simp only; omega, by simp⟩
                  · split
                    · simp
                    · rename_i m hm
                      obtain ⟨c, d⟩ := unitV_bd hm
                      rw [List.length_drop] at d
                      split
                      · simp
                      · exact ⟨by simp only; omega, by simp only; omega, fun _ => by simp only; omega, by simp⟩
theorem prs_fuel : ∀ (f g : Nat) (l : List UInt8), l.length ≤ f → l.length ≤ g → prs f l = prs g l
  | 0, g, l, hf, _ => by
    have : l = [] := List.eq_nil_of_length_eq_zero (by omega)
    subst this
    cases g <;> simp [prs]
  | f + 1, 0, l, _, hg => by
    have : l = [] := List.eq_nil_of_length_eq_zero (by omega)
    subst this
    simp [prs]
  | f + 1, g + 1, l, hf, hg => by
    unfold prs
    by_cases h1 : l = []
    · simp [h1]
    · by_cases h2 : (Txt.dec l).2 = 0
      · simp [h1, h2]
      · by_cases h3 : (seqV l).2 = 0
        · rw [prs_fuel f g (l.drop (Txt.dec l).2) (by rw [List.length_drop]; omega) (by rw [List.length_drop]; omega)]
          simp [h3]
        · rw [prs_fuel f g (l.drop (Txt.dec l).2) (by rw [List.length_drop]; omega) (by rw [List.length_drop]; omega),
            prs_fuel f g (l.drop (seqV l).2) (by rw [List.length_drop]; omega) (by rw [List.length_drop]; omega)]
theorem parse_nil : parse [] = (8, 0, []) := rfl
theorem parse_step (l : List UInt8) (h1 : l ≠ []) : parse l =
    if (Txt.dec l).2 = 0 then (5, 0, [])
    else if (Txt.dec l).1 < 32 then (6, 0, [])
    else if (Txt.dec l).1 = 34 then (0, 1, [])
    else if (Txt.dec l).1 = 92 then
      (if l.length = 1 then (8, 0, [])
       else if (seqV l).2 = 0 then (16, 0, [])
       else ((parse (l.drop (seqV l).2)).1, (seqV l).2 + (parse (l.drop (seqV l).2)).2.1, Txt.enc (seqV l).1 ++ (parse (l.drop (seqV l).2)).2.2))
    else ((parse (l.drop (Txt.dec l).2)).1, (Txt.dec l).2 + (parse (l.drop (Txt.dec l).2)).2.1, Txt.enc (Txt.dec l).1 ++ (parse (l.drop (Txt.dec l).2)).2.2) := by
  have hl : 0 < l.length := List.length_pos_iff.2 h1
  obtain ⟨n, hn⟩ : ∃ n, l.length = n + 1 := ⟨l.length - 1, by omega⟩
  unfold parse
  by_cases h2 : (Txt.dec l).2 = 0
  · rw [hn]; simp [prs, h1, h2]
  · by_cases h3 : (seqV l).2 = 0
    · rw [hn]
      simp only [prs]
      rw [if_neg h1, prs_fuel n (l.drop (Txt.dec l).2).length (l.drop (Txt.dec l).2) (by rw [List.length_drop]; omega) (Nat.le_refl _)]
      rw [hn]
      simp [h3]
    · have e1 := prs_fuel n (l.drop (Txt.dec l).2).length (l.drop (Txt.dec l).2) (by rw [List.length_drop]; omega) (Nat.le_refl _)
      have e2 := prs_fuel n (l.drop (seqV l).2).length (l.drop (seqV l).2) (by rw [List.length_drop]; omega) (Nat.le_refl _)
      rw [show prs l.length l = prs (n + 1) l by rw [hn]]
      simp only [prs]
      rw [if_neg h1, e1, e2]

/-! ### what quoting writes is read back -/
theorem hexv_hexd (n : Nat) (h : n < 16) : hexv (hexd n).toNat = some n := by
  rcases (show n = 0 ∨ n = 1 ∨ n = 2 ∨ n = 3 ∨ n = 4 ∨ n = 5 ∨ n = 6 ∨ n = 7 ∨ n = 8 ∨ n = 9 ∨ n = 10 ∨ n = 11 ∨ n = 12 ∨ n = 13 ∨ n = 14 ∨ n = 15 by omega) with rfl | rfl | rfl | rfl | rfl | rfl | rfl | rfl | rfl | rfl | rfl | rfl | rfl | rfl | rfl | rfl <;> rfl
theorem dec_ascii (c : UInt8) (t : List UInt8) (h : c.toNat < 128) : Txt.dec (c :: t) = (c.toNat, 1) := by
  unfold Txt.dec
  rw [if_neg (by simp), Lib.decodeL_ascii c t h, if_neg (by simp; omega)]
theorem enc_ascii (c : UInt8) (h : c.toNat < 128) : Txt.enc (c.toNat : Int) = [c] := by
  apply Txt.map_toNat_inj
  rw [Txt.enc_toNat, Txt.encN_1 h]; rfl
theorem unit_six (a b c d : UInt8) (t : List UInt8) : unitV (92 :: 117 :: a :: b :: c :: d :: t) =
    (hexv a.toNat).bind fun x => (hexv b.toNat).bind fun y => (hexv c.toNat).bind fun z => (hexv d.toNat).map fun u => ((x * 16 + y) * 16 + z) * 16 + u := by
  unfold unitV
  rw [if_neg (by simp)]
  simp only [hx, Nat.add_zero, List.getD_cons_zero, List.getD_cons_succ]
  cases hexv a.toNat <;> simp
  cases hexv b.toNat <;> simp
  cases hexv c.toNat <;> simp
/-- An escaped byte: one step of the reader. -/
theorem seq_esc (c : UInt8) (t : List UInt8) (he : esc c ≠ []) : seqV (esc c ++ t) = (c.toNat, (esc c).length) ∧ (esc c).getD 0 0 = 92 ∧ 2 ≤ (esc c).length ∧ c.toNat < 128 := by
  unfold esc at he ⊢
  by_cases h1 : c = 34 ∨ c = 92
  · rw [if_pos h1]
    rcases h1 with rfl | rfl <;> exact ⟨rfl, rfl, by simp, by decide⟩
  · rw [if_neg h1] at he ⊢
    by_cases h2 : 32 ≤ c.toNat
    · rw [if_pos h2] at he; exact absurd rfl he
    · rw [if_neg h2]
      by_cases h3 : c = 8
      · subst h3; exact ⟨rfl, rfl, by simp, by decide⟩
      · rw [if_neg h3]
        by_cases h4 : c = 12
        · subst h4; exact ⟨rfl, rfl, by simp, by decide⟩
        · rw [if_neg h4]
          by_cases h5 : c = 10
          · subst h5; exact ⟨rfl, rfl, by simp, by decide⟩
          · rw [if_neg h5]
            by_cases h6 : c = 13
            · subst h6; exact ⟨rfl, rfl, by simp, by decide⟩
            · rw [if_neg h6]
              by_cases h7 : c = 9
              · subst h7; exact ⟨rfl, rfl, by simp, by decide⟩
              · rw [if_neg h7]
                refine ⟨?_, rfl, by simp, by omega⟩
                have hu : unitV (92 :: 117 :: 48 :: 48 :: hexd (c.toNat / 16) :: hexd (c.toNat % 16) :: t) = some c.toNat := by
                  rw [unit_six, hexv_hexd _ (by omega), hexv_hexd _ (by omega)]
                  show some ((((48 - 48) * 16 + (48 - 48)) * 16 + c.toNat / 16) * 16 + c.toNat % 16) = some c.toNat
                  congr 1
                  omega
                show seqV (92 :: 117 :: 48 :: 48 :: hexd (c.toNat / 16) :: hexd (c.toNat % 16) :: t) = _
                unfold seqV
                rw [if_neg (by simp), if_neg (by simp), if_neg (by simp), if_neg (by simp), if_neg (by simp), if_neg (by simp), hu]
                show (if 56320 ≤ c.toNat ∧ c.toNat ≤ 57343 then ((0, 0) : Nat × Nat) else if c.toNat < 55296 ∨ 57343 < c.toNat then (c.toNat, 6) else _) = _
                rw [if_neg (by omega), if_pos (by omega)]
                rfl
/-- A byte that is not escaped stands for itself. -/
theorem q_plain {c : UInt8} (h : esc c = []) : q c = [c] ∧ 32 ≤ c.toNat ∧ c ≠ 34 ∧ c ≠ 92 := by
  refine ⟨by unfold q; rw [if_pos h], ?_, ?_, ?_⟩
  · unfold esc at h
    by_cases h1 : c = 34 ∨ c = 92
    · rw [if_pos h1] at h; cases h
    · rw [if_neg h1] at h
      by_cases h2 : 32 ≤ c.toNat
      · exact h2
      · rw [if_neg h2] at h
        repeat' split at h
        all_goals cases h
  · intro e; subst e; exact absurd h (by decide)
  · intro e; subst e; exact absurd h (by decide)
theorem esc_high {c : UInt8} (h : 128 ≤ c.toNat) : esc c = [] := by
  unfold esc
  rw [if_neg (by
    rintro (rfl | rfl)
    · exact absurd h (by decide)
    · exact absurd h (by decide)), if_pos (by omega)]
theorem body_high : ∀ (l : List UInt8), (∀ c ∈ l, 128 ≤ c.toNat) → body l = l
  | [], _ => rfl
  | c :: l, h => by
    rw [body_cons, (q_plain (esc_high (h c (by simp)))).1, body_high l (fun x hx => h x (by simp [hx]))]; rfl
/-- The bytes of a rune beyond ASCII are all beyond ASCII. -/
theorem enc_high (r : Nat) (h : 128 ≤ r) : ∀ c ∈ Txt.enc (r : Int), 128 ≤ c.toNat := by
  intro c hc
  have hm : c.toNat ∈ (Txt.enc (r : Int)).map UInt8.toNat := List.mem_map_of_mem hc
  rw [Txt.enc_toNat] at hm
  unfold Txt.encN at hm
  repeat' split at hm
  all_goals simp at hm
  all_goals omega
theorem word (l : List UInt8) (h : (Txt.dec l).2 ≠ 0) (hn : (Txt.dec l).1 < 128) : ∃ c t, l = c :: t ∧ c.toNat = (Txt.dec l).1 ∧ c.toNat < 128 ∧ (Txt.dec l).2 = 1 := by
  have e := Txt.enc_dec l h
  obtain ⟨hne, _, _⟩ := Txt.dec_cons_ne h
  cases l with
  | nil => exact absurd rfl hne
  | cons c t =>
    have hd := Txt.dec_le (c :: t)
    have hh : ((c :: t).take (Txt.dec (c :: t)).2).map UInt8.toNat = [(Txt.dec (c :: t)).1] := by rw [← e, Txt.enc_toNat, Txt.encN_1 hn]
    have hl := congrArg List.length hh
    simp only [List.length_map, List.length_take, List.length_cons, List.length_nil] at hl
    have h1 : (Txt.dec (c :: t)).2 = 1 := by simp only [List.length_cons] at hd; omega
    rw [h1] at hh
    simp at hh
    exact ⟨c, t, rfl, hh, by omega, h1⟩
/-- What a step of a valid text is: an ASCII byte, or the bytes of a rune beyond ASCII. -/
theorem head_cases (l : List UInt8) (h1 : l ≠ []) (h : Lib.validD l = true) :
    (∃ c t, l = c :: t ∧ c.toNat < 128 ∧ Lib.validD t = true) ∨
    (∃ r a t, l = a ++ t ∧ a ≠ [] ∧ 128 ≤ r ∧ Txt.enc ((r : Nat) : Int) = a ∧ Txt.dec a = (r, a.length) ∧ Lib.validD t = true) := by
  obtain ⟨v1, _, v3⟩ := Txt.dec_valid h1 h
  by_cases hr : (Txt.dec l).1 < 128
  · obtain ⟨c, t, rfl, hc, hc2, hw⟩ := word l v1 hr
    rw [hw] at v3
    exact .inl ⟨c, t, rfl, hc2, v3⟩
  · have e := Txt.enc_dec l v1
    have hle := Txt.dec_le l
    have hne : l.take (Txt.dec l).2 ≠ [] := by
      intro e0
      have h0 := congrArg List.length e0
      rw [List.length_take, List.length_nil] at h0
      omega
    have hd := Txt.dec_of_enc (Txt.dec l).1 _ [] e hne
    rw [List.append_nil] at hd
    exact .inr ⟨(Txt.dec l).1, l.take (Txt.dec l).2, l.drop (Txt.dec l).2, (List.take_append_drop _ _).symm, hne, by omega, e, hd, v3⟩
theorem parse_char (c : UInt8) (t : List UInt8) (h : c.toNat < 128) : parse (q c ++ t) = ((parse t).1, (q c).length + (parse t).2.1, c :: (parse t).2.2) := by
  by_cases he : esc c = []
  · obtain ⟨hq, h32, h34, h92⟩ := q_plain he
    have n34 : c.toNat ≠ 34 := fun e => h34 (UInt8.toNat_inj.1 e)
    have n92 : c.toNat ≠ 92 := fun e => h92 (UInt8.toNat_inj.1 e)
    rw [hq]
    show parse (c :: t) = _
    rw [parse_step _ (by simp), dec_ascii c t h]
    simp only
    rw [if_neg (by omega), if_neg (by omega), if_neg n34, if_neg n92, enc_ascii c h]
    rfl
  · obtain ⟨hs, h0, h2, _⟩ := seq_esc c t he
    have hq : q c = esc c := by unfold q; rw [if_neg he]
    rw [hq]
    obtain ⟨x, y, hxy⟩ : ∃ x y, esc c = x :: y := List.exists_cons_of_ne_nil he
    have hx : x = 92 := by rw [hxy] at h0; simpa using h0
    subst hx
    rw [parse_step _ (by simp [he])]
    rw [hs]
    rw [hxy] at h2 ⊢
    rw [List.cons_append, dec_ascii 92 (y ++ t) (by decide)]
    have hlen : (92 :: (y ++ t)).length ≠ 1 := by simp only [List.length_cons, List.length_append] at h2 ⊢; omega
    simp only
    rw [if_neg (by omega), if_neg (by decide), if_neg (by decide), if_pos (by decide), if_neg hlen, if_neg (by simp), enc_ascii c h]
    have hdr : (92 :: (y ++ t)).drop (92 :: y).length = t := by
      rw [← List.cons_append, List.drop_left]
    rw [hdr]; rfl
theorem parse_rune (r : Nat) (a t : List UInt8) (hr : 128 ≤ r) (he : Txt.enc (r : Int) = a) (hne : a ≠ []) : body a = a ∧ parse (a ++ t) = ((parse t).1, a.length + (parse t).2.1, a ++ (parse t).2.2) := by
  have hh : ∀ c ∈ a, 128 ≤ c.toNat := by rw [← he]; exact enc_high r hr
  refine ⟨body_high a hh, ?_⟩
  rw [parse_step _ (by simp [hne]), Txt.dec_of_enc r a t he hne]
  have : 0 < a.length := List.length_pos_iff.2 hne
  simp only
  rw [if_neg (by omega), if_neg (by omega), if_neg (by omega), if_neg (by omega), List.drop_left, he]
theorem parse_body (n : Nat) : ∀ (s t : List UInt8), s.length ≤ n → Lib.validD s = true → parse (body s ++ t) = ((parse t).1, (body s).length + (parse t).2.1, s ++ (parse t).2.2) := by
  induction n with
  | zero =>
    intro s t h _
    have : s = [] := List.eq_nil_of_length_eq_zero (by omega)
    subst this; simp [body]
  | succ n ih =>
    intro s t h hv
    by_cases h1 : s = []
    · subst h1; simp [body]
    · rcases head_cases s h1 hv with ⟨c, u, rfl, hc, hu⟩ | ⟨r, a, u, rfl, hne, hr, he, _, hu⟩
      · rw [body_cons, List.append_assoc, parse_char c _ hc, ih u t (by simpa using h) hu]
        simp; omega
      · obtain ⟨hb, hp⟩ := parse_rune r a (body u ++ t) hr he hne
        have : 0 < a.length := List.length_pos_iff.2 hne
        rw [body_append, hb, List.append_assoc, hp, ih u t (by simp at h; omega) hu]
        simp; omega
theorem parse_quote (s t : List UInt8) (h : Lib.validD s = true) : parse (body s ++ 34 :: t) = (0, (body s).length + 1, s) := by
  have e : parse (34 :: t) = (0, 1, []) := by
    rw [parse_step _ (by simp), dec_ascii 34 t (by decide)]; rfl
  rw [parse_body _ s _ (Nat.le_refl _) h, e]; simp
theorem valid_append (n : Nat) : ∀ (s t : List UInt8), s.length ≤ n → Lib.validD s = true → Lib.validD (s ++ t) = Lib.validD t := by
  induction n with
  | zero =>
    intro s t h _
    have : s = [] := List.eq_nil_of_length_eq_zero (by omega)
    subst this; rfl
  | succ n ih =>
    intro s t h hv
    by_cases h1 : s = []
    · subst h1; rfl
    · obtain ⟨v1, _, v3⟩ := Txt.dec_valid h1 hv
      have hle := Txt.dec_le s
      rw [Txt.valid_of_dec (l := s ++ t) (by rw [Txt.dec_append s t v1]; exact v1), Txt.dec_append s t v1, List.drop_append_of_le_length hle]
      exact ih _ t (by rw [List.length_drop]; omega) v3

/-! ### proper prefixes -/
def cut (x : Nat × Nat × List UInt8) : Prop := x.1 = 5 ∨ x.1 = 8 ∨ x.1 = 16
theorem cut_nil : cut (parse []) := .inr (.inl rfl)
/-- A proper prefix of a rune's bytes does not decode. -/
theorem dec_prefix (a p s : List UInt8) (r : Nat) (h : Txt.dec a = (r, a.length)) (e : a = p ++ s) (hs : s ≠ []) : (Txt.dec p).2 = 0 := by
  rcases Nat.eq_zero_or_pos (Txt.dec p).2 with h0 | h0
  · exact h0
  · have := Txt.dec_append p s (by omega)
    rw [← e, h] at this
    have h2 := Txt.dec_le p
    rw [← this] at h2
    have : 0 < s.length := List.length_pos_iff.2 hs
    rw [e] at h2
    simp at h2
    omega
theorem unit_short {l : List UInt8} (h : l.length < 6) : unitV l = none := by unfold unitV; rw [if_pos (.inl h)]
theorem cut_char (c : UInt8) (p s : List UInt8) (e : q c = p ++ s) (hp : p ≠ []) (hs : s ≠ []) : cut (parse p) := by
  have he : esc c ≠ [] := by
    intro h0
    rw [(q_plain h0).1] at e
    have := congrArg List.length e
    have h1 : 0 < p.length := List.length_pos_iff.2 hp
    have h2 : 0 < s.length := List.length_pos_iff.2 hs
    simp at this; omega
  have hq : q c = esc c := by unfold q; rw [if_neg he]
  rw [hq] at e
  obtain ⟨_, h0, _, _⟩ := seq_esc c [] he
  obtain ⟨x, y, rfl⟩ : ∃ x y, p = x :: y := List.exists_cons_of_ne_nil hp
  have hx : x = 92 := by rw [e] at h0; simpa using h0
  subst hx
  rw [cut, parse_step _ (by simp), dec_ascii 92 y (by decide)]
  simp only
  rw [if_neg (by omega), if_neg (by decide), if_neg (by decide), if_pos (by decide)]
  by_cases hy : y = []
  · subst hy; simp
  · have hy0 : 0 < y.length := List.length_pos_iff.2 hy
    have hs0 : 0 < s.length := List.length_pos_iff.2 hs
    rw [if_neg (by simp; exact hy)]
    have hlen := congrArg List.length e
    have h6 := esc_len c
    have hu : unitV (92 :: y) = none := unit_short (by simp at hlen ⊢; omega)
    -- the escape has six bytes, its second one is u
    have h117 : (92 :: y).getD 1 0 = 117 := by
      have e1 : (esc c).getD 1 0 = (92 :: y).getD 1 0 := by
        rw [e]
        obtain ⟨z, y', rfl⟩ : ∃ z y', y = z :: y' := List.exists_cons_of_ne_nil hy
        rfl
      rw [← e1]
      unfold esc at he hlen ⊢
      by_cases h1 : c = 34 ∨ c = 92
      · rw [if_pos h1] at hlen; simp at hlen; omega
      · rw [if_neg h1] at he hlen ⊢
        by_cases h2 : 32 ≤ c.toNat
        · rw [if_pos h2] at he; exact absurd rfl he
        · rw [if_neg h2] at hlen ⊢
          by_cases h3 : c = 8
          · rw [if_pos h3] at hlen; simp at hlen; omega
          · rw [if_neg h3] at hlen ⊢
            by_cases h4 : c = 12
            · rw [if_pos h4] at hlen; simp at hlen; omega
            · rw [if_neg h4] at hlen ⊢
              by_cases h5 : c = 10
              · rw [if_pos h5] at hlen; simp at hlen; omega
              · rw [if_neg h5] at hlen ⊢
                by_cases h6 : c = 13
                · rw [if_pos h6] at hlen; simp at hlen; omega
                · rw [if_neg h6] at hlen ⊢
                  by_cases h7 : c = 9
                  · rw [if_pos h7] at hlen; simp at hlen; omega
                  · rw [if_neg h7]; rfl
    have hseq : seqV (92 :: y) = (0, 0) := by
      unfold seqV
      rw [h117, if_neg (by decide), if_neg (by decide), if_neg (by decide), if_neg (by decide), if_neg (by decide), if_neg (by decide), hu]
    rw [hseq]
    simp
theorem split_of {a p : List UInt8} {k : Nat} (h : a.take k = p) : a = p ++ a.drop k := by rw [← h, List.take_append_drop]
theorem cut_body (n : Nat) : ∀ (s p t : List UInt8), s.length ≤ n → Lib.validD s = true → body s = p ++ t → cut (parse p) := by
  induction n with
  | zero =>
    intro s p t h _ e
    have : s = [] := List.eq_nil_of_length_eq_zero (by omega)
    subst this
    have : p = [] := by
      have := congrArg List.length e
      simp [body] at this
      exact List.eq_nil_of_length_eq_zero (by omega)
    subst this
    exact cut_nil
  | succ n ih =>
    intro s p t h hv e
    by_cases hp : p = []
    · subst hp; exact cut_nil
    · by_cases h1 : s = []
      · subst h1
        exact absurd (List.append_eq_nil_iff.1 e.symm).1 hp
      · rcases head_cases s h1 hv with ⟨c, u, rfl, hc, hu⟩ | ⟨r, a, u, rfl, hne, hr, he, hda, hu⟩
        · rw [body_cons] at e
          by_cases hle : (q c).length ≤ p.length
          · obtain ⟨p', rfl⟩ : ∃ p', p = q c ++ p' := ⟨p.drop (q c).length, by
              have h2 := congrArg (List.take (q c).length) e
              rw [List.take_left, List.take_append_of_le_length hle] at h2
              exact split_of h2.symm⟩
            rw [List.append_assoc, List.append_cancel_left_eq] at e
            have := ih u p' t (by simpa using h) hu e
            rw [parse_char c p' hc]
            exact this
          · refine cut_char c p ((q c).drop p.length) ?_ hp ?_
            · have h2 := congrArg (List.take p.length) e
              rw [List.take_append_of_le_length (by omega), List.take_left] at h2
              exact split_of h2
            · intro h0
              have := congrArg List.length h0
              simp at this; omega
        · obtain ⟨hb, hpr⟩ := parse_rune r a [] hr he hne
          rw [body_append, hb] at e
          by_cases hle : a.length ≤ p.length
          · obtain ⟨p', rfl⟩ : ∃ p', p = a ++ p' := ⟨p.drop a.length, by
              have h2 := congrArg (List.take a.length) e
              rw [List.take_left, List.take_append_of_le_length hle] at h2
              exact split_of h2.symm⟩
            rw [List.append_assoc, List.append_cancel_left_eq] at e
            have h0 : 0 < a.length := List.length_pos_iff.2 hne
            have := ih u p' t (by simp at h; omega) hu e
            rw [(parse_rune r a p' hr he hne).2]
            exact this
          · have h2 := congrArg (List.take p.length) e
            rw [List.take_append_of_le_length (by omega), List.take_left] at h2
            have hne' : a.drop p.length ≠ [] := by
              intro h0
              have := congrArg List.length h0
              simp at this; omega
            have hd0 := dec_prefix a p (a.drop p.length) r hda (split_of h2) hne'
            rw [cut, parse_step p hp, if_pos hd0]
            exact .inl rfl
end Go.Proofs.YtbodoncomeegpaaGreatDoor.Js
