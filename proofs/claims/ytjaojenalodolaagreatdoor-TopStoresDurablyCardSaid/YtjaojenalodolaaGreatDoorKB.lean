/- Parts of this proof, joined: Js, Mo, Jv, Rw. -/
import Derived.Test.YtjaojenalodolaaGreatDoorKA
import Derived.Lib.ItoaNum
import Derived.WalkKit
import Derived.Below
import Derived.Lib.Hide
/- Plain facts on JSON strings: quoting and parsing. No program in sight. -/
namespace Go.Proofs.YtjaojenalodolaaGreatDoor.Js
open Go Go.Proofs.YtjaojenalodolaaGreatDoor
def hexd (n : Nat) : UInt8 := if n < 10 then UInt8.ofNat (48 + n) else UInt8.ofNat (87 + n)
def esc (c : UInt8) : List UInt8 :=
  if c = 34 ∨ c = 92 then [92, c] else if 32 ≤ c.toNat then [] else if c = 8 then [92, 98] else if c = 12 then [92, 102] else if c = 10 then [92, 110]
  else if c = 13 then [92, 114] else if c = 9 then [92, 116] else [92, 117, 48, 48, hexd (c.toNat / 16), hexd (c.toNat % 16)]
def q (c : UInt8) : List UInt8 := if esc c = [] then [c] else esc c
def body (l : List UInt8) : List UInt8 := l.flatMap q
def quote (l : List UInt8) : List UInt8 := 34 :: (body l ++ [34])
theorem body_nil : body [] = [] := rfl
theorem body_append (a b : List UInt8) : body (a ++ b) = body a ++ body b := by unfold body; rw [List.flatMap_append]
theorem body_cons (c : UInt8) (l : List UInt8) : body (c :: l) = q c ++ body l := rfl
theorem esc_len (c : UInt8) : (esc c).length ≤ 6 := by unfold esc; repeat' split
                                                       all_goals simp
theorem q_len (c : UInt8) : 1 ≤ (q c).length ∧ (q c).length ≤ 6 := by
  unfold q
  by_cases h : esc c = []
  · rw [if_pos h]; simp
  · rw [if_neg h]; exact ⟨List.length_pos_iff.2 h, esc_len c⟩
theorem body_len (l : List UInt8) : l.length ≤ (body l).length ∧ (body l).length ≤ 6 * l.length := by
  induction l with
  | nil => simp [body]
  | cons c l ih => rw [body_cons]; have := q_len c; simp only [List.length_append, List.length_cons]; omega
def hexv (c : Nat) : Option Nat := if 48 ≤ c ∧ c ≤ 57 then some (c - 48) else if 97 ≤ c ∧ c ≤ 102 then some (c - 87) else if 65 ≤ c ∧ c ≤ 70 then some (c - 55) else none
def hx (l : List UInt8) : Nat → Option Nat
  | 0 => some 0
  | i + 1 => (hx l i).bind fun n => (hexv (l.getD (2 + i) 0).toNat).map fun d => n * 16 + d
def unitV (l : List UInt8) : Option Nat := if l.length < 6 ∨ l.getD 0 0 ≠ 92 ∨ l.getD 1 0 ≠ 117 then none else hx l 4
def seqV (l : List UInt8) : Nat × Nat :=
  if l.getD 1 0 = 34 ∨ l.getD 1 0 = 92 ∨ l.getD 1 0 = 47 then ((l.getD 1 0).toNat, 2)
  else if l.getD 1 0 = 98 then (8, 2) else if l.getD 1 0 = 102 then (12, 2) else if l.getD 1 0 = 110 then (10, 2) else if l.getD 1 0 = 114 then (13, 2) else if l.getD 1 0 = 116 then (9, 2)
  else match unitV l with
    | none => (0, 0)
    | some r => if 56320 ≤ r ∧ r ≤ 57343 then (0, 0) else if r < 55296 ∨ 57343 < r then (r, 6)
      else match unitV (l.drop 6) with
        | none => (0, 0)
        | some m => if m < 56320 ∨ 57343 < m then (0, 0) else ((r - 55296) * 1024 + (m - 56320) + 65536, 12)
def prs : Nat → List UInt8 → Nat × Nat × List UInt8
  | 0, _ => (8, 0, [])
  | f + 1, l =>
    if l = [] then (8, 0, [])
    else if (Txt.dec l).2 = 0 then (5, 0, [])
    else if (Txt.dec l).1 < 32 then (6, 0, [])
    else if (Txt.dec l).1 = 34 then (0, 1, [])
    else if (Txt.dec l).1 = 92 then
      (if l.length = 1 then (8, 0, [])
       else if (seqV l).2 = 0 then (16, 0, [])
       else ((prs f (l.drop (seqV l).2)).1, (seqV l).2 + (prs f (l.drop (seqV l).2)).2.1, Txt.enc (seqV l).1 ++ (prs f (l.drop (seqV l).2)).2.2))
    else ((prs f (l.drop (Txt.dec l).2)).1, (Txt.dec l).2 + (prs f (l.drop (Txt.dec l).2)).2.1, Txt.enc (Txt.dec l).1 ++ (prs f (l.drop (Txt.dec l).2)).2.2)
def parse (l : List UInt8) : Nat × Nat × List UInt8 := prs l.length l
theorem hexv_bd {c d : Nat} (h : hexv c = some d) : d < 16 := by
  unfold hexv at h
  by_cases h1 : 48 ≤ c ∧ c ≤ 57
  · rw [if_pos h1] at h; cases h; omega
  · rw [if_neg h1] at h
    by_cases h2 : 97 ≤ c ∧ c ≤ 102
    · rw [if_pos h2] at h; cases h; omega
    · rw [if_neg h2] at h
      by_cases h3 : 65 ≤ c ∧ c ≤ 70
      · rw [if_pos h3] at h; cases h; omega
      · rw [if_neg h3] at h; cases h
theorem hx_bd (l : List UInt8) : ∀ (i n : Nat), hx l i = some n → n < 16 ^ i
  | 0, n, h => by simp [hx] at h; omega
  | i + 1, n, h => by
    simp only [hx, Option.bind_eq_some_iff, Option.map_eq_some_iff] at h
    obtain ⟨m, hm, d, hd, rfl⟩ := h
    have := hx_bd l i m hm
    have hd16 := hexv_bd hd
    rw [Nat.pow_succ]; omega
theorem unitV_bd {l : List UInt8} {n : Nat} (h : unitV l = some n) : n < 65536 ∧ 6 ≤ l.length := by
  unfold unitV at h
  split at h
  · cases h
  · rename_i hc
    exact ⟨hx_bd l 4 n h, by omega⟩
theorem seqV_bd (l : List UInt8) (h2 : 2 ≤ l.length) : (seqV l).2 ≤ l.length ∧ (seqV l).1 ≤ 1114111 ∧ ((seqV l).2 ≠ 0 → (seqV l).1 < 55296 ∨ 57343 < (seqV l).1) ∧ (seqV l).2 ≤ 12 := by
  have hc := UInt8.toNat_lt (l.getD 1 0)
  unfold seqV
  split
  · exact ⟨h2, by simp only; omega, fun _ => by left; simp only; omega, by simp⟩
  · split
    · exact ⟨h2, by simp, fun _ => by left; simp, by simp⟩
    · split
      · exact ⟨h2, by simp, fun _ => by left; simp, by simp⟩
      · split
        · exact ⟨h2, by simp, fun _ => by left; simp, by simp⟩
        · split
          · exact ⟨h2, by simp, fun _ => by left; simp, by simp⟩
          · split
            · exact ⟨h2, by simp, fun _ => by left; simp, by simp⟩
            · split
              · simp
              · rename_i r hr
                obtain ⟨a, b⟩ := unitV_bd hr
                split
                · simp
                · split
                  · exact ⟨b, by simp only; omega, fun _ => by simp only; omega, by simp⟩
                  · split
                    · simp
                    · rename_i m hm
                      obtain ⟨c, d⟩ := unitV_bd hm
                      rw [List.length_drop] at d
                      split
                      · simp
                      · exact ⟨by simp only; omega, by simp only; omega, fun _ => by simp only; omega, by simp⟩
theorem prs_fuel : ∀ (f g : Nat) (l : List UInt8), l.length ≤ f → l.length ≤ g → prs f l = prs g l
  | 0, g, l, hf, _ => by
    have : l = [] := List.eq_nil_of_length_eq_zero (by omega)
    subst this
    cases g <;> simp [prs]
  | f + 1, 0, l, _, hg => by
    have : l = [] := List.eq_nil_of_length_eq_zero (by omega)
    subst this
    simp [prs]
  | f + 1, g + 1, l, hf, hg => by
    unfold prs
    by_cases h1 : l = []
    · simp [h1]
    · by_cases h2 : (Txt.dec l).2 = 0
      · simp [h1, h2]
      · by_cases h3 : (seqV l).2 = 0
        · rw [prs_fuel f g (l.drop (Txt.dec l).2) (by rw [List.length_drop]; omega) (by rw [List.length_drop]; omega)]
          simp [h3]
        · rw [prs_fuel f g (l.drop (Txt.dec l).2) (by rw [List.length_drop]; omega) (by rw [List.length_drop]; omega),
            prs_fuel f g (l.drop (seqV l).2) (by rw [List.length_drop]; omega) (by rw [List.length_drop]; omega)]
theorem parse_step (l : List UInt8) (h1 : l ≠ []) : parse l =
    if (Txt.dec l).2 = 0 then (5, 0, [])
    else if (Txt.dec l).1 < 32 then (6, 0, [])
    else if (Txt.dec l).1 = 34 then (0, 1, [])
    else if (Txt.dec l).1 = 92 then
      (if l.length = 1 then (8, 0, [])
       else if (seqV l).2 = 0 then (16, 0, [])
       else ((parse (l.drop (seqV l).2)).1, (seqV l).2 + (parse (l.drop (seqV l).2)).2.1, Txt.enc (seqV l).1 ++ (parse (l.drop (seqV l).2)).2.2))
    else ((parse (l.drop (Txt.dec l).2)).1, (Txt.dec l).2 + (parse (l.drop (Txt.dec l).2)).2.1, Txt.enc (Txt.dec l).1 ++ (parse (l.drop (Txt.dec l).2)).2.2) := by
  have hl : 0 < l.length := List.length_pos_iff.2 h1
  obtain ⟨n, hn⟩ : ∃ n, l.length = n + 1 := ⟨l.length - 1, by omega⟩
  unfold parse
  by_cases h2 : (Txt.dec l).2 = 0
  · rw [hn]; simp [prs, h1, h2]
  · by_cases h3 : (seqV l).2 = 0
    · rw [hn]
      simp only [prs]
      rw [if_neg h1, prs_fuel n (l.drop (Txt.dec l).2).length (l.drop (Txt.dec l).2) (by rw [List.length_drop]; omega) (Nat.le_refl _)]
      rw [hn]
      simp [h3]
    · have e1 := prs_fuel n (l.drop (Txt.dec l).2).length (l.drop (Txt.dec l).2) (by rw [List.length_drop]; omega) (Nat.le_refl _)
      have e2 := prs_fuel n (l.drop (seqV l).2).length (l.drop (seqV l).2) (by rw [List.length_drop]; omega) (Nat.le_refl _)
      rw [show prs l.length l = prs (n + 1) l by rw [hn]]
      simp only [prs]
      rw [if_neg h1, e1, e2]
theorem hexv_hexd (n : Nat) (h : n < 16) : hexv (hexd n).toNat = some n := by
  rcases (show n = 0 ∨ n = 1 ∨ n = 2 ∨ n = 3 ∨ n = 4 ∨ n = 5 ∨ n = 6 ∨ n = 7 ∨ n = 8 ∨ n = 9 ∨ n = 10 ∨ n = 11 ∨ n = 12 ∨ n = 13 ∨ n = 14 ∨ n = 15 by omega) with rfl | rfl | rfl | rfl | rfl | rfl | rfl | rfl | rfl | rfl | rfl | rfl | rfl | rfl | rfl | rfl <;> rfl
theorem dec_ascii (c : UInt8) (t : List UInt8) (h : c.toNat < 128) : Txt.dec (c :: t) = (c.toNat, 1) := by
  unfold Txt.dec
  rw [if_neg (by simp), Lib.decodeL_ascii c t h, if_neg (by simp; omega)]
theorem enc_ascii (c : UInt8) (h : c.toNat < 128) : Txt.enc (c.toNat : Int) = [c] := by
  apply Txt.map_toNat_inj
  rw [Txt.enc_toNat, Txt.encN_1 h]; rfl
theorem unit_six (a b c d : UInt8) (t : List UInt8) : unitV (92 :: 117 :: a :: b :: c :: d :: t) =
    (hexv a.toNat).bind fun x => (hexv b.toNat).bind fun y => (hexv c.toNat).bind fun z => (hexv d.toNat).map fun u => ((x * 16 + y) * 16 + z) * 16 + u := by
  unfold unitV
  rw [if_neg (by simp)]
  simp only [hx, Nat.add_zero, List.getD_cons_zero, List.getD_cons_succ]
  cases hexv a.toNat <;> simp
  cases hexv b.toNat <;> simp
  cases hexv c.toNat <;> simp
theorem seq_esc (c : UInt8) (t : List UInt8) (he : esc c ≠ []) : seqV (esc c ++ t) = (c.toNat, (esc c).length) ∧ (esc c).getD 0 0 = 92 ∧ 2 ≤ (esc c).length ∧ c.toNat < 128 := by
  unfold esc at he ⊢
  by_cases h1 : c = 34 ∨ c = 92
  · rw [if_pos h1]
    rcases h1 with rfl | rfl <;> exact ⟨rfl, rfl, by simp, by decide⟩
  · rw [if_neg h1] at he ⊢
    by_cases h2 : 32 ≤ c.toNat
    · rw [if_pos h2] at he; exact absurd rfl he
    · rw [if_neg h2]
      by_cases h3 : c = 8
      · subst h3; exact ⟨rfl, rfl, by simp, by decide⟩
      · rw [if_neg h3]
        by_cases h4 : c = 12
        · subst h4; exact ⟨rfl, rfl, by simp, by decide⟩
        · rw [if_neg h4]
          by_cases h5 : c = 10
          · subst h5; exact ⟨rfl, rfl, by simp, by decide⟩
          · rw [if_neg h5]
            by_cases h6 : c = 13
            · subst h6; exact ⟨rfl, rfl, by simp, by decide⟩
            · rw [if_neg h6]
              by_cases h7 : c = 9
              · subst h7; exact ⟨rfl, rfl, by simp, by decide⟩
              · rw [if_neg h7]
                refine ⟨?_, rfl, by simp, by omega⟩
                have hu : unitV (92 :: 117 :: 48 :: 48 :: hexd (c.toNat / 16) :: hexd (c.toNat % 16) :: t) = some c.toNat := by
                  rw [unit_six, hexv_hexd _ (by omega), hexv_hexd _ (by omega)]
                  show some ((((48 - 48) * 16 + (48 - 48)) * 16 + c.toNat / 16) * 16 + c.toNat % 16) = some c.toNat
                  congr 1
                  omega
                show seqV (92 :: 117 :: 48 :: 48 :: hexd (c.toNat / 16) :: hexd (c.toNat % 16) :: t) = _
                unfold seqV
                rw [if_neg (by simp), if_neg (by simp), if_neg (by simp), if_neg (by simp), if_neg (by simp), if_neg (by simp), hu]
                show (if 56320 ≤ c.toNat ∧ c.toNat ≤ 57343 then ((0, 0) : Nat × Nat) else if c.toNat < 55296 ∨ 57343 < c.toNat then (c.toNat, 6) else _) = _
                rw [if_neg (by omega), if_pos (by omega)]
                rfl
theorem q_plain {c : UInt8} (h : esc c = []) : q c = [c] ∧ 32 ≤ c.toNat ∧ c ≠ 34 ∧ c ≠ 92 := by
  refine ⟨by unfold q; rw [if_pos h], ?_, ?_, ?_⟩
  · unfold esc at h
    by_cases h1 : c = 34 ∨ c = 92
    · rw [if_pos h1] at h; cases h
    · rw [if_neg h1] at h
      by_cases h2 : 32 ≤ c.toNat
      · exact h2
      · rw [if_neg h2] at h
        repeat' split at h
        all_goals cases h
  · intro e; subst e; exact absurd h (by decide)
  · intro e; subst e; exact absurd h (by decide)
theorem esc_high {c : UInt8} (h : 128 ≤ c.toNat) : esc c = [] := by
  unfold esc
  rw [if_neg (by
    rintro (rfl | rfl)
    · exact absurd h (by decide)
    · exact absurd h (by decide)), if_pos (by omega)]
theorem body_high : ∀ (l : List UInt8), (∀ c ∈ l, 128 ≤ c.toNat) → body l = l
  | [], _ => rfl
  | c :: l, h => by
    rw [body_cons, (q_plain (esc_high (h c (by simp)))).1, body_high l (fun x hx => h x (by simp [hx]))]; rfl
theorem enc_high (r : Nat) (h : 128 ≤ r) : ∀ c ∈ Txt.enc (r : Int), 128 ≤ c.toNat := by
  intro c hc
  have hm : c.toNat ∈ (Txt.enc (r : Int)).map UInt8.toNat := List.mem_map_of_mem hc
  rw [Txt.enc_toNat] at hm
  unfold Txt.encN at hm
  repeat' split at hm
  all_goals simp at hm
  all_goals omega
theorem word (l : List UInt8) (h : (Txt.dec l).2 ≠ 0) (hn : (Txt.dec l).1 < 128) : ∃ c t, l = c :: t ∧ c.toNat = (Txt.dec l).1 ∧ c.toNat < 128 ∧ (Txt.dec l).2 = 1 := by
  have e := Txt.enc_dec l h
  obtain ⟨hne, _, _⟩ := Txt.dec_cons_ne h
  cases l with
  | nil => exact absurd rfl hne
  | cons c t =>
    have hd := Txt.dec_le (c :: t)
    have hh : ((c :: t).take (Txt.dec (c :: t)).2).map UInt8.toNat = [(Txt.dec (c :: t)).1] := by rw [← e, Txt.enc_toNat, Txt.encN_1 hn]
    have hl := congrArg List.length hh
    simp only [List.length_map, List.length_take, List.length_cons, List.length_nil] at hl
    have h1 : (Txt.dec (c :: t)).2 = 1 := by simp only [List.length_cons] at hd; omega
    rw [h1] at hh
    simp at hh
    exact ⟨c, t, rfl, hh, by omega, h1⟩
theorem head_cases (l : List UInt8) (h1 : l ≠ []) (h : Lib.validD l = true) :
    (∃ c t, l = c :: t ∧ c.toNat < 128 ∧ Lib.validD t = true) ∨
    (∃ r a t, l = a ++ t ∧ a ≠ [] ∧ 128 ≤ r ∧ Txt.enc ((r : Nat) : Int) = a ∧ Txt.dec a = (r, a.length) ∧ Lib.validD t = true) := by
  obtain ⟨v1, _, v3⟩ := Txt.dec_valid h1 h
  by_cases hr : (Txt.dec l).1 < 128
  · obtain ⟨c, t, rfl, hc, hc2, hw⟩ := word l v1 hr
    rw [hw] at v3
    exact .inl ⟨c, t, rfl, hc2, v3⟩
  · have e := Txt.enc_dec l v1
    have hle := Txt.dec_le l
    have hne : l.take (Txt.dec l).2 ≠ [] := by
      intro e0
      have h0 := congrArg List.length e0
      rw [List.length_take, List.length_nil] at h0
      omega
    have hd := Txt.dec_of_enc (Txt.dec l).1 _ [] e hne
    rw [List.append_nil] at hd
    exact .inr ⟨(Txt.dec l).1, l.take (Txt.dec l).2, l.drop (Txt.dec l).2, (List.take_append_drop _ _).symm, hne, by omega, e, hd, v3⟩
theorem parse_char (c : UInt8) (t : List UInt8) (h : c.toNat < 128) : parse (q c ++ t) = ((parse t).1, (q c).length + (parse t).2.1, c :: (parse t).2.2) := by
  by_cases he : esc c = []
  · obtain ⟨hq, h32, h34, h92⟩ := q_plain he
    have n34 : c.toNat ≠ 34 := fun e => h34 (UInt8.toNat_inj.1 e)
    have n92 : c.toNat ≠ 92 := fun e => h92 (UInt8.toNat_inj.1 e)
    rw [hq]
    show parse (c :: t) = _
    rw [parse_step _ (by simp), dec_ascii c t h]
    simp only
    rw [if_neg (by omega), if_neg (by omega), if_neg n34, if_neg n92, enc_ascii c h]
    rfl
  · obtain ⟨hs, h0, h2, _⟩ := seq_esc c t he
    have hq : q c = esc c := by unfold q; rw [if_neg he]
    rw [hq]
    obtain ⟨x, y, hxy⟩ : ∃ x y, esc c = x :: y := List.exists_cons_of_ne_nil he
    have hx : x = 92 := by rw [hxy] at h0; simpa using h0
    subst hx
    rw [parse_step _ (by simp [he])]
    rw [hs]
    rw [hxy] at h2 ⊢
    rw [List.cons_append, dec_ascii 92 (y ++ t) (by decide)]
    have hlen : (92 :: (y ++ t)).length ≠ 1 := by simp only [List.length_cons, List.length_append] at h2 ⊢; omega
    simp only
    rw [if_neg (by omega), if_neg (by decide), if_neg (by decide), if_pos (by decide), if_neg hlen, if_neg (by simp), enc_ascii c h]
    have hdr : (92 :: (y ++ t)).drop (92 :: y).length = t := by
      rw [← List.cons_append, List.drop_left]
    rw [hdr]; rfl
theorem parse_rune (r : Nat) (a t : List UInt8) (hr : 128 ≤ r) (he : Txt.enc (r : Int) = a) (hne : a ≠ []) : body a = a ∧ parse (a ++ t) = ((parse t).1, a.length + (parse t).2.1, a ++ (parse t).2.2) := by
  have hh : ∀ c ∈ a, 128 ≤ c.toNat := by rw [← he]; exact enc_high r hr
  refine ⟨body_high a hh, ?_⟩
  rw [parse_step _ (by simp [hne]), Txt.dec_of_enc r a t he hne]
  have : 0 < a.length := List.length_pos_iff.2 hne
  simp only
  rw [if_neg (by omega), if_neg (by omega), if_neg (by omega), if_neg (by omega), List.drop_left, he]
theorem parse_body (n : Nat) : ∀ (s t : List UInt8), s.length ≤ n → Lib.validD s = true → parse (body s ++ t) = ((parse t).1, (body s).length + (parse t).2.1, s ++ (parse t).2.2) := by
  induction n with
  | zero =>
    intro s t h _
    have : s = [] := List.eq_nil_of_length_eq_zero (by omega)
    subst this; simp [body]
  | succ n ih =>
    intro s t h hv
    by_cases h1 : s = []
    · subst h1; simp [body]
    · rcases head_cases s h1 hv with ⟨c, u, rfl, hc, hu⟩ | ⟨r, a, u, rfl, hne, hr, he, _, hu⟩
      · rw [body_cons, List.append_assoc, parse_char c _ hc, ih u t (by simpa using h) hu]
        simp; omega
      · obtain ⟨hb, hp⟩ := parse_rune r a (body u ++ t) hr he hne
        have : 0 < a.length := List.length_pos_iff.2 hne
        rw [body_append, hb, List.append_assoc, hp, ih u t (by simp at h; omega) hu]
        simp; omega
theorem parse_quote (s t : List UInt8) (h : Lib.validD s = true) : parse (body s ++ 34 :: t) = (0, (body s).length + 1, s) := by
  have e : parse (34 :: t) = (0, 1, []) := by
    rw [parse_step _ (by simp), dec_ascii 34 t (by decide)]; rfl
  rw [parse_body _ s _ (Nat.le_refl _) h, e]; simp
def cut (x : Nat × Nat × List UInt8) : Prop := x.1 = 5 ∨ x.1 = 8 ∨ x.1 = 16
theorem unit_short {l : List UInt8} (h : l.length < 6) : unitV l = none := by unfold unitV; rw [if_pos (.inl h)]
end Go.Proofs.YtjaojenalodolaaGreatDoor.Js
/- Archives, and which of them are valid, in plain words. -/
namespace Go.Proofs.YtjaojenalodolaaGreatDoor.Mo
open Go Go.Proofs.YtjaojenalodolaaGreatDoor
set_option linter.unusedVariables false
structure En where
  id : ByteArray
  title : ByteArray
  link : ByteArray
  content : ByteArray
  upd : Int
structure Fd where
  path : List ByteArray
  id : ByteArray
  title : ByteArray
  link : ByteArray
  upd : Int
  ents : List En
def inT (t : Int) : Bool := decide (-62135596800 ≤ t) && decide (t ≤ 253402300799)
def okS (s : ByteArray) : Bool := decide ((Txt.chk s.data.toList).2 = 0) && (Txt.collapse s.data.toList == s.data.toList)
def neS (s : ByteArray) : Bool := !s.toList.isEmpty
def cmpS (a b : ByteArray) : Int := if Op.bytesLess a.toList b.toList = true then -1 else if (a.toList == b.toList) = true then 0 else 1
def cmpP : List ByteArray → List ByteArray → Int
  | [], [] => 0
  | [], _ :: _ => -1
  | _ :: _, [] => 1
  | a :: r, b :: s => if (a.toList == b.toList) = true then cmpP r s else cmpS a b
def cmpF (f g : Fd) : Int := if cmpP f.path g.path = 0 then cmpS f.id g.id else cmpP f.path g.path
def cmpE (a b : En) : Int := if b.upd < a.upd then -1 else if a.upd < b.upd then 1 else cmpS a.id b.id
section
variable {α : Type} (chk : α → Bool) (cmp : α → α → Int) (id : α → ByteArray)
def stepB (l : List α) (k : Nat) : Bool :=
  match l[k]? with
  | none => true
  | some x => chk x && (match (if k = 0 then none else l[k - 1]?) with | none => true | some y => decide (cmp y x < 0)) && !((l.take k).any fun y => ((id y).toList == (id x).toList))
def ordK (l : List α) : Nat → Bool
  | 0 => true
  | k + 1 => ordK l k && stepB chk cmp id l k
def ordB (l : List α) : Bool := ordK chk cmp id l l.length
theorem ordK_false {l : List α} {k : Nat} (h : ordK chk cmp id l k = false) : ∀ m, k ≤ m → ordK chk cmp id l m = false
  | 0, hm => by obtain rfl : k = 0 := by omega
                exact h
  | m + 1, hm => by
    by_cases e : k = m + 1
    · rw [← e]; exact h
    · show (ordK chk cmp id l m && _) = false
      rw [ordK_false h m (by omega)]
      rfl
theorem ordB_false {l : List α} {k : Nat} (hk : k < l.length) (h : stepB chk cmp id l k = false) : ordB chk cmp id l = false :=
  ordK_false chk cmp id (k := k + 1) (by show (_ && stepB chk cmp id l k) = false; rw [h, Bool.and_false]) _ hk
theorem ordB_true {l : List α} (h : ordB chk cmp id l = true) : ∀ x ∈ l, chk x = true := by
  have hk : ∀ k, k ≤ l.length → ordK chk cmp id l k = true := fun k hk => by
    cases e : ordK chk cmp id l k with
    | true => rfl
    | false => have := ordK_false chk cmp id e l.length hk; unfold ordB at h; rw [h] at this; cases this
  intro x hx
  obtain ⟨i, hi, rfl⟩ := List.getElem_of_mem hx
  have h1 := hk (i + 1) hi
  have h2 : (ordK chk cmp id l i && stepB chk cmp id l i) = true := h1
  rw [Bool.and_eq_true] at h2
  have h3 := h2.2
  unfold stepB at h3
  rw [List.getElem?_eq_getElem hi] at h3
  simp only [Bool.and_eq_true] at h3
  exact h3.1.1
end
def okE (e : En) : Bool := neS e.id && inT e.upd && okS e.id && okS e.title && okS e.link && okS e.content
def okF (f : Fd) : Bool := decide (f.path.length ≤ 64) && f.path.all (fun p => neS p && okS p) && neS f.id && inT f.upd && okS f.id && okS f.title && okS f.link && ordB okE cmpE (·.id) f.ents
def okA (a : List Fd) : Bool := ordB okF cmpF (·.id) a
def wtP (p : ByteArray) : Nat := 1 + min p.size 9000
def wtE (e : En) : Nat := 1 + min (e.id.size + e.title.size + e.link.size + e.content.size) 9000
def wtF (f : Fd) : Nat := 1 + min (f.id.size + f.title.size + f.link.size) 9000 + (f.path.map wtP).sum + (f.ents.map wtE).sum
def wtA (a : List Fd) : Nat := (a.map wtF).sum
end Go.Proofs.YtjaojenalodolaaGreatDoor.Mo
/- JSON values, their texts, and the value of an archive, in plain words. -/
namespace Go.Proofs.YtjaojenalodolaaGreatDoor.Jv
open Go Go.Proofs.YtjaojenalodolaaGreatDoor
set_option linter.unusedVariables false
inductive J where
  | null
  | bool (b : Bool)
  | int (n : Int)
  | str (s : ByteArray)
  | arr (l : List J)
  | obj (l : List (ByteArray × J))
def dig (n : Int) : List UInt8 := Lib.itoa n
def joinC : List (List UInt8) → List UInt8
  | [] => []
  | [a] => a
  | a :: b :: r => a ++ 44 :: joinC (b :: r)
mutual
def enc : J → List UInt8
  | .null => [110, 117, 108, 108]
  | .bool true => [116, 114, 117, 101]
  | .bool false => [102, 97, 108, 115, 101]
  | .int n => dig n
  | .str s => Js.quote s.data.toList
  | .arr l => 91 :: (joinC (encL l) ++ [93])
  | .obj l => 123 :: (joinC (encM l) ++ [125])
def encL : List J → List (List UInt8)
  | [] => []
  | a :: r => enc a :: encL r
def encM : List (ByteArray × J) → List (List UInt8)
  | [] => []
  | a :: r => encP a :: encM r
def encP : ByteArray × J → List UInt8
  | (k, a) => Js.quote k.data.toList ++ 58 :: enc a
end
theorem encL_map (l : List J) : encL l = l.map enc := by
  induction l with
  | nil => simp [encL]
  | cons a r ih => simp [encL, ih]
theorem encM_map (l : List (ByteArray × J)) : encM l = l.map fun p => Js.quote p.1.data.toList ++ 58 :: enc p.2 := by
  induction l with
  | nil => simp [encM]
  | cons a r ih => obtain ⟨k, a⟩ := a; simp [encM, encP, ih]
theorem joinC_snoc (l : List (List UInt8)) (a : List UInt8) : joinC (l ++ [a]) = if l = [] then a else joinC l ++ 44 :: a := by
  induction l with
  | nil => simp [joinC]
  | cons b r ih =>
    cases r with
    | nil => simp [joinC]
    | cons c r =>
      simp only [List.cons_append, joinC] at ih ⊢
      rw [ih]
      simp
theorem joinC_take (l : List (List UInt8)) (k : Nat) (hk : k < l.length) : joinC (l.take (k + 1)) = if k = 0 then l[k] else joinC (l.take k) ++ 44 :: l[k] := by
  rw [List.take_add_one, List.getElem?_eq_getElem hk]
  simp only [Option.toList_some]
  rw [joinC_snoc]
  by_cases h : k = 0
  · subst h; simp
  · have : l.take k ≠ [] := by
      intro e
      have := congrArg List.length e
      rw [List.length_take, List.length_nil] at this
      omega
    rw [if_neg this, if_neg h]
theorem joinC_len (l : List (List UInt8)) : (joinC l).length ≤ (l.map (·.length + 1)).sum := by
  induction l with
  | nil => simp [joinC]
  | cons a r ih =>
    cases r with
    | nil => simp [joinC]
    | cons b r =>
      have e : (joinC (a :: b :: r)).length = a.length + (1 + (joinC (b :: r)).length) := by
        show (a ++ 44 :: joinC (b :: r)).length = _
        rw [List.length_append, List.length_cons]
        omega
      rw [e, List.map_cons, List.sum_cons]
      omega
mutual
def Ok : Nat → J → Prop
  | d, .str s => d ≤ 100 ∧ Lib.validD s.data.toList = true
  | d, .arr l => d ≤ 100 ∧ OkL (d + 1) l
  | d, .obj l => d ≤ 100 ∧ (l.map (·.1)).Nodup ∧ OkM (d + 1) l
  | d, _ => d ≤ 100
def OkL : Nat → List J → Prop
  | _, [] => True
  | d, a :: r => Ok d a ∧ OkL d r
def OkM : Nat → List (ByteArray × J) → Prop
  | _, [] => True
  | d, a :: r => OkP d a ∧ OkM d r
def OkP : Nat → ByteArray × J → Prop
  | d, (k, a) => Lib.validD k.data.toList = true ∧ Ok d a
end
theorem OkL_iff (d : Nat) (l : List J) : OkL d l ↔ ∀ x ∈ l, Ok d x := by
  induction l with
  | nil => simp [OkL]
  | cons a r ih => simp [OkL, ih]
theorem OkM_iff (d : Nat) (l : List (ByteArray × J)) : OkM d l ↔ ∀ p ∈ l, Lib.validD p.1.data.toList = true ∧ Ok d p.2 := by
  induction l with
  | nil => simp [OkM]
  | cons a r ih => obtain ⟨k, a⟩ := a; simp [OkM, OkP, ih]
def kId : ByteArray := ⟨#[105, 100]⟩
def kTitle : ByteArray := ⟨#[116, 105, 116, 108, 101]⟩
def kLink : ByteArray := ⟨#[108, 105, 110, 107]⟩
def kContent : ByteArray := ⟨#[99, 111, 110, 116, 101, 110, 116]⟩
def kUpdated : ByteArray := ⟨#[117, 112, 100, 97, 116, 101, 100]⟩
def kPath : ByteArray := ⟨#[112, 97, 116, 104]⟩
def kEntries : ByteArray := ⟨#[101, 110, 116, 114, 105, 101, 115]⟩
def jE (e : Mo.En) : J := .obj [(kId, .str e.id), (kTitle, .str e.title), (kLink, .str e.link), (kContent, .str e.content), (kUpdated, .int e.upd)]
def jF (f : Mo.Fd) : J := .obj [(kPath, .arr (f.path.map .str)), (kId, .str f.id), (kTitle, .str f.title), (kLink, .str f.link), (kUpdated, .int f.upd), (kEntries, .arr (f.ents.map jE))]
def jA (a : List Mo.Fd) : J := .arr (a.map jF)
theorem chk_valid (n : Nat) : ∀ l : List UInt8, l.length ≤ n → (Txt.chk l).2 = 0 → Lib.validD l = true := by
  induction n with
  | zero => intro l hl _; obtain rfl : l = [] := List.eq_nil_of_length_eq_zero (by omega); rfl
  | succ n ih =>
    intro l hl h
    by_cases h0 : l = []
    · subst h0; rfl
    · rw [Txt.chk_step l h0] at h
      by_cases h1 : (Txt.dec l).2 = 0
      · rw [if_pos h1] at h; cases h
      · rw [if_neg h1] at h
        by_cases h2 : Txt.isCharB (Txt.dec l).1 = false
        · rw [if_pos h2] at h; cases h
        · rw [if_neg h2] at h
          rw [Txt.valid_of_dec h1]
          refine ih _ ?_ h
          rw [List.length_drop]
          omega
theorem okS_valid {s : ByteArray} (h : Mo.okS s = true) : Lib.validD s.data.toList = true := by
  unfold Mo.okS at h
  rw [Bool.and_eq_true] at h
  exact chk_valid _ _ (Nat.le_refl _) (of_decide_eq_true h.1)
theorem jE_ok {e : Mo.En} (h : Mo.okE e = true) (d : Nat) (hd : d ≤ 98) : Ok d (jE e) := by
  unfold Mo.okE at h
  simp only [Bool.and_eq_true] at h
  obtain ⟨⟨⟨⟨⟨-, -⟩, h1⟩, h2⟩, h3⟩, h4⟩ := h
  unfold jE
  simp only [Ok, OkM, OkP]
  exact ⟨by omega, (show [kId, kTitle, kLink, kContent, kUpdated].Nodup by decide), ⟨by decide, by omega, okS_valid h1⟩, ⟨by decide, by omega, okS_valid h2⟩, ⟨by decide, by omega, okS_valid h3⟩, ⟨by decide, by omega, okS_valid h4⟩, ⟨by decide, by omega⟩, trivial⟩
theorem jF_ok {f : Mo.Fd} (h : Mo.okF f = true) : Ok 2 (jF f) := by
  unfold Mo.okF at h
  simp only [Bool.and_eq_true] at h
  obtain ⟨⟨⟨⟨⟨⟨⟨-, hp⟩, -⟩, -⟩, h1⟩, h2⟩, h3⟩, h4⟩ := h
  have hp2 : OkL 4 (f.path.map J.str) := by
    rw [OkL_iff]
    intro x hx
    obtain ⟨s, hs, rfl⟩ := List.mem_map.1 hx
    have := List.all_eq_true.1 hp s hs
    rw [Bool.and_eq_true] at this
    simp only [Ok]
    exact ⟨by omega, okS_valid this.2⟩
  have he : OkL 4 (f.ents.map jE) := by
    rw [OkL_iff]
    intro x hx
    obtain ⟨e, he, rfl⟩ := List.mem_map.1 hx
    exact jE_ok (Mo.ordB_true _ _ _ h4 e he) 4 (by omega)
  unfold jF
  simp only [Ok, OkM, OkP]
  exact ⟨by omega, (show [kPath, kId, kTitle, kLink, kUpdated, kEntries].Nodup by decide), ⟨by decide, by omega, hp2⟩, ⟨by decide, by omega, okS_valid h1⟩, ⟨by decide, by omega, okS_valid h2⟩, ⟨by decide, by omega, okS_valid h3⟩, ⟨by decide, by omega⟩, ⟨by decide, by omega, he⟩, trivial⟩
theorem jA_ok {a : List Mo.Fd} (h : Mo.okA a = true) : Ok 1 (jA a) := by
  unfold jA
  simp only [Ok]
  refine ⟨by omega, ?_⟩
  rw [OkL_iff]
  intro x hx
  obtain ⟨f, hf, rfl⟩ := List.mem_map.1 hx
  exact jF_ok (Mo.ordB_true _ _ _ h f hf)
end Go.Proofs.YtjaojenalodolaaGreatDoor.Jv
/- Rows of cells in memory; archives and JSON values in memory. -/
namespace Go.Proofs.YtjaojenalodolaaGreatDoor.Rw
open Go Go.RowKit Go.Proofs.YtjaojenalodolaaGreatDoor
set_option linter.unusedVariables false
theorem lt_of_cell {w : World} {a : Addr} {v : Value} (h : w.cell? a = some v) : a.block < w.heap.size := by
  rcases Nat.lt_or_ge a.block w.heap.size with h1 | h1
  · exact h1
  · unfold World.cell? at h
    rw [Array.getElem?_eq_none h1] at h
    cases h
theorem lt_of_heap {w : World} {g : Nat} {x : Obj} (h : w.heap[g]? = some x) : g < w.heap.size := by
  rcases Nat.lt_or_ge g w.heap.size with h1 | h1
  · exact h1
  · rw [Array.getElem?_eq_none h1] at h
    cases h
theorem below_seq {u v w : World} (h : Below u.heap.size u v) (k : Below v.heap.size v w) : Below u.heap.size u w := h.trans (k.mono h.size)
theorem below_drewN {S : Nat} {W w : World} (h : Below S W w) (n : Nat) : Below S W (w.drewN n) := ⟨h.os, h.tape, h.output, h.size, h.block⟩
theorem cell_under {w w' : World} {a : Addr} {v : Value} (h : w.cell? a = some v) (hb : Below w.heap.size w w') : w'.cell? a = some v := (hb.cell (lt_of_cell h)).trans h
def Rw (w : World) (v : Value) (sz : Nat) (L : List (List Value)) : Prop :=
  ∃ g off ad cap, v = .slice ad L.length cap ∧ (0 < L.length → ad = some ⟨g, off, none⟩) ∧ ∀ j (hj : j < L.length) k (hk : k < sz), ∃ x, L[j][k]? = some x ∧ w.cell? ⟨g, off + j * sz + k, none⟩ = some x
theorem Rw.under {w w' : World} {v : Value} {sz : Nat} {L : List (List Value)} (h : Rw w v sz L) (hb : Below w.heap.size w w') : Rw w' v sz L := by
  obtain ⟨g, off, ad, cap, h1, h2, h3⟩ := h
  refine ⟨g, off, ad, cap, h1, h2, fun j hj k hk => ?_⟩
  obtain ⟨x, h4, h5⟩ := h3 j hj k hk
  exact ⟨x, h4, cell_under h5 hb⟩
theorem Rw.nil (w : World) (sz : Nat) : Rw w (.slice none 0 0) sz [] := ⟨0, 0, none, 0, rfl, fun h => absurd h (by simp), fun j hj => absurd hj (by simp)⟩
theorem Rw.of_own {w : World} {base sz n : Nat} {t : TypeId} {v : Value} {L : List (List Value)} {xs : List Value} (h : w.ownsRow base t sz v n xs) (hn : L.length = n) (hx : ∀ j (hj : j < L.length) k, k < sz → xs[j * sz + k]? = L[j][k]?) (hl : ∀ j (hj : j < L.length), L[j].length = sz) : Rw w v sz L := by
  subst hn
  rcases h.2 with ⟨e, h0⟩ | ⟨g, cap, cur, e, _, hb, hc, _, _, ht⟩
  · exact ⟨0, 0, none, 0, by rw [e, h0], fun hp => by omega, fun j hj => by omega⟩
  · refine ⟨g, 0, _, cap, e, fun _ => rfl, fun j hj k hk => ?_⟩
    have hkl : k < L[j].length := by rw [hl j hj]; exact hk
    refine ⟨L[j][k], by rw [List.getElem?_eq_getElem hkl], ?_⟩
    have h1 := hx j hj k hk
    rw [List.getElem?_eq_getElem hkl] at h1
    have hlt : j * sz + k < L.length * sz := by
      have : (j + 1) * sz ≤ L.length * sz := Nat.mul_le_mul_right _ hj
      rw [Nat.add_mul, Nat.one_mul] at this
      omega
    unfold World.cell?
    simp only [hb, Nat.zero_add]
    have h2 := congrArg (fun m : List Value => m[j * sz + k]?) ht
    simp only [List.getElem?_take, if_pos hlt] at h2
    rw [← h1, ← h2]
    simp
def sCell (p : ByteArray) : List Value := [.string p]
def eCells (e : Mo.En) : List Value := [.string e.id, .string e.title, .string e.link, .string e.content, .int .i64 e.upd]
def fCells (f : Mo.Fd) (vp ve : Value) : List Value := [vp, .string f.id, .string f.title, .string f.link, .int .i64 f.upd, ve]
def FdIs (w : World) (f : Mo.Fd) (cs : List Value) : Prop := ∃ vp ve, cs = fCells f vp ve ∧ Rw w vp 1 (f.path.map sCell) ∧ Rw w ve 5 (f.ents.map eCells)
def ArIs (w : World) (v : Value) (a : List Mo.Fd) : Prop := ∃ L : List (List Value), L.length = a.length ∧ Rw w v 6 L ∧ ∀ j (hj : j < a.length) (hL : j < L.length), FdIs w a[j] L[j]
theorem FdIs.under {w w' : World} {f : Mo.Fd} {cs : List Value} (h : FdIs w f cs) (hb : Below w.heap.size w w') : FdIs w' f cs := by
  obtain ⟨vp, ve, h1, h2, h3⟩ := h
  exact ⟨vp, ve, h1, h2.under hb, h3.under hb⟩
theorem ArIs.under {w w' : World} {v : Value} {a : List Mo.Fd} (h : ArIs w v a) (hb : Below w.heap.size w w') : ArIs w' v a := by
  obtain ⟨L, h1, h2, h3⟩ := h
  exact ⟨L, h1, h2.under hb, fun j hj hL => (h3 j hj hL).under hb⟩
def nilV : Value := .slice none 0 0
def vCells (k : Int) (b : Bool) (n : Int) (s : ByteArray) (items members : Value) (at' : Int) : List Value := [.int .i64 k, .bool b, .int .i64 n, .string s, items, members, .int .i64 at']
mutual
def Jv (w : World) : Jv.J → List Value → Prop
  | .null, cs => ∃ p, cs = vCells 0 false 0 ⟨#[]⟩ nilV nilV p
  | .bool b, cs => ∃ p, cs = vCells 1 b 0 ⟨#[]⟩ nilV nilV p
  | .int n, cs => ∃ p, cs = vCells 2 false n ⟨#[]⟩ nilV nilV p
  | .str s, cs => ∃ p, cs = vCells 3 false 0 s nilV nilV p
  | .arr l, cs => ∃ p v L, cs = vCells 4 false 0 ⟨#[]⟩ v nilV p ∧ Rw w v 7 L ∧ JvL w l L
  | .obj l, cs => ∃ p v L, cs = vCells 5 false 0 ⟨#[]⟩ nilV v p ∧ Rw w v 9 L ∧ JvM w l L
def JvL (w : World) : List Jv.J → List (List Value) → Prop
  | [], L => L = []
  | a :: r, L => ∃ c T, L = c :: T ∧ Jv w a c ∧ JvL w r T
def JvM (w : World) : List (ByteArray × Jv.J) → List (List Value) → Prop
  | [], L => L = []
  | a :: r, L => ∃ c T, L = c :: T ∧ JvP w a c ∧ JvM w r T
def JvP (w : World) : ByteArray × Jv.J → List Value → Prop
  | (k, a), c => ∃ d p, c = (.string k :: d) ++ [.int .i64 p] ∧ Jv w a d
end
mutual
theorem Jv.under {w w' : World} (hb : Below w.heap.size w w') : ∀ (j : Jv.J) (cs : List Value), Jv w j cs → Jv w' j cs
  | .null, cs, h => by unfold Jv at h ⊢; exact h
  | .bool b, cs, h => by unfold Jv at h ⊢; exact h
  | .int n, cs, h => by unfold Jv at h ⊢; exact h
  | .str s, cs, h => by unfold Jv at h ⊢; exact h
  | .arr l, cs, h => by
    unfold Jv at h ⊢
    obtain ⟨p, v, L, h1, h2, h3⟩ := h
    exact ⟨p, v, L, h1, h2.under hb, JvL.under hb l L h3⟩
  | .obj l, cs, h => by
    unfold Jv at h ⊢
    obtain ⟨p, v, L, h1, h2, h3⟩ := h
    exact ⟨p, v, L, h1, h2.under hb, JvM.under hb l L h3⟩
theorem JvL.under {w w' : World} (hb : Below w.heap.size w w') : ∀ (l : List Jv.J) (L : List (List Value)), JvL w l L → JvL w' l L
  | [], L, h => by unfold JvL at h ⊢; exact h
  | a :: r, L, h => by
    unfold JvL at h ⊢
    obtain ⟨c, T, h1, h2, h3⟩ := h
    exact ⟨c, T, h1, Jv.under hb a c h2, JvL.under hb r T h3⟩
theorem JvM.under {w w' : World} (hb : Below w.heap.size w w') : ∀ (l : List (ByteArray × Jv.J)) (L : List (List Value)), JvM w l L → JvM w' l L
  | [], L, h => by unfold JvM at h ⊢; exact h
  | a :: r, L, h => by
    unfold JvM at h ⊢
    obtain ⟨c, T, h1, h2, h3⟩ := h
    exact ⟨c, T, h1, JvP.under hb a c h2, JvM.under hb r T h3⟩
theorem JvP.under {w w' : World} (hb : Below w.heap.size w w') : ∀ (p : ByteArray × Jv.J) (c : List Value), JvP w p c → JvP w' p c
  | (k, a), c, h => by
    unfold JvP at h ⊢
    obtain ⟨d, p, h1, h2⟩ := h
    exact ⟨d, p, h1, Jv.under hb a d h2⟩
end
theorem JvL_at {w : World} : ∀ {l : List Jv.J} {L : List (List Value)}, JvL w l L → L.length = l.length ∧ ∀ j (hj : j < l.length) (hL : j < L.length), Jv w l[j] L[j]
  | [], L, h => by unfold JvL at h; subst h; exact ⟨rfl, fun j hj => absurd hj (by simp)⟩
  | a :: r, L, h => by
    unfold JvL at h
    obtain ⟨c, T, rfl, h2, h3⟩ := h
    obtain ⟨h4, h5⟩ := JvL_at h3
    refine ⟨by simp [h4], fun j hj hL => ?_⟩
    cases j with
    | zero => exact h2
    | succ j => exact h5 j (by simpa using hj) (by simpa using hL)
theorem JvM_at {w : World} : ∀ {l : List (ByteArray × Jv.J)} {L : List (List Value)}, JvM w l L → L.length = l.length ∧ ∀ j (hj : j < l.length) (hL : j < L.length), JvP w l[j] L[j]
  | [], L, h => by unfold JvM at h; subst h; exact ⟨rfl, fun j hj => absurd hj (by simp)⟩
  | a :: r, L, h => by
    unfold JvM at h
    obtain ⟨c, T, rfl, h2, h3⟩ := h
    obtain ⟨h4, h5⟩ := JvM_at h3
    refine ⟨by simp [h4], fun j hj hL => ?_⟩
    cases j with
    | zero => exact h2
    | succ j => exact h5 j (by simpa using hj) (by simpa using hL)
theorem JvL_mk {w : World} : ∀ {l : List Jv.J} {L : List (List Value)}, L.length = l.length → (∀ j (hj : j < l.length) (hL : j < L.length), Jv w l[j] L[j]) → JvL w l L
  | [], L, h, _ => by unfold JvL; exact List.eq_nil_of_length_eq_zero h
  | a :: r, [], h, _ => absurd h (by simp)
  | a :: r, c :: T, h, hj => by
    unfold JvL
    exact ⟨c, T, rfl, hj 0 (by simp) (by simp), JvL_mk (by simpa using h) fun j h1 h2 => hj (j + 1) (by simpa using h1) (by simpa using h2)⟩
theorem JvM_mk {w : World} : ∀ {l : List (ByteArray × Jv.J)} {L : List (List Value)}, L.length = l.length → (∀ j (hj : j < l.length) (hL : j < L.length), JvP w l[j] L[j]) → JvM w l L
  | [], L, h, _ => by unfold JvM; exact List.eq_nil_of_length_eq_zero h
  | a :: r, [], h, _ => absurd h (by simp)
  | a :: r, c :: T, h, hj => by
    unfold JvM
    exact ⟨c, T, rfl, hj 0 (by simp) (by simp), JvM_mk (by simpa using h) fun j h1 h2 => hj (j + 1) (by simpa using h1) (by simpa using h2)⟩
end Go.Proofs.YtjaojenalodolaaGreatDoor.Rw
