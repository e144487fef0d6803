/- Plain facts on dates and times in the form of RFC 3339: order, offsets, strictness. No program in sight. -/
import Derived.Test.YtikjehgbfkndjaaDoorRf
import Derived.Lib.ItoaNum
namespace Go.Proofs.YtikjehgbfkndjaaDoor.Rf
open Go Go.Proofs.YtikjehgbfkndjaaDoor

/-! ### order -/
theorem bl_append : ∀ (x y r r' : List UInt8), x.length = y.length → Op.bytesLess (x ++ r) (y ++ r') = if x = y then Op.bytesLess r r' else Op.bytesLess x y
  | [], [], r, r', _ => by simp
  | a :: x, b :: y, r, r', h => by
    have ih := bl_append x y r r' (by simpa using h)
    simp only [List.cons_append, Op.bytesLess, ih]
    by_cases e : a = b
    · subst e
      have : ¬ a < a := UInt8.lt_irrefl a
      by_cases e2 : x = y
      · simp [e2, this]
      · simp [e2, this]
    · have e3 : (a == b) = false := by simpa using e
      simp [e, e3]
theorem dig_inj (w n m : Nat) (hn : n < 10 ^ w) (hm : m < 10 ^ w) (h : dig w n = dig w m) : n = m := by
  have e1 := val_dig w n [] hn
  rw [h, val_dig w m [] hm] at e1
  exact (Option.some.inj e1).symm
theorem bl_one (a b : Nat) (ha : a < 10) (hb : b < 10) : Op.bytesLess [UInt8.ofNat (48 + a)] [UInt8.ofNat (48 + b)] = decide (a < b) := by
  have : ∀ (x y : Fin 10), Op.bytesLess [UInt8.ofNat (48 + x.val)] [UInt8.ofNat (48 + y.val)] = decide (x.val < y.val) := by decide
  exact this ⟨a, ha⟩ ⟨b, hb⟩
theorem bl_dig : ∀ (w n m : Nat), n < 10 ^ w → m < 10 ^ w → Op.bytesLess (dig w n) (dig w m) = decide (n < m)
  | 0, n, m, hn, hm => by simp at hn hm; subst hn hm; rfl
  | w + 1, n, m, hn, hm => by
    rw [Nat.pow_succ] at hn hm
    have ih := bl_dig w (n / 10) (m / 10) (by omega) (by omega)
    unfold dig
    rw [bl_append _ _ _ _ (by rw [dig_len, dig_len]), ih, bl_one _ _ (by omega) (by omega)]
    by_cases e : n / 10 = m / 10
    · rw [if_pos (by rw [e])]
      by_cases h : n < m
      · rw [decide_eq_true h, decide_eq_true (by omega)]
      · rw [decide_eq_false h, decide_eq_false (by omega)]
    · rw [if_neg (fun h => e (dig_inj w _ _ (by omega) (by omega) h))]
      by_cases h : n < m
      · rw [decide_eq_true h, decide_eq_true (by omega)]
      · rw [decide_eq_false h, decide_eq_false (by omega)]
theorem bl_sep (w n m : Nat) (c : UInt8) (r r' : List UInt8) (hn : n < 10 ^ w) (hm : m < 10 ^ w) : Op.bytesLess (dig w n ++ c :: r) (dig w m ++ c :: r') = if n = m then Op.bytesLess r r' else decide (n < m) := by
  rw [bl_append _ _ _ _ (by rw [dig_len, dig_len])]
  by_cases e : n = m
  · subst e
    have : ¬ c < c := UInt8.lt_irrefl c
    simp [Op.bytesLess, this]
  · rw [if_neg (fun h => e (dig_inj w _ _ hn hm h)), if_neg e, bl_dig w n m hn hm]
theorem num_lt_year {y m d k i j : Int} (h : Cal.valid y m d) (g : Cal.valid k i j) (l : y < k) : Cal.num y m d < Cal.num k i j := by
  have a := Cal.in_year y m d h
  have b := Cal.in_year k i j g
  obtain ⟨h1, h2, _⟩ := h
  have c := Cal.bef_succ y h1 h2
  have := Cal.bef_mono (y + 1) k (by omega)
  unfold Cal.num
  omega
theorem num_lt_month {y m d i j : Int} (h : Cal.valid y m d) (g : Cal.valid y i j) (l : m < i) : Cal.num y m d < Cal.num y i j := by
  obtain ⟨h1, h2, h3, h4, h5, h6⟩ := h
  obtain ⟨g1, g2, g3, g4, g5, g6⟩ := g
  have := Cal.cum_mono y m i h1 h2 h3 l (by omega)
  unfold Cal.num
  omega
theorem lt_form {t u : Int} {y m d h mi s y' m' d' h' mi' s' : Nat} (p : Parts t y m d h mi s) (q : Parts u y' m' d' h' mi' s') :
    Op.bytesLess (form y m d h mi s 84 ++ [90]) (form y' m' d' h' mi' s' 84 ++ [90]) = decide (t < u) := by
  have p1 := p.te
  have q1 := q.te
  have p2 := p.hb
  have p3 := p.mib
  have p4 := p.sb
  have q2 := q.hb
  have q3 := q.mib
  have q4 := q.sb
  have p5 := p.y4
  have p6 := p.m2
  have p7 := p.d2
  have q5 := q.y4
  have q6 := q.m2
  have q7 := q.d2
  show Op.bytesLess (dig 4 y ++ (45 :: (dig 2 m ++ (45 :: (dig 2 d ++ (84 :: (dig 2 h ++ (58 :: (dig 2 mi ++ (58 :: (dig 2 s ++ (90 :: [])))))))))))) (dig 4 y' ++ (45 :: (dig 2 m' ++ (45 :: (dig 2 d' ++ (84 :: (dig 2 h' ++ (58 :: (dig 2 mi' ++ (58 :: (dig 2 s' ++ (90 :: [])))))))))))) = _
  rw [bl_sep 4 y y' _ _ _ (by omega) (by omega), bl_sep 2 m m' _ _ _ (by omega) (by omega), bl_sep 2 d d' _ _ _ (by omega) (by omega), bl_sep 2 h h' _ _ _ (by omega) (by omega), bl_sep 2 mi mi' _ _ _ (by omega) (by omega), bl_sep 2 s s' _ _ _ (by omega) (by omega)]
  have key : ∀ (b : Bool), (b = true ↔ t < u) → b = decide (t < u) := fun b hb => by
    cases b
    · exact (decide_eq_false (fun h => by have := hb.2 h; cases this)).symm
    · exact (decide_eq_true (hb.1 rfl)).symm
  apply key
  by_cases e1 : y = y'
  · subst e1
    rw [if_pos rfl]
    by_cases e2 : m = m'
    · subst e2
      rw [if_pos rfl]
      have en : Cal.num (y : Int) m d - Cal.num y m d' = (d : Int) - d' := by unfold Cal.num; omega
      by_cases e3 : d = d'
      · subst e3
        rw [if_pos rfl]
        by_cases e4 : h = h'
        · subst e4
          rw [if_pos rfl]
          by_cases e5 : mi = mi'
          · subst e5
            rw [if_pos rfl]
            by_cases e6 : s = s'
            · subst e6
              rw [if_pos rfl]
              simp [Op.bytesLess]; omega
            · rw [if_neg e6, decide_eq_true_iff]; omega
          · rw [if_neg e5, decide_eq_true_iff]; omega
        · rw [if_neg e4, decide_eq_true_iff]; omega
      · rw [if_neg e3, decide_eq_true_iff]; omega
    · rw [if_neg e2, decide_eq_true_iff]
      rcases Nat.lt_or_gt_of_ne e2 with l | l
      · have := num_lt_month p.v q.v (by omega); omega
      · have := num_lt_month q.v p.v (by omega); omega
  · rw [if_neg e1, decide_eq_true_iff]
    rcases Nat.lt_or_gt_of_ne e1 with l | l
    · have := num_lt_year p.v q.v (by omega); omega
    · have := num_lt_year q.v p.v (by omega); omega
theorem fmt_lt (t u : Int) (h1 : -62135596800 ≤ t) (h2 : t ≤ 253402300799) (h3 : -62135596800 ≤ u) (h4 : u ≤ 253402300799) : Op.bytesLess (fmtL t) (fmtL u) = decide (t < u) :=
  lt_form (parts t h1 h2) (parts u h3 h4)
theorem fmt_inj (t u : Int) (h1 : -62135596800 ≤ t) (h2 : t ≤ 253402300799) (h3 : -62135596800 ≤ u) (h4 : u ≤ 253402300799) (h : fmtL t = fmtL u) : t = u := by
  have := rp_fmtL t h1 h2
  rw [h, rp_fmtL u h3 h4] at this
  exact (Prod.mk.inj this).1.symm

/-! ### strictness -/
theorem digit_ne {c : UInt8} (h : isD c = true) : c ≠ 45 ∧ c ≠ 58 ∧ c ≠ 90 := by
  refine ⟨?_, ?_, ?_⟩ <;> (intro e; subst e; exact absurd h (by decide))
theorem fmtL_eq (t : Int) : ∃ a b c d e f g h i j k l m n : Nat, fmtL t =
    [UInt8.ofNat (48 + a % 10), UInt8.ofNat (48 + b % 10), UInt8.ofNat (48 + c % 10), UInt8.ofNat (48 + d % 10), 45, UInt8.ofNat (48 + e % 10), UInt8.ofNat (48 + f % 10), 45, UInt8.ofNat (48 + g % 10), UInt8.ofNat (48 + h % 10), 84,
     UInt8.ofNat (48 + i % 10), UInt8.ofNat (48 + j % 10), 58, UInt8.ofNat (48 + k % 10), UInt8.ofNat (48 + l % 10), 58, UInt8.ofNat (48 + m % 10), UInt8.ofNat (48 + n % 10), 90] :=
  ⟨_, _, _, _, _, _, _, _, _, _, _, _, _, _, rfl⟩
theorem sep_no {l : List UInt8} (h : isB l 4 45 45 = false ∨ isB l 16 58 58 = false ∨ val (l.drop 17) 2 = none) : rp l = (0, 20) := by
  unfold rp
  rw [if_neg]
  rintro ⟨h1, h2⟩
  rcases h with h | h | h
  · unfold sepsB at h1; rw [h] at h1; cases h1
  · unfold sepsB at h1; rw [h] at h1; simp at h1
  · rw [numZ_none h] at h2
    unfold okS at h2
    simp at h2
theorem no_45 (n : Nat) : isB [UInt8.ofNat (48 + n % 10)] 0 45 45 = false := by
  have := (digit_ne (isD_mk n)).1
  unfold isB; simpa using this
theorem no_58 (n : Nat) : isB [UInt8.ofNat (48 + n % 10)] 0 58 58 = false := by
  have := (digit_ne (isD_mk n)).2.1
  unfold isB; simpa using this
theorem strict_1 (t : Int) (x : UInt8) : rp (x :: fmtL t) = (0, 20) := by
  obtain ⟨a, b, c, d, e, f, g, h, i, j, k, l, m, n, hh⟩ := fmtL_eq t
  rw [hh]
  exact sep_no (.inl (no_45 d))
theorem strict_2 (t : Int) (x : UInt8) (h1 : -62135596800 ≤ t) (h2 : t ≤ 253402300799) : rp (fmtL t ++ [x]) = (0, 20) := by
  unfold fmtL
  rw [List.append_assoc, rp_fmt t 84 _ (.inl rfl) h1 h2]
  rfl
theorem strict_3 (t : Int) (k : Nat) (hk : k < 19) : rp ((fmtL t).take k ++ (fmtL t).drop (k + 1)) = (0, 20) := by
  obtain ⟨a, b, c, d, e, f, g, h, i, j, k', l, m, n, hh⟩ := fmtL_eq t
  rw [hh]
  have cases : k = 0 ∨ k = 1 ∨ k = 2 ∨ k = 3 ∨ k = 4 ∨ k = 5 ∨ k = 6 ∨ k = 7 ∨ k = 8 ∨ k = 9 ∨ k = 10 ∨ k = 11 ∨ k = 12 ∨ k = 13 ∨ k = 14 ∨ k = 15 ∨ k = 16 ∨ k = 17 ∨ k = 18 := by omega
  rcases cases with rfl | rfl | rfl | rfl | rfl | rfl | rfl | rfl | rfl | rfl | rfl | rfl | rfl | rfl | rfl | rfl | rfl | rfl | rfl
  all_goals first | exact sep_no (.inr (.inl (no_58 m))) | exact sep_no (.inr (.inr (by
    show (if isD 90 = true then _ else none) = none
    rw [if_neg (by decide)])))

/-! ### offsets -/
def zone (h m : Nat) : List UInt8 := dig 2 h ++ (58 :: dig 2 m)
theorem offs_zone (c : UInt8) (hc : c = 43 ∨ c = 45) (h m : Nat) (h1 : h < 24) (h2 : m < 60) : offs (c :: zone h m) = some (if c = 45 then -((h : Int) * 3600 + m * 60) else (h : Int) * 3600 + m * 60) := by
  have e1 : numZ ((c :: zone h m).drop 1) 2 = h := numZ_dig 2 h _ (by omega)
  have e2 : numZ ((c :: zone h m).drop 4) 2 = m := by
    have := numZ_dig 2 m [] (by omega)
    rw [List.append_nil] at this
    exact this
  unfold offs
  rw [e1, e2]
  have e3 : (c :: zone h m).getD 0 0 = c := rfl
  rw [e3, if_neg (by rcases hc with rfl | rfl <;> decide), if_pos ⟨hc, ⟨by omega, by omega⟩, rfl, ⟨by omega, by omega⟩, rfl⟩]
theorem off_1 (t : Int) (h m : Nat) (h1 : -62135596800 ≤ t) (h2 : t ≤ 253402300799) (h3 : h < 24) (h4 : m < 60) : rp (fmt t 84 ++ 43 :: zone h m) = rng (t - ((h : Int) * 3600 + m * 60)) := by
  rw [rp_fmt t 84 _ (.inl rfl) h1 h2]
  have e : frac (43 :: zone h m) = some (43 :: zone h m) := rfl
  unfold tl
  rw [e]
  simp only
  rw [offs_zone 43 (.inl rfl) h m h3 h4]
  rfl
theorem off_2 (t : Int) (h m : Nat) (h1 : -62135596800 ≤ t) (h2 : t ≤ 253402300799) (h3 : h < 24) (h4 : m < 60) : rp (fmt t 84 ++ 46 :: 50 :: 53 :: 45 :: zone h m) = rng (t + ((h : Int) * 3600 + m * 60)) := by
  rw [rp_fmt t 84 _ (.inl rfl) h1 h2]
  have e : frac (46 :: 50 :: 53 :: 45 :: zone h m) = some (45 :: zone h m) := rfl
  unfold tl
  rw [e]
  simp only
  rw [offs_zone 45 (.inr rfl) h m h3 h4]
  simp only [if_true]
  congr 1
  omega
theorem off_3 (t : Int) (h1 : -62135596800 ≤ t) (h2 : t ≤ 253402300799) : rp (fmt t 116 ++ [46, 48, 122]) = (t, 0) := by
  rw [rp_fmt t 116 _ (.inr rfl) h1 h2, ← rng_in t h1 h2]
  show rng (t - 0) = _
  rw [Int.sub_zero]
theorem fmt_take (t : Int) : (fmtL t).take 19 = fmt t 84 := rfl
theorem fmt_116 (t : Int) : (fmtL t).take 10 ++ 116 :: ((fmtL t).drop 11).take 8 = fmt t 116 := rfl

/-! ### the decimal numeral, padded -/
theorem dig_zero : ∀ w : Nat, dig w 0 = List.replicate w 48
  | 0 => rfl
  | w + 1 => by
    show dig w (0 / 10) ++ [UInt8.ofNat (48 + 0 % 10)] = _
    rw [Nat.zero_div, dig_zero w, List.replicate_succ']; rfl
theorem dig_dec : ∀ (w n : Nat), 1 ≤ w → n < 10 ^ w → (Lib.decDigits n).length ≤ w ∧ dig w n = List.replicate (w - (Lib.decDigits n).length) 48 ++ Lib.decDigits n
  | 0, _, h, _ => absurd h (by decide)
  | w + 1, n, _, hn => by
    by_cases h : n < 10
    · have e : Lib.decDigits n = [UInt8.ofNat (48 + n)] := by rw [Lib.decDigits, dif_pos h]
      rw [e]
      refine ⟨by simp, ?_⟩
      show dig w (n / 10) ++ [UInt8.ofNat (48 + n % 10)] = _
      rw [show n / 10 = 0 by omega, show n % 10 = n by omega, dig_zero]; simp
    · have e : Lib.decDigits n = Lib.decDigits (n / 10) ++ [UInt8.ofNat (48 + n % 10)] := by rw [Lib.decDigits, dif_neg h]
      rw [Nat.pow_succ] at hn
      have hw : 1 ≤ w := by
        cases w with
        | zero => simp at hn; omega
        | succ w => omega
      obtain ⟨h1, h2⟩ := dig_dec w (n / 10) hw (by omega)
      rw [e]
      refine ⟨by simp; omega, ?_⟩
      show dig w (n / 10) ++ [UInt8.ofNat (48 + n % 10)] = _
      rw [h2]
      simp only [List.length_append, List.length_cons, List.length_nil]
      rw [show w + 1 - ((Lib.decDigits (n / 10)).length + (0 + 1)) = w - (Lib.decDigits (n / 10)).length by omega, List.append_assoc]
end Go.Proofs.YtikjehgbfkndjaaDoor.Rf
