/- Plain facts on the calendar: leap years, lengths of months, day numbers. No program in sight. -/
namespace Go.Proofs.YtikjehgbfkndjaaDoor.Cal

def leapB (y : Int) : Bool := decide (1 ≤ y ∧ y ≤ 9999 ∧ y % 4 = 0 ∧ (y % 100 ≠ 0 ∨ y % 400 = 0))
def lp (y : Int) : Int := if leapB y = true then 1 else 0
def dim (y m : Int) : Int :=
  if y < 1 ∨ 9999 < y ∨ m < 1 ∨ 12 < m then 0
  else if m = 2 then 28 + lp y
  else 30 + (m + m / 8) % 2
def bef (y : Int) : Int := 365 * (y - 1) + (y - 1) / 4 - (y - 1) / 100 + (y - 1) / 400
def cum (y m : Int) : Int := (367 * m - 362) / 12 - (if m ≤ 2 then 0 else 2 - lp y)
def num (y m d : Int) : Int := bef y + cum y m + d - 719163
def valid (y m d : Int) : Prop := 1 ≤ y ∧ y ≤ 9999 ∧ 1 ≤ m ∧ m ≤ 12 ∧ 1 ≤ d ∧ d ≤ dim y m
def okB (y m d : Int) : Bool := decide (1 ≤ d ∧ d ≤ dim y m)
def wd (n : Int) : Int := (n + 4) % 7

theorem lp_01 (y : Int) : 0 ≤ lp y ∧ lp y ≤ 1 := by unfold lp; split <;> omega
theorem leapB_iff (y : Int) : leapB y = true ↔ (1 ≤ y ∧ y ≤ 9999 ∧ y % 4 = 0 ∧ (y % 100 ≠ 0 ∨ y % 400 = 0)) := by
  unfold leapB; rw [decide_eq_true_iff]
theorem leap_yes {y : Int} (h : 1 ≤ y ∧ y ≤ 9999 ∧ y % 4 = 0 ∧ (y % 100 ≠ 0 ∨ y % 400 = 0)) : leapB y = true := (leapB_iff y).2 h
theorem leap_no {y : Int} (h : ¬ (1 ≤ y ∧ y ≤ 9999 ∧ y % 4 = 0 ∧ (y % 100 ≠ 0 ∨ y % 400 = 0))) : leapB y = false := by
  cases e : leapB y
  · rfl
  · exact absurd ((leapB_iff y).1 e) h
theorem lp_true {y : Int} (h : leapB y = true) : lp y = 1 := by unfold lp; rw [if_pos h]
theorem lp_false {y : Int} (h : leapB y = false) : lp y = 0 := by unfold lp; rw [h]; rfl
theorem dim_out (y m : Int) (h : y < 1 ∨ 9999 < y ∨ m < 1 ∨ 12 < m) : dim y m = 0 := by
  unfold dim; rw [if_pos h]
theorem dim_feb (y : Int) (h1 : 1 ≤ y) (h2 : y ≤ 9999) : dim y 2 = 28 + lp y := by
  unfold dim; rw [if_neg (by omega), if_pos rfl]
theorem dim_else (y m : Int) (h1 : 1 ≤ y) (h2 : y ≤ 9999) (h3 : 1 ≤ m) (h4 : m ≤ 12) (h : m ≠ 2) : dim y m = 30 + (m + m / 8) % 2 := by
  unfold dim; rw [if_neg (by omega), if_neg h]
theorem dim_30 (y m : Int) (h1 : 1 ≤ y) (h2 : y ≤ 9999) (h : m = 4 ∨ m = 6 ∨ m = 9 ∨ m = 11) : dim y m = 30 := by
  rw [dim_else y m h1 h2 (by omega) (by omega) (by omega)]
  rcases h with rfl | rfl | rfl | rfl <;> rfl
theorem months (m : Int) (h1 : 1 ≤ m) (h2 : m ≤ 12) : m = 1 ∨ m = 2 ∨ m = 3 ∨ m = 4 ∨ m = 5 ∨ m = 6 ∨ m = 7 ∨ m = 8 ∨ m = 9 ∨ m = 10 ∨ m = 11 ∨ m = 12 := by omega
theorem dim_31 (y m : Int) (h1 : 1 ≤ y) (h2 : y ≤ 9999) (h3 : 1 ≤ m) (h4 : m ≤ 12) (h : m ≠ 2) (h5 : ¬ (m = 4 ∨ m = 6 ∨ m = 9 ∨ m = 11)) : dim y m = 31 := by
  rw [dim_else y m h1 h2 (by omega) (by omega) (by omega)]
  rcases months m h3 h4 with rfl | rfl | rfl | rfl | rfl | rfl | rfl | rfl | rfl | rfl | rfl | rfl <;> omega
theorem dim_bd (y m : Int) : 0 ≤ dim y m ∧ dim y m ≤ 31 := by
  have := lp_01 y
  unfold dim; split
  · omega
  · split <;> omega
theorem dim_pos (y m : Int) (h1 : 1 ≤ y) (h2 : y ≤ 9999) (h3 : 1 ≤ m) (h4 : m ≤ 12) : 28 ≤ dim y m := by
  have := lp_01 y
  unfold dim; rw [if_neg (by omega)]
  split <;> omega
theorem cum_1 (y : Int) : cum y 1 = 0 := by unfold cum; simp
theorem cum_bd (y m : Int) (h1 : 1 ≤ m) (h2 : m ≤ 13) : 0 ≤ cum y m ∧ cum y m ≤ 366 := by
  have := lp_01 y
  unfold cum; split <;> omega
theorem cum_13 (y : Int) : cum y 13 = 365 + lp y := by unfold cum; simp; omega
theorem cum_succ (y m : Int) (h1 : 1 ≤ y) (h2 : y ≤ 9999) (h3 : 1 ≤ m) (h4 : m ≤ 12) : cum y (m + 1) = cum y m + dim y m := by
  by_cases h : m = 2
  · subst h; rw [dim_feb y h1 h2]; unfold cum; simp; omega
  · rw [dim_else y m h1 h2 h3 h4 h]; unfold cum
    have := lp_01 y
    rcases months m h3 h4 with rfl | rfl | rfl | rfl | rfl | rfl | rfl | rfl | rfl | rfl | rfl | rfl <;> simp at * <;> omega
theorem cum_mono (y m k : Int) (h1 : 1 ≤ y) (h2 : y ≤ 9999) (h3 : 1 ≤ m) (h : m < k) (h4 : k ≤ 13) : cum y m + dim y m ≤ cum y k := by
  have := lp_01 y
  rw [← cum_succ y m h1 h2 h3 (by omega)]
  unfold cum; split <;> split <;> omega
theorem bef_1 : bef 1 = 0 := by unfold bef; omega
theorem bef_succ (y : Int) (h1 : 1 ≤ y) (h2 : y ≤ 9999) : bef (y + 1) = bef y + 365 + lp y := by
  unfold lp
  by_cases h : leapB y = true
  · rw [if_pos h]; rw [leapB_iff] at h; unfold bef; omega
  · rw [if_neg h]; rw [leapB_iff] at h; unfold bef; omega
theorem bef_mono (y k : Int) (h : y ≤ k) : bef y ≤ bef k := by
  by_cases e : y = k
  · subst e; omega
  · unfold bef; omega
theorem bef_bd (y : Int) (h1 : 1 ≤ y) (h2 : y ≤ 10000) : 0 ≤ bef y ∧ bef y ≤ 3652059 := by unfold bef; omega
theorem bef_10000 : bef 10000 = 3652059 := by unfold bef; omega
theorem in_year (y m d : Int) (h : valid y m d) : 0 ≤ cum y m + d - 1 ∧ cum y m + d - 1 < 365 + lp y := by
  obtain ⟨h1, h2, h3, h4, h5, h6⟩ := h
  have a := cum_bd y m h3 (by omega)
  have b := cum_mono y m 13 h1 h2 h3 (by omega) (by omega)
  rw [cum_13] at b
  omega
theorem num_bd (y m d : Int) (h : valid y m d) : -719162 ≤ num y m d ∧ num y m d ≤ 2932896 := by
  have a := in_year y m d h
  obtain ⟨h1, h2, h3, h4, h5, h6⟩ := h
  have b := bef_bd y h1 (by omega)
  have c := bef_succ y h1 h2
  have e := bef_mono (y + 1) 10000 (by omega)
  rw [bef_10000] at e
  unfold num; omega
theorem year_unique (y k m d i j : Int) (h : valid y m d) (g : valid k i j) (e : num y m d = num k i j) : y = k := by
  have a := in_year y m d h
  have b := in_year k i j g
  obtain ⟨h1, h2, h3, h4, h5, h6⟩ := h
  obtain ⟨g1, g2, g3, g4, g5, g6⟩ := g
  have c := bef_succ y h1 h2
  have f := bef_succ k g1 g2
  unfold num at e
  rcases Int.lt_trichotomy y k with l | l | l
  · have := bef_mono (y + 1) k (by omega); omega
  · exact l
  · have := bef_mono (k + 1) y (by omega); omega
theorem unique (y k m d i j : Int) (h : valid y m d) (g : valid k i j) (e : num y m d = num k i j) : y = k ∧ m = i ∧ d = j := by
  have hy := year_unique y k m d i j h g e
  subst hy
  obtain ⟨h1, h2, h3, h4, h5, h6⟩ := h
  obtain ⟨g1, g2, g3, g4, g5, g6⟩ := g
  unfold num at e
  rcases Int.lt_trichotomy m i with l | l | l
  · have := cum_mono y m i h1 h2 h3 l (by omega); omega
  · subst l; exact ⟨rfl, rfl, by omega⟩
  · have := cum_mono y i m h1 h2 g3 l (by omega); omega

/-! ### The date of a day number -/
def q0 (n : Int) : Int := min ((n + 719162) / 146097) 25
def l1 (n : Int) : Int := n + 719162 - q0 n * 146097
def q1 (n : Int) : Int := min (l1 n / 36524) 3
def l2 (n : Int) : Int := l1 n - q1 n * 36524
def q2 (n : Int) : Int := min (l2 n / 1461) 24
def l3 (n : Int) : Int := l2 n - q2 n * 1461
def q3 (n : Int) : Int := min (l3 n / 365) 3
def l4 (n : Int) : Int := l3 n - q3 n * 365
def dY (n : Int) : Int := 1 + q0 n * 400 + q1 n * 100 + q2 n * 4 + q3 n
def dMfrom : Nat → Int → Int → Int → Int
  | 0, _, _, m => m
  | k + 1, y, l, m => if l < cum y (m + 1) then m else dMfrom k y l (m + 1)
def dM (n : Int) : Int := dMfrom 11 (dY n) (l4 n) 1
def dD (n : Int) : Int := l4 n - cum (dY n) (dM n) + 1

theorem steps (n : Int) (h1 : -719162 ≤ n) (h2 : n ≤ 2932896) :
    (0 ≤ q0 n ∧ q0 n ≤ 24 ∧ 0 ≤ l1 n ∧ l1 n < 146097) ∧ (0 ≤ q1 n ∧ q1 n ≤ 3 ∧ 0 ≤ l2 n ∧ (l2 n < 36524 ∨ (q1 n = 3 ∧ l2 n ≤ 36524))) ∧
    (0 ≤ q2 n ∧ q2 n ≤ 24 ∧ 0 ≤ l3 n ∧ l3 n < 1461 ∧ (q2 n = 24 → q1 n = 3 ∨ l3 n < 1460)) ∧ (0 ≤ q3 n ∧ q3 n ≤ 3 ∧ 0 ≤ l4 n ∧ (l4 n < 365 ∨ (l4 n = 365 ∧ q3 n = 3 ∧ (q2 n = 24 → q1 n = 3)))) := by
  have a : 0 ≤ q0 n ∧ q0 n ≤ 24 ∧ 0 ≤ l1 n ∧ l1 n < 146097 := by unfold l1 q0; omega
  have b : 0 ≤ q1 n ∧ q1 n ≤ 3 ∧ 0 ≤ l2 n ∧ (l2 n < 36524 ∨ (q1 n = 3 ∧ l2 n ≤ 36524)) := by unfold l2 q1; omega
  have c : 0 ≤ q2 n ∧ q2 n ≤ 24 ∧ 0 ≤ l3 n ∧ l3 n < 1461 ∧ (q2 n = 24 → q1 n = 3 ∨ l3 n < 1460) := by unfold l3 q2; omega
  refine ⟨a, b, c, ?_⟩
  unfold l4 q3; omega
theorem dY_bd (n : Int) (h1 : -719162 ≤ n) (h2 : n ≤ 2932896) : 1 ≤ dY n ∧ dY n ≤ 9999 ∧ bef (dY n) + l4 n = n + 719162 ∧ 0 ≤ l4 n ∧ l4 n < 365 + lp (dY n) := by
  obtain ⟨a, b, c, d⟩ := steps n h1 h2
  have e : bef (dY n) = q0 n * 146097 + q1 n * 36524 + q2 n * 1461 + q3 n * 365 := by
    unfold dY bef; omega
  have f : l4 n = n + 719162 - q0 n * 146097 - q1 n * 36524 - q2 n * 1461 - q3 n * 365 := by
    unfold l4 l3 l2 l1; omega
  have y1 : 1 ≤ dY n := by unfold dY; omega
  have y2 : dY n ≤ 9999 := by
    apply Classical.byContradiction
    intro hn
    have : dY n = 10000 := by unfold dY at hn ⊢; omega
    rw [this, bef_10000] at e
    omega
  refine ⟨y1, y2, by omega, by omega, ?_⟩
  have g := lp_01 (dY n)
  by_cases k : l4 n < 365
  · omega
  · have h3 : leapB (dY n) = true := by
      rw [leapB_iff]
      refine ⟨y1, y2, ?_, ?_⟩
      · unfold dY; omega
      · unfold dY; omega
    unfold lp; rw [if_pos h3]; omega
theorem dMfrom_bd (y l : Int) (h1 : 1 ≤ y) (h2 : y ≤ 9999) (h : l < cum y 13) : ∀ (k : Nat) (m : Int), 1 ≤ m → m + k = 12 → cum y m ≤ l →
    1 ≤ dMfrom k y l m ∧ dMfrom k y l m ≤ 12 ∧ cum y (dMfrom k y l m) ≤ l ∧ l < cum y (dMfrom k y l m) + dim y (dMfrom k y l m) := by
  intro k
  induction k with
  | zero =>
    intro m hm hk hl
    have hm12 : m = 12 := by omega
    subst hm12
    have := cum_succ y 12 h1 h2 (by omega) (by omega)
    simp at this
    exact ⟨by unfold dMfrom; omega, by unfold dMfrom; omega, by unfold dMfrom; omega, by unfold dMfrom; omega⟩
  | succ k ih =>
    intro m hm hk hl
    have := cum_succ y m h1 h2 hm (by omega)
    unfold dMfrom
    by_cases c : l < cum y (m + 1)
    · rw [if_pos c]; exact ⟨hm, by omega, hl, by omega⟩
    · rw [if_neg c]; exact ih (m + 1) (by omega) (by omega) (by omega)
theorem dM_bd (n : Int) (h1 : -719162 ≤ n) (h2 : n ≤ 2932896) : 1 ≤ dM n ∧ dM n ≤ 12 ∧ cum (dY n) (dM n) ≤ l4 n ∧ l4 n < cum (dY n) (dM n) + dim (dY n) (dM n) := by
  obtain ⟨a, b, c, d, e⟩ := dY_bd n h1 h2
  rw [← cum_13] at e
  exact dMfrom_bd (dY n) (l4 n) a b e 11 1 (by omega) (by omega) (by rw [cum_1]; exact d)
theorem date_valid (n : Int) (h1 : -719162 ≤ n) (h2 : n ≤ 2932896) : valid (dY n) (dM n) (dD n) ∧ num (dY n) (dM n) (dD n) = n := by
  obtain ⟨a, b, c, d, e⟩ := dY_bd n h1 h2
  obtain ⟨f, g, i, j⟩ := dM_bd n h1 h2
  exact ⟨⟨a, b, f, g, by unfold dD; omega, by unfold dD; omega⟩, by unfold num dD; omega⟩
theorem date_of (n y m d : Int) (h : valid y m d) (e : num y m d = n) : y = dY n ∧ m = dM n ∧ d = dD n := by
  have b := num_bd y m d h
  have v := date_valid n (by omega) (by omega)
  exact unique y _ m d _ _ h v.1 (by rw [v.2]; exact e)
end Go.Proofs.YtikjehgbfkndjaaDoor.Cal
