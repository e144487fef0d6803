/- Plain facts on texts: the check, names, collapsed white space. No program in sight. -/
import Derived.Test.YtbodoncomeegpaaGreatDoorTxt
import Derived.Lib.ValidLaws
namespace Go.Proofs.YtbodoncomeegpaaGreatDoor.Txt
open Go

/-! ### the classes -/
def isCharB (r : Int) : Bool := decide (r = 9 ∨ r = 10 ∨ r = 13 ∨ (32 ≤ r ∧ r ≤ 55295) ∨ (57344 ≤ r ∧ r ≤ 65533) ∨ (65536 ≤ r ∧ r ≤ 1114111))
def startB (r : Int) : Bool := decide ((65 ≤ r ∧ r ≤ 90) ∨ r = 95 ∨ (97 ≤ r ∧ r ≤ 122) ∨ (192 ≤ r ∧ r ≤ 214) ∨ (216 ≤ r ∧ r ≤ 246) ∨ (248 ≤ r ∧ r ≤ 767) ∨ (880 ≤ r ∧ r ≤ 893) ∨ (895 ≤ r ∧ r ≤ 8191) ∨ (8204 ≤ r ∧ r ≤ 8205) ∨ (8304 ≤ r ∧ r ≤ 8591) ∨ (11264 ≤ r ∧ r ≤ 12271) ∨ (12289 ≤ r ∧ r ≤ 55295) ∨ (63744 ≤ r ∧ r ≤ 64975) ∨ (65008 ≤ r ∧ r ≤ 65533) ∨ (65536 ≤ r ∧ r ≤ 983039))
def moreB (r : Int) : Bool := decide ((45 ≤ r ∧ r ≤ 46) ∨ (48 ≤ r ∧ r ≤ 57) ∨ r = 183 ∨ (768 ≤ r ∧ r ≤ 879) ∨ (8255 ≤ r ∧ r ≤ 8256))
def nameB (r : Int) : Bool := moreB r || startB r
def spB (c : Int) : Bool := decide (c = 32 ∨ c = 9 ∨ c = 10 ∨ c = 13)
def startTab : List Int := [65, 90, 95, 95, 97, 122, 192, 214, 216, 246, 248, 767, 880, 893, 895, 8191, 8204, 8205, 8304, 8591, 11264, 12271, 12289, 55295, 63744, 64975, 65008, 65533, 65536, 983039]
def moreTab : List Int := [45, 46, 48, 57, 183, 183, 768, 879, 8255, 8256]

/-! ### the check: how many bytes are passed, and the error -/
def chkN : Nat → List UInt8 → Nat × Int
  | 0, _ => (0, 0)
  | f + 1, l => if l = [] then (0, 0) else if (dec l).2 = 0 then (0, 5) else if isCharB (dec l).1 = false then (0, 6)
    else ((dec l).2 + (chkN f (l.drop (dec l).2)).1, (chkN f (l.drop (dec l).2)).2)
def chk (l : List UInt8) : Nat × Int := chkN l.length l
theorem chkN_fuel : ∀ (f g : Nat) (l : List UInt8), l.length ≤ f → l.length ≤ g → chkN f l = chkN g l
  | 0, g, l, hf, _ => by
    have : l = [] := List.eq_nil_of_length_eq_zero (by omega)
    subst this
    cases g <;> simp [chkN]
  | f + 1, 0, l, _, hg => by
    have : l = [] := List.eq_nil_of_length_eq_zero (by omega)
    subst this
    simp [chkN]
  | f + 1, g + 1, l, hf, hg => by
    unfold chkN
    by_cases h1 : l = []
    · simp [h1]
    · by_cases h2 : (dec l).2 = 0
      · simp [h1, h2]
      · rw [chkN_fuel f g (l.drop (dec l).2) (by rw [List.length_drop]; omega) (by rw [List.length_drop]; omega)]
theorem chk_nil : chk [] = (0, 0) := rfl
theorem chk_step (l : List UInt8) (h1 : l ≠ []) : chk l = if (dec l).2 = 0 then (0, 5) else if isCharB (dec l).1 = false then (0, 6) else ((dec l).2 + (chk (l.drop (dec l).2)).1, (chk (l.drop (dec l).2)).2) := by
  have hl : 0 < l.length := List.length_pos_iff.2 h1
  obtain ⟨n, hn⟩ : ∃ n, l.length = n + 1 := ⟨l.length - 1, by omega⟩
  by_cases h2 : (dec l).2 = 0
  · unfold chk; rw [hn]; simp [chkN, h1, h2]
  · unfold chk
    rw [hn]
    simp only [chkN]
    rw [if_neg h1, chkN_fuel n (l.drop (dec l).2).length _ (by rw [List.length_drop]; omega) (Nat.le_refl _)]
theorem chk_le : ∀ (n : Nat) (l : List UInt8), l.length ≤ n → (chk l).1 ≤ l.length
  | 0, l, h => by
    have : l = [] := List.eq_nil_of_length_eq_zero (by omega)
    subst this; simp [chk_nil]
  | n + 1, l, h => by
    by_cases h1 : l = []
    · subst h1; simp [chk_nil]
    · rw [chk_step l h1]
      by_cases h2 : (dec l).2 = 0
      · simp [h2]
      · rw [if_neg h2]
        split
        · simp
        · have hw := dec_le l
          have := chk_le n (l.drop (dec l).2) (by rw [List.length_drop]; omega)
          rw [List.length_drop] at this
          simp only; omega
theorem chk_bd (l : List UInt8) : (chk l).1 ≤ l.length := chk_le _ l (Nat.le_refl _)
theorem chk_err (l : List UInt8) : (chk l).2 = 0 ∨ (chk l).2 = 5 ∨ (chk l).2 = 6 := by
  suffices h : ∀ (n : Nat) (l : List UInt8), l.length ≤ n → ((chk l).2 = 0 ∨ (chk l).2 = 5 ∨ (chk l).2 = 6) from h _ l (Nat.le_refl _)
  intro n
  induction n with
  | zero =>
    intro l h
    have : l = [] := List.eq_nil_of_length_eq_zero (by omega)
    subst this; simp [chk_nil]
  | succ n ih =>
    intro l h
    by_cases h1 : l = []
    · subst h1; simp [chk_nil]
    · rw [chk_step l h1]
      by_cases h2 : (dec l).2 = 0
      · simp [h2]
      · rw [if_neg h2]
        split
        · simp
        · exact ih _ (by rw [List.length_drop]; omega)
theorem chk_ok (n : Nat) : ∀ (l : List UInt8), l.length ≤ n → (chk l).2 = 0 → (chk l).1 = l.length := by
  induction n with
  | zero =>
    intro l h _
    have : l = [] := List.eq_nil_of_length_eq_zero (by omega)
    subst this; simp [chk_nil]
  | succ n ih =>
    intro l h he
    by_cases h1 : l = []
    · subst h1; simp [chk_nil]
    · rw [chk_step l h1] at he ⊢
      by_cases h2 : (dec l).2 = 0
      · simp [h2] at he
      · rw [if_neg h2] at he ⊢
        by_cases h3 : isCharB (dec l).1 = false
        · simp [h3] at he
        · rw [if_neg h3] at he ⊢
          have hw := dec_le l
          have := ih (l.drop (dec l).2) (by rw [List.length_drop]; omega) he
          rw [List.length_drop] at this
          simp only; omega
theorem chk_append (n : Nat) : ∀ (l t : List UInt8), l.length ≤ n → (chk l).2 = 0 → chk (l ++ t) = (l.length + (chk t).1, (chk t).2) := by
  induction n with
  | zero =>
    intro l t h _
    have : l = [] := List.eq_nil_of_length_eq_zero (by omega)
    subst this; simp
  | succ n ih =>
    intro l t h he
    by_cases h1 : l = []
    · subst h1; simp
    · have hs := chk_step l h1
      by_cases h2 : (dec l).2 = 0
      · rw [hs] at he; simp [h2] at he
      · by_cases h3 : isCharB (dec l).1 = false
        · rw [hs] at he; simp [h2, h3] at he
        · rw [hs, if_neg h2, if_neg h3] at he
          have hw := dec_le l
          rw [chk_step (l ++ t) (by simp [h1]), dec_append l t h2, if_neg h2, if_neg h3, List.drop_append_of_le_length hw, ih (l.drop (dec l).2) t (by rw [List.length_drop]; omega) he]
          simp only [List.length_drop, Prod.mk.injEq, and_true]
          omega

/-! ### names -/
def nmN : Nat → Bool → List UInt8 → Bool
  | 0, _, _ => true
  | f + 1, first, l => if l = [] then true else if (dec l).2 = 0 then false else if nameB (dec l).1 = false then false else if first = true ∧ startB (dec l).1 = false then false else nmN f false (l.drop (dec l).2)
def nm (first : Bool) (l : List UInt8) : Bool := nmN l.length first l
def isNameB (l : List UInt8) : Bool := decide (l ≠ []) && nm true l
theorem nmN_fuel : ∀ (f g : Nat) (b : Bool) (l : List UInt8), l.length ≤ f → l.length ≤ g → nmN f b l = nmN g b l
  | 0, g, b, l, hf, _ => by
    have : l = [] := List.eq_nil_of_length_eq_zero (by omega)
    subst this
    cases g <;> simp [nmN]
  | f + 1, 0, b, l, _, hg => by
    have : l = [] := List.eq_nil_of_length_eq_zero (by omega)
    subst this
    simp [nmN]
  | f + 1, g + 1, b, l, hf, hg => by
    unfold nmN
    by_cases h1 : l = []
    · simp [h1]
    · by_cases h2 : (dec l).2 = 0
      · simp [h1, h2]
      · rw [nmN_fuel f g false (l.drop (dec l).2) (by rw [List.length_drop]; omega) (by rw [List.length_drop]; omega)]
theorem nm_nil (b : Bool) : nm b [] = true := rfl
theorem nm_step (b : Bool) (l : List UInt8) (h1 : l ≠ []) : nm b l = if (dec l).2 = 0 then false else if nameB (dec l).1 = false then false else if b = true ∧ startB (dec l).1 = false then false else nm false (l.drop (dec l).2) := by
  have hl : 0 < l.length := List.length_pos_iff.2 h1
  obtain ⟨n, hn⟩ : ∃ n, l.length = n + 1 := ⟨l.length - 1, by omega⟩
  by_cases h2 : (dec l).2 = 0
  · unfold nm; rw [hn]; simp [nmN, h1, h2]
  · unfold nm
    rw [hn]
    simp only [nmN]
    rw [if_neg h1, nmN_fuel n (l.drop (dec l).2).length _ _ (by rw [List.length_drop]; omega) (Nat.le_refl _)]
theorem nm_false {l : List UInt8} (h : nm true l = true) : nm false l = true := by
  by_cases h1 : l = []
  · subst h1; rfl
  · rw [nm_step _ l h1] at h ⊢
    by_cases h2 : (dec l).2 = 0
    · simp [h2] at h
    · by_cases h3 : nameB (dec l).1 = false
      · simp [h2, h3] at h
      · rw [if_neg h2, if_neg h3] at h ⊢
        by_cases h4 : startB (dec l).1 = false
        · simp [h4] at h
        · rw [if_neg (by simp [h4])] at h
          rw [if_neg (by simp)]; exact h
theorem nm_append (n : Nat) : ∀ (b : Bool) (l t : List UInt8), l.length ≤ n → l ≠ [] → nm b l = true → nm false t = true → nm b (l ++ t) = true := by
  induction n with
  | zero =>
    intro b l t h hne
    exact absurd (List.eq_nil_of_length_eq_zero (by omega)) hne
  | succ n ih =>
    intro b l t h h1 hl ht
    have hs := nm_step b l h1
    by_cases h2 : (dec l).2 = 0
    · rw [hs] at hl; simp [h2] at hl
    · have hw := dec_le l
      rw [nm_step b (l ++ t) (by simp [h1]), dec_append l t h2, List.drop_append_of_le_length hw]
      rw [hs] at hl
      rw [if_neg h2] at hl ⊢
      by_cases h3 : nameB (dec l).1 = false
      · simp [h3] at hl
      · rw [if_neg h3] at hl ⊢
        by_cases h4 : b = true ∧ startB (dec l).1 = false
        · rw [if_pos h4] at hl; cases hl
        · rw [if_neg h4] at hl ⊢
          by_cases h5 : l.drop (dec l).2 = []
          · rw [h5, List.nil_append]; exact ht
          · exact ih false _ t (by rw [List.length_drop]; omega) h5 hl ht
theorem name_append (s t : List UInt8) (hs : isNameB s = true) (ht : isNameB t = true) : isNameB (s ++ t) = true := by
  unfold isNameB at *
  simp only [Bool.and_eq_true, decide_eq_true_eq] at *
  exact ⟨by simp [hs.1], nm_append _ true s t (Nat.le_refl _) hs.1 hs.2 (nm_false ht.2)⟩
/-- Where the whole text is valid, decoding by the model's own decoder is decoding. -/
theorem dec_valid {l : List UInt8} (h1 : l ≠ []) (h : Lib.validD l = true) : (dec l).2 ≠ 0 ∧ dec l = Lib.decodeL l ∧ Lib.validD (l.drop (dec l).2) = true := by
  rw [Lib.validD_step l h1] at h
  by_cases c : (Lib.decodeL l).1 = 65533 ∧ (Lib.decodeL l).2 = 1
  · rw [if_pos c] at h; cases h
  · rw [if_neg c] at h
    have hd : dec l = Lib.decodeL l := by
      unfold dec; rw [if_neg h1, if_neg (fun e => c (by rw [e]; exact ⟨rfl, rfl⟩))]
    rw [hd]
    exact ⟨by have := Lib.decodeL_width l; omega, rfl, h⟩
theorem valid_of_dec {l : List UInt8} (h1 : (dec l).2 ≠ 0) : Lib.validD l = Lib.validD (l.drop (dec l).2) := by
  obtain ⟨a, b, c⟩ := dec_cons_ne h1
  rw [Lib.validD_step l a, c, if_neg (fun e => b (Prod.ext e.1 e.2))]
theorem nm_valid (n : Nat) : ∀ (b : Bool) (l : List UInt8), l.length ≤ n → nm b l = true → Lib.validD l = true := by
  induction n with
  | zero =>
    intro b l h _
    have : l = [] := List.eq_nil_of_length_eq_zero (by omega)
    subst this; rfl
  | succ n ih =>
    intro b l h hl
    by_cases h1 : l = []
    · subst h1; rfl
    · rw [nm_step b l h1] at hl
      by_cases h2 : (dec l).2 = 0
      · simp [h2] at hl
      · rw [if_neg h2] at hl
        rw [valid_of_dec h2]
        by_cases h3 : nameB (dec l).1 = false
        · simp [h3] at hl
        · rw [if_neg h3] at hl
          by_cases h4 : b = true ∧ startB (dec l).1 = false
          · rw [if_pos h4] at hl; cases hl
          · rw [if_neg h4] at hl
            exact ih false _ (by rw [List.length_drop]; omega) hl
theorem name_invalid {l : List UInt8} (h : Lib.validD l = false) : isNameB l = false := by
  unfold isNameB
  cases e : nm true l
  · simp
  · rw [nm_valid _ true l (Nat.le_refl _) e] at h; cases h

/-! ### collapsed white space -/
def sp (c : UInt8) : Bool := spB c.toNat
def cst (p : List UInt8 × Bool) (c : UInt8) : List UInt8 × Bool :=
  if sp c = true then (p.1, !p.1.isEmpty) else ((if p.2 = true then p.1 ++ [32] else p.1) ++ [c], false)
def cfold (l : List UInt8) : List UInt8 × Bool := l.foldl cst ([], false)
def collapse (l : List UInt8) : List UInt8 := (cfold l).1
def col : List UInt8 → Bool → Bool → List UInt8
  | [], _, _ => []
  | c :: l, ne, g => if sp c = true then col l ne ne else if g = true then 32 :: c :: col l true false else c :: col l true false
theorem cst_sp {c : UInt8} (h : sp c = true) (o : List UInt8) (g : Bool) : cst (o, g) c = (o, !o.isEmpty) := by unfold cst; rw [if_pos h]
theorem cst_no {c : UInt8} (h : sp c = false) (o : List UInt8) (g : Bool) : cst (o, g) c = ((if g = true then o ++ [32] else o) ++ [c], false) := by unfold cst; rw [if_neg (by simp [h])]
theorem col_sp {c : UInt8} (h : sp c = true) (l : List UInt8) (ne g : Bool) : col (c :: l) ne g = col l ne ne := by simp [col, h]
theorem col_no {c : UInt8} (h : sp c = false) (l : List UInt8) (ne : Bool) : col (c :: l) ne false = c :: col l true false := by simp [col, h]
theorem col_gap {c : UInt8} (h : sp c = false) (l : List UInt8) (ne : Bool) : col (c :: l) ne true = 32 :: c :: col l true false := by simp [col, h]
theorem fold_col : ∀ (l o : List UInt8) (g : Bool), (l.foldl cst (o, g)).1 = o ++ col l (!o.isEmpty) g
  | [], o, g => by simp [col]
  | c :: l, o, g => by
    simp only [List.foldl_cons]
    cases h : sp c
    · rw [cst_no h, fold_col l _ false]
      have e : (!((if g = true then o ++ [32] else o) ++ [c]).isEmpty) = true := by simp
      rw [e]
      cases g
      · rw [col_no h]; simp
      · rw [col_gap h]; simp
    · rw [cst_sp h, col_sp h, fold_col l o _]
theorem collapse_col (l : List UInt8) : collapse l = col l false false := by
  unfold collapse cfold; rw [fold_col]; rfl
/-- The gap, as the reference sees it: the byte before is white space, and something has been written. -/
theorem fold_gap (l : List UInt8) (c : UInt8) : (cfold (l ++ [c])).2 = (sp c && !(cfold l).1.isEmpty) := by
  unfold cfold
  rw [List.foldl_append]
  simp only [List.foldl_cons, List.foldl_nil]
  cases h : sp c
  · rw [show List.foldl cst ([], false) l = ((List.foldl cst ([], false) l).1, (List.foldl cst ([], false) l).2) from rfl, cst_no h]; simp
  · rw [show List.foldl cst ([], false) l = ((List.foldl cst ([], false) l).1, (List.foldl cst ([], false) l).2) from rfl, cst_sp h]; simp
theorem cfold_snoc (l : List UInt8) (c : UInt8) : cfold (l ++ [c]) = cst (cfold l) c := by
  unfold cfold; rw [List.foldl_append]; rfl
theorem col_join : ∀ (t : List UInt8), col t true true = if col t false false = [] then [] else 32 :: col t false false
  | [] => by simp [col]
  | c :: t => by
    cases h : sp c
    · rw [col_gap h, col_no h]; simp
    · rw [col_sp h, col_sp h]; exact col_join t
theorem col_idem : ∀ (l : List UInt8), col (col l true false) true false = col l true false ∧ col (col l true true) true false = col l true true ∧ col (col l false false) false false = col l false false
  | [] => by simp [col]
  | c :: l => by
    obtain ⟨h1, h2, h3⟩ := col_idem l
    cases h : sp c
    · refine ⟨?_, ?_, ?_⟩
      · rw [col_no h, col_no h, h1]
      · rw [col_gap h, col_sp (by decide), col_gap h, h1]
      · rw [col_no h, col_no h, h1]
    · refine ⟨?_, ?_, ?_⟩
      · rw [col_sp h]; exact h2
      · rw [col_sp h]; exact h2
      · rw [col_sp h]; exact h3
theorem collapse_idem (l : List UInt8) : collapse (collapse l) = collapse l := by
  rw [collapse_col, collapse_col]; exact (col_idem l).2.2
def join (a b : List UInt8) : List UInt8 := if a = [] then b else if b = [] then a else a ++ 32 :: b
theorem collapse_join (s t : List UInt8) (w : UInt8) (hw : sp w = true) : collapse (s ++ w :: t) = join (collapse s) (collapse t) := by
  unfold join
  rw [collapse_col t]
  unfold collapse cfold
  rw [List.foldl_append, List.foldl_cons]
  rw [show List.foldl cst ([], false) s = ((List.foldl cst ([], false) s).1, (List.foldl cst ([], false) s).2) from rfl, cst_sp hw]
  generalize (List.foldl cst ([], false) s).1 = o
  rw [fold_col]
  by_cases ho : o = []
  · subst ho; rfl
  · rw [if_neg ho]
    have e : (!o.isEmpty) = true := by simp [ho]
    rw [e, col_join]
    split
    · simp
    · rfl
theorem collapse_space (t : List UInt8) (w : UInt8) (hw : sp w = true) : collapse (w :: t) = collapse t := by
  rw [collapse_col, collapse_col, col_sp hw]
theorem collapse_composes (s t : List UInt8) (w : UInt8) (hw : sp w = true) : collapse (s ++ [w] ++ t) = collapse (collapse s ++ [w] ++ [w] ++ collapse t) := by
  rw [List.append_assoc, List.append_assoc, List.append_assoc]
  show collapse (s ++ w :: t) = collapse (collapse s ++ w :: (w :: collapse t))
  rw [collapse_join s t w hw, collapse_join _ _ w hw, collapse_space _ w hw, collapse_idem, collapse_idem]
theorem cst_length (p : List UInt8 × Bool) (c : UInt8) : (cst p c).1.length ≤ p.1.length + 2 := by
  unfold cst; split
  · simp
  · simp only; split <;> simp
theorem cfold_length (l : List UInt8) : (cfold l).1.length ≤ l.length + 1 ∧ ((cfold l).2 = true → (cfold l).1.length < l.length) ∧ (cfold l).1.length ≤ l.length := by
  suffices h : ∀ (n : Nat) (l : List UInt8), l.length = n → ((cfold l).1.length ≤ l.length ∧ ((cfold l).2 = true → (cfold l).1.length < l.length)) from
    ⟨by have := (h _ l rfl).1; omega, (h _ l rfl).2, (h _ l rfl).1⟩
  intro n
  induction n with
  | zero =>
    intro l h
    have : l = [] := List.eq_nil_of_length_eq_zero h
    subst this; simp [cfold]
  | succ n ih =>
    intro l h
    obtain ⟨m, c, rfl⟩ : ∃ m c, l = m ++ [c] := by
      rcases List.eq_nil_or_concat l with e | ⟨m, c, e⟩
      · subst e; simp at h
      · exact ⟨m, c, by simpa using e⟩
    obtain ⟨i1, i2⟩ := ih m (by simpa using h)
    rw [cfold_snoc]
    unfold cst
    cases hs : sp c
    · simp only [Bool.false_eq_true, if_false]
      by_cases hg : (cfold m).2 = true
      · have := i2 hg
        simp [hg]; omega
      · simp [hg]; omega
    · simp only [if_true, List.length_append, List.length_cons, List.length_nil]
      exact ⟨by omega, fun _ => by omega⟩
theorem collapse_le (l : List UInt8) : (collapse l).length ≤ l.length := (cfold_length l).2.2
end Go.Proofs.YtbodoncomeegpaaGreatDoor.Txt
