/- JSON values, their texts, and the value of an archive, in plain words. -/
import Derived.Test.YtbodoncomeegpaaGreatDoorJs
import Derived.Test.YtbodoncomeegpaaGreatDoorMo
import Derived.Lib.ItoaNum
namespace Go.Proofs.YtbodoncomeegpaaGreatDoor.Jv
open Go Go.Proofs.YtbodoncomeegpaaGreatDoor
set_option linter.unusedVariables false

inductive J where
  | null
  | bool (b : Bool)
  | int (n : Int)
  | str (s : ByteArray)
  | arr (l : List J)
  | obj (l : List (ByteArray × J))
/-- The text of a number. -/
def dig (n : Int) : List UInt8 := Lib.itoa n
/-- Texts separated by commas. -/
def joinC : List (List UInt8) → List UInt8
  | [] => []
  | [a] => a
  | a :: b :: r => a ++ 44 :: joinC (b :: r)
mutual
def enc : J → List UInt8
  | .null => [110, 117, 108, 108]
  | .bool true => [116, 114, 117, 101]
  | .bool false => [102, 97, 108, 115, 101]
  | .int n => dig n
  | .str s => Js.quote s.data.toList
  | .arr l => 91 :: (joinC (encL l) ++ [93])
  | .obj l => 123 :: (joinC (encM l) ++ [125])
def encL : List J → List (List UInt8)
  | [] => []
  | a :: r => enc a :: encL r
def encM : List (ByteArray × J) → List (List UInt8)
  | [] => []
  | a :: r => encP a :: encM r
def encP : ByteArray × J → List UInt8
  | (k, a) => Js.quote k.data.toList ++ 58 :: enc a
end
theorem encL_map (l : List J) : encL l = l.map enc := by
  induction l with
  | nil => simp [encL]
  | cons a r ih => simp [encL, ih]
theorem encM_map (l : List (ByteArray × J)) : encM l = l.map fun p => Js.quote p.1.data.toList ++ 58 :: enc p.2 := by
  induction l with
  | nil => simp [encM]
  | cons a r ih => obtain ⟨k, a⟩ := a; simp [encM, encP, ih]
theorem joinC_snoc (l : List (List UInt8)) (a : List UInt8) : joinC (l ++ [a]) = if l = [] then a else joinC l ++ 44 :: a := by
  induction l with
  | nil => simp [joinC]
  | cons b r ih =>
    cases r with
    | nil => simp [joinC]
    | cons c r =>
      simp only [List.cons_append, joinC] at ih ⊢
      rw [ih]
      simp
theorem joinC_take (l : List (List UInt8)) (k : Nat) (hk : k < l.length) : joinC (l.take (k + 1)) = if k = 0 then l[k] else joinC (l.take k) ++ 44 :: l[k] := by
  rw [List.take_add_one, List.getElem?_eq_getElem hk]
  simp only [Option.toList_some]
  rw [joinC_snoc]
  by_cases h : k = 0
  · subst h; simp
  · have : l.take k ≠ [] := by
      intro e
      have := congrArg List.length e
      rw [List.length_take, List.length_nil] at this
      omega
    rw [if_neg this, if_neg h]
theorem joinC_len (l : List (List UInt8)) : (joinC l).length ≤ (l.map (·.length + 1)).sum := by
  induction l with
  | nil => simp [joinC]
  | cons a r ih =>
    cases r with
    | nil => simp [joinC]
    | cons b r =>
      have e : (joinC (a :: b :: r)).length = a.length + (1 + (joinC (b :: r)).length) := by
        show (a ++ 44 :: joinC (b :: r)).length = _
        rw [List.length_append, List.length_cons]
        omega
      rw [e, List.map_cons, List.sum_cons]
      omega
/-! ### values that may be written -/
mutual
def Ok : Nat → J → Prop
  | d, .str s => d ≤ 100 ∧ Lib.validD s.data.toList = true
  | d, .arr l => d ≤ 100 ∧ OkL (d + 1) l
  | d, .obj l => d ≤ 100 ∧ (l.map (·.1)).Nodup ∧ OkM (d + 1) l
  | d, _ => d ≤ 100
def OkL : Nat → List J → Prop
  | _, [] => True
  | d, a :: r => Ok d a ∧ OkL d r
def OkM : Nat → List (ByteArray × J) → Prop
  | _, [] => True
  | d, a :: r => OkP d a ∧ OkM d r
def OkP : Nat → ByteArray × J → Prop
  | d, (k, a) => Lib.validD k.data.toList = true ∧ Ok d a
end
theorem OkL_iff (d : Nat) (l : List J) : OkL d l ↔ ∀ x ∈ l, Ok d x := by
  induction l with
  | nil => simp [OkL]
  | cons a r ih => simp [OkL, ih]
theorem OkM_iff (d : Nat) (l : List (ByteArray × J)) : OkM d l ↔ ∀ p ∈ l, Lib.validD p.1.data.toList = true ∧ Ok d p.2 := by
  induction l with
  | nil => simp [OkM]
  | cons a r ih => obtain ⟨k, a⟩ := a; simp [OkM, OkP, ih]
/-! ### the value of an archive -/
def kId : ByteArray := ⟨#[105, 100]⟩
def kTitle : ByteArray := ⟨#[116, 105, 116, 108, 101]⟩
def kLink : ByteArray := ⟨#[108, 105, 110, 107]⟩
def kContent : ByteArray := ⟨#[99, 111, 110, 116, 101, 110, 116]⟩
def kUpdated : ByteArray := ⟨#[117, 112, 100, 97, 116, 101, 100]⟩
def kPath : ByteArray := ⟨#[112, 97, 116, 104]⟩
def kEntries : ByteArray := ⟨#[101, 110, 116, 114, 105, 101, 115]⟩
def jE (e : Mo.En) : J := .obj [(kId, .str e.id), (kTitle, .str e.title), (kLink, .str e.link), (kContent, .str e.content), (kUpdated, .int e.upd)]
def jF (f : Mo.Fd) : J := .obj [(kPath, .arr (f.path.map .str)), (kId, .str f.id), (kTitle, .str f.title), (kLink, .str f.link), (kUpdated, .int f.upd), (kEntries, .arr (f.ents.map jE))]
def jA (a : List Mo.Fd) : J := .arr (a.map jF)
theorem chk_valid (n : Nat) : ∀ l : List UInt8, l.length ≤ n → (Txt.chk l).2 = 0 → Lib.validD l = true := by
  induction n with
  | zero => intro l hl _; obtain rfl : l = [] := List.eq_nil_of_length_eq_zero (by omega); rfl
  | succ n ih =>
    intro l hl h
    by_cases h0 : l = []
    · subst h0; rfl
    · rw [Txt.chk_step l h0] at h
      by_cases h1 : (Txt.dec l).2 = 0
      · rw [if_pos h1] at h; cases h
      · rw [if_neg h1] at h
        by_cases h2 : Txt.isCharB (Txt.dec l).1 = false
        · rw [if_pos h2] at h; cases h
        · rw [if_neg h2] at h
          rw [Txt.valid_of_dec h1]
          refine ih _ ?_ h
          rw [List.length_drop]
          omega
theorem okS_valid {s : ByteArray} (h : Mo.okS s = true) : Lib.validD s.data.toList = true := by
  unfold Mo.okS at h
  rw [Bool.and_eq_true] at h
  exact chk_valid _ _ (Nat.le_refl _) (of_decide_eq_true h.1)
theorem jE_ok {e : Mo.En} (h : Mo.okE e = true) (d : Nat) (hd : d ≤ 98) : Ok d (jE e) := by
  unfold Mo.okE at h
  simp only [Bool.and_eq_true] at h
  obtain ⟨⟨⟨⟨⟨-, -⟩, h1⟩, h2⟩, h3⟩, h4⟩ := h
  unfold jE
  simp only [Ok, OkM, OkP]
  exact ⟨by omega, (show [kId, kTitle, kLink, kContent, kUpdated].Nodup by decide), ⟨by decide, by omega, okS_valid h1⟩, ⟨by decide, by omega, okS_valid h2⟩, ⟨by decide, by omega, okS_valid h3⟩, ⟨by decide, by omega, okS_valid h4⟩, ⟨by decide, by omega⟩, trivial⟩
theorem jF_ok {f : Mo.Fd} (h : Mo.okF f = true) : Ok 2 (jF f) := by
  unfold Mo.okF at h
  simp only [Bool.and_eq_true] at h
  obtain ⟨⟨⟨⟨⟨⟨⟨-, hp⟩, -⟩, -⟩, h1⟩, h2⟩, h3⟩, h4⟩ := h
  have hp2 : OkL 4 (f.path.map J.str) := by
    rw [OkL_iff]
    intro x hx
    obtain ⟨s, hs, rfl⟩ := List.mem_map.1 hx
    have := List.all_eq_true.1 hp s hs
    rw [Bool.and_eq_true] at this
    simp only [Ok]
    exact ⟨by omega, okS_valid this.2⟩
  have he : OkL 4 (f.ents.map jE) := by
    rw [OkL_iff]
    intro x hx
    obtain ⟨e, he, rfl⟩ := List.mem_map.1 hx
    exact jE_ok (Mo.ordB_true _ _ _ h4 e he) 4 (by omega)
  unfold jF
  simp only [Ok, OkM, OkP]
  exact ⟨by omega, (show [kPath, kId, kTitle, kLink, kUpdated, kEntries].Nodup by decide), ⟨by decide, by omega, hp2⟩, ⟨by decide, by omega, okS_valid h1⟩, ⟨by decide, by omega, okS_valid h2⟩, ⟨by decide, by omega, okS_valid h3⟩, ⟨by decide, by omega⟩, ⟨by decide, by omega, he⟩, trivial⟩
theorem jA_ok {a : List Mo.Fd} (h : Mo.okA a = true) : Ok 1 (jA a) := by
  unfold jA
  simp only [Ok]
  refine ⟨by omega, ?_⟩
  rw [OkL_iff]
  intro x hx
  obtain ⟨f, hf, rfl⟩ := List.mem_map.1 hx
  exact jF_ok (Mo.ordB_true _ _ _ h f hf)
end Go.Proofs.YtbodoncomeegpaaGreatDoor.Jv
