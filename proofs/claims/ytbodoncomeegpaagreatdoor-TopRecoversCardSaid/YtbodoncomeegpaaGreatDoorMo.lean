/- Archives, and which of them are valid, in plain words. -/
import Derived.Test.YtbodoncomeegpaaGreatDoorTxt2
namespace Go.Proofs.YtbodoncomeegpaaGreatDoor.Mo
open Go Go.Proofs.YtbodoncomeegpaaGreatDoor
set_option linter.unusedVariables false

structure En where
  id : ByteArray
  title : ByteArray
  link : ByteArray
  content : ByteArray
  upd : Int
structure Fd where
  path : List ByteArray
  id : ByteArray
  title : ByteArray
  link : ByteArray
  upd : Int
  ents : List En
def inT (t : Int) : Bool := decide (-62135596800 ≤ t) && decide (t ≤ 253402300799)
def okS (s : ByteArray) : Bool := decide ((Txt.chk s.data.toList).2 = 0) && (Txt.collapse s.data.toList == s.data.toList)
def neS (s : ByteArray) : Bool := !s.toList.isEmpty
def cmpS (a b : ByteArray) : Int := if Op.bytesLess a.toList b.toList = true then -1 else if (a.toList == b.toList) = true then 0 else 1
def cmpP : List ByteArray → List ByteArray → Int
  | [], [] => 0
  | [], _ :: _ => -1
  | _ :: _, [] => 1
  | a :: r, b :: s => if (a.toList == b.toList) = true then cmpP r s else cmpS a b
def cmpF (f g : Fd) : Int := if cmpP f.path g.path = 0 then cmpS f.id g.id else cmpP f.path g.path
def cmpE (a b : En) : Int := if b.upd < a.upd then -1 else if a.upd < b.upd then 1 else cmpS a.id b.id
section
variable {α : Type} (chk : α → Bool) (cmp : α → α → Int) (id : α → ByteArray)
/-- Element k is valid, behind the one before it, and its name is new. -/
def stepB (l : List α) (k : Nat) : Bool :=
  match l[k]? with
  | none => true
  | some x => chk x && (match (if k = 0 then none else l[k - 1]?) with | none => true | some y => decide (cmp y x < 0)) && !((l.take k).any fun y => ((id y).toList == (id x).toList))
def ordK (l : List α) : Nat → Bool
  | 0 => true
  | k + 1 => ordK l k && stepB chk cmp id l k
def ordB (l : List α) : Bool := ordK chk cmp id l l.length
theorem ordK_false {l : List α} {k : Nat} (h : ordK chk cmp id l k = false) : ∀ m, k ≤ m → ordK chk cmp id l m = false
  | 0, hm => by obtain rfl : k = 0 := by omega
                exact h
  | m + 1, hm => by
    by_cases e : k = m + 1
    · rw [← e]; exact h
    · show (ordK chk cmp id l m && _) = false
      rw [ordK_false h m (by omega)]
      rfl
theorem ordB_false {l : List α} {k : Nat} (hk : k < l.length) (h : stepB chk cmp id l k = false) : ordB chk cmp id l = false :=
  ordK_false chk cmp id (k := k + 1) (by show (_ && stepB chk cmp id l k) = false; rw [h, Bool.and_false]) _ hk
theorem ordB_true {l : List α} (h : ordB chk cmp id l = true) : ∀ x ∈ l, chk x = true := by
  have hk : ∀ k, k ≤ l.length → ordK chk cmp id l k = true := fun k hk => by
    cases e : ordK chk cmp id l k with
    | true => rfl
    | false => have := ordK_false chk cmp id e l.length hk; unfold ordB at h; rw [h] at this; cases this
  intro x hx
  obtain ⟨i, hi, rfl⟩ := List.getElem_of_mem hx
  have h1 := hk (i + 1) hi
  have h2 : (ordK chk cmp id l i && stepB chk cmp id l i) = true := h1
  rw [Bool.and_eq_true] at h2
  have h3 := h2.2
  unfold stepB at h3
  rw [List.getElem?_eq_getElem hi] at h3
  simp only [Bool.and_eq_true] at h3
  exact h3.1.1
end
def okE (e : En) : Bool := neS e.id && inT e.upd && okS e.id && okS e.title && okS e.link && okS e.content
def okF (f : Fd) : Bool := decide (f.path.length ≤ 64) && f.path.all (fun p => neS p && okS p) && neS f.id && inT f.upd && okS f.id && okS f.title && okS f.link && ordB okE cmpE (·.id) f.ents
def okA (a : List Fd) : Bool := ordB okF cmpF (·.id) a
/-! ### sizes -/
def wtP (p : ByteArray) : Nat := 1 + min p.size 9000
def wtE (e : En) : Nat := 1 + min (e.id.size + e.title.size + e.link.size + e.content.size) 9000
def wtF (f : Fd) : Nat := 1 + min (f.id.size + f.title.size + f.link.size) 9000 + (f.path.map wtP).sum + (f.ents.map wtE).sum
def wtA (a : List Fd) : Nat := (a.map wtF).sum
end Go.Proofs.YtbodoncomeegpaaGreatDoor.Mo
