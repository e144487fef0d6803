/- Plain facts on the file system's directories. No program in sight. -/
import Derived.Maps.OwnSet
import Derived.StringKeys
namespace Go.Proofs.Ytcobjjaicckgpaa.Vf
open Go Go.Maps
set_option linter.unusedVariables false

/-- A directory: names and the blocks of their files. -/
abbrev Nm := List (List UInt8 × Nat)
def dt (b : Nat) : DataW Nat := .lit (.int .i64 b)
def dnil : DataW Nat := .lit (.int .i64 (-1))
def Dm (m : Nm) : DataW Nat := .map (m.map fun p => (.string p.1, dt p.2))
def insS (x : List UInt8 × Nat) : Nm → Nm
  | [] => [x]
  | y :: r => if bytesBefore x.1 y.1 then x :: y :: r else y :: insS x r
def delS (m : Nm) (k : List UInt8) : Nm := m.filter fun p => !(p.1 == k)
def putS (m : Nm) (k : List UInt8) (b : Nat) : Nm := insS (k, b) (delS m k)
def findS (m : Nm) (k : List UInt8) : Option Nat := (m.find? fun p => p.1 == k).map (·.2)
theorem ins_map (x : List UInt8 × Nat) : ∀ m : Nm, (insS x m).map (fun p => (Lit.string p.1, dt p.2)) = DataW.insert (Lit.string x.1, dt x.2) (m.map fun p => (Lit.string p.1, dt p.2))
  | [] => rfl
  | y :: r => by
    have ih := ins_map x r
    simp only [insS, List.map_cons, DataW.insert]
    have e : Lit.before (Lit.string x.1) (Lit.string y.1) = bytesBefore x.1 y.1 := rfl
    rw [e]
    split
    · rfl
    · simp only [List.map_cons, ih]
theorem del_map (m : Nm) (k : List UInt8) : (delS m k).map (fun p => (Lit.string p.1, dt p.2)) = (m.map fun p => (Lit.string p.1, dt p.2)).filter fun p => !p.1.sameKey (.string k) := by
  unfold delS
  induction m with
  | nil => rfl
  | cons y r ih =>
    simp only [List.filter_cons, List.map_cons]
    have e : Lit.sameKey (Lit.string y.1) (.string k) = (y.1 == k) := rfl
    rw [e]
    split
    · simp only [List.map_cons, ih]
    · exact ih
theorem Dm_put (m : Nm) (k : List UInt8) (b : Nat) : (Dm m).put (.string k) (dt b) = Dm (putS m k b) := by
  unfold Dm putS DataW.put
  simp only
  rw [ins_map, del_map]
theorem Dm_del (m : Nm) (k : List UInt8) : (Dm m).del (.string k) = Dm (delS m k) := by
  unfold Dm DataW.del
  simp only
  rw [del_map]
theorem Dm_at (m : Nm) (k : List UInt8) (z : DataW Nat) : (Dm m).atKey (.string k) z = match findS m k with | some b => dt b | none => z := by
  unfold Dm DataW.atKey findS
  simp only
  induction m with
  | nil => rfl
  | cons y r ih =>
    simp only [List.map_cons, List.find?_cons]
    have e : Lit.sameKey (Lit.string y.1) (.string k) = (y.1 == k) := rfl
    rw [e]
    cases y.1 == k with
    | true => rfl
    | false => exact ih
theorem Dm_has (m : Nm) (k : List UInt8) : Maps.has (Dm m) (.string k) = (findS m k).isSome := by
  unfold Dm findS
  rw [Maps.has_eq]
  induction m with
  | nil => rfl
  | cons y r ih =>
    simp only [List.map_cons, List.any_cons, List.find?_cons]
    have e : Lit.sameKey (Lit.string y.1) (.string k) = (y.1 == k) := rfl
    rw [e]
    cases y.1 == k with
    | true => rfl
    | false => simpa using ih
theorem Dm_nil : Dm [] = .map [] := rfl

/-! ### how a pointer to a file reads -/
def fptr (b : Nat) : Value := .pointer (some ⟨b, 0, none⟩)
def fptrO : Option Nat → Value
  | some b => fptr b
  | none => .pointer none
def Rp (v : Value) : Option (DataW Nat × List MemPlace) :=
  match v with
  | .pointer none => some (dnil, [])
  | .pointer (some ⟨b, 0, none⟩) => some (dt b, [])
  | _ => none
theorem Rp_ptr (b : Nat) : Rp (fptr b) = some (dt b, []) := rfl
theorem Rp_nil : Rp (.pointer none) = some (dnil, []) := rfl
theorem Rp_inv {v : Value} {d : DataW Nat} {ps : List MemPlace} (h : Rp v = some (d, ps)) : (v = .pointer none ∧ d = dnil) ∨ ∃ b, v = fptr b ∧ d = dt b := by
  unfold Rp at h
  split at h
  · cases h; exact .inl ⟨rfl, rfl⟩
  · cases h; exact .inr ⟨_, rfl, rfl⟩
  · cases h
theorem dt_ne (b : Nat) : dt b ≠ dnil := by
  intro h
  unfold dt dnil at h
  injection h with h
  injection h with _ h
  omega
theorem Rp_at {v : Value} {ps : List MemPlace} (m : Nm) (k : List UInt8) (h : Rp v = some ((Dm m).atKey (.string k) dnil, ps)) : v = fptrO (findS m k) := by
  rw [Dm_at] at h
  cases hf : findS m k with
  | none =>
    rw [hf] at h
    rcases Rp_inv h with ⟨e, _⟩ | ⟨b, _, e⟩
    · exact e
    · exact absurd e.symm (dt_ne b)
  | some b =>
    rw [hf] at h
    rcases Rp_inv h with ⟨_, e⟩ | ⟨c, e, e2⟩
    · exact absurd e (dt_ne b)
    · have : b = c := by
        have e3 : (dt b : DataW Nat) = dt c := e2
        unfold dt at e3
        injection e3 with e3
        injection e3 with _ e3
        omega
      subst this
      exact e
end Go.Proofs.Ytcobjjaicckgpaa.Vf
