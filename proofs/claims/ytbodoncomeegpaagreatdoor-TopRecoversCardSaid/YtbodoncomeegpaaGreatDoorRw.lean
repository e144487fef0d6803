/- Rows of cells in memory; archives and JSON values in memory. -/
import Derived.Test.YtbodoncomeegpaaGreatDoorJv
import Derived.WalkKit
import Derived.Below
import Derived.Lib.Hide
namespace Go.Proofs.YtbodoncomeegpaaGreatDoor.Rw
open Go Go.RowKit Go.Proofs.YtbodoncomeegpaaGreatDoor
set_option linter.unusedVariables false

theorem lt_of_cell {w : World} {a : Addr} {v : Value} (h : w.cell? a = some v) : a.block < w.heap.size := by
  rcases Nat.lt_or_ge a.block w.heap.size with h1 | h1
  · exact h1
  · unfold World.cell? at h
    rw [Array.getElem?_eq_none h1] at h
    cases h
theorem lt_of_heap {w : World} {g : Nat} {x : Obj} (h : w.heap[g]? = some x) : g < w.heap.size := by
  rcases Nat.lt_or_ge g w.heap.size with h1 | h1
  · exact h1
  · rw [Array.getElem?_eq_none h1] at h
    cases h
theorem below_seq {u v w : World} (h : Below u.heap.size u v) (k : Below v.heap.size v w) : Below u.heap.size u w := h.trans (k.mono h.size)
theorem below_drewN {S : Nat} {W w : World} (h : Below S W w) (n : Nat) : Below S W (w.drewN n) := ⟨h.os, h.tape, h.output, h.size, h.block⟩
theorem cell_under {w w' : World} {a : Addr} {v : Value} (h : w.cell? a = some v) (hb : Below w.heap.size w w') : w'.cell? a = some v := (hb.cell (lt_of_cell h)).trans h
/-- Elements of sz cells each, one behind the other, where the slice points; where there are none, nothing is asked. -/
def Rw (w : World) (v : Value) (sz : Nat) (L : List (List Value)) : Prop :=
  ∃ g off ad cap, v = .slice ad L.length cap ∧ (0 < L.length → ad = some ⟨g, off, none⟩) ∧ ∀ j (hj : j < L.length) k (hk : k < sz), ∃ x, L[j][k]? = some x ∧ w.cell? ⟨g, off + j * sz + k, none⟩ = some x
theorem Rw.under {w w' : World} {v : Value} {sz : Nat} {L : List (List Value)} (h : Rw w v sz L) (hb : Below w.heap.size w w') : Rw w' v sz L := by
  obtain ⟨g, off, ad, cap, h1, h2, h3⟩ := h
  refine ⟨g, off, ad, cap, h1, h2, fun j hj k hk => ?_⟩
  obtain ⟨x, h4, h5⟩ := h3 j hj k hk
  exact ⟨x, h4, cell_under h5 hb⟩
theorem Rw.nil (w : World) (sz : Nat) : Rw w (.slice none 0 0) sz [] := ⟨0, 0, none, 0, rfl, fun h => absurd h (by simp), fun j hj => absurd hj (by simp)⟩
theorem Rw.of_own {w : World} {base sz n : Nat} {t : TypeId} {v : Value} {L : List (List Value)} {xs : List Value} (h : w.ownsRow base t sz v n xs) (hn : L.length = n) (hx : ∀ j (hj : j < L.length) k, k < sz → xs[j * sz + k]? = L[j][k]?) (hl : ∀ j (hj : j < L.length), L[j].length = sz) : Rw w v sz L := by
  subst hn
  rcases h.2 with ⟨e, h0⟩ | ⟨g, cap, cur, e, _, hb, hc, _, _, ht⟩
  · exact ⟨0, 0, none, 0, by rw [e, h0], fun hp => by omega, fun j hj => by omega⟩
  · refine ⟨g, 0, _, cap, e, fun _ => rfl, fun j hj k hk => ?_⟩
    have hkl : k < L[j].length := by rw [hl j hj]; exact hk
    refine ⟨L[j][k], by rw [List.getElem?_eq_getElem hkl], ?_⟩
    have h1 := hx j hj k hk
    rw [List.getElem?_eq_getElem hkl] at h1
    have hlt : j * sz + k < L.length * sz := by
      have : (j + 1) * sz ≤ L.length * sz := Nat.mul_le_mul_right _ hj
      rw [Nat.add_mul, Nat.one_mul] at this
      omega
    unfold World.cell?
    simp only [hb, Nat.zero_add]
    have h2 := congrArg (fun m : List Value => m[j * sz + k]?) ht
    simp only [List.getElem?_take, if_pos hlt] at h2
    rw [← h1, ← h2]
    simp
/-! ### archives -/
def sCell (p : ByteArray) : List Value := [.string p]
def eCells (e : Mo.En) : List Value := [.string e.id, .string e.title, .string e.link, .string e.content, .int .i64 e.upd]
def fCells (f : Mo.Fd) (vp ve : Value) : List Value := [vp, .string f.id, .string f.title, .string f.link, .int .i64 f.upd, ve]
/-- The cells of a feed. -/
def FdIs (w : World) (f : Mo.Fd) (cs : List Value) : Prop := ∃ vp ve, cs = fCells f vp ve ∧ Rw w vp 1 (f.path.map sCell) ∧ Rw w ve 5 (f.ents.map eCells)
/-- The feeds of an archive. -/
def ArIs (w : World) (v : Value) (a : List Mo.Fd) : Prop := ∃ L : List (List Value), L.length = a.length ∧ Rw w v 6 L ∧ ∀ j (hj : j < a.length) (hL : j < L.length), FdIs w a[j] L[j]
theorem FdIs.under {w w' : World} {f : Mo.Fd} {cs : List Value} (h : FdIs w f cs) (hb : Below w.heap.size w w') : FdIs w' f cs := by
  obtain ⟨vp, ve, h1, h2, h3⟩ := h
  exact ⟨vp, ve, h1, h2.under hb, h3.under hb⟩
theorem ArIs.under {w w' : World} {v : Value} {a : List Mo.Fd} (h : ArIs w v a) (hb : Below w.heap.size w w') : ArIs w' v a := by
  obtain ⟨L, h1, h2, h3⟩ := h
  exact ⟨L, h1, h2.under hb, fun j hj hL => (h3 j hj hL).under hb⟩
/-! ### JSON values -/
def nilV : Value := .slice none 0 0
def vCells (k : Int) (b : Bool) (n : Int) (s : ByteArray) (items members : Value) (at' : Int) : List Value := [.int .i64 k, .bool b, .int .i64 n, .string s, items, members, .int .i64 at']
mutual
/-- The seven cells of a value. -/
def Jv (w : World) : Jv.J → List Value → Prop
  | .null, cs => ∃ p, cs = vCells 0 false 0 ⟨#[]⟩ nilV nilV p
  | .bool b, cs => ∃ p, cs = vCells 1 b 0 ⟨#[]⟩ nilV nilV p
  | .int n, cs => ∃ p, cs = vCells 2 false n ⟨#[]⟩ nilV nilV p
  | .str s, cs => ∃ p, cs = vCells 3 false 0 s nilV nilV p
  | .arr l, cs => ∃ p v L, cs = vCells 4 false 0 ⟨#[]⟩ v nilV p ∧ Rw w v 7 L ∧ JvL w l L
  | .obj l, cs => ∃ p v L, cs = vCells 5 false 0 ⟨#[]⟩ nilV v p ∧ Rw w v 9 L ∧ JvM w l L
def JvL (w : World) : List Jv.J → List (List Value) → Prop
  | [], L => L = []
  | a :: r, L => ∃ c T, L = c :: T ∧ Jv w a c ∧ JvL w r T
def JvM (w : World) : List (ByteArray × Jv.J) → List (List Value) → Prop
  | [], L => L = []
  | a :: r, L => ∃ c T, L = c :: T ∧ JvP w a c ∧ JvM w r T
/-- The nine cells of a member. -/
def JvP (w : World) : ByteArray × Jv.J → List Value → Prop
  | (k, a), c => ∃ d p, c = (.string k :: d) ++ [.int .i64 p] ∧ Jv w a d
end
mutual
theorem Jv.under {w w' : World} (hb : Below w.heap.size w w') : ∀ (j : Jv.J) (cs : List Value), Jv w j cs → Jv w' j cs
  | .null, cs, h => by unfold Jv at h ⊢; exact h
  | .bool b, cs, h => by unfold Jv at h ⊢; exact h
  | .int n, cs, h => by unfold Jv at h ⊢; exact h
  | .str s, cs, h => by unfold Jv at h ⊢; exact h
  | .arr l, cs, h => by
    unfold Jv at h ⊢
    obtain ⟨p, v, L, h1, h2, h3⟩ := h
    exact ⟨p, v, L, h1, h2.under hb, JvL.under hb l L h3⟩
  | .obj l, cs, h => by
    unfold Jv at h ⊢
    obtain ⟨p, v, L, h1, h2, h3⟩ := h
    exact ⟨p, v, L, h1, h2.under hb, JvM.under hb l L h3⟩
theorem JvL.under {w w' : World} (hb : Below w.heap.size w w') : ∀ (l : List Jv.J) (L : List (List Value)), JvL w l L → JvL w' l L
  | [], L, h => by unfold JvL at h ⊢; exact h
  | a :: r, L, h => by
    unfold JvL at h ⊢
    obtain ⟨c, T, h1, h2, h3⟩ := h
    exact ⟨c, T, h1, Jv.under hb a c h2, JvL.under hb r T h3⟩
theorem JvM.under {w w' : World} (hb : Below w.heap.size w w') : ∀ (l : List (ByteArray × Jv.J)) (L : List (List Value)), JvM w l L → JvM w' l L
  | [], L, h => by unfold JvM at h ⊢; exact h
  | a :: r, L, h => by
    unfold JvM at h ⊢
    obtain ⟨c, T, h1, h2, h3⟩ := h
    exact ⟨c, T, h1, JvP.under hb a c h2, JvM.under hb r T h3⟩
theorem JvP.under {w w' : World} (hb : Below w.heap.size w w') : ∀ (p : ByteArray × Jv.J) (c : List Value), JvP w p c → JvP w' p c
  | (k, a), c, h => by
    unfold JvP at h ⊢
    obtain ⟨d, p, h1, h2⟩ := h
    exact ⟨d, p, h1, Jv.under hb a d h2⟩
end
theorem JvL_at {w : World} : ∀ {l : List Jv.J} {L : List (List Value)}, JvL w l L → L.length = l.length ∧ ∀ j (hj : j < l.length) (hL : j < L.length), Jv w l[j] L[j]
  | [], L, h => by unfold JvL at h; subst h; exact ⟨rfl, fun j hj => absurd hj (by simp)⟩
  | a :: r, L, h => by
    unfold JvL at h
    obtain ⟨c, T, rfl, h2, h3⟩ := h
    obtain ⟨h4, h5⟩ := JvL_at h3
    refine ⟨by simp [h4], fun j hj hL => ?_⟩
    cases j with
    | zero => exact h2
    | succ j => exact h5 j (by simpa using hj) (by simpa using hL)
theorem JvM_at {w : World} : ∀ {l : List (ByteArray × Jv.J)} {L : List (List Value)}, JvM w l L → L.length = l.length ∧ ∀ j (hj : j < l.length) (hL : j < L.length), JvP w l[j] L[j]
  | [], L, h => by unfold JvM at h; subst h; exact ⟨rfl, fun j hj => absurd hj (by simp)⟩
  | a :: r, L, h => by
    unfold JvM at h
    obtain ⟨c, T, rfl, h2, h3⟩ := h
    obtain ⟨h4, h5⟩ := JvM_at h3
    refine ⟨by simp [h4], fun j hj hL => ?_⟩
    cases j with
    | zero => exact h2
    | succ j => exact h5 j (by simpa using hj) (by simpa using hL)
theorem JvL_mk {w : World} : ∀ {l : List Jv.J} {L : List (List Value)}, L.length = l.length → (∀ j (hj : j < l.length) (hL : j < L.length), Jv w l[j] L[j]) → JvL w l L
  | [], L, h, _ => by unfold JvL; exact List.eq_nil_of_length_eq_zero h
  | a :: r, [], h, _ => absurd h (by simp)
  | a :: r, c :: T, h, hj => by
    unfold JvL
    exact ⟨c, T, rfl, hj 0 (by simp) (by simp), JvL_mk (by simpa using h) fun j h1 h2 => hj (j + 1) (by simpa using h1) (by simpa using h2)⟩
theorem JvM_mk {w : World} : ∀ {l : List (ByteArray × Jv.J)} {L : List (List Value)}, L.length = l.length → (∀ j (hj : j < l.length) (hL : j < L.length), JvP w l[j] L[j]) → JvM w l L
  | [], L, h, _ => by unfold JvM; exact List.eq_nil_of_length_eq_zero h
  | a :: r, [], h, _ => absurd h (by simp)
  | a :: r, c :: T, h, hj => by
    unfold JvM
    exact ⟨c, T, rfl, hj 0 (by simp) (by simp), JvM_mk (by simpa using h) fun j h1 h2 => hj (j + 1) (by simpa using h1) (by simpa using h2)⟩
theorem Jv_len {w : World} {j : Jv.J} {cs : List Value} (h : Jv w j cs) : cs.length = 7 := by
  cases j <;> unfold Jv at h
  · obtain ⟨p, rfl⟩ := h; rfl
  · obtain ⟨p, rfl⟩ := h; rfl
  · obtain ⟨p, rfl⟩ := h; rfl
  · obtain ⟨p, rfl⟩ := h; rfl
  · obtain ⟨p, v, L, rfl, -⟩ := h; rfl
  · obtain ⟨p, v, L, rfl, -⟩ := h; rfl
end Go.Proofs.YtbodoncomeegpaaGreatDoor.Rw
