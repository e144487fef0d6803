/- Rows of JSON values in memory: their append, their copies. The laws of append began as VfR6's. -/
import Derived.Test.YtbodoncomeegpaaGreatDoorMoW14
import Derived.Test.YtbodoncomeegpaaGreatDoorKV
import Derived.Laws.OwnMore
import Derived.Deep.RegionWith
import Derived.Deep.RegionLaw
namespace Go.Proofs.YtbodoncomeegpaaGreatDoor.Me
open Go Go.RowKit Go.Proofs.YtbodoncomeegpaaGreatDoor Go.Proofs.YtbodoncomeegpaaGreatDoor.Rw Go.Proofs.YtbodoncomeegpaaGreatDoor.Vf
set_option linter.unusedVariables false

/-- append(s, x...) where both are owned rows, x of any length. -/
theorem run_append_row {P : Program} (w : World) (base base2 : Nat) (t ty e : TypeId) (i : TypeInfo) (z : Value) (size bytes : Nat) (ht : P.underlying t = some (.slice e)) (hi : P.info? e = some i) (hz : i.zero = some z)
    (hsize : i.size = size) (hby : i.bytes = bytes) (hzs : z.cells.size = size) (hsz : 0 < size)
    (v : Value) (n : Nat) (xs : List Value) (hown : w.ownsRow base e size v n xs)
    (x : Value) (m : Nat) (news : List Value) (hx : w.ownsRow base2 e size x m news) (h1 : ∀ u ∈ news, u.oneCell' = true)
    (h63 : n + m ≤ maxLen) (hbytes : (n + m) * bytes ≤ 140737488355328) (hbase : base ≤ w.heap.size) :
    ∃ v' w', (Builtin.append_ #[t, t] ty #[v, x]).run P w = .ok v' w' ∧ w'.ownsRow base e size v' (n + m) (xs ++ news) ∧ w.grownBy w' v.ownBlock ∧ (v'.ownBlock = v.ownBlock ∨ v'.ownBlock = some w.heap.size) := by
  rcases hx.2 with ⟨rfl, rfl⟩ | ⟨g, cap, cur, rfl, hbg, hg, hnc, hcm, hcs, htake⟩
  · have hn : news = [] := List.eq_nil_of_length_eq_zero (by simpa using hx.1)
    subst hn
    refine ⟨v, w, run_append_owned_none w base t ty e i size ht hi v n xs hown, ?_, ⟨rfl, rfl, rfl, Nat.le_refl _, fun _ _ _ => rfl⟩, .inl rfl⟩
    rw [List.append_nil]
    exact hown
  · obtain ⟨v', w', hr, h2, h3, _, h5⟩ := run_append_own_at (P := P) w base t ty e i z size bytes ht hi hz hsize hby hzs hsz v n xs hown ⟨g, 0, none⟩ m cap news hx.1 (hx.cells (g := g) rfl) h1 h63 hbytes hbase
    exact ⟨v', w', hr, h2, h3, h5⟩
theorem wp_append_row {P : Program} (w : World) {o : Oper} {a : Act} {K : Act → World → Prop} {Q : Exit → Act → World → Prop} (s x : Operand) (t : TypeId)
    (ho : o.op = .call { callee := .builtin .append, args := #[s, x], argTypes := #[t, t] })
    (base base2 : Nat) (e : TypeId) (i : TypeInfo) (z : Value) (size bytes : Nat) (ht : P.underlying t = some (.slice e)) (hi : P.info? e = some i) (hz : i.zero = some z)
    (hsize : i.size = size) (hby : i.bytes = bytes) (hzs : z.cells.size = size) (hsz : 0 < size)
    (v : Value) (n : Nat) (xs : List Value) (hs : a.eval s = v) (hown : w.ownsRow base e size v n xs)
    (x' : Value) (m : Nat) (news : List Value) (hx : a.eval x = x') (hxo : w.ownsRow base2 e size x' m news) (h1 : ∀ u ∈ news, u.oneCell' = true)
    (h63 : n + m ≤ maxLen) (hbytes : (n + m) * bytes ≤ 140737488355328) (hbase : base ≤ w.heap.size)
    (h : ∀ v' w', w'.ownsRow base e size v' (n + m) (xs ++ news) → w.grownBy w' v.ownBlock → (v'.ownBlock = v.ownBlock ∨ v'.ownBlock = some w.heap.size) → K (a.put o.dst v') w') : o.wp P a w K Q := by
  obtain ⟨v', w', hr, h2, h3, h4⟩ := run_append_row (P := P) w base base2 t o.type e i z size bytes ht hi hz hsize hby hzs hsz v n xs hown x' m news hxo h1 h63 hbytes hbase
  unfold Oper.wp execOp
  simp only [ho, resolve, invoke, builtin, Sem.run_bind, Sem.run_pure, Result.andThen_ok, List.map_toArray, List.map_cons, List.map_nil, hs, hx, hr]
  exact h v' w' h2 h3 h4
theorem wpList_append_row {P : Program} (w : World) {ops : Array Oper} {rest : List Oper} {o : Oper} {a : Act} {Q : Exit → Act → World → Prop} (hgd : o.guard = none) (s x : Operand) (t : TypeId)
    (ho : o.op = .call { callee := .builtin .append, args := #[s, x], argTypes := #[t, t] })
    (base base2 : Nat) (e : TypeId) (i : TypeInfo) (z : Value) (size bytes : Nat) (ht : P.underlying t = some (.slice e)) (hi : P.info? e = some i) (hz : i.zero = some z)
    (hsize : i.size = size) (hby : i.bytes = bytes) (hzs : z.cells.size = size) (hsz : 0 < size)
    (v : Value) (n : Nat) (xs : List Value) (hs : a.eval s = v) (hown : w.ownsRow base e size v n xs)
    (x' : Value) (m : Nat) (news : List Value) (hx : a.eval x = x') (hxo : w.ownsRow base2 e size x' m news) (h1 : ∀ u ∈ news, u.oneCell' = true)
    (h63 : n + m ≤ maxLen) (hbytes : (n + m) * bytes ≤ 140737488355328) (hbase : base ≤ w.heap.size)
    (h : ∀ v' w', w'.ownsRow base e size v' (n + m) (xs ++ news) → w.grownBy w' v.ownBlock → (v'.ownBlock = v.ownBlock ∨ v'.ownBlock = some w.heap.size) → wpList P ops Q rest (a.put o.dst v') w') : wpList P ops Q (o :: rest) a w :=
  wpList_plain hgd fun _ hK => wp_append_row w s x t ho base base2 e i z size bytes ht hi hz hsize hby hzs hsz v n xs hs hown x' m news hx hxo h1 h63 hbytes hbase fun v' w' h2 h3 h4 => hK _ _ (h v' w' h2 h3 h4)
theorem step_append_row {P : Program} (w : World) {ops : Array Oper} {o : Oper} {a : Act} {K : Act → World → Prop} {Q : Exit → Act → World → Prop} {E : Prop} (hgd : o.guard = none) (s x : Operand) (t : TypeId)
    (ho : o.op = .call { callee := .builtin .append, args := #[s, x], argTypes := #[t, t] })
    (base base2 : Nat) (e : TypeId) (i : TypeInfo) (z : Value) (size bytes : Nat) (ht : P.underlying t = some (.slice e)) (hi : P.info? e = some i) (hz : i.zero = some z)
    (hsize : i.size = size) (hby : i.bytes = bytes) (hzs : z.cells.size = size) (hsz : 0 < size)
    (v : Value) (n : Nat) (xs : List Value) (hs : a.eval s = v) (hown : w.ownsRow base e size v n xs)
    (x' : Value) (m : Nat) (news : List Value) (hx : a.eval x = x') (hxo : w.ownsRow base2 e size x' m news) (h1 : ∀ u ∈ news, u.oneCell' = true)
    (h63 : n + m ≤ maxLen) (hbytes : (n + m) * bytes ≤ 140737488355328) (hbase : base ≤ w.heap.size)
    (h : ∀ v' w', w'.ownsRow base e size v' (n + m) (xs ++ news) → w.grownBy w' v.ownBlock → (v'.ownBlock = v.ownBlock ∨ v'.ownBlock = some w.heap.size) → K (a.put o.dst v') w') :
    if Region.wanted o (yielded ops a.tmps) = true then Oper.wp P o a w K Q else E := by
  have hw : Region.wanted o (yielded ops a.tmps) = true := by simp [Region.wanted, hgd]
  rw [if_pos hw]
  exact wp_append_row w s x t ho base base2 e i z size bytes ht hi hz hsize hby hzs hsz v n xs hs hown x' m news hx hxo h1 h63 hbytes hbase h
/-- A row of structs in a fresh block. -/
theorem own_new {w : World} {base b n size : Nat} {t : TypeId} {cs : List Value} (h : w.heap[b]? = some (Obj.cells cs.toArray t (0, 0))) (hb : base ≤ b) (hl : cs.length = n * size) (hm : n ≤ maxLen) : w.ownsRow base t size (.slice (some ⟨b, 0, none⟩) n n) n cs :=
  ⟨hl, .inr ⟨b, n, cs.toArray, rfl, hb, h, Nat.le_refl _, hm, by simpa using hl, by rw [← hl]; simp⟩⟩
theorem below_keep {u u' w : World} (h : Below u'.heap.size u' w) (h1 : u'.heap = u.heap) (h2 : u'.os = u.os) (h3 : u'.tape = u.tape) (h4 : u'.output = u.output) : Below u.heap.size u w :=
  ⟨h.os.trans h2, h.tape.trans h3, h.output.trans h4, by rw [← h1]; exact h.size, fun k hk => by rw [h.block k (by rw [h1]; exact hk), h1]⟩
theorem own_alloc {w : World} {base n size : Nat} {t : TypeId} {v : Value} {xs : List Value} (x : Obj) (h : w.ownsRow base t size v n xs) : (w.alloc x).ownsRow base t size v n xs :=
  own_kept h fun g hg => by obtain ⟨cur, hc⟩ := own_block h hg; exact heap_alloc_old w x (Rw.lt_of_heap hc)
theorem own_empty {w : World} {base b size : Nat} {t : TypeId} (h : w.heap[b]? = some (Obj.cells #[] t (0, 0))) (hb : base ≤ b) : w.ownsRow base t size (.slice (some ⟨b, 0, none⟩) 0 0) 0 [] :=
  ⟨by simp, .inr ⟨b, 0, #[], rfl, hb, h, Nat.le_refl _, by unfold maxLen; omega, by simp, by simp⟩⟩
theorem below_grew {u w w2 : World} {S : Nat} {row : Option Nat} (hg : w.grownBy w2 row) (h : Below S u w) (hr : ∀ k, row = some k → S ≤ k) (hS : S ≤ w.heap.size) : Below S u w2 :=
  ⟨hg.os.trans h.os, hg.tape.trans h.tape, hg.output.trans h.output, Nat.le_trans h.size hg.size, fun k hk => (hg.block k (by omega) (fun e => by have := hr k e.symm; omega)).trans (h.block k hk)⟩
theorem box_grew {w w2 : World} {b : Nat} {x : Obj} {row : Option Nat} (hg : w.grownBy w2 row) (h : w.heap[b]? = some x) (hr : row ≠ some b) : w2.heap[b]? = some x := by
  rw [hg.block b (Rw.lt_of_heap h) (fun e => hr e.symm)]
  exact h

/-! ### rows of elements -/
/-- w' has w's blocks from S on, but for one. -/
def Agree (S : Nat) (w w' : World) (row : Option Nat) : Prop := ∀ k, S ≤ k → k < w.heap.size → some k ≠ row → w'.heap[k]? = w.heap[k]?
def All {α : Type} (El : World → α → List Value → Prop) (w : World) (l : List α) (L : List (List Value)) : Prop := L.length = l.length ∧ ∀ j (hj : j < l.length) (hL : j < L.length), El w l[j] L[j]
def Flat (sz : Nat) (L : List (List Value)) : Prop := (∀ c ∈ L, c.length = sz) ∧ ∀ u ∈ L.flatten, u.oneCell' = true
section
variable {α : Type} {El : World → α → List Value → Prop} {sz S : Nat} {t : TypeId} {w w' : World} {v v' : Value} {l : List α}
/-- An own row of elements, laid from S on; what the elements point at lies from S on too, and not in the row. -/
def Row (El : World → α → List Value → Prop) (sz : Nat) (t : TypeId) (S : Nat) (w : World) (v : Value) (l : List α) : Prop :=
  ∃ L, Flat sz L ∧ w.ownsRow S t sz v l.length L.flatten ∧ ∀ w', Agree S w w' v.ownBlock → All El w' l L
theorem All.append {l2 : List α} {L M : List (List Value)} (h : All El w l L) (k : All El w l2 M) : All El w (l ++ l2) (L ++ M) := by
  refine ⟨by simp [h.1, k.1], fun j hj hL => ?_⟩
  by_cases hl : j < l.length
  · have hl2 : j < L.length := by rw [h.1]; exact hl
    rw [List.getElem_append_left hl, List.getElem_append_left hl2]
    exact h.2 j hl hl2
  · have hl2 : ¬ j < L.length := by rw [h.1]; exact hl
    rw [List.getElem_append_right (by omega), List.getElem_append_right (by omega)]
    have := k.2 (j - l.length) (by simp at hj; omega) (by simp at hL; rw [h.1] at hL; omega)
    simpa only [h.1] using this
theorem Flat.append {L M : List (List Value)} (h : Flat sz L) (k : Flat sz M) : Flat sz (L ++ M) := by
  refine ⟨fun c hc => ?_, fun u hu => ?_⟩
  · rcases List.mem_append.1 hc with hc | hc
    · exact h.1 c hc
    · exact k.1 c hc
  · rw [List.flatten_append] at hu
    rcases List.mem_append.1 hu with hu | hu
    · exact h.2 u hu
    · exact k.2 u hu
theorem flat_len {L : List (List Value)} (h : ∀ c ∈ L, c.length = sz) : L.flatten.length = L.length * sz := by
  induction L with
  | nil => simp
  | cons c r ih =>
    rw [List.flatten_cons, List.length_append, ih (fun c hc => h c (List.mem_cons_of_mem _ hc)), h c (List.mem_cons_self ..), List.length_cons, Nat.succ_mul]
    omega
theorem flat_at {L : List (List Value)} (h : ∀ c ∈ L, c.length = sz) : ∀ j (hj : j < L.length) k, k < sz → L.flatten[j * sz + k]? = L[j][k]? := by
  induction L with
  | nil => intro j hj; exact absurd hj (by simp)
  | cons c r ih =>
    intro j hj k hk
    have hc := h c (List.mem_cons_self ..)
    rw [List.flatten_cons]
    cases j with
    | zero => rw [List.getElem?_append_left (by omega)]; simp
    | succ j =>
      rw [List.getElem?_append_right (by rw [hc, Nat.succ_mul]; omega), hc, show (j + 1) * sz + k - sz = j * sz + k by rw [Nat.succ_mul]; omega]
      exact ih (fun c hc => h c (List.mem_cons_of_mem _ hc)) j (by simpa using hj) k hk
theorem Row.nil : Row El sz t S w (.slice none 0 0) [] :=
  ⟨[], ⟨fun c hc => absurd hc (by simp), fun u hu => absurd hu (by simp)⟩, ⟨by simp, .inl ⟨rfl, rfl⟩⟩, fun w' _ => ⟨rfl, fun j hj => absurd hj (by simp)⟩⟩
theorem Agree.below (h : Below w.heap.size w w') {u : World} {row : Option Nat} (k : Agree S w' u row) : Agree S w u row := fun i h1 h2 h3 => (k i h1 (Nat.lt_of_lt_of_le h2 h.size) h3).trans (h.block i h2)
theorem Row.below (h : Row El sz t S w v l) (hb : Below w.heap.size w w') : Row El sz t S w' v l := by
  obtain ⟨L, h1, h2, h3⟩ := h
  exact ⟨L, h1, own_kept h2 fun g hg => by obtain ⟨cur, hc⟩ := own_block h2 hg; exact hb.block g (Rw.lt_of_heap hc), fun u hu => h3 u (Agree.below hb hu)⟩
theorem Row.base {T : Nat} (h : Row El sz t T w v l) (hS : S ≤ T) : Row El sz t S w v l := by
  obtain ⟨L, h1, h2, h3⟩ := h
  exact ⟨L, h1, own_base h2 hS, fun u hu => h3 u fun k h4 h5 h6 => hu k (by omega) h5 h6⟩
theorem Row.slice (h : Row El sz t S w v l) : ∃ ad c, v = .slice ad l.length c := by
  obtain ⟨L, -, h2, -⟩ := h
  rcases h2.2 with ⟨rfl, h0⟩ | ⟨g, cap, cur, rfl, _⟩
  · exact ⟨none, 0, by rw [h0]⟩
  · exact ⟨_, _, rfl⟩
/-- What an append leaves. -/
theorem Row.appended {L M : List (List Value)} {l2 : List α} (hL : Flat sz L) (hE : ∀ w', Agree S w w' v.ownBlock → All El w' l L) (hM : Flat sz M) (hN : ∀ w', Agree S w w' v.ownBlock → All El w' l2 M)
    (h : w'.ownsRow S t sz v' (l.length + l2.length) (L.flatten ++ M.flatten)) (hg : w.grownBy w' v.ownBlock) (hv : v'.ownBlock = v.ownBlock ∨ v'.ownBlock = some w.heap.size) : Row El sz t S w' v' (l ++ l2) := by
  refine ⟨L ++ M, hL.append hM, by rw [List.flatten_append, List.length_append]; exact h, fun u hu => ?_⟩
  have ha : Agree S w u v.ownBlock := fun k h1 h2 h3 => by
    rw [← hg.block k h2 h3]
    refine hu k h1 (Nat.lt_of_lt_of_le h2 hg.size) ?_
    rcases hv with e | e
    · rw [e]; exact h3
    · rw [e]; intro e2; cases e2; omega
  exact (hE u ha).append (hN u ha)
theorem Row.rw (h : Row El sz t S w v l) : ∃ L, Rw w v sz L ∧ L.length = l.length ∧ Flat sz L ∧ All El w l L := by
  obtain ⟨L, h1, h2, h3⟩ := h
  have h4 := h3 w (fun _ _ _ _ => rfl)
  exact ⟨L, Rw.of_own h2 h4.1 (fun j hj k hk => flat_at h1.1 j hj k hk) (fun j hj => h1.1 _ (List.getElem_mem hj)), h4.1, h1, h4⟩
end
/-! ### values and members -/
theorem rw_slice {w : World} {v : Value} {sz : Nat} {L : List (List Value)} (h : Rw w v sz L) : v.oneCell' = true := by
  obtain ⟨g, off, ad, cap, rfl, -, -⟩ := h
  rfl
theorem Jv_one {w : World} {j : Jv.J} {cs : List Value} (h : Jv w j cs) : ∀ u ∈ cs, u.oneCell' = true := by
  have hv : ∀ (k : Int) (b : Bool) (n : Int) (s : ByteArray) (i m : Value) (a : Int), i.oneCell' = true → m.oneCell' = true → ∀ u ∈ vCells k b n s i m a, u.oneCell' = true := by
    intro k b n s i m a hi hm u hu
    simp only [vCells, List.mem_cons, List.not_mem_nil, or_false] at hu
    rcases hu with rfl | rfl | rfl | rfl | rfl | rfl | rfl
    all_goals first | rfl | assumption
  cases j <;> unfold Jv at h
  · obtain ⟨p, rfl⟩ := h; exact hv _ _ _ _ _ _ _ rfl rfl
  · obtain ⟨p, rfl⟩ := h; exact hv _ _ _ _ _ _ _ rfl rfl
  · obtain ⟨p, rfl⟩ := h; exact hv _ _ _ _ _ _ _ rfl rfl
  · obtain ⟨p, rfl⟩ := h; exact hv _ _ _ _ _ _ _ rfl rfl
  · obtain ⟨p, v, L, rfl, h1, -⟩ := h; exact hv _ _ _ _ _ _ _ (rw_slice h1) rfl
  · obtain ⟨p, v, L, rfl, h1, -⟩ := h; exact hv _ _ _ _ _ _ _ rfl (rw_slice h1)
theorem Jv_form {w : World} {j : Jv.J} {cs : List Value} (h : Jv w j cs) : ∃ k b n s a1 n1 c1 a2 n2 c2 p, cs = vCells k b n s (.slice a1 n1 c1) (.slice a2 n2 c2) p := by
  cases j <;> unfold Jv at h
  · obtain ⟨p, rfl⟩ := h; exact ⟨_, _, _, _, _, _, _, _, _, _, _, rfl⟩
  · obtain ⟨p, rfl⟩ := h; exact ⟨_, _, _, _, _, _, _, _, _, _, _, rfl⟩
  · obtain ⟨p, rfl⟩ := h; exact ⟨_, _, _, _, _, _, _, _, _, _, _, rfl⟩
  · obtain ⟨p, rfl⟩ := h; exact ⟨_, _, _, _, _, _, _, _, _, _, _, rfl⟩
  · obtain ⟨p, v, L, rfl, ⟨g, o, ad, cap, rfl, -⟩, -⟩ := h; exact ⟨_, _, _, _, _, _, _, _, _, _, _, rfl⟩
  · obtain ⟨p, v, L, rfl, ⟨g, o, ad, cap, rfl, -⟩, -⟩ := h; exact ⟨_, _, _, _, _, _, _, _, _, _, _, rfl⟩
/-- The cells of a value, all that it points at lying from S on. -/
def Val (S : Nat) (w : World) (j : Jv.J) (c : List Value) : Prop := ∀ w', Agree S w w' none → Jv w' j c
theorem Val.len {S : Nat} {w : World} {j : Jv.J} {c : List Value} (h : Val S w j c) : c.length = 7 := Jv_len (h w fun _ _ _ _ => rfl)
theorem Val.one {S : Nat} {w : World} {j : Jv.J} {c : List Value} (h : Val S w j c) : ∀ u ∈ c, u.oneCell' = true := Jv_one (h w fun _ _ _ _ => rfl)
theorem Val.form {S : Nat} {w : World} {j : Jv.J} {c : List Value} (h : Val S w j c) : ∃ k b n s a1 n1 c1 a2 n2 c2 p, c = vCells k b n s (.slice a1 n1 c1) (.slice a2 n2 c2) p := Jv_form (h w fun _ _ _ _ => rfl)
theorem Val.below {S : Nat} {w w' : World} {j : Jv.J} {c : List Value} (h : Val S w j c) (hb : Below w.heap.size w w') : Val S w' j c := fun u hu => h u (Agree.below hb hu)
theorem Val.base {S T : Nat} {w : World} {j : Jv.J} {c : List Value} (h : Val T w j c) (hS : S ≤ T) : Val S w j c := fun u hu => h u fun k h1 h2 h3 => hu k (by omega) h2 h3
theorem Val.str {S : Nat} {w : World} (s : ByteArray) : Val S w (.str s) (vCells 3 false 0 s nilV nilV 0) := fun u _ => by unfold Jv; exact ⟨0, rfl⟩
theorem Val.int {S : Nat} {w : World} (n : Int) : Val S w (.int n) (vCells 2 false n ⟨#[]⟩ nilV nilV 0) := fun u _ => by unfold Jv; exact ⟨0, rfl⟩
/-- A row's own block lies below the worlds in which its new elements were laid: it is none of their blocks. -/
theorem Val.apart {S T : Nat} {w w' : World} {j : Jv.J} {c : List Value} {row : Option Nat} (h : Val T w j c) (hS : S ≤ T) (hr : ∀ k, row = some k → k < T) (ha : Agree S w w' row) : Jv w' j c :=
  h w' fun k h1 h2 _ => ha k (by omega) h2 (fun e => by have := hr k e.symm; omega)
theorem All.one {α : Type} {El : World → α → List Value → Prop} {w : World} {x : α} {c : List Value} (h : El w x c) : All El w [x] [c] := ⟨rfl, fun j hj hL => by
  obtain rfl : j = 0 := by simpa using hj
  exact h⟩
theorem Flat.one {sz : Nat} {c : List Value} (h : c.length = sz) (h1 : ∀ u ∈ c, u.oneCell' = true) : Flat sz [c] := ⟨fun x hx => by simp at hx; rw [hx]; exact h, fun u hu => by simp at hu; exact h1 u hu⟩
theorem All.jl {w : World} {l : List Jv.J} {L : List (List Value)} (h : All Jv w l L) : JvL w l L := JvL_mk h.1 h.2
theorem All.jm {w : World} {l : List (ByteArray × Jv.J)} {L : List (List Value)} (h : All JvP w l L) : JvM w l L := JvM_mk h.1 h.2
abbrev VRow (S : Nat) (w : World) (v : Value) (l : List Jv.J) : Prop := Row Jv 7 98 S w v l
abbrev MRow (S : Nat) (w : World) (v : Value) (l : List (ByteArray × Jv.J)) : Prop := Row JvP 9 129 S w v l
/-- A value whose row is a fresh copy of another. -/
theorem own_lt {w : World} {S sz n : Nat} {t : TypeId} {v : Value} {xs : List Value} (h : w.ownsRow S t sz v n xs) {g : Nat} (hg : v.ownBlock = some g) : S ≤ g ∧ g < w.heap.size := by
  rcases h.2 with ⟨rfl, -⟩ | ⟨g', cap, cur, rfl, hb, hc, _⟩
  · cases hg
  · cases hg; exact ⟨hb, Rw.lt_of_heap hc⟩
theorem own_agree {w u : World} {S sz n : Nat} {t : TypeId} {v : Value} {xs : List Value} (h : w.ownsRow S t sz v n xs) (ha : Agree S w u none) : u.ownsRow S t sz v n xs :=
  own_kept h fun g hg => ha g (own_lt h hg).1 (own_lt h hg).2 (by simp)
theorem Val.arr {S T : Nat} {w w' : World} {v v2 : Value} {l : List Jv.J} {L : List (List Value)} (hL : Flat 7 L) (hn : L.length = l.length) (hE : ∀ u, Agree S w u v.ownBlock → All Jv u l L) (hb : Below w.heap.size w w') (hc : w'.ownsRow T 98 7 v2 l.length L.flatten) (hT : S ≤ T) : Val S w' (.arr l) (vCells 4 false 0 ⟨#[]⟩ v2 nilV 0) := fun u hu => by
  have h2 := own_agree (own_base hc hT) hu
  have h3 := hE u (Agree.below hb fun k a b c => hu k a b (by simp))
  unfold Jv
  exact ⟨0, v2, L, rfl, Rw.of_own h2 hn (fun j hj k hk => flat_at hL.1 j hj k hk) (fun j hj => hL.1 _ (List.getElem_mem hj)), h3.jl⟩
theorem Val.obj {S T : Nat} {w w' : World} {v v2 : Value} {l : List (ByteArray × Jv.J)} {L : List (List Value)} (hL : Flat 9 L) (hn : L.length = l.length) (hE : ∀ u, Agree S w u v.ownBlock → All JvP u l L) (hb : Below w.heap.size w w') (hc : w'.ownsRow T 129 9 v2 l.length L.flatten) (hT : S ≤ T) : Val S w' (.obj l) (vCells 5 false 0 ⟨#[]⟩ nilV v2 0) := fun u hu => by
  have h2 := own_agree (own_base hc hT) hu
  have h3 := hE u (Agree.below hb fun k a b c => hu k a b (by simp))
  unfold Jv
  exact ⟨0, v2, L, rfl, Rw.of_own h2 hn (fun j hj k hk => flat_at hL.1 j hj k hk) (fun j hj => hL.1 _ (List.getElem_mem hj)), h3.jm⟩
/-! ### the texts that make values -/
set_option maxRecDepth 100000
set_option maxHeartbeats 16000000
theorem str_is (s : ByteArray) (w : World) : Calls Tryz.prog 76 #[.string s] w fun e w' => e = .returned (.agg #[.int .i64 3, .bool false, .int .i64 0, .string s, .slice none 0 0, .slice none 0 0, .int .i64 0]) ∧ Below w.heap.size w w' := by
  go_enter Tryz.func76, Tryz.ntmps76
  go_wp2_with fail
  refine bodyPost_ret (results_cell_row rfl _ _ w.heap.size _ _ _ _ rfl (heap_alloc_new _ _) Tryz.underlying98 rfl (by kernel_rfl)) rfl ?_
  exact ⟨rfl, (Below.refl _ _).alloc (Nat.le_refl _) _⟩
theorem int_is (n : Int) (w : World) : Calls Tryz.prog 44 #[.int .i64 n] w fun e w' => e = .returned (.agg #[.int .i64 2, .bool false, .int .i64 n, .string ⟨#[]⟩, .slice none 0 0, .slice none 0 0, .int .i64 0]) ∧ Below w.heap.size w w' := by
  go_enter Tryz.func44, Tryz.ntmps44
  go_wp2_with fail
  refine bodyPost_ret (results_cell_row rfl _ _ w.heap.size _ _ _ _ rfl (heap_alloc_new _ _) Tryz.underlying98 rfl (by kernel_rfl)) rfl ?_
  exact ⟨rfl, (Below.refl _ _).alloc (Nat.le_refl _) _⟩
end Go.Proofs.YtbodoncomeegpaaGreatDoor.Me
