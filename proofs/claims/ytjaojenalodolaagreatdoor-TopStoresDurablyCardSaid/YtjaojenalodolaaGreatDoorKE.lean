/- Parts of this proof, joined: MoE1, MoE2, MoE3, MoE4, MoE5, JwW1, JwW2, JwW3. -/
import Derived.Test.YtjaojenalodolaaGreatDoorKN
import Derived.Test.YtjaojenalodolaaGreatDoorKV
import Derived.Laws.OwnMore
import Derived.Deep.RegionWith
import Derived.Deep.RegionLaw
import Derived.Deep.RegionHeld3
/- Rows of JSON values in memory: their append, their copies. The laws of append began as VfR6's. -/
namespace Go.Proofs.YtjaojenalodolaaGreatDoor.Me
open Go Go.RowKit Go.Proofs.YtjaojenalodolaaGreatDoor Go.Proofs.YtjaojenalodolaaGreatDoor.Rw Go.Proofs.YtjaojenalodolaaGreatDoor.Vf
set_option linter.unusedVariables false
theorem run_append_row {P : Program} (w : World) (base base2 : Nat) (t ty e : TypeId) (i : TypeInfo) (z : Value) (size bytes : Nat) (ht : P.underlying t = some (.slice e)) (hi : P.info? e = some i) (hz : i.zero = some z)
    (hsize : i.size = size) (hby : i.bytes = bytes) (hzs : z.cells.size = size) (hsz : 0 < size)
    (v : Value) (n : Nat) (xs : List Value) (hown : w.ownsRow base e size v n xs)
    (x : Value) (m : Nat) (news : List Value) (hx : w.ownsRow base2 e size x m news) (h1 : ∀ u ∈ news, u.oneCell' = true)
    (h63 : n + m ≤ maxLen) (hbytes : (n + m) * bytes ≤ 140737488355328) (hbase : base ≤ w.heap.size) :
    ∃ v' w', (Builtin.append_ #[t, t] ty #[v, x]).run P w = .ok v' w' ∧ w'.ownsRow base e size v' (n + m) (xs ++ news) ∧ w.grownBy w' v.ownBlock ∧ (v'.ownBlock = v.ownBlock ∨ v'.ownBlock = some w.heap.size) := by
  rcases hx.2 with ⟨rfl, rfl⟩ | ⟨g, cap, cur, rfl, hbg, hg, hnc, hcm, hcs, htake⟩
  · have hn : news = [] := List.eq_nil_of_length_eq_zero (by simpa using hx.1)
    subst hn
    refine ⟨v, w, run_append_owned_none w base t ty e i size ht hi v n xs hown, ?_, ⟨rfl, rfl, rfl, Nat.le_refl _, fun _ _ _ => rfl⟩, .inl rfl⟩
    rw [List.append_nil]
    exact hown
  · obtain ⟨v', w', hr, h2, h3, _, h5⟩ := run_append_own_at (P := P) w base t ty e i z size bytes ht hi hz hsize hby hzs hsz v n xs hown ⟨g, 0, none⟩ m cap news hx.1 (hx.cells (g := g) rfl) h1 h63 hbytes hbase
    exact ⟨v', w', hr, h2, h3, h5⟩
theorem wp_append_row {P : Program} (w : World) {o : Oper} {a : Act} {K : Act → World → Prop} {Q : Exit → Act → World → Prop} (s x : Operand) (t : TypeId)
    (ho : o.op = .call { callee := .builtin .append, args := #[s, x], argTypes := #[t, t] })
    (base base2 : Nat) (e : TypeId) (i : TypeInfo) (z : Value) (size bytes : Nat) (ht : P.underlying t = some (.slice e)) (hi : P.info? e = some i) (hz : i.zero = some z)
    (hsize : i.size = size) (hby : i.bytes = bytes) (hzs : z.cells.size = size) (hsz : 0 < size)
    (v : Value) (n : Nat) (xs : List Value) (hs : a.eval s = v) (hown : w.ownsRow base e size v n xs)
    (x' : Value) (m : Nat) (news : List Value) (hx : a.eval x = x') (hxo : w.ownsRow base2 e size x' m news) (h1 : ∀ u ∈ news, u.oneCell' = true)
    (h63 : n + m ≤ maxLen) (hbytes : (n + m) * bytes ≤ 140737488355328) (hbase : base ≤ w.heap.size)
    (h : ∀ v' w', w'.ownsRow base e size v' (n + m) (xs ++ news) → w.grownBy w' v.ownBlock → (v'.ownBlock = v.ownBlock ∨ v'.ownBlock = some w.heap.size) → K (a.put o.dst v') w') : o.wp P a w K Q := by
  obtain ⟨v', w', hr, h2, h3, h4⟩ := run_append_row (P := P) w base base2 t o.type e i z size bytes ht hi hz hsize hby hzs hsz v n xs hown x' m news hxo h1 h63 hbytes hbase
  unfold Oper.wp execOp
  simp only [ho, resolve, invoke, builtin, Sem.run_bind, Sem.run_pure, Result.andThen_ok, List.map_toArray, List.map_cons, List.map_nil, hs, hx, hr]
  exact h v' w' h2 h3 h4
theorem wpList_append_row {P : Program} (w : World) {ops : Array Oper} {rest : List Oper} {o : Oper} {a : Act} {Q : Exit → Act → World → Prop} (hgd : o.guard = none) (s x : Operand) (t : TypeId)
    (ho : o.op = .call { callee := .builtin .append, args := #[s, x], argTypes := #[t, t] })
    (base base2 : Nat) (e : TypeId) (i : TypeInfo) (z : Value) (size bytes : Nat) (ht : P.underlying t = some (.slice e)) (hi : P.info? e = some i) (hz : i.zero = some z)
    (hsize : i.size = size) (hby : i.bytes = bytes) (hzs : z.cells.size = size) (hsz : 0 < size)
    (v : Value) (n : Nat) (xs : List Value) (hs : a.eval s = v) (hown : w.ownsRow base e size v n xs)
    (x' : Value) (m : Nat) (news : List Value) (hx : a.eval x = x') (hxo : w.ownsRow base2 e size x' m news) (h1 : ∀ u ∈ news, u.oneCell' = true)
    (h63 : n + m ≤ maxLen) (hbytes : (n + m) * bytes ≤ 140737488355328) (hbase : base ≤ w.heap.size)
    (h : ∀ v' w', w'.ownsRow base e size v' (n + m) (xs ++ news) → w.grownBy w' v.ownBlock → (v'.ownBlock = v.ownBlock ∨ v'.ownBlock = some w.heap.size) → wpList P ops Q rest (a.put o.dst v') w') : wpList P ops Q (o :: rest) a w :=
  wpList_plain hgd fun _ hK => wp_append_row w s x t ho base base2 e i z size bytes ht hi hz hsize hby hzs hsz v n xs hs hown x' m news hx hxo h1 h63 hbytes hbase fun v' w' h2 h3 h4 => hK _ _ (h v' w' h2 h3 h4)
theorem step_append_row {P : Program} (w : World) {ops : Array Oper} {o : Oper} {a : Act} {K : Act → World → Prop} {Q : Exit → Act → World → Prop} {E : Prop} (hgd : o.guard = none) (s x : Operand) (t : TypeId)
    (ho : o.op = .call { callee := .builtin .append, args := #[s, x], argTypes := #[t, t] })
    (base base2 : Nat) (e : TypeId) (i : TypeInfo) (z : Value) (size bytes : Nat) (ht : P.underlying t = some (.slice e)) (hi : P.info? e = some i) (hz : i.zero = some z)
    (hsize : i.size = size) (hby : i.bytes = bytes) (hzs : z.cells.size = size) (hsz : 0 < size)
    (v : Value) (n : Nat) (xs : List Value) (hs : a.eval s = v) (hown : w.ownsRow base e size v n xs)
    (x' : Value) (m : Nat) (news : List Value) (hx : a.eval x = x') (hxo : w.ownsRow base2 e size x' m news) (h1 : ∀ u ∈ news, u.oneCell' = true)
    (h63 : n + m ≤ maxLen) (hbytes : (n + m) * bytes ≤ 140737488355328) (hbase : base ≤ w.heap.size)
    (h : ∀ v' w', w'.ownsRow base e size v' (n + m) (xs ++ news) → w.grownBy w' v.ownBlock → (v'.ownBlock = v.ownBlock ∨ v'.ownBlock = some w.heap.size) → K (a.put o.dst v') w') :
    if Region.wanted o (yielded ops a.tmps) = true then Oper.wp P o a w K Q else E := by
  have hw : Region.wanted o (yielded ops a.tmps) = true := by simp [Region.wanted, hgd]
  rw [if_pos hw]
  exact wp_append_row w s x t ho base base2 e i z size bytes ht hi hz hsize hby hzs hsz v n xs hs hown x' m news hx hxo h1 h63 hbytes hbase h
theorem own_new {w : World} {base b n size : Nat} {t : TypeId} {cs : List Value} (h : w.heap[b]? = some (Obj.cells cs.toArray t (0, 0))) (hb : base ≤ b) (hl : cs.length = n * size) (hm : n ≤ maxLen) : w.ownsRow base t size (.slice (some ⟨b, 0, none⟩) n n) n cs :=
  ⟨hl, .inr ⟨b, n, cs.toArray, rfl, hb, h, Nat.le_refl _, hm, by simpa using hl, by rw [← hl]; simp⟩⟩
theorem own_alloc {w : World} {base n size : Nat} {t : TypeId} {v : Value} {xs : List Value} (x : Obj) (h : w.ownsRow base t size v n xs) : (w.alloc x).ownsRow base t size v n xs :=
  own_kept h fun g hg => by obtain ⟨cur, hc⟩ := own_block h hg; exact heap_alloc_old w x (Rw.lt_of_heap hc)
theorem own_empty {w : World} {base b size : Nat} {t : TypeId} (h : w.heap[b]? = some (Obj.cells #[] t (0, 0))) (hb : base ≤ b) : w.ownsRow base t size (.slice (some ⟨b, 0, none⟩) 0 0) 0 [] :=
  ⟨by simp, .inr ⟨b, 0, #[], rfl, hb, h, Nat.le_refl _, by unfold maxLen; omega, by simp, by simp⟩⟩
theorem below_grew {u w w2 : World} {S : Nat} {row : Option Nat} (hg : w.grownBy w2 row) (h : Below S u w) (hr : ∀ k, row = some k → S ≤ k) (hS : S ≤ w.heap.size) : Below S u w2 :=
  ⟨hg.os.trans h.os, hg.tape.trans h.tape, hg.output.trans h.output, Nat.le_trans h.size hg.size, fun k hk => (hg.block k (by omega) (fun e => by have := hr k e.symm; omega)).trans (h.block k hk)⟩
def Agree (S : Nat) (w w' : World) (row : Option Nat) : Prop := ∀ k, S ≤ k → k < w.heap.size → some k ≠ row → w'.heap[k]? = w.heap[k]?
def All {α : Type} (El : World → α → List Value → Prop) (w : World) (l : List α) (L : List (List Value)) : Prop := L.length = l.length ∧ ∀ j (hj : j < l.length) (hL : j < L.length), El w l[j] L[j]
def Flat (sz : Nat) (L : List (List Value)) : Prop := (∀ c ∈ L, c.length = sz) ∧ ∀ u ∈ L.flatten, u.oneCell' = true
section
variable {α : Type} {El : World → α → List Value → Prop} {sz S : Nat} {t : TypeId} {w w' : World} {v v' : Value} {l : List α}
def Row (El : World → α → List Value → Prop) (sz : Nat) (t : TypeId) (S : Nat) (w : World) (v : Value) (l : List α) : Prop :=
  ∃ L, Flat sz L ∧ w.ownsRow S t sz v l.length L.flatten ∧ ∀ w', Agree S w w' v.ownBlock → All El w' l L
theorem All.append {l2 : List α} {L M : List (List Value)} (h : All El w l L) (k : All El w l2 M) : All El w (l ++ l2) (L ++ M) := by
  refine ⟨by simp [h.1, k.1], fun j hj hL => ?_⟩
  by_cases hl : j < l.length
  · have hl2 : j < L.length := by rw [h.1]; exact hl
    rw [List.getElem_append_left hl, List.getElem_append_left hl2]
    exact h.2 j hl hl2
  · have hl2 : ¬ j < L.length := by rw [h.1]; exact hl
    rw [List.getElem_append_right (by omega), List.getElem_append_right (by omega)]
    have := k.2 (j - l.length) (by simp at hj; omega) (by simp at hL; rw [h.1] at hL; omega)
    simpa only [h.1] using this
theorem Flat.append {L M : List (List Value)} (h : Flat sz L) (k : Flat sz M) : Flat sz (L ++ M) := by
  refine ⟨fun c hc => ?_, fun u hu => ?_⟩
  · rcases List.mem_append.1 hc with hc | hc
    · exact h.1 c hc
    · exact k.1 c hc
  · rw [List.flatten_append] at hu
    rcases List.mem_append.1 hu with hu | hu
    · exact h.2 u hu
    · exact k.2 u hu
theorem flat_len {L : List (List Value)} (h : ∀ c ∈ L, c.length = sz) : L.flatten.length = L.length * sz := by
  induction L with
  | nil => simp
  | cons c r ih =>
    rw [List.flatten_cons, List.length_append, ih (fun c hc => h c (List.mem_cons_of_mem _ hc)), h c (List.mem_cons_self ..), List.length_cons, Nat.succ_mul]
    omega
theorem flat_at {L : List (List Value)} (h : ∀ c ∈ L, c.length = sz) : ∀ j (hj : j < L.length) k, k < sz → L.flatten[j * sz + k]? = L[j][k]? := by
  induction L with
  | nil => intro j hj; exact absurd hj (by simp)
  | cons c r ih =>
    intro j hj k hk
    have hc := h c (List.mem_cons_self ..)
    rw [List.flatten_cons]
    cases j with
    | zero => rw [List.getElem?_append_left (by omega)]; simp
    | succ j =>
      rw [List.getElem?_append_right (by rw [hc, Nat.succ_mul]; omega), hc, show (j + 1) * sz + k - sz = j * sz + k by rw [Nat.succ_mul]; omega]
      exact ih (fun c hc => h c (List.mem_cons_of_mem _ hc)) j (by simpa using hj) k hk
theorem Row.nil : Row El sz t S w (.slice none 0 0) [] :=
  ⟨[], ⟨fun c hc => absurd hc (by simp), fun u hu => absurd hu (by simp)⟩, ⟨by simp, .inl ⟨rfl, rfl⟩⟩, fun w' _ => ⟨rfl, fun j hj => absurd hj (by simp)⟩⟩
theorem Agree.below (h : Below w.heap.size w w') {u : World} {row : Option Nat} (k : Agree S w' u row) : Agree S w u row := fun i h1 h2 h3 => (k i h1 (Nat.lt_of_lt_of_le h2 h.size) h3).trans (h.block i h2)
theorem Row.below (h : Row El sz t S w v l) (hb : Below w.heap.size w w') : Row El sz t S w' v l := by
  obtain ⟨L, h1, h2, h3⟩ := h
  exact ⟨L, h1, own_kept h2 fun g hg => by obtain ⟨cur, hc⟩ := own_block h2 hg; exact hb.block g (Rw.lt_of_heap hc), fun u hu => h3 u (Agree.below hb hu)⟩
theorem Row.base {T : Nat} (h : Row El sz t T w v l) (hS : S ≤ T) : Row El sz t S w v l := by
  obtain ⟨L, h1, h2, h3⟩ := h
  exact ⟨L, h1, own_base h2 hS, fun u hu => h3 u fun k h4 h5 h6 => hu k (by omega) h5 h6⟩
theorem Row.slice (h : Row El sz t S w v l) : ∃ ad c, v = .slice ad l.length c := by
  obtain ⟨L, -, h2, -⟩ := h
  rcases h2.2 with ⟨rfl, h0⟩ | ⟨g, cap, cur, rfl, _⟩
  · exact ⟨none, 0, by rw [h0]⟩
  · exact ⟨_, _, rfl⟩
theorem Row.appended {L M : List (List Value)} {l2 : List α} (hL : Flat sz L) (hE : ∀ w', Agree S w w' v.ownBlock → All El w' l L) (hM : Flat sz M) (hN : ∀ w', Agree S w w' v.ownBlock → All El w' l2 M)
    (h : w'.ownsRow S t sz v' (l.length + l2.length) (L.flatten ++ M.flatten)) (hg : w.grownBy w' v.ownBlock) (hv : v'.ownBlock = v.ownBlock ∨ v'.ownBlock = some w.heap.size) : Row El sz t S w' v' (l ++ l2) := by
  refine ⟨L ++ M, hL.append hM, by rw [List.flatten_append, List.length_append]; exact h, fun u hu => ?_⟩
  have ha : Agree S w u v.ownBlock := fun k h1 h2 h3 => by
    rw [← hg.block k h2 h3]
    refine hu k h1 (Nat.lt_of_lt_of_le h2 hg.size) ?_
    rcases hv with e | e
    · rw [e]; exact h3
    · rw [e]; intro e2; cases e2; omega
  exact (hE u ha).append (hN u ha)
theorem Row.rw (h : Row El sz t S w v l) : ∃ L, Rw w v sz L ∧ L.length = l.length ∧ Flat sz L ∧ All El w l L := by
  obtain ⟨L, h1, h2, h3⟩ := h
  have h4 := h3 w (fun _ _ _ _ => rfl)
  exact ⟨L, Rw.of_own h2 h4.1 (fun j hj k hk => flat_at h1.1 j hj k hk) (fun j hj => h1.1 _ (List.getElem_mem hj)), h4.1, h1, h4⟩
end
theorem rw_slice {w : World} {v : Value} {sz : Nat} {L : List (List Value)} (h : Rw w v sz L) : v.oneCell' = true := by
  obtain ⟨g, off, ad, cap, rfl, -, -⟩ := h
  rfl
theorem Jv_one {w : World} {j : Jv.J} {cs : List Value} (h : Jv w j cs) : ∀ u ∈ cs, u.oneCell' = true := by
  have hv : ∀ (k : Int) (b : Bool) (n : Int) (s : ByteArray) (i m : Value) (a : Int), i.oneCell' = true → m.oneCell' = true → ∀ u ∈ vCells k b n s i m a, u.oneCell' = true := by
    intro k b n s i m a hi hm u hu
    simp only [vCells, List.mem_cons, List.not_mem_nil, or_false] at hu
    rcases hu with rfl | rfl | rfl | rfl | rfl | rfl | rfl
    all_goals first | rfl | assumption
  cases j <;> unfold Jv at h
  · obtain ⟨p, rfl⟩ := h; exact hv _ _ _ _ _ _ _ rfl rfl
  · obtain ⟨p, rfl⟩ := h; exact hv _ _ _ _ _ _ _ rfl rfl
  · obtain ⟨p, rfl⟩ := h; exact hv _ _ _ _ _ _ _ rfl rfl
  · obtain ⟨p, rfl⟩ := h; exact hv _ _ _ _ _ _ _ rfl rfl
  · obtain ⟨p, v, L, rfl, h1, -⟩ := h; exact hv _ _ _ _ _ _ _ (rw_slice h1) rfl
  · obtain ⟨p, v, L, rfl, h1, -⟩ := h; exact hv _ _ _ _ _ _ _ rfl (rw_slice h1)
theorem Jv_form {w : World} {j : Jv.J} {cs : List Value} (h : Jv w j cs) : ∃ k b n s a1 n1 c1 a2 n2 c2 p, cs = vCells k b n s (.slice a1 n1 c1) (.slice a2 n2 c2) p := by
  cases j <;> unfold Jv at h
  · obtain ⟨p, rfl⟩ := h; exact ⟨_, _, _, _, _, _, _, _, _, _, _, rfl⟩
  · obtain ⟨p, rfl⟩ := h; exact ⟨_, _, _, _, _, _, _, _, _, _, _, rfl⟩
  · obtain ⟨p, rfl⟩ := h; exact ⟨_, _, _, _, _, _, _, _, _, _, _, rfl⟩
  · obtain ⟨p, rfl⟩ := h; exact ⟨_, _, _, _, _, _, _, _, _, _, _, rfl⟩
  · obtain ⟨p, v, L, rfl, ⟨g, o, ad, cap, rfl, -⟩, -⟩ := h; exact ⟨_, _, _, _, _, _, _, _, _, _, _, rfl⟩
  · obtain ⟨p, v, L, rfl, ⟨g, o, ad, cap, rfl, -⟩, -⟩ := h; exact ⟨_, _, _, _, _, _, _, _, _, _, _, rfl⟩
def Val (S : Nat) (w : World) (j : Jv.J) (c : List Value) : Prop := ∀ w', Agree S w w' none → Jv w' j c
theorem Val.one {S : Nat} {w : World} {j : Jv.J} {c : List Value} (h : Val S w j c) : ∀ u ∈ c, u.oneCell' = true := Jv_one (h w fun _ _ _ _ => rfl)
theorem Val.below {S : Nat} {w w' : World} {j : Jv.J} {c : List Value} (h : Val S w j c) (hb : Below w.heap.size w w') : Val S w' j c := fun u hu => h u (Agree.below hb hu)
theorem Val.base {S T : Nat} {w : World} {j : Jv.J} {c : List Value} (h : Val T w j c) (hS : S ≤ T) : Val S w j c := fun u hu => h u fun k h1 h2 h3 => hu k (by omega) h2 h3
theorem Val.str {S : Nat} {w : World} (s : ByteArray) : Val S w (.str s) (vCells 3 false 0 s nilV nilV 0) := fun u _ => by unfold Jv; exact ⟨0, rfl⟩
theorem Val.int {S : Nat} {w : World} (n : Int) : Val S w (.int n) (vCells 2 false n ⟨#[]⟩ nilV nilV 0) := fun u _ => by unfold Jv; exact ⟨0, rfl⟩
theorem Val.apart {S T : Nat} {w w' : World} {j : Jv.J} {c : List Value} {row : Option Nat} (h : Val T w j c) (hS : S ≤ T) (hr : ∀ k, row = some k → k < T) (ha : Agree S w w' row) : Jv w' j c :=
  h w' fun k h1 h2 _ => ha k (by omega) h2 (fun e => by have := hr k e.symm; omega)
theorem All.one {α : Type} {El : World → α → List Value → Prop} {w : World} {x : α} {c : List Value} (h : El w x c) : All El w [x] [c] := ⟨rfl, fun j hj hL => by
  obtain rfl : j = 0 := by simpa using hj
  exact h⟩
theorem Flat.one {sz : Nat} {c : List Value} (h : c.length = sz) (h1 : ∀ u ∈ c, u.oneCell' = true) : Flat sz [c] := ⟨fun x hx => by simp at hx; rw [hx]; exact h, fun u hu => by simp at hu; exact h1 u hu⟩
theorem All.jl {w : World} {l : List Jv.J} {L : List (List Value)} (h : All Jv w l L) : JvL w l L := JvL_mk h.1 h.2
theorem All.jm {w : World} {l : List (ByteArray × Jv.J)} {L : List (List Value)} (h : All JvP w l L) : JvM w l L := JvM_mk h.1 h.2
abbrev VRow (S : Nat) (w : World) (v : Value) (l : List Jv.J) : Prop := Row Jv 7 82 S w v l
abbrev MRow (S : Nat) (w : World) (v : Value) (l : List (ByteArray × Jv.J)) : Prop := Row JvP 9 144 S w v l
theorem own_lt {w : World} {S sz n : Nat} {t : TypeId} {v : Value} {xs : List Value} (h : w.ownsRow S t sz v n xs) {g : Nat} (hg : v.ownBlock = some g) : S ≤ g ∧ g < w.heap.size := by
  rcases h.2 with ⟨rfl, -⟩ | ⟨g', cap, cur, rfl, hb, hc, _⟩
  · cases hg
  · cases hg; exact ⟨hb, Rw.lt_of_heap hc⟩
theorem own_agree {w u : World} {S sz n : Nat} {t : TypeId} {v : Value} {xs : List Value} (h : w.ownsRow S t sz v n xs) (ha : Agree S w u none) : u.ownsRow S t sz v n xs :=
  own_kept h fun g hg => ha g (own_lt h hg).1 (own_lt h hg).2 (by simp)
theorem Val.arr {S T : Nat} {w w' : World} {v v2 : Value} {l : List Jv.J} {L : List (List Value)} (hL : Flat 7 L) (hn : L.length = l.length) (hE : ∀ u, Agree S w u v.ownBlock → All Jv u l L) (hb : Below w.heap.size w w') (hc : w'.ownsRow T 82 7 v2 l.length L.flatten) (hT : S ≤ T) : Val S w' (.arr l) (vCells 4 false 0 ⟨#[]⟩ v2 nilV 0) := fun u hu => by
  have h2 := own_agree (own_base hc hT) hu
  have h3 := hE u (Agree.below hb fun k a b c => hu k a b (by simp))
  unfold Jv
  exact ⟨0, v2, L, rfl, Rw.of_own h2 hn (fun j hj k hk => flat_at hL.1 j hj k hk) (fun j hj => hL.1 _ (List.getElem_mem hj)), h3.jl⟩
theorem Val.obj {S T : Nat} {w w' : World} {v v2 : Value} {l : List (ByteArray × Jv.J)} {L : List (List Value)} (hL : Flat 9 L) (hn : L.length = l.length) (hE : ∀ u, Agree S w u v.ownBlock → All JvP u l L) (hb : Below w.heap.size w w') (hc : w'.ownsRow T 144 9 v2 l.length L.flatten) (hT : S ≤ T) : Val S w' (.obj l) (vCells 5 false 0 ⟨#[]⟩ nilV v2 0) := fun u hu => by
  have h2 := own_agree (own_base hc hT) hu
  have h3 := hE u (Agree.below hb fun k a b c => hu k a b (by simp))
  unfold Jv
  exact ⟨0, v2, L, rfl, Rw.of_own h2 hn (fun j hj k hk => flat_at hL.1 j hj k hk) (fun j hj => hL.1 _ (List.getElem_mem hj)), h3.jm⟩
set_option maxRecDepth 100000
set_option maxHeartbeats 16000000
theorem str_is (s : ByteArray) (w : World) : Calls Tryz.prog 80 #[.string s] w fun e w' => e = .returned (.agg #[.int .i64 3, .bool false, .int .i64 0, .string s, .slice none 0 0, .slice none 0 0, .int .i64 0]) ∧ Below w.heap.size w w' := by
  go_enter Tryz.func80, Tryz.ntmps80
  go_wp2_with fail
  refine bodyPost_ret (results_cell_row rfl _ _ w.heap.size _ _ _ _ rfl (heap_alloc_new _ _) Tryz.underlying82 rfl (by kernel_rfl)) rfl ?_
  exact ⟨rfl, (Below.refl _ _).alloc (Nat.le_refl _) _⟩
theorem int_is (n : Int) (w : World) : Calls Tryz.prog 42 #[.int .i64 n] w fun e w' => e = .returned (.agg #[.int .i64 2, .bool false, .int .i64 n, .string ⟨#[]⟩, .slice none 0 0, .slice none 0 0, .int .i64 0]) ∧ Below w.heap.size w w' := by
  go_enter Tryz.func42, Tryz.ntmps42
  go_wp2_with fail
  refine bodyPost_ret (results_cell_row rfl _ _ w.heap.size _ _ _ _ rfl (heap_alloc_new _ _) Tryz.underlying82 rfl (by kernel_rfl)) rfl ?_
  exact ⟨rfl, (Below.refl _ _).alloc (Nat.le_refl _) _⟩
end Go.Proofs.YtjaojenalodolaaGreatDoor.Me
/- jsonwrite's Member, Array and Object, and copies of rows, walked. Printed by genmoe2.py. -/
namespace Go.Proofs.YtjaojenalodolaaGreatDoor.Me
open Go Go.RowKit Go.Proofs.YtjaojenalodolaaGreatDoor Go.Proofs.YtjaojenalodolaaGreatDoor.Rw Go.Proofs.YtjaojenalodolaaGreatDoor.Vf
set_option linter.unusedVariables false
set_option maxRecDepth 100000
set_option maxHeartbeats 16000000
theorem below_setRow {B g : Nat} {w0 w : World} (hb : Below B w0 w) (hBg : B ≤ g) (cs : Array Value) : Below B w0 (w.setRow g cs) :=
  hb.trans ⟨rfl, rfl, rfl, by simp [World.setRow], fun k hk => setRow_other w g k cs (by omega)⟩
theorem own_slice {w : World} {base n size : Nat} {e : TypeId} {v : Value} {xs : List Value} (h : w.ownsRow base e size v n xs) : ∃ ad c, v = .slice ad n c := by
  rcases h.2 with ⟨rfl, rfl⟩ | ⟨g, cap, cur, rfl, _⟩
  · exact ⟨none, 0, rfl⟩
  · exact ⟨_, cap, rfl⟩
theorem member_is (key : ByteArray) (k : Int) (b : Bool) (n : Int) (s : ByteArray) (a1 : Option Addr) (n1 c1 : Nat) (a2 : Option Addr) (n2 c2 : Nat) (p : Int) (w : World) :
    Calls Tryz.prog 78 #[.string key, .agg #[.int .i64 k, .bool b, .int .i64 n, .string s, .slice a1 n1 c1, .slice a2 n2 c2, .int .i64 p]] w fun e w' => e = .returned (.agg #[.string key, .int .i64 k, .bool b, .int .i64 n, .string s, .slice a1 n1 c1, .slice a2 n2 c2, .int .i64 p, .int .i64 0]) ∧ Below w.heap.size w w' := by
  show Calls Tryz.prog 78 #[.string key, .agg #[.int .i64 k, .bool b, .int .i64 n, .string s, .slice a1 n1 c1, .slice a2 n2 c2, .int .i64 p]] w _
  go_enter Tryz.func78, Tryz.ntmps78
  go_wp2_with fail
  refine bodyPost_ret (results_cell_row rfl _ _ (w.heap.size + 1) _ _ _ _ rfl (heap_alloc2_new _ _ _) Tryz.underlying144 rfl (by kernel_rfl)) rfl ?_
  exact ⟨rfl, ((Below.refl _ _).alloc (Nat.le_refl _) _).alloc ((Below.refl w.heap.size w).alloc (Nat.le_refl _) _).size _⟩
theorem info_sz {t : TypeId} {s b : Nat} (h : (Tryz.prog.info? t).map (fun i => (i.zero.map (fun z => z.cells.size), i.size, i.bytes)) = some (some s, s, b)) : ∃ i z, Tryz.prog.info? t = some i ∧ i.zero = some z ∧ i.size = s ∧ i.bytes = b ∧ z.cells.size = s := by
  cases e : Tryz.prog.info? t with
  | none => rw [e] at h; cases h
  | some i =>
    rw [e] at h
    simp only [Option.map_some, Option.some.injEq, Prod.mk.injEq] at h
    obtain ⟨h1, h2, h3⟩ := h
    cases e2 : i.zero with
    | none => rw [e2] at h1; cases h1
    | some z =>
      rw [e2] at h1
      simp only [Option.map_some, Option.some.injEq] at h1
      exact ⟨i, z, rfl, e2, h2, h3, h1⟩
theorem infoV : (Tryz.prog.info? 82).map (fun i => (i.zero.map (fun z => z.cells.size), i.size, i.bytes)) = some (some 7, 7, 96) := by kernel_rfl
theorem infoM : (Tryz.prog.info? 144).map (fun i => (i.zero.map (fun z => z.cells.size), i.size, i.bytes)) = some (some 9, 9, 120) := by kernel_rfl
theorem cloneV_is (v : Value) (n base : Nat) (xs : List Value) (W : World) (h : W.ownsRow base 82 7 v n xs) (h1 : ∀ u ∈ xs, u.oneCell' = true) (hn : n ≤ 1000000) :
    Calls Tryz.prog 81 #[v] W fun e w' => (∃ v2, e = .returned v2 ∧ w'.ownsRow W.heap.size 82 7 v2 n xs) ∧ Below W.heap.size W w' := by
  have hnil : ∀ (w : World) (a : Option Addr) (n c : Nat), (binOp .eql 79 (.slice a n c) (.slice none 0 0)).run Tryz.prog w = .ok (.bool a.isNone) w := fun w a n c => Lib.run_eql_slice_nil w _ _ a n c 0 0 Tryz.underlying79
  rcases h.2 with ⟨rfl, rfl⟩ | ⟨g, cap, cur, rfl, hb, hc, hr⟩
  · have hx : xs = [] := List.eq_nil_of_length_eq_zero (by simpa using h.1)
    go_enter Tryz.func81, Tryz.ntmps81
    go_wp2_with fail
    go_ret
    exact ⟨⟨_, rfl, by rw [hx]; exact ⟨rfl, .inl ⟨rfl, rfl⟩⟩⟩, Below.refl _ _⟩
  · have HB0 := Lib.hid ((Below.refl W.heap.size W).alloc (Nat.le_refl _) (.cells #[] 82))
    have HR := Lib.hid (own_alloc (.cells #[] 82) h)
    have HE := Lib.hid (own_empty (base := W.heap.size) (size := 7) (heap_alloc_new W (.cells #[] 82)) (Nat.le_refl _))
    have HX := Lib.hid h1
    clear h hc hr h1
    obtain ⟨i0, z0, hi, hz0, hz1, hz2, hz3⟩ := info_sz infoV
    go_enter Tryz.func81, Tryz.ntmps81
    go_wp2_with (at_builtin; refine wpList_append_row _ rfl _ _ 79 rfl W.heap.size base 82 i0 z0 7 96 Tryz.underlying79 hi hz0 hz1 hz2 hz3 (by decide) _ _ _ rfl HE.out _ n xs rfl HR.out HX.out ?a3 ?a4 ?a5 ?_)
    case a3 => unfold maxLen; omega
    case a4 => omega
    case a5 => exact HB0.out.size
    intro v1 w1 hown hgrow hv1
    have HB1 := Lib.hid (below_grew hgrow HB0.out (fun k hk => by cases hk; exact Nat.le_refl _) HB0.out.size)
    have HW := Lib.hid hown
    clear hgrow hown hv1
    go_wp2_with fail
    go_ret
    exact ⟨⟨_, rfl, HW.out⟩, HB1.out⟩
theorem cloneM_is (v : Value) (n base : Nat) (xs : List Value) (W : World) (h : W.ownsRow base 144 9 v n xs) (h1 : ∀ u ∈ xs, u.oneCell' = true) (hn : n ≤ 1000000) :
    Calls Tryz.prog 124 #[v] W fun e w' => (∃ v2, e = .returned v2 ∧ w'.ownsRow W.heap.size 144 9 v2 n xs) ∧ Below W.heap.size W w' := by
  have hnil : ∀ (w : World) (a : Option Addr) (n c : Nat), (binOp .eql 80 (.slice a n c) (.slice none 0 0)).run Tryz.prog w = .ok (.bool a.isNone) w := fun w a n c => Lib.run_eql_slice_nil w _ _ a n c 0 0 Tryz.underlying80
  rcases h.2 with ⟨rfl, rfl⟩ | ⟨g, cap, cur, rfl, hb, hc, hr⟩
  · have hx : xs = [] := List.eq_nil_of_length_eq_zero (by simpa using h.1)
    go_enter Tryz.func124, Tryz.ntmps124
    go_wp2_with fail
    go_ret
    exact ⟨⟨_, rfl, by rw [hx]; exact ⟨rfl, .inl ⟨rfl, rfl⟩⟩⟩, Below.refl _ _⟩
  · have HB0 := Lib.hid ((Below.refl W.heap.size W).alloc (Nat.le_refl _) (.cells #[] 144))
    have HR := Lib.hid (own_alloc (.cells #[] 144) h)
    have HE := Lib.hid (own_empty (base := W.heap.size) (size := 9) (heap_alloc_new W (.cells #[] 144)) (Nat.le_refl _))
    have HX := Lib.hid h1
    clear h hc hr h1
    obtain ⟨i0, z0, hi, hz0, hz1, hz2, hz3⟩ := info_sz infoM
    go_enter Tryz.func124, Tryz.ntmps124
    go_wp2_with (at_builtin; refine wpList_append_row _ rfl _ _ 80 rfl W.heap.size base 144 i0 z0 9 120 Tryz.underlying80 hi hz0 hz1 hz2 hz3 (by decide) _ _ _ rfl HE.out _ n xs rfl HR.out HX.out ?a3 ?a4 ?a5 ?_)
    case a3 => unfold maxLen; omega
    case a4 => omega
    case a5 => exact HB0.out.size
    intro v1 w1 hown hgrow hv1
    have HB1 := Lib.hid (below_grew hgrow HB0.out (fun k hk => by cases hk; exact Nat.le_refl _) HB0.out.size)
    have HW := Lib.hid hown
    clear hgrow hown hv1
    go_wp2_with fail
    go_ret
    exact ⟨⟨_, rfl, HW.out⟩, HB1.out⟩
theorem array_raw (v : Value) (n base : Nat) (xs : List Value) (W : World) (h : W.ownsRow base 82 7 v n xs) (h1 : ∀ u ∈ xs, u.oneCell' = true) (hn : n ≤ 1000000) :
    Calls Tryz.prog 43 #[v] W fun e w' => (∃ a2 n2, e = .returned (.agg #[.int .i64 4, .bool false, .int .i64 0, .string ⟨#[]⟩, .slice a2 n n2, .slice none 0 0, .int .i64 0]) ∧ w'.ownsRow W.heap.size 82 7 (.slice a2 n n2) n xs) ∧ Below W.heap.size W w' := by
  have HZ := Lib.hid (heap_alloc_new W (.cells #[.int .i64 0, .bool false, .int .i64 0, .string ByteArray.empty, .slice none 0 0, .slice none 0 0, .int .i64 0] 82))
  have HB0 := Lib.hid ((Below.refl W.heap.size W).alloc (Nat.le_refl _) (.cells #[.int .i64 0, .bool false, .int .i64 0, .string ByteArray.empty, .slice none 0 0, .slice none 0 0, .int .i64 0] 82))
  have HSZ := Lib.hid (show W.heap.size < (W.alloc (.cells #[.int .i64 0, .bool false, .int .i64 0, .string ByteArray.empty, .slice none 0 0, .slice none 0 0, .int .i64 0] 82)).heap.size from Rw.lt_of_heap HZ.out)
  have CC := Lib.hid (cloneV_is v n base xs _ (own_alloc (.cells #[.int .i64 0, .bool false, .int .i64 0, .string ByteArray.empty, .slice none 0 0, .slice none 0 0, .int .i64 0] 82) h) h1 hn)
  obtain ⟨ad, cap, rfl⟩ := own_slice h
  clear h h1
  go_enter Tryz.func43, Tryz.ntmps43
  go_wp2_with fail
  change Calls _ _ _ (W.alloc (.cells #[.int .i64 0, .bool false, .int .i64 0, .string ByteArray.empty, .slice none 0 0, .slice none 0 0, .int .i64 0] 82)) _
  generalize W.alloc (.cells #[.int .i64 0, .bool false, .int .i64 0, .string ByteArray.empty, .slice none 0 0, .slice none 0 0, .int .i64 0] 82) = w0 at HZ HB0 HSZ CC ⊢
  refine CC.out.mono ?_
  rintro e w1 ⟨⟨v2, rfl, ho2⟩, hb1⟩
  have HO2 := Lib.hid ho2
  have HB1 := Lib.hid (below_seq HB0.out hb1)
  have hz1 := (hb1.block _ HSZ.out).trans HZ.out
  obtain ⟨a2, n2, rfl⟩ := own_slice ho2
  clear ho2 hb1 CC
  go_wp2_with (refine wpList_store_row rfl 82 _ _ rfl W.heap.size #[.int .i64 4, .bool false, .int .i64 0, .string ⟨#[]⟩, .slice a2 n n2, .slice none 0 0, .int .i64 0] rfl rfl 82 _ hz1 (by kernel_rfl) rfl (by simp [Value.oneCell']) ?_)
  go_wp2_with fail
  have hz2 := setRow_heap w1 W.heap.size _ #[.int .i64 4, .bool false, .int .i64 0, .string ⟨#[]⟩, .slice a2 n n2, .slice none 0 0, .int .i64 0] _ _ hz1
  refine bodyPost_ret (results_cell_row rfl _ _ W.heap.size _ _ _ _ rfl hz2 Tryz.underlying82 rfl (by kernel_rfl)) rfl ?_
  have hb2 := below_setRow HB1.out (Nat.le_refl _) #[.int .i64 4, .bool false, .int .i64 0, .string ⟨#[]⟩, .slice a2 n n2, .slice none 0 0, .int .i64 0]
  exact ⟨⟨a2, n2, rfl, own_base (own_kept HO2.out fun g hg => setRow_other _ _ _ _ (by have := (own_lt HO2.out hg).1; have := HSZ.out; omega)) HB0.out.size⟩, hb2⟩
theorem array_is (S : Nat) (v : Value) (l : List Jv.J) (W : World) (h : VRow S W v l) (hS : S ≤ W.heap.size) (hl : l.length ≤ 1000000) :
    Calls Tryz.prog 43 #[v] W fun e w' => (∃ a2 n2, e = .returned (.agg #[.int .i64 4, .bool false, .int .i64 0, .string ⟨#[]⟩, .slice a2 l.length n2, .slice none 0 0, .int .i64 0]) ∧ Val S w' (.arr l) (vCells 4 false 0 ⟨#[]⟩ (.slice a2 l.length n2) nilV 0)) ∧ Below W.heap.size W w' := by
  obtain ⟨L, hL, ho, hE⟩ := h
  refine (array_raw v l.length S L.flatten W ho hL.2 hl).mono ?_
  rintro e w' ⟨⟨a2, n2, rfl, ho2⟩, hb⟩
  exact ⟨⟨a2, n2, rfl, Val.arr hL (hE W (fun _ _ _ _ => rfl)).1 hE hb ho2 hS⟩, hb⟩
theorem object_raw (v : Value) (n base : Nat) (xs : List Value) (W : World) (h : W.ownsRow base 144 9 v n xs) (h1 : ∀ u ∈ xs, u.oneCell' = true) (hn : n ≤ 1000000) :
    Calls Tryz.prog 79 #[v] W fun e w' => (∃ a2 n2, e = .returned (.agg #[.int .i64 5, .bool false, .int .i64 0, .string ⟨#[]⟩, .slice none 0 0, .slice a2 n n2, .int .i64 0]) ∧ w'.ownsRow W.heap.size 144 9 (.slice a2 n n2) n xs) ∧ Below W.heap.size W w' := by
  have HZ := Lib.hid (heap_alloc_new W (.cells #[.int .i64 0, .bool false, .int .i64 0, .string ByteArray.empty, .slice none 0 0, .slice none 0 0, .int .i64 0] 82))
  have HB0 := Lib.hid ((Below.refl W.heap.size W).alloc (Nat.le_refl _) (.cells #[.int .i64 0, .bool false, .int .i64 0, .string ByteArray.empty, .slice none 0 0, .slice none 0 0, .int .i64 0] 82))
  have HSZ := Lib.hid (show W.heap.size < (W.alloc (.cells #[.int .i64 0, .bool false, .int .i64 0, .string ByteArray.empty, .slice none 0 0, .slice none 0 0, .int .i64 0] 82)).heap.size from Rw.lt_of_heap HZ.out)
  have CC := Lib.hid (cloneM_is v n base xs _ (own_alloc (.cells #[.int .i64 0, .bool false, .int .i64 0, .string ByteArray.empty, .slice none 0 0, .slice none 0 0, .int .i64 0] 82) h) h1 hn)
  obtain ⟨ad, cap, rfl⟩ := own_slice h
  clear h h1
  go_enter Tryz.func79, Tryz.ntmps79
  go_wp2_with fail
  change Calls _ _ _ (W.alloc (.cells #[.int .i64 0, .bool false, .int .i64 0, .string ByteArray.empty, .slice none 0 0, .slice none 0 0, .int .i64 0] 82)) _
  generalize W.alloc (.cells #[.int .i64 0, .bool false, .int .i64 0, .string ByteArray.empty, .slice none 0 0, .slice none 0 0, .int .i64 0] 82) = w0 at HZ HB0 HSZ CC ⊢
  refine CC.out.mono ?_
  rintro e w1 ⟨⟨v2, rfl, ho2⟩, hb1⟩
  have HO2 := Lib.hid ho2
  have HB1 := Lib.hid (below_seq HB0.out hb1)
  have hz1 := (hb1.block _ HSZ.out).trans HZ.out
  obtain ⟨a2, n2, rfl⟩ := own_slice ho2
  clear ho2 hb1 CC
  go_wp2_with (refine wpList_store_row rfl 82 _ _ rfl W.heap.size #[.int .i64 5, .bool false, .int .i64 0, .string ⟨#[]⟩, .slice none 0 0, .slice a2 n n2, .int .i64 0] rfl rfl 82 _ hz1 (by kernel_rfl) rfl (by simp [Value.oneCell']) ?_)
  go_wp2_with fail
  have hz2 := setRow_heap w1 W.heap.size _ #[.int .i64 5, .bool false, .int .i64 0, .string ⟨#[]⟩, .slice none 0 0, .slice a2 n n2, .int .i64 0] _ _ hz1
  refine bodyPost_ret (results_cell_row rfl _ _ W.heap.size _ _ _ _ rfl hz2 Tryz.underlying82 rfl (by kernel_rfl)) rfl ?_
  have hb2 := below_setRow HB1.out (Nat.le_refl _) #[.int .i64 5, .bool false, .int .i64 0, .string ⟨#[]⟩, .slice none 0 0, .slice a2 n n2, .int .i64 0]
  exact ⟨⟨a2, n2, rfl, own_base (own_kept HO2.out fun g hg => setRow_other _ _ _ _ (by have := (own_lt HO2.out hg).1; have := HSZ.out; omega)) HB0.out.size⟩, hb2⟩
end Go.Proofs.YtjaojenalodolaaGreatDoor.Me
/- The store's texts and object, walked. -/
namespace Go.Proofs.YtjaojenalodolaaGreatDoor.Me
open Go Go.RowKit Go.Proofs.YtjaojenalodolaaGreatDoor Go.Proofs.YtjaojenalodolaaGreatDoor.Rw Go.Proofs.YtjaojenalodolaaGreatDoor.Vf Go.Proofs.YtjaojenalodolaaGreatDoor.Mw
set_option linter.unusedVariables false
set_option maxRecDepth 100000
set_option maxHeartbeats 16000000
theorem one_row {w : World} {c : List Value} {sz : Nat} {t : TypeId} (h : c.length = sz) : (w.alloc (.cells c.toArray t)).ownsRow w.heap.size t sz (.slice (some ⟨w.heap.size, 0, none⟩) 1 1) 1 c :=
  own_new (heap_alloc_new w _) (Nat.le_refl _) (by omega) (by unfold maxLen; omega)
theorem take_map {α β : Type} (f : α → β) (l : List α) {k : Nat} (hk : k < l.length) : (l.take (k + 1)).map f = (l.take k).map f ++ [f l[k]] := by
  rw [List.take_add_one, List.getElem?_eq_getElem hk, List.map_append]
  rfl
theorem texts_is (l : List ByteArray) (v : Value) (W : World) (h : Rw W v 1 (l.map sCell)) (hl : l.length ≤ 100000) :
    Calls Tryz.prog 41 #[v] W fun e w' => (∃ v2, e = .returned v2 ∧ VRow W.heap.size w' v2 (l.map Jv.J.str)) ∧ Below W.heap.size W w' := by
  obtain ⟨g, off, ad, cap, rfl, had, hc⟩ := path_at h
  obtain ⟨m, hm⟩ : ∃ m, l.length = m := ⟨_, rfl⟩
  rw [hm] at had hl ⊢
  have HM := Lib.hid hm
  have HAD := Lib.hid had
  have HC := Lib.hid hc
  obtain ⟨ti, tz, hi, hz0, hz1, hz2, hz3⟩ := info_sz infoV
  have HI := Lib.hid (And.intro hi (And.intro hz0 (And.intro hz1 (And.intro hz2 hz3))))
  clear h had hc hm hi hz0 hz1 hz2 hz3
  go_enter Tryz.func41, Tryz.ntmps41
  go_wp2_with fail
  go_loopw [3, 8] (fun o x wr => ∃ k : Nat, k ≤ m ∧ x = .int .i64 k ∧ Hid (VRow W.heap.size wr o ((l.take k).map Jv.J.str)) ∧ Hid (Below W.heap.size W wr)) (fun o x _ => m - (intOf x).toNat)
  case atStart => exact ⟨0, Nat.zero_le _, rfl, Lib.hid Row.nil, Lib.hid (Below.refl _ _)⟩
  case round =>
    obtain ⟨k, hk, rfl, hr, hb⟩ := hrel
    by_cases hlt : k < m
    · obtain rfl := HAD.out (by omega)
      have hkl : k < l.length := by rw [HM.out]; exact hlt
      have y0 := cell_under (HC.out k hkl) hb.out
      have HK := Lib.hid (take_map Jv.J.str l hkl)
      have HLn := Lib.hid (show ((l.take k).map Jv.J.str).length = k by simp; omega)
      generalize l[k] = p at y0 HK
      have i1 : (k : Int) < (m : Int) := by omega
      have i0 : (0 : Int) ≤ (k : Int) := by omega
      go_wp2_with fail
      refine (str_is p _).mono ?_
      rintro e w1 ⟨rfl, hb1⟩
      have HB1 := Lib.hid (below_seq hb.out hb1)
      have hr1 := hr.out.below hb1
      have hba := (Below.refl w1.heap.size w1).alloc (Nat.le_refl _) (.cells #[.int .i64 3, .bool false, .int .i64 0, .string p, .slice none 0 0, .slice none 0 0, .int .i64 0] 82)
      have HBA := Lib.hid (below_seq HB1.out hba)
      have HR1 := Lib.hid (hr1.below hba)
      have HO := Lib.hid (one_row (w := w1) (c := vCells 3 false 0 p nilV nilV 0) (sz := 7) (t := 82) rfl)
      have HS := Lib.hid (show w1.heap.size ≤ (w1.alloc (.cells #[.int .i64 3, .bool false, .int .i64 0, .string p, .slice none 0 0, .slice none 0 0, .int .i64 0] 82)).heap.size from hba.size)
      clear hb1 hr hr1 hba y0
      obtain ⟨L, hL, ho, hE⟩ := HR1.out
      rw [HLn.out] at ho
      have hone : ∀ u ∈ vCells 3 false 0 p nilV nilV 0, u.oneCell' = true := (Val.str (S := 0) (w := w1) p).one
      have HQ := Lib.hid (And.intro hL (And.intro ho (And.intro hE hone)))
      clear hL ho hE hone
      go_wp2_with (at_builtin; (refine wpList_append_row _ rfl _ _ 79 rfl W.heap.size w1.heap.size 82 ti tz 7 96 Tryz.underlying79 HI.out.1 HI.out.2.1 HI.out.2.2.1 HI.out.2.2.2.1 HI.out.2.2.2.2 (by decide) _ k L.flatten rfl HQ.out.2.1 _ 1 (vCells 3 false 0 p nilV nilV 0) rfl HO.out HQ.out.2.2.2 ?a3 ?a4 ?a5 ?_))
      case a3 => unfold maxLen; omega
      case a4 => omega
      case a5 => exact HBA.out.size
      intro v1 w2 hown hgrow hv1
      have HB2 := Lib.hid (below_grew hgrow HBA.out (fun q hq => (own_lt HQ.out.2.1 hq).1) HBA.out.size)
      have HR2 : Hid (VRow W.heap.size w2 v1 ((l.take (k + 1)).map Jv.J.str)) := Lib.hid (by
        rw [HK.out]
        refine Row.appended (M := [vCells 3 false 0 p nilV nilV 0]) (l2 := [.str p]) HQ.out.1 HQ.out.2.2.1 (Flat.one rfl HQ.out.2.2.2) (fun u hu => All.one ?_) ?_ hgrow (by rw [show (w1.alloc (.cells #[.int .i64 3, .bool false, .int .i64 0, .string p, .slice none 0 0, .slice none 0 0, .int .i64 0] 82)).heap.size = w1.heap.size + 1 from Array.size_push _]; exact hv1)
        · unfold Jv; exact ⟨0, rfl⟩
        · rw [HLn.out]; simpa using hown)
      clear hown hgrow hv1
      go_wp2_with fail
      go_roundw
      case rel => exact ⟨k + 1, by omega, by go_num, HR2, HB2⟩
      case measure => simp [intOf]; omega
    · have gl : decide ((k : Int) < (m : Int)) = false := decide_eq_false (by omega)
      have HF : Hid (l.take k = l) := Lib.hid (List.take_of_length_le (by rw [HM.out]; omega))
      go_wp2_with fail
      go_ret
      exact ⟨⟨_, rfl, by have := hr.out; rw [HF.out] at this; exact this⟩, hb.out⟩
end Go.Proofs.YtjaojenalodolaaGreatDoor.Me
/- The store's object, walked. -/
namespace Go.Proofs.YtjaojenalodolaaGreatDoor.Me
open Go Go.RowKit Go.Proofs.YtjaojenalodolaaGreatDoor Go.Proofs.YtjaojenalodolaaGreatDoor.Rw Go.Proofs.YtjaojenalodolaaGreatDoor.Vf Go.Proofs.YtjaojenalodolaaGreatDoor.Mw
set_option linter.unusedVariables false
set_option maxRecDepth 100000
set_option maxHeartbeats 16000000
theorem vals_at {w : World} {v : Value} {l : List Jv.J} {L : List (List Value)} (h : Rw w v 7 L) (hA : All Jv w l L) : ∃ g off ad cap, v = .slice ad l.length cap ∧ (0 < l.length → ad = some ⟨g, off, none⟩) ∧
    ∀ j (hj : j < l.length) (hL : j < L.length), ∃ k b n s a1 n1 c1 a2 n2 c2 p, L[j] = vCells k b n s (.slice a1 n1 c1) (.slice a2 n2 c2) p ∧
      w.cell? ⟨g, off + j * 7, none⟩ = some (.int .i64 k) ∧ w.cell? ⟨g, off + j * 7 + 1, none⟩ = some (.bool b) ∧ w.cell? ⟨g, off + j * 7 + 2, none⟩ = some (.int .i64 n) ∧ w.cell? ⟨g, off + j * 7 + 3, none⟩ = some (.string s) ∧ w.cell? ⟨g, off + j * 7 + 4, none⟩ = some (.slice a1 n1 c1) ∧ w.cell? ⟨g, off + j * 7 + 5, none⟩ = some (.slice a2 n2 c2) ∧ w.cell? ⟨g, off + j * 7 + 6, none⟩ = some (.int .i64 p) := by
  obtain ⟨g, off, ad, cap, rfl, h2, h3⟩ := h
  refine ⟨g, off, ad, cap, by rw [hA.1], by rw [← hA.1]; exact h2, fun j hj hL => ?_⟩
  obtain ⟨k, b, n, s, a1, n1, c1, a2, n2, c2, p, e⟩ := Jv_form (hA.2 j hj hL)
  have at' : ∀ q (hq : q < 7), ∃ x, (vCells k b n s (.slice a1 n1 c1) (.slice a2 n2 c2) p)[q]? = some x ∧ w.cell? ⟨g, off + j * 7 + q, none⟩ = some x := fun q hq => by
    have := h3 j hL q hq
    rw [e] at this
    exact this
  refine ⟨k, b, n, s, a1, n1, c1, a2, n2, c2, p, e, ?_, ?_, ?_, ?_, ?_, ?_, ?_⟩
  · obtain ⟨x, hx, hc⟩ := at' 0 (by omega); simp only [vCells, List.getElem?_cons_zero, Option.some.injEq] at hx; subst hx; exact hc
  · obtain ⟨x, hx, hc⟩ := at' 1 (by omega); simp only [vCells, List.getElem?_cons_succ, List.getElem?_cons_zero, Option.some.injEq] at hx; subst hx; exact hc
  · obtain ⟨x, hx, hc⟩ := at' 2 (by omega); simp only [vCells, List.getElem?_cons_succ, List.getElem?_cons_zero, Option.some.injEq] at hx; subst hx; exact hc
  · obtain ⟨x, hx, hc⟩ := at' 3 (by omega); simp only [vCells, List.getElem?_cons_succ, List.getElem?_cons_zero, Option.some.injEq] at hx; subst hx; exact hc
  · obtain ⟨x, hx, hc⟩ := at' 4 (by omega); simp only [vCells, List.getElem?_cons_succ, List.getElem?_cons_zero, Option.some.injEq] at hx; subst hx; exact hc
  · obtain ⟨x, hx, hc⟩ := at' 5 (by omega); simp only [vCells, List.getElem?_cons_succ, List.getElem?_cons_zero, Option.some.injEq] at hx; subst hx; exact hc
  · obtain ⟨x, hx, hc⟩ := at' 6 (by omega); simp only [vCells, List.getElem?_cons_succ, List.getElem?_cons_zero, Option.some.injEq] at hx; subst hx; exact hc
theorem keys_cell (w : World) (ks : List ByteArray) (t : TypeId) (j : Nat) (hj : j < ks.length) : (w.alloc (.cells (ks.map Value.string).toArray t)).cell? ⟨w.heap.size, j, none⟩ = some (.string ks[j]) := by
  unfold World.cell?
  simp only [heap_alloc_new]
  simp [hj]
abbrev Spaces (w : World) : Prop := Lib.TabIs Tryz.prog w "strings.asciiSpace" .u8 Lib.asciiSpaceTab
theorem fields_is (s : ByteArray) (ks : List ByteArray) (w : World) (hs : s.size < 1000) (hascii : ∀ (j : Nat) b, s.data.toList[j]? = some b → b.toNat < 128) (hk : (Lib.fields s.data.toList).map (fun l => (⟨l.toArray⟩ : ByteArray)) = ks) (htab : Spaces w) :
    Calls Tryz.prog 77 #[.string s] w fun e w' => e = .returned (.slice (some ⟨w.heap.size, 0, none⟩) ks.length ks.length) ∧ w' = w.alloc (.cells (ks.map Value.string).toArray 9) := by
  subst hk
  have := Tryz.strings_Fields s w (by omega) hascii htab
  rw [List.length_map, List.map_map]
  exact this
theorem zip_take {α β : Type} (a : List α) (b : List β) {k : Nat} (ha : k < a.length) (hb : k < b.length) : (a.zip b).take (k + 1) = (a.zip b).take k ++ [(a[k], b[k])] := by
  rw [List.take_add_one, List.getElem?_eq_getElem (by rw [List.length_zip]; omega), List.getElem_zip]
  rfl
theorem obj_is (s : ByteArray) (ks : List ByteArray) (S : Nat) (v : Value) (l : List Jv.J) (W : World) (hs : s.size < 1000) (hascii : ∀ (j : Nat) b, s.data.toList[j]? = some b → b.toNat < 128) (hk : (Lib.fields s.data.toList).map (fun l => (⟨l.toArray⟩ : ByteArray)) = ks) (h : VRow S W v l) (hlen : ks.length = l.length) (hl : l.length ≤ 1000) (hS : S ≤ W.heap.size) (htab : ∀ u, Below W.heap.size W u → Spaces u) :
    Calls Tryz.prog 40 #[.string s, v] W fun e w' => (∃ a2 n2, e = .returned (.agg #[.int .i64 5, .bool false, .int .i64 0, .string ⟨#[]⟩, .slice none 0 0, .slice a2 (ks.zip l).length n2, .int .i64 0]) ∧ Val S w' (.obj (ks.zip l)) (vCells 5 false 0 ⟨#[]⟩ nilV (.slice a2 (ks.zip l).length n2) 0)) ∧ Below W.heap.size W w' := by
  obtain ⟨L, hL, ho, hE⟩ := h
  obtain ⟨L', hR, hn', hL', hA'⟩ := Row.rw (El := Jv) ⟨L, hL, ho, hE⟩
  have hA := hE W (fun _ _ _ _ => rfl)
  have hRw := Rw.of_own ho hA.1 (fun j hj k hk => flat_at hL.1 j hj k hk) (fun j hj => hL.1 _ (List.getElem_mem hj))
  obtain ⟨g, off, ad, cap, rfl, had, hcells⟩ := vals_at hRw hA
  clear L' hR hn' hL' hA'
  obtain ⟨m, hm⟩ : ∃ m, l.length = m := ⟨_, rfl⟩
  rw [hm] at had hlen hl hE ⊢
  have HM := Lib.hid hm
  have HAD := Lib.hid had
  have HC := Lib.hid hcells
  have HE := Lib.hid hE
  have HA := Lib.hid hA.1
  have HLn := Lib.hid hlen
  have HS := Lib.hid hS
  have HT := Lib.hid htab
  have HZ := Lib.hid (heap_alloc_new W (.cells #[.int .i64 0, .bool false, .int .i64 0, .string ByteArray.empty, .slice none 0 0, .slice none 0 0, .int .i64 0] 82))
  have HB0 := Lib.hid ((Below.refl W.heap.size W).alloc (Nat.le_refl _) (.cells #[.int .i64 0, .bool false, .int .i64 0, .string ByteArray.empty, .slice none 0 0, .slice none 0 0, .int .i64 0] 82))
  have HSZ := Lib.hid (show W.heap.size < (W.alloc (.cells #[.int .i64 0, .bool false, .int .i64 0, .string ByteArray.empty, .slice none 0 0, .slice none 0 0, .int .i64 0] 82)).heap.size from Rw.lt_of_heap HZ.out)
  have CF := Lib.hid (fun u (hu : Below W.heap.size W u) => fields_is s ks u hs hascii hk (htab u hu))
  obtain ⟨ti, tz, hi, hz0, hz1, hz2, hz3⟩ := info_sz infoM
  have HI := Lib.hid (And.intro hi (And.intro hz0 (And.intro hz1 (And.intro hz2 hz3))))
  clear ho hL hE hA hRw had hcells hS htab hs hascii hk hm hi hz0 hz1 hz2 hz3
  go_enter Tryz.func40, Tryz.ntmps40
  go_wp2_with fail
  change Calls _ _ _ (W.alloc (.cells #[.int .i64 0, .bool false, .int .i64 0, .string ByteArray.empty, .slice none 0 0, .slice none 0 0, .int .i64 0] 82)) _
  generalize W.alloc (.cells #[.int .i64 0, .bool false, .int .i64 0, .string ByteArray.empty, .slice none 0 0, .slice none 0 0, .int .i64 0] 82) = w0 at HZ HB0 HSZ ⊢
  refine (CF.out _ HB0.out).mono ?_
  rintro e w1 ⟨rfl, hw1⟩
  rw [hlen]
  have HK := Lib.hid (fun j (hj : j < ks.length) => keys_cell w0 ks 9 j hj)
  rw [← hw1] at HK
  have hb1 : Below w0.heap.size w0 w1 := by rw [hw1]; exact (Below.refl _ _).alloc (Nat.le_refl _) _
  have HB1 := Lib.hid (below_seq HB0.out hb1)
  have HZ1 := Lib.hid ((hb1.block _ HSZ.out).trans HZ.out)
  have HLT := Lib.hid (show w0.heap.size < w1.heap.size by rw [hw1]; show _ < (w0.heap.push _).size; rw [Array.size_push]; omega)
  obtain ⟨F, hF⟩ : ∃ F, w0.heap.size = F := ⟨_, rfl⟩
  have HSF := Lib.hid (show W.heap.size < F from hF ▸ HSZ.out)
  rw [hF] at HK HLT ⊢
  clear hw1 hb1 HZ HB0 HSZ CF hF
  go_wp2_with fail
  go_loopw [5, 11] (fun o x wr => ∃ k : Nat, k ≤ m ∧ x = .int .i64 k ∧ Hid (∃ M, Flat 9 M ∧ wr.ownsRow S 144 9 o k M.flatten ∧ ∀ u, Agree S W u (Value.ownBlock (.slice ad m cap)) → All JvP u ((ks.zip l).take k) M) ∧ Hid (∀ q, o.ownBlock = some q → w1.heap.size ≤ q) ∧ Hid (Below w1.heap.size w1 wr)) (fun o x _ => m - (intOf x).toNat)
  case atStart => exact ⟨0, Nat.zero_le _, rfl, Lib.hid ⟨[], ⟨fun c hc => absurd hc (by simp), fun u hu => absurd hu (by simp)⟩, ⟨by simp, .inl ⟨rfl, rfl⟩⟩, fun u _ => ⟨rfl, fun j hj => absurd hj (by simp)⟩⟩, Lib.hid (fun q hq => absurd hq (by simp [Value.ownBlock])), Lib.hid (Below.refl _ _)⟩
  case round =>
    obtain ⟨k, hk, rfl, hr, hq, hb⟩ := hrel
    by_cases hlt : k < m
    · obtain rfl := HAD.out (by omega)
      have hkl : k < l.length := by rw [HM.out]; exact hlt
      have hkL : k < L.length := by rw [HA.out]; exact hkl
      have hkk : k < ks.length := by rw [HLn.out]; exact hlt
      obtain ⟨vk, vb, vn, vs, a1, n1, c1, a2, n2, c2, vp, eL, y0, y1, y2, y3, y4, y5, y6⟩ := HC.out k hkl hkL
      have hbw := below_seq HB1.out hb.out
      replace y0 := cell_under y0 hbw
      replace y1 := cell_under y1 hbw
      replace y2 := cell_under y2 hbw
      replace y3 := cell_under y3 hbw
      replace y4 := cell_under y4 hbw
      replace y5 := cell_under y5 hbw
      replace y6 := cell_under y6 hbw
      have x0 := cell_under (HK.out k hkk) hb.out
      have HZT := Lib.hid (zip_take ks l hkk hkl)
      have HEL := Lib.hid (fun u (hu : Agree S W u (Value.ownBlock (.slice (some ⟨g, off, none⟩) m cap))) => by have := (HE.out u hu).2 k hkl hkL; rw [eL] at this; exact this)
      have HLK := Lib.hid (show ((ks.zip l).take k).length = k by rw [List.length_take, List.length_zip, HLn.out, HM.out]; omega)
      generalize ks[k] = key at x0 HZT
      generalize l[k] = el at HZT HEL
      have i1 : (k : Int) < (m : Int) := by omega
      have i0 : (0 : Int) ≤ (k : Int) := by omega
      clear eL
      go_wp2_with fail
      refine (member_is key vk vb vn vs a1 n1 c1 a2 n2 c2 vp _).mono ?_
      rintro e w2 ⟨rfl, hb2⟩
      have HB2 := Lib.hid (below_seq hb.out hb2)
      have hba := (Below.refl w2.heap.size w2).alloc (Nat.le_refl _) (.cells #[.string key, .int .i64 vk, .bool vb, .int .i64 vn, .string vs, .slice a1 n1 c1, .slice a2 n2 c2, .int .i64 vp, .int .i64 0] 144)
      have HBA := Lib.hid (below_seq HB2.out hba)
      have HBX := Lib.hid (below_seq hb2 hba)
      have HO := Lib.hid (one_row (w := w2) (c := [Value.string key, .int .i64 vk, .bool vb, .int .i64 vn, .string vs, .slice a1 n1 c1, .slice a2 n2 c2, .int .i64 vp, .int .i64 0]) (sz := 9) (t := 144) rfl)
      clear hb2 hba hbw x0 y0 y1 y2 y3 y4 y5 y6
      obtain ⟨M, hL, ho, hE⟩ := hr.out
      replace ho := own_kept ho fun q hq => HBX.out.block q (own_lt ho hq).2
      clear hr
      have hone : ∀ u ∈ [Value.string key, .int .i64 vk, .bool vb, .int .i64 vn, .string vs, .slice a1 n1 c1, .slice a2 n2 c2, .int .i64 vp, .int .i64 0], u.oneCell' = true := by
        intro u hu
        simp only [List.mem_cons, List.not_mem_nil, or_false] at hu
        rcases hu with rfl | rfl | rfl | rfl | rfl | rfl | rfl | rfl | rfl <;> rfl
      have HQ := Lib.hid (And.intro hL (And.intro ho (And.intro hE hone)))
      clear hL ho hE hone
      have HSA := Lib.hid (show S ≤ (w2.alloc (.cells #[.string key, .int .i64 vk, .bool vb, .int .i64 vn, .string vs, .slice a1 n1 c1, .slice a2 n2 c2, .int .i64 vp, .int .i64 0] 144)).heap.size from Nat.le_trans HS.out (Nat.le_trans HB1.out.size HBA.out.size))
      go_wp2_with (at_builtin; (refine wpList_append_row _ rfl _ _ 80 rfl S w2.heap.size 144 ti tz 9 120 Tryz.underlying80 HI.out.1 HI.out.2.1 HI.out.2.2.1 HI.out.2.2.2.1 HI.out.2.2.2.2 (by decide) _ k M.flatten rfl HQ.out.2.1 _ 1 [Value.string key, .int .i64 vk, .bool vb, .int .i64 vn, .string vs, .slice a1 n1 c1, .slice a2 n2 c2, .int .i64 vp, .int .i64 0] rfl HO.out HQ.out.2.2.2 ?a3 ?a4 ?a5 ?_))
      case a3 => unfold maxLen; omega
      case a4 => omega
      case a5 => exact HSA.out
      intro v1 w3 hown hgrow hv1
      have HB3 := Lib.hid (below_grew hgrow HBA.out (fun q e => hq.out q e) HBA.out.size)
      have hsz : (w2.alloc (.cells #[.string key, .int .i64 vk, .bool vb, .int .i64 vn, .string vs, .slice a1 n1 c1, .slice a2 n2 c2, .int .i64 vp, .int .i64 0] 144)).heap.size = w2.heap.size + 1 := Array.size_push _
      have HQ3 : Hid (∀ q, v1.ownBlock = some q → w1.heap.size ≤ q) := Lib.hid (fun q e => by
        rcases hv1 with h | h
        · exact hq.out q (h.symm.trans e)
        · rw [h] at e
          cases e
          have := HB2.out.size
          omega)
      have HR3 : Hid (∃ M, Flat 9 M ∧ w3.ownsRow S 144 9 v1 (k + 1) M.flatten ∧ ∀ u, Agree S W u (Value.ownBlock (.slice (some ⟨g, off, none⟩) m cap)) → All JvP u ((ks.zip l).take (k + 1)) M) := Lib.hid (by
        refine ⟨M ++ [[Value.string key, .int .i64 vk, .bool vb, .int .i64 vn, .string vs, .slice a1 n1 c1, .slice a2 n2 c2, .int .i64 vp, .int .i64 0]], HQ.out.1.append (Flat.one rfl HQ.out.2.2.2), by simpa using hown, fun u hu => ?_⟩
        rw [HZT.out]
        refine (HQ.out.2.2.1 u hu).append (All.one ?_)
        unfold JvP
        exact ⟨_, 0, rfl, HEL.out u hu⟩)
      clear hown hgrow hv1 hsz
      go_wp2_with fail
      go_roundw
      case rel => exact ⟨k + 1, by omega, by go_num, HR3, HQ3, HB3⟩
      case measure => simp [intOf]; omega
    · have gl : decide ((k : Int) < (m : Int)) = false := decide_eq_false (by omega)
      obtain ⟨M, hL, ho, hE⟩ := hr.out
      have hkm : k = m := by omega
      rw [hkm] at ho
      have HE3 := Lib.hid (fun u hu => by have := hE u hu; rw [List.take_of_length_le (by rw [List.length_zip, HLn.out, HM.out]; omega)] at this; exact this)
      have HLz := Lib.hid (show (ks.zip l).length = m by rw [List.length_zip, HLn.out, HM.out]; omega)
      have HLM := Lib.hid hL
      have HBW := Lib.hid (below_seq HB1.out hb.out)
      have HZ2 := Lib.hid ((hb.out.block _ (by have := HSF.out; have := HLT.out; omega)).trans HZ1.out)
      have CO := Lib.hid (object_raw u5 m S M.flatten wr ho hL.2 (by omega))
      clear hL ho hE hr hkm
      go_wp2_with fail
      refine CO.out.mono ?_
      rintro e w2 ⟨⟨ax, nx, rfl, hv⟩, hb2⟩
      have hz2 := (hb2.block _ (Rw.lt_of_heap HZ2.out)).trans HZ2.out
      have HV := Lib.hid hv
      have HBF := Lib.hid (below_seq HBW.out hb2)
      have HLTW := Lib.hid (Rw.lt_of_heap HZ2.out)
      clear hv hb2 CO
      go_wp2_with (refine wpList_store_row rfl 82 _ _ rfl W.heap.size #[.int .i64 5, .bool false, .int .i64 0, .string ⟨#[]⟩, .slice none 0 0, .slice ax m nx, .int .i64 0] rfl rfl 82 _ hz2 (by kernel_rfl) rfl (by simp [Value.oneCell']) ?_)
      go_wp2_with fail
      have hz3 := setRow_heap w2 W.heap.size _ #[.int .i64 5, .bool false, .int .i64 0, .string ⟨#[]⟩, .slice none 0 0, .slice ax m nx, .int .i64 0] _ _ hz2
      refine bodyPost_ret (results_cell_row rfl _ _ W.heap.size _ _ _ _ rfl hz3 Tryz.underlying82 rfl (by kernel_rfl)) rfl ?_
      have hb3 := below_setRow HBF.out (Nat.le_refl _) #[.int .i64 5, .bool false, .int .i64 0, .string ⟨#[]⟩, .slice none 0 0, .slice ax m nx, .int .i64 0]
      refine ⟨⟨ax, nx, by rw [HLz.out], ?_⟩, hb3⟩
      rw [HLz.out]
      refine Val.obj HLM.out (HE3.out W (fun _ _ _ _ => rfl)).1 HE3.out hb3 ?_ (Nat.le_trans HS.out HBW.out.size)
      rw [HLz.out]
      exact own_kept HV.out fun q hq => setRow_other _ _ _ _ (by have := (own_lt HV.out hq).1; have := HLTW.out; omega)
end Go.Proofs.YtjaojenalodolaaGreatDoor.Me
/- The store's Encode, walked: the parts of the values. -/
namespace Go.Proofs.YtjaojenalodolaaGreatDoor.Me
open Go Go.RowKit Go.Proofs.YtjaojenalodolaaGreatDoor Go.Proofs.YtjaojenalodolaaGreatDoor.Rw Go.Proofs.YtjaojenalodolaaGreatDoor.Vf Go.Proofs.YtjaojenalodolaaGreatDoor.Mw
set_option linter.unusedVariables false
set_option maxRecDepth 100000
set_option maxHeartbeats 16000000
def sE : ByteArray := ⟨#[105, 100, 32, 116, 105, 116, 108, 101, 32, 108, 105, 110, 107, 32, 99, 111, 110, 116, 101, 110, 116, 32, 117, 112, 100, 97, 116, 101, 100]⟩
def sF : ByteArray := ⟨#[112, 97, 116, 104, 32, 105, 100, 32, 116, 105, 116, 108, 101, 32, 108, 105, 110, 107, 32, 117, 112, 100, 97, 116, 101, 100, 32, 101, 110, 116, 114, 105, 101, 115]⟩
def kE : List ByteArray := [Jv.kId, Jv.kTitle, Jv.kLink, Jv.kContent, Jv.kUpdated]
def kF : List ByteArray := [Jv.kPath, Jv.kId, Jv.kTitle, Jv.kLink, Jv.kUpdated, Jv.kEntries]
theorem sE_fields : (Lib.fields sE.data.toList).map (fun l => (⟨l.toArray⟩ : ByteArray)) = kE := by decide +kernel
theorem sF_fields : (Lib.fields sF.data.toList).map (fun l => (⟨l.toArray⟩ : ByteArray)) = kF := by decide +kernel
theorem sE_ascii : ∀ (j : Nat) b, sE.data.toList[j]? = some b → b.toNat < 128 := by
  have h : ∀ b ∈ sE.data.toList, b.toNat < 128 := by decide +kernel
  exact fun j b e => h b (List.mem_of_getElem? e)
theorem sF_ascii : ∀ (j : Nat) b, sF.data.toList[j]? = some b → b.toNat < 128 := by
  have h : ∀ b ∈ sF.data.toList, b.toNat < 128 := by decide +kernel
  exact fun j b e => h b (List.mem_of_getElem? e)
theorem objE_is (e : Mo.En) (S : Nat) (v : Value) (W : World) (h : VRow S W v [.str e.id, .str e.title, .str e.link, .str e.content, .int e.upd]) (hS : S ≤ W.heap.size) (htab : ∀ u, Below W.heap.size W u → Spaces u) :
    Calls Tryz.prog 40 #[.string sE, v] W fun x w' => (∃ a2 n2, x = .returned (.agg #[.int .i64 5, .bool false, .int .i64 0, .string ⟨#[]⟩, .slice none 0 0, .slice a2 5 n2, .int .i64 0]) ∧ Val S w' (Jv.jE e) (vCells 5 false 0 ⟨#[]⟩ nilV (.slice a2 5 n2) 0)) ∧ Below W.heap.size W w' :=
  obj_is sE kE S v _ W (by decide) sE_ascii sE_fields h rfl (by simp) hS htab
theorem objF_is (f : Mo.Fd) (S : Nat) (v : Value) (W : World) (h : VRow S W v [.arr (f.path.map .str), .str f.id, .str f.title, .str f.link, .int f.upd, .arr (f.ents.map Jv.jE)]) (hS : S ≤ W.heap.size) (htab : ∀ u, Below W.heap.size W u → Spaces u) :
    Calls Tryz.prog 40 #[.string sF, v] W fun x w' => (∃ a2 n2, x = .returned (.agg #[.int .i64 5, .bool false, .int .i64 0, .string ⟨#[]⟩, .slice none 0 0, .slice a2 6 n2, .int .i64 0]) ∧ Val S w' (Jv.jF f) (vCells 5 false 0 ⟨#[]⟩ nilV (.slice a2 6 n2) 0)) ∧ Below W.heap.size W w' :=
  obj_is sF kF S v _ W (by decide) sF_ascii sF_fields h rfl (by simp) hS htab
end Go.Proofs.YtjaojenalodolaaGreatDoor.Me
/- jsonwrite's unused and valid, walked: the true case. -/
namespace Go.Proofs.YtjaojenalodolaaGreatDoor.Me
open Go Go.RowKit Go.Proofs.YtjaojenalodolaaGreatDoor Go.Proofs.YtjaojenalodolaaGreatDoor.Rw Go.Proofs.YtjaojenalodolaaGreatDoor.Vf Go.Proofs.YtjaojenalodolaaGreatDoor.Mw
set_option linter.unusedVariables false
set_option maxRecDepth 100000
set_option maxHeartbeats 16000000
theorem cells7 {w : World} {x0 x1 x2 x3 x4 x5 x6 : Value} {t : TypeId} : (w.alloc (.cells #[x0, x1, x2, x3, x4, x5, x6] t)).cell? ⟨w.heap.size, 0, none⟩ = some x0 ∧ (w.alloc (.cells #[x0, x1, x2, x3, x4, x5, x6] t)).cell? ⟨w.heap.size, 1, none⟩ = some x1 ∧ (w.alloc (.cells #[x0, x1, x2, x3, x4, x5, x6] t)).cell? ⟨w.heap.size, 2, none⟩ = some x2 ∧ (w.alloc (.cells #[x0, x1, x2, x3, x4, x5, x6] t)).cell? ⟨w.heap.size, 3, none⟩ = some x3 ∧ (w.alloc (.cells #[x0, x1, x2, x3, x4, x5, x6] t)).cell? ⟨w.heap.size, 4, none⟩ = some x4 ∧ (w.alloc (.cells #[x0, x1, x2, x3, x4, x5, x6] t)).cell? ⟨w.heap.size, 5, none⟩ = some x5 ∧ (w.alloc (.cells #[x0, x1, x2, x3, x4, x5, x6] t)).cell? ⟨w.heap.size, 6, none⟩ = some x6 := by
  unfold World.cell?
  simp only [heap_alloc_new]
  exact ⟨rfl, rfl, rfl, rfl, rfl, rfl, rfl⟩
theorem cells9 {w : World} {x0 x1 x2 x3 x4 x5 x6 x7 x8 : Value} {t : TypeId} : (w.alloc (.cells #[x0, x1, x2, x3, x4, x5, x6, x7, x8] t)).cell? ⟨w.heap.size, 0, none⟩ = some x0 ∧ (w.alloc (.cells #[x0, x1, x2, x3, x4, x5, x6, x7, x8] t)).cell? ⟨w.heap.size, 1, none⟩ = some x1 ∧ (w.alloc (.cells #[x0, x1, x2, x3, x4, x5, x6, x7, x8] t)).cell? ⟨w.heap.size, 2, none⟩ = some x2 ∧ (w.alloc (.cells #[x0, x1, x2, x3, x4, x5, x6, x7, x8] t)).cell? ⟨w.heap.size, 3, none⟩ = some x3 ∧ (w.alloc (.cells #[x0, x1, x2, x3, x4, x5, x6, x7, x8] t)).cell? ⟨w.heap.size, 4, none⟩ = some x4 ∧ (w.alloc (.cells #[x0, x1, x2, x3, x4, x5, x6, x7, x8] t)).cell? ⟨w.heap.size, 5, none⟩ = some x5 ∧ (w.alloc (.cells #[x0, x1, x2, x3, x4, x5, x6, x7, x8] t)).cell? ⟨w.heap.size, 6, none⟩ = some x6 ∧ (w.alloc (.cells #[x0, x1, x2, x3, x4, x5, x6, x7, x8] t)).cell? ⟨w.heap.size, 7, none⟩ = some x7 ∧ (w.alloc (.cells #[x0, x1, x2, x3, x4, x5, x6, x7, x8] t)).cell? ⟨w.heap.size, 8, none⟩ = some x8 := by
  unfold World.cell?
  simp only [heap_alloc_new]
  exact ⟨rfl, rfl, rfl, rfl, rfl, rfl, rfl, rfl, rfl⟩
theorem unused_is (j : Jv.J) (cs : List Value) (w : World) (h : Jv w j cs) :
    Calls Tryz.prog 163 #[.agg cs.toArray] w fun e w' => e = .returned (.bool true) ∧ Below w.heap.size w w' := by
  have key : ∀ (k : Int) (b : Bool) (n : Int) (s : ByteArray) (a1 : Option Addr) (n1 c1 : Nat) (a2 : Option Addr) (n2 c2 : Nat) (p : Int),
      ((k = 0 ∧ b = false ∧ n = 0 ∧ s = ⟨#[]⟩ ∧ n1 = 0 ∧ n2 = 0) ∨ (k = 1 ∧ n = 0 ∧ s = ⟨#[]⟩ ∧ n1 = 0 ∧ n2 = 0) ∨ (k = 2 ∧ b = false ∧ s = ⟨#[]⟩ ∧ n1 = 0 ∧ n2 = 0) ∨ (k = 3 ∧ b = false ∧ n = 0 ∧ n1 = 0 ∧ n2 = 0) ∨ (k = 4 ∧ b = false ∧ n = 0 ∧ s = ⟨#[]⟩ ∧ n2 = 0) ∨ (k = 5 ∧ b = false ∧ n = 0 ∧ s = ⟨#[]⟩ ∧ n1 = 0)) →
      Calls Tryz.prog 163 #[.agg #[.int .i64 k, .bool b, .int .i64 n, .string s, .slice a1 n1 c1, .slice a2 n2 c2, .int .i64 p]] w fun e w' => e = .returned (.bool true) ∧ Below w.heap.size w w' := by
    intro k b n s a1 n1 c1 a2 n2 c2 p hk
    have HB0 := Lib.hid ((Below.refl w.heap.size w).alloc (Nat.le_refl _) (.cells #[.int .i64 k, .bool b, .int .i64 n, .string s, .slice a1 n1 c1, .slice a2 n2 c2, .int .i64 p] 82))
    obtain ⟨x0, x1, x2, x3, x4, x5, -⟩ := cells7 (w := w) (x0 := .int .i64 k) (x1 := .bool b) (x2 := .int .i64 n) (x3 := .string s) (x4 := .slice a1 n1 c1) (x5 := .slice a2 n2 c2) (x6 := .int .i64 p) (t := 82)
    rcases hk with ⟨rfl, rfl, rfl, rfl, rfl, rfl⟩ | ⟨rfl, rfl, rfl, rfl, rfl⟩ | ⟨rfl, rfl, rfl, rfl, rfl⟩ | ⟨rfl, rfl, rfl, rfl, rfl⟩ | ⟨rfl, rfl, rfl, rfl, rfl⟩ | ⟨rfl, rfl, rfl, rfl, rfl⟩
    all_goals
      go_enter Tryz.func163, Tryz.ntmps163
      go_wp2_with fail
      go_ret
      exact ⟨rfl, HB0.out⟩
  cases j <;> unfold Jv at h
  · obtain ⟨p, rfl⟩ := h; exact key _ _ _ _ _ _ _ _ _ _ _ (by simp)
  · obtain ⟨p, rfl⟩ := h; exact key _ _ _ _ _ _ _ _ _ _ _ (by simp)
  · obtain ⟨p, rfl⟩ := h; exact key _ _ _ _ _ _ _ _ _ _ _ (by simp)
  · obtain ⟨p, rfl⟩ := h; exact key _ _ _ _ _ _ _ _ _ _ _ (by simp)
  · obtain ⟨p, v, L, rfl, ⟨g, o, ad, cap, rfl, -⟩, -⟩ := h; exact key _ _ _ _ _ _ _ _ _ _ _ (by simp)
  · obtain ⟨p, v, L, rfl, ⟨g, o, ad, cap, rfl, -⟩, -⟩ := h; exact key _ _ _ _ _ _ _ _ _ _ _ (by simp)
theorem mems_at {w : World} {v : Value} {l : List (ByteArray × Jv.J)} {L : List (List Value)} (h : Rw w v 9 L) (hA : All JvP w l L) : ∃ g off ad cap, v = .slice ad l.length cap ∧ (0 < l.length → ad = some ⟨g, off, none⟩) ∧
    ∀ j (hj : j < l.length), ∃ k b n s a1 n1 c1 a2 n2 c2 p q, Jv w l[j].2 (vCells k b n s (.slice a1 n1 c1) (.slice a2 n2 c2) p) ∧
      w.cell? ⟨g, off + j * 9, none⟩ = some (.string l[j].1) ∧ w.cell? ⟨g, off + j * 9 + 1, none⟩ = some (.int .i64 k) ∧ w.cell? ⟨g, off + j * 9 + 2, none⟩ = some (.bool b) ∧ w.cell? ⟨g, off + j * 9 + 3, none⟩ = some (.int .i64 n) ∧ w.cell? ⟨g, off + j * 9 + 4, none⟩ = some (.string s) ∧ w.cell? ⟨g, off + j * 9 + 5, none⟩ = some (.slice a1 n1 c1) ∧ w.cell? ⟨g, off + j * 9 + 6, none⟩ = some (.slice a2 n2 c2) ∧ w.cell? ⟨g, off + j * 9 + 7, none⟩ = some (.int .i64 p) ∧ w.cell? ⟨g, off + j * 9 + 8, none⟩ = some (.int .i64 q) := by
  obtain ⟨g, off, ad, cap, rfl, h2, h3⟩ := h
  refine ⟨g, off, ad, cap, by rw [hA.1], by rw [← hA.1]; exact h2, fun j hj => ?_⟩
  have hL : j < L.length := by rw [hA.1]; exact hj
  have hP := hA.2 j hj hL
  unfold JvP at hP
  obtain ⟨d, q, e, hv⟩ := hP
  obtain ⟨k, b, n, s, a1, n1, c1, a2, n2, c2, p, rfl⟩ := Jv_form hv
  have at' : ∀ i (hi : i < 9), ∃ x, ((Value.string l[j].1 :: vCells k b n s (.slice a1 n1 c1) (.slice a2 n2 c2) p) ++ [Value.int .i64 q])[i]? = some x ∧ w.cell? ⟨g, off + j * 9 + i, none⟩ = some x := fun i hi => by
    have := h3 j hL i hi
    rw [e] at this
    exact this
  refine ⟨k, b, n, s, a1, n1, c1, a2, n2, c2, p, q, hv, ?_, ?_, ?_, ?_, ?_, ?_, ?_, ?_, ?_⟩
  · obtain ⟨x, hx, hc⟩ := at' 0 (by omega); simp [vCells] at hx; subst hx; exact hc
  · obtain ⟨x, hx, hc⟩ := at' 1 (by omega); simp [vCells] at hx; subst hx; exact hc
  · obtain ⟨x, hx, hc⟩ := at' 2 (by omega); simp [vCells] at hx; subst hx; exact hc
  · obtain ⟨x, hx, hc⟩ := at' 3 (by omega); simp [vCells] at hx; subst hx; exact hc
  · obtain ⟨x, hx, hc⟩ := at' 4 (by omega); simp [vCells] at hx; subst hx; exact hc
  · obtain ⟨x, hx, hc⟩ := at' 5 (by omega); simp [vCells] at hx; subst hx; exact hc
  · obtain ⟨x, hx, hc⟩ := at' 6 (by omega); simp [vCells] at hx; subst hx; exact hc
  · obtain ⟨x, hx, hc⟩ := at' 7 (by omega); simp [vCells] at hx; subst hx; exact hc
  · obtain ⟨x, hx, hc⟩ := at' 8 (by omega); simp [vCells] at hx; subst hx; exact hc
end Go.Proofs.YtjaojenalodolaaGreatDoor.Me
/- jsonwrite's valid, walked: the true case. -/
namespace Go.Proofs.YtjaojenalodolaaGreatDoor.Me
open Go Go.RowKit Go.Proofs.YtjaojenalodolaaGreatDoor Go.Proofs.YtjaojenalodolaaGreatDoor.Rw Go.Proofs.YtjaojenalodolaaGreatDoor.Vf Go.Proofs.YtjaojenalodolaaGreatDoor.Mw
set_option linter.unusedVariables false
set_option maxRecDepth 100000
set_option maxHeartbeats 16000000
abbrev U8 (w : World) : Prop := Lib.Utf8Tabs 2 3 w
theorem keys_fresh {mem : List (ByteArray × Jv.J)} (h : (mem.map (·.1)).Nodup) {k : Nat} (hk : k < mem.length) : ((mem.take k).any fun y => y.1.data.toList == mem[k].1.data.toList) = false := by
  rw [List.any_eq_false]
  intro y hy
  rw [List.mem_take_iff_getElem] at hy
  obtain ⟨i, hi, rfl⟩ := hy
  have hil : i < mem.length := by omega
  intro e
  have e2 := eq_of_beq e
  have e3 : mem[i].1 = mem[k].1 := Bs.ba_eq e2
  have h2 : (mem.map (·.1)).Pairwise (· ≠ ·) := h
  have := (List.pairwise_iff_getElem.1 h2) i k (by rw [List.length_map]; omega) (by rw [List.length_map]; exact hk) (by omega)
  rw [List.getElem_map, List.getElem_map] at this
  exact this e3
theorem valid_gen (k d n : Int) (b : Bool) (s : ByteArray) (l : List Jv.J) (mem : List (ByteArray × Jv.J)) (vi vm : Value) (p : Int) (W : World) (hk : 0 ≤ k ∧ k ≤ 5) (hd : 0 ≤ d ∧ d ≤ 100)
    (hs : Lib.validD s.data.toList = true) (hsz : s.size ≤ 140737488355327) (L M : List (List Value)) (hR : Rw W vi 7 L) (hL : All Jv W l L) (hl : l.length ≤ 1000000) (hRm : Rw W vm 9 M) (hM : All JvP W mem M) (hm : mem.length ≤ 1000000)
    (hnd : (mem.map (·.1)).Nodup) (hks : ∀ q ∈ mem, Lib.validD q.1.data.toList = true ∧ q.1.size ≤ 140737488355327) (hT : U8 W)
    (cU : ∀ u, Below W.heap.size W u → Calls Tryz.prog 163 #[.agg #[.int .i64 k, .bool b, .int .i64 n, .string s, vi, vm, .int .i64 p]] u fun e w' => e = .returned (.bool true) ∧ Below u.heap.size u w')
    (cV : ∀ j (hj : j < l.length) k b n s a1 n1 c1 a2 n2 c2 p u, Below W.heap.size W u → Jv W l[j] (vCells k b n s (.slice a1 n1 c1) (.slice a2 n2 c2) p) → Calls Tryz.prog 125 #[.agg #[.int .i64 k, .bool b, .int .i64 n, .string s, .slice a1 n1 c1, .slice a2 n2 c2, .int .i64 p], .int .i64 (d + 1)] u fun e w' => e = .returned (.bool true) ∧ Below u.heap.size u w')
    (cM : ∀ j (hj : j < mem.length) k b n s a1 n1 c1 a2 n2 c2 p u, Below W.heap.size W u → Jv W mem[j].2 (vCells k b n s (.slice a1 n1 c1) (.slice a2 n2 c2) p) → Calls Tryz.prog 125 #[.agg #[.int .i64 k, .bool b, .int .i64 n, .string s, .slice a1 n1 c1, .slice a2 n2 c2, .int .i64 p], .int .i64 (d + 1)] u fun e w' => e = .returned (.bool true) ∧ Below u.heap.size u w') :
    Calls Tryz.prog 125 #[.agg #[.int .i64 k, .bool b, .int .i64 n, .string s, vi, vm, .int .i64 p], .int .i64 d] W fun e w' => e = .returned (.bool true) ∧ Below W.heap.size W w' := by
  obtain ⟨g, off, ad, cap, rfl, had, hcl⟩ := vals_at hR hL
  obtain ⟨mg, mo, ma, mc, rfl, hma, hcm⟩ := mems_at hRm hM
  obtain ⟨ln, hln⟩ : ∃ n, l.length = n := ⟨_, rfl⟩
  obtain ⟨mn, hmn⟩ : ∃ n, mem.length = n := ⟨_, rfl⟩
  rw [hln] at had hl cU ⊢
  rw [hmn] at hma hm cU ⊢
  have HLn := Lib.hid hln
  have HMn := Lib.hid hmn
  have HAD := Lib.hid had
  have HMA := Lib.hid hma
  have HCL := Lib.hid hcl
  have HCM := Lib.hid hcm
  have HLL := Lib.hid hL.1
  have HJA := Lib.hid hL.2
  have HND := Lib.hid hnd
  have HKS := Lib.hid hks
  have HT := Lib.hid hT
  have CU := Lib.hid cU
  have CV := Lib.hid cV
  have CM := Lib.hid cM
  have CS := Lib.hid (fun u (hu : Below W.heap.size W u) => Tryz.utf8_ValidString s u (by omega) (Tx.u8_below hT hu))
  rw [hs] at CS
  obtain ⟨k0, k5⟩ := hk
  obtain ⟨d0, d1⟩ := hd
  have g1 : decide (k < 0) = false := decide_eq_false (by omega)
  have g2 : decide ((5 : Int) < k) = false := decide_eq_false (by omega)
  have g3 : decide ((100 : Int) < d) = false := decide_eq_false (by omega)
  have g4 : IntKind.i64.wrap (d + 1) = d + 1 := IntWalk.i64_in _ (by omega)
  have HB0 := Lib.hid ((Below.refl W.heap.size W).alloc (Nat.le_refl _) (.cells #[.int .i64 k, .bool b, .int .i64 n, .string s, .slice ad ln cap, .slice ma mn mc, .int .i64 p] 82))
  have HX := cells7 (w := W) (x0 := .int .i64 k) (x1 := .bool b) (x2 := .int .i64 n) (x3 := .string s) (x4 := .slice ad ln cap) (x5 := .slice ma mn mc) (x6 := .int .i64 p) (t := 82)
  clear hR hL hRm hM had hma hcl hcm hln hmn hnd hks hT cU cV cM hs hsz
  have hmm := @run_makeMap Tryz.prog
  go_enter Tryz.func125, Tryz.ntmps125
  obtain ⟨x0, x1, x2, x3, x4, x5, x6⟩ := HX
  go_wp2_with fail
  refine (CU.out _ HB0.out).mono ?_
  rintro e w1 ⟨rfl, hb1⟩
  have HB1 := Lib.hid (below_seq HB0.out hb1)
  replace x0 := cell_under x0 hb1
  replace x1 := cell_under x1 hb1
  replace x2 := cell_under x2 hb1
  replace x3 := cell_under x3 hb1
  replace x4 := cell_under x4 hb1
  replace x5 := cell_under x5 hb1
  replace x6 := cell_under x6 hb1
  clear hb1 HB0 CU
  go_wp2_with fail
  refine (CS.out _ HB1.out).mono ?_
  rintro e w2 ⟨rfl, hb2⟩
  have HB2 := Lib.hid (below_seq HB1.out hb2)
  replace x4 := cell_under x4 hb2
  replace x5 := cell_under x5 hb2
  clear hb2 HB1 CS x0 x1 x2 x3 x6
  go_wp2_with fail
  go_loopw [36] (fun x wr => ∃ i : Nat, i ≤ ln ∧ x = .int .i64 i ∧ Hid (Below w2.heap.size w2 wr)) (fun x _ => ln - (intOf x).toNat)
  case atStart => exact ⟨0, Nat.zero_le _, rfl, Lib.hid (Below.refl _ _)⟩
  case round =>
    obtain ⟨i, hi, rfl, hb⟩ := hrel
    by_cases hlt : i < ln
    · obtain rfl := HAD.out (by omega)
      have hil : i < l.length := by rw [HLn.out]; exact hlt
      have hiL : i < L.length := by rw [HLL.out]; exact hil
      obtain ⟨vk, vb, vn, vs, a1, n1, c1, a2, n2, c2, vp, eL, y0, y1, y2, y3, y4, y5, y6⟩ := HCL.out i hil hiL
      have hJ := HJA.out i hil hiL
      rw [eL] at hJ
      have hbw := below_seq HB2.out hb.out
      replace y0 := cell_under y0 hbw
      replace y1 := cell_under y1 hbw
      replace y2 := cell_under y2 hbw
      replace y3 := cell_under y3 hbw
      replace y4 := cell_under y4 hbw
      replace y5 := cell_under y5 hbw
      replace y6 := cell_under y6 hbw
      have i1 : (i : Int) < (ln : Int) := by omega
      have i0 : (0 : Int) ≤ (i : Int) := by omega
      have hba := (Below.refl wr.heap.size wr).alloc (Nat.le_refl _) (.cells #[.int .i64 vk, .bool vb, .int .i64 vn, .string vs, .slice a1 n1 c1, .slice a2 n2 c2, .int .i64 vp] 82)
      have HBA := Lib.hid (below_seq hb.out hba)
      have HX := cells7 (w := wr) (x0 := .int .i64 vk) (x1 := .bool vb) (x2 := .int .i64 vn) (x3 := .string vs) (x4 := .slice a1 n1 c1) (x5 := .slice a2 n2 c2) (x6 := .int .i64 vp) (t := 82)
      have CC := Lib.hid (CV.out i hil vk vb vn vs a1 n1 c1 a2 n2 c2 vp _ (below_seq HB2.out HBA.out) hJ)
      clear eL hJ hbw hba
      obtain ⟨z0, z1, z2, z3, z4, z5, z6⟩ := HX
      go_wp2_with fail
      refine CC.out.mono ?_
      rintro e w3 ⟨rfl, hb3⟩
      have HB3 := Lib.hid (below_seq HBA.out hb3)
      clear hb3 HBA CC z0 z1 z2 z3 z4 z5 z6 y0 y1 y2 y3 y4 y5 y6
      go_wp2_with fail
      go_roundw
      case rel => exact ⟨i + 1, by omega, by go_num, HB3⟩
      case measure => simp [intOf]; omega
    · have gl : decide ((i : Int) < (ln : Int)) = false := decide_eq_false (by omega)
      replace x5 := cell_under x5 hb.out
      have HB3 := Lib.hid (below_seq HB2.out hb.out)
      have HS0 := Lib.hid (Seen.new wr)
      have hbm := (Below.refl wr.heap.size wr).alloc (Nat.le_refl _) (.map #[] 0)
      have HB4 := Lib.hid (below_seq HB3.out hbm)
      replace x5 := cell_under x5 hbm
      have HWB := Lib.hid HB3.out.size
      clear hb hbm x4
      go_wp2_with fail
      obtain ⟨B, hB⟩ : ∃ B, wr.heap.size = B := ⟨_, rfl⟩
      generalize hwm : wr.alloc (.map #[] 0) = wm at HS0 HB4 x5 ⊢
      rw [hB] at HS0 HWB ⊢
      clear hwm hB
      go_loopw [50] (fun x wq => ∃ i : Nat, i ≤ mn ∧ x = .int .i64 i ∧ Hid (Seen wq B i (fun s => (mem.take i).any fun y => y.1.data.toList == s)) ∧ Hid (Below W.heap.size W wq)) (fun x _ => mn - (intOf x).toNat)
      case atStart => exact ⟨0, Nat.zero_le _, rfl, Lib.hid (HS0.out.congr (fun s => by simp)), HB4⟩
      case round =>
        obtain ⟨i, hi, rfl, hse, hbq⟩ := hrel
        by_cases hlt : i < mn
        · obtain rfl := HMA.out (by omega)
          have hil : i < mem.length := by rw [HMn.out]; exact hlt
          obtain ⟨vk, vb, vn, vs, a1, n1, c1, a2, n2, c2, vp, vq, hJ, y0, y1, y2, y3, y4, y5, y6, y7, y8⟩ := HCM.out i hil
          replace y0 := cell_under y0 hbq.out
          replace y1 := cell_under y1 hbq.out
          replace y2 := cell_under y2 hbq.out
          replace y3 := cell_under y3 hbq.out
          replace y4 := cell_under y4 hbq.out
          replace y5 := cell_under y5 hbq.out
          replace y6 := cell_under y6 hbq.out
          replace y7 := cell_under y7 hbq.out
          replace y8 := cell_under y8 hbq.out
          have HF := Lib.hid (keys_fresh HND.out hil)
          have HNX : Hid (∀ s, ((mem.take (i + 1)).any fun y => y.1.data.toList == s) = (mem[i].1.data.toList == s || (mem.take i).any fun y => y.1.data.toList == s)) := Lib.hid (fun s => any_take (l := mem) (fun s (y : ByteArray × Jv.J) => y.1.data.toList == s) hil s)
          have HKK := Lib.hid (HKS.out _ (List.getElem_mem hil))
          have CC := Lib.hid (fun u hu => CM.out i hil vk vb vn vs a1 n1 c1 a2 n2 c2 vp u hu hJ)
          clear hJ
          generalize mem[i].1 = key at y0 HF HKK HNX
          have i1 : (i : Int) < (mn : Int) := by omega
          have i0 : (0 : Int) ≤ (i : Int) := by omega
          have hba := (Below.refl wr.heap.size wr).alloc (Nat.le_refl _) (.cells #[.string key, .int .i64 vk, .bool vb, .int .i64 vn, .string vs, .slice a1 n1 c1, .slice a2 n2 c2, .int .i64 vp, .int .i64 vq] 144)
          have HBA := Lib.hid (below_seq hbq.out hba)
          have HX := cells9 (w := wr) (x0 := .string key) (x1 := .int .i64 vk) (x2 := .bool vb) (x3 := .int .i64 vn) (x4 := .string vs) (x5 := .slice a1 n1 c1) (x6 := .slice a2 n2 c2) (x7 := .int .i64 vp) (x8 := .int .i64 vq) (t := 144)
          have HSA := Lib.hid (hse.out.below hba)
          have lk := HSA.out.look key HKK.out.2 HF.out
          have CS := Lib.hid (fun u (hu : Below W.heap.size W u) => Tryz.utf8_ValidString key u (by have := HKK.out.2; omega) (Tx.u8_below HT.out hu))
          rw [HKK.out.1] at CS
          obtain ⟨z0, z1, z2, z3, z4, z5, z6, z7, z8⟩ := HX
          clear hba
          go_wp2_with fail
          refine (CS.out _ HBA.out).mono ?_
          rintro e w3 ⟨rfl, hb3⟩
          have HB3' := Lib.hid (below_seq HBA.out hb3)
          have HSB := Lib.hid (HSA.out.below hb3)
          replace z0 := cell_under z0 hb3
          replace z1 := cell_under z1 hb3
          replace z2 := cell_under z2 hb3
          replace z3 := cell_under z3 hb3
          replace z4 := cell_under z4 hb3
          replace z5 := cell_under z5 hb3
          replace z6 := cell_under z6 hb3
          replace z7 := cell_under z7 hb3
          clear hb3 HBA HSA CS lk z8 y0 y1 y2 y3 y4 y5 y6 y7 y8
          go_wp2_with fail
          refine (CC.out _ HB3'.out).mono ?_
          rintro e w4 ⟨rfl, hb4⟩
          have HB4' := Lib.hid (below_seq HB3'.out hb4)
          replace z0 := cell_under z0 hb4
          obtain ⟨w5, hput, hs5, hg5⟩ := (HSB.out.below hb4).put key HKK.out.2 (by unfold maxLen; omega)
          have HS5 := Lib.hid (hs5.congr (g := fun s => (mem.take (i + 1)).any fun y => y.1.data.toList == s) (fun s => by rw [HNX.out s]; simp only [Bool.beq_comm]))
          have HB5 := Lib.hid (Mw.below_grown HB4'.out HWB.out hg5)
          clear hs5 hg5 hb4 CC HB3' z1 z2 z3 z4 z5 z6 z7
          go_wp2_with fail
          go_roundw
          case rel => exact ⟨i + 1, by omega, by go_num, HS5, HB5⟩
          case measure => simp [intOf]; omega
        · have gm : decide ((i : Int) < (mn : Int)) = false := decide_eq_false (by omega)
          go_wp2_with fail
          go_ret
          exact ⟨rfl, hbq.out⟩
end Go.Proofs.YtjaojenalodolaaGreatDoor.Me
/- jsonwrite's valid and Check, over every value that may be written. -/
namespace Go.Proofs.YtjaojenalodolaaGreatDoor.Me
open Go Go.RowKit Go.Proofs.YtjaojenalodolaaGreatDoor Go.Proofs.YtjaojenalodolaaGreatDoor.Rw Go.Proofs.YtjaojenalodolaaGreatDoor.Vf Go.Proofs.YtjaojenalodolaaGreatDoor.Mw
set_option linter.unusedVariables false
set_option maxRecDepth 100000
set_option maxHeartbeats 16000000
mutual
def JB : Jv.J → Prop
  | .str s => s.size ≤ 1000000
  | .int n => -9223372036854775808 ≤ n ∧ n ≤ 9223372036854775807
  | .arr l => l.length ≤ 1000000 ∧ JBL l
  | .obj l => l.length ≤ 1000000 ∧ JBM l
  | _ => True
def JBL : List Jv.J → Prop
  | [] => True
  | a :: r => JB a ∧ JBL r
def JBM : List (ByteArray × Jv.J) → Prop
  | [] => True
  | a :: r => JBP a ∧ JBM r
def JBP : ByteArray × Jv.J → Prop
  | (k, a) => k.size ≤ 1000000 ∧ JB a
end
theorem JBL_iff (l : List Jv.J) : JBL l ↔ ∀ x ∈ l, JB x := by
  induction l with
  | nil => simp [JBL]
  | cons a r ih => simp [JBL, ih]
theorem JBM_iff (l : List (ByteArray × Jv.J)) : JBM l ↔ ∀ p ∈ l, p.1.size ≤ 1000000 ∧ JB p.2 := by
  induction l with
  | nil => simp [JBM]
  | cons a r ih => obtain ⟨k, a⟩ := a; simp [JBM, JBP, ih]
theorem jl_all {w : World} {l : List Jv.J} {L : List (List Value)} (h : JvL w l L) : All Jv w l L := ⟨(JvL_at h).1, (JvL_at h).2⟩
theorem jm_all {w : World} {l : List (ByteArray × Jv.J)} {L : List (List Value)} (h : JvM w l L) : All JvP w l L := ⟨(JvM_at h).1, (JvM_at h).2⟩
theorem jl_nil (w : World) : All Jv w [] [] := ⟨rfl, fun j hj => absurd hj (by simp)⟩
theorem jm_nil (w : World) : All JvP w [] [] := ⟨rfl, fun j hj => absurd hj (by simp)⟩
theorem valid_ok : ∀ (m d : Nat) (j : Jv.J) (cs : List Value) (w : World), d + m = 101 → Jv.Ok d j → JB j → Jv w j cs → U8 w →
    Calls Tryz.prog 125 #[.agg cs.toArray, .int .i64 d] w fun e w' => e = .returned (.bool true) ∧ Below w.heap.size w w'
  | 0, d, j, cs, w, hm, ho, hb, h, hT => by
    exfalso
    cases j <;> simp only [Jv.Ok] at ho <;> omega
  | m + 1, d, j, cs, w, hm, ho, hb, h, hT => by
    have cU := fun u (hu : Below w.heap.size w u) => unused_is j cs u (Jv.under hu j cs h)
    have ev : Lib.validD (⟨#[]⟩ : ByteArray).data.toList = true := rfl
    have e0 : (⟨#[]⟩ : ByteArray).size ≤ 140737488355327 := by decide
    cases j <;> unfold Jv at h
    · obtain ⟨p, rfl⟩ := h
      exact valid_gen 0 d 0 false ⟨#[]⟩ [] [] nilV nilV p w (by omega) (by omega) ev e0 [] [] (Rw.nil _ _) (jl_nil _) (by simp) (Rw.nil _ _) (jm_nil _) (by simp) (by simp) (by simp) hT cU (fun j hj => absurd hj (by simp)) (fun j hj => absurd hj (by simp))
    · rename_i b
      obtain ⟨p, rfl⟩ := h
      exact valid_gen 1 d 0 b ⟨#[]⟩ [] [] nilV nilV p w (by omega) (by omega) ev e0 [] [] (Rw.nil _ _) (jl_nil _) (by simp) (Rw.nil _ _) (jm_nil _) (by simp) (by simp) (by simp) hT cU (fun j hj => absurd hj (by simp)) (fun j hj => absurd hj (by simp))
    · rename_i n
      obtain ⟨p, rfl⟩ := h
      exact valid_gen 2 d n false ⟨#[]⟩ [] [] nilV nilV p w (by omega) (by omega) ev e0 [] [] (Rw.nil _ _) (jl_nil _) (by simp) (Rw.nil _ _) (jm_nil _) (by simp) (by simp) (by simp) hT cU (fun j hj => absurd hj (by simp)) (fun j hj => absurd hj (by simp))
    · rename_i s
      obtain ⟨p, rfl⟩ := h
      simp only [Jv.Ok] at ho
      unfold JB at hb
      exact valid_gen 3 d 0 false s [] [] nilV nilV p w (by omega) (by omega) ho.2 (by omega) [] [] (Rw.nil _ _) (jl_nil _) (by simp) (Rw.nil _ _) (jm_nil _) (by simp) (by simp) (by simp) hT cU (fun j hj => absurd hj (by simp)) (fun j hj => absurd hj (by simp))
    · rename_i l
      obtain ⟨p, v, L, rfl, h1, h2⟩ := h
      simp only [Jv.Ok] at ho
      unfold JB at hb
      rw [Jv.OkL_iff] at ho
      rw [JBL_iff] at hb
      refine valid_gen 4 d 0 false ⟨#[]⟩ l [] v nilV p w (by omega) (by omega) ev e0 L [] h1 (jl_all h2) hb.1 (Rw.nil _ _) (jm_nil _) (by simp) (by simp) (by simp) hT cU (fun j hj k b n s a1 n1 c1 a2 n2 c2 p u hu hj2 => ?_) (fun j hj => absurd hj (by simp))
      exact valid_ok m (d + 1) l[j] _ u (by omega) (ho.2 _ (List.getElem_mem hj)) (hb.2 _ (List.getElem_mem hj)) (Jv.under hu _ _ hj2) (Tx.u8_below hT hu)
    · rename_i l
      obtain ⟨p, v, L, rfl, h1, h2⟩ := h
      simp only [Jv.Ok] at ho
      unfold JB at hb
      rw [Jv.OkM_iff] at ho
      rw [JBM_iff] at hb
      refine valid_gen 5 d 0 false ⟨#[]⟩ [] l nilV v p w (by omega) (by omega) ev e0 [] L (Rw.nil _ _) (jl_nil _) (by simp) h1 (jm_all h2) hb.1 ho.2.1 (fun q hq => ⟨(ho.2.2 q hq).1, by have := (hb.2 q hq).1; omega⟩) hT cU (fun j hj => absurd hj (by simp)) (fun j hj k b n s a1 n1 c1 a2 n2 c2 p u hu hj2 => ?_)
      exact valid_ok m (d + 1) l[j].2 _ u (by omega) (ho.2.2 _ (List.getElem_mem hj)).2 (hb.2 _ (List.getElem_mem hj)).2 (Jv.under hu _ _ hj2) (Tx.u8_below hT hu)
theorem check_ok (k n : Int) (b : Bool) (s : ByteArray) (a1 : Option Addr) (n1 c1 : Nat) (a2 : Option Addr) (n2 c2 : Nat) (p : Int) (j : Jv.J) (w : World) (ho : Jv.Ok 1 j) (hb : JB j) (h : Jv w j (vCells k b n s (.slice a1 n1 c1) (.slice a2 n2 c2) p)) (hT : U8 w) :
    Calls Tryz.prog 82 #[.agg #[.int .i64 k, .bool b, .int .i64 n, .string s, .slice a1 n1 c1, .slice a2 n2 c2, .int .i64 p]] w fun e w' => e = .returned (.int .i64 0) ∧ Below w.heap.size w w' := by
  have hba := (Below.refl w.heap.size w).alloc (Nat.le_refl _) (.cells #[.int .i64 k, .bool b, .int .i64 n, .string s, .slice a1 n1 c1, .slice a2 n2 c2, .int .i64 p] 82)
  have CV := Lib.hid (valid_ok 100 1 j _ _ rfl ho hb (Jv.under hba _ _ h) (Tx.u8_below hT hba))
  have HB := Lib.hid hba
  have HX := cells7 (w := w) (x0 := .int .i64 k) (x1 := .bool b) (x2 := .int .i64 n) (x3 := .string s) (x4 := .slice a1 n1 c1) (x5 := .slice a2 n2 c2) (x6 := .int .i64 p) (t := 82)
  clear hba h hT ho hb
  go_enter Tryz.func82, Tryz.ntmps82
  obtain ⟨x0, x1, x2, x3, x4, x5, x6⟩ := HX
  go_wp2_with fail
  refine CV.out.mono ?_
  rintro e w1 ⟨rfl, hb1⟩
  have HB1 := Lib.hid (below_seq HB.out hb1)
  clear hb1 CV HB
  go_wp2_with fail
  go_ret
  exact ⟨rfl, HB1.out⟩
end Go.Proofs.YtjaojenalodolaaGreatDoor.Me
