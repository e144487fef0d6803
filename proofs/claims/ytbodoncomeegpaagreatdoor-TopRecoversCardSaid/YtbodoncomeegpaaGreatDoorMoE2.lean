/- jsonwrite's Member, Array and Object, and copies of rows, walked. Printed by genmoe2.py. -/
import Derived.Test.YtbodoncomeegpaaGreatDoorMoE1
namespace Go.Proofs.YtbodoncomeegpaaGreatDoor.Me
open Go Go.RowKit Go.Proofs.YtbodoncomeegpaaGreatDoor Go.Proofs.YtbodoncomeegpaaGreatDoor.Rw Go.Proofs.YtbodoncomeegpaaGreatDoor.Vf
set_option linter.unusedVariables false

set_option maxRecDepth 100000
set_option maxHeartbeats 16000000
theorem below_setRow {B g : Nat} {w0 w : World} (hb : Below B w0 w) (hBg : B ≤ g) (cs : Array Value) : Below B w0 (w.setRow g cs) :=
  hb.trans ⟨rfl, rfl, rfl, by simp [World.setRow], fun k hk => setRow_other w g k cs (by omega)⟩
theorem own_slice {w : World} {base n size : Nat} {e : TypeId} {v : Value} {xs : List Value} (h : w.ownsRow base e size v n xs) : ∃ ad c, v = .slice ad n c := by
  rcases h.2 with ⟨rfl, rfl⟩ | ⟨g, cap, cur, rfl, _⟩
  · exact ⟨none, 0, rfl⟩
  · exact ⟨_, cap, rfl⟩
theorem member_is (key : ByteArray) (k : Int) (b : Bool) (n : Int) (s : ByteArray) (a1 : Option Addr) (n1 c1 : Nat) (a2 : Option Addr) (n2 c2 : Nat) (p : Int) (w : World) :
    Calls Tryz.prog 74 #[.string key, .agg #[.int .i64 k, .bool b, .int .i64 n, .string s, .slice a1 n1 c1, .slice a2 n2 c2, .int .i64 p]] w fun e w' => e = .returned (.agg #[.string key, .int .i64 k, .bool b, .int .i64 n, .string s, .slice a1 n1 c1, .slice a2 n2 c2, .int .i64 p, .int .i64 0]) ∧ Below w.heap.size w w' := by
  show Calls Tryz.prog 74 #[.string key, .agg #[.int .i64 k, .bool b, .int .i64 n, .string s, .slice a1 n1 c1, .slice a2 n2 c2, .int .i64 p]] w _
  go_enter Tryz.func74, Tryz.ntmps74
  go_wp2_with fail
  refine bodyPost_ret (results_cell_row rfl _ _ (w.heap.size + 1) _ _ _ _ rfl (heap_alloc2_new _ _ _) Tryz.underlying129 rfl (by kernel_rfl)) rfl ?_
  exact ⟨rfl, ((Below.refl _ _).alloc (Nat.le_refl _) _).alloc ((Below.refl w.heap.size w).alloc (Nat.le_refl _) _).size _⟩
theorem info_sz {t : TypeId} {s b : Nat} (h : (Tryz.prog.info? t).map (fun i => (i.zero.map (fun z => z.cells.size), i.size, i.bytes)) = some (some s, s, b)) : ∃ i z, Tryz.prog.info? t = some i ∧ i.zero = some z ∧ i.size = s ∧ i.bytes = b ∧ z.cells.size = s := by
  cases e : Tryz.prog.info? t with
  | none => rw [e] at h; cases h
  | some i =>
    rw [e] at h
    simp only [Option.map_some, Option.some.injEq, Prod.mk.injEq] at h
    obtain ⟨h1, h2, h3⟩ := h
    cases e2 : i.zero with
    | none => rw [e2] at h1; cases h1
    | some z =>
      rw [e2] at h1
      simp only [Option.map_some, Option.some.injEq] at h1
      exact ⟨i, z, rfl, e2, h2, h3, h1⟩
theorem infoV : (Tryz.prog.info? 98).map (fun i => (i.zero.map (fun z => z.cells.size), i.size, i.bytes)) = some (some 7, 7, 96) := by kernel_rfl
theorem infoM : (Tryz.prog.info? 129).map (fun i => (i.zero.map (fun z => z.cells.size), i.size, i.bytes)) = some (some 9, 9, 120) := by kernel_rfl
theorem cloneV_is (v : Value) (n base : Nat) (xs : List Value) (W : World) (h : W.ownsRow base 98 7 v n xs) (h1 : ∀ u ∈ xs, u.oneCell' = true) (hn : n ≤ 1000000) :
    Calls Tryz.prog 77 #[v] W fun e w' => (∃ v2, e = .returned v2 ∧ w'.ownsRow W.heap.size 98 7 v2 n xs) ∧ Below W.heap.size W w' := by
  have hnil : ∀ (w : World) (a : Option Addr) (n c : Nat), (binOp .eql 95 (.slice a n c) (.slice none 0 0)).run Tryz.prog w = .ok (.bool a.isNone) w := fun w a n c => Lib.run_eql_slice_nil w _ _ a n c 0 0 Tryz.underlying95
  rcases h.2 with ⟨rfl, rfl⟩ | ⟨g, cap, cur, rfl, hb, hc, hr⟩
  · have hx : xs = [] := List.eq_nil_of_length_eq_zero (by simpa using h.1)
    go_enter Tryz.func77, Tryz.ntmps77
    go_wp2_with fail
    go_ret
    exact ⟨⟨_, rfl, by rw [hx]; exact ⟨rfl, .inl ⟨rfl, rfl⟩⟩⟩, Below.refl _ _⟩
  · have HB0 := Lib.hid ((Below.refl W.heap.size W).alloc (Nat.le_refl _) (.cells #[] 98))
    have HR := Lib.hid (own_alloc (.cells #[] 98) h)
    have HE := Lib.hid (own_empty (base := W.heap.size) (size := 7) (heap_alloc_new W (.cells #[] 98)) (Nat.le_refl _))
    have HX := Lib.hid h1
    clear h hc hr h1
    obtain ⟨i0, z0, hi, hz0, hz1, hz2, hz3⟩ := info_sz infoV
    go_enter Tryz.func77, Tryz.ntmps77
    go_wp2_with (at_builtin; refine wpList_append_row _ rfl _ _ 95 rfl W.heap.size base 98 i0 z0 7 96 Tryz.underlying95 hi hz0 hz1 hz2 hz3 (by decide) _ _ _ rfl HE.out _ n xs rfl HR.out HX.out ?a3 ?a4 ?a5 ?_)
    case a3 => unfold maxLen; omega
    case a4 => omega
    case a5 => exact HB0.out.size
    intro v1 w1 hown hgrow hv1
    have HB1 := Lib.hid (below_grew hgrow HB0.out (fun k hk => by cases hk; exact Nat.le_refl _) HB0.out.size)
    have HW := Lib.hid hown
    clear hgrow hown hv1
    go_wp2_with fail
    go_ret
    exact ⟨⟨_, rfl, HW.out⟩, HB1.out⟩
theorem cloneM_is (v : Value) (n base : Nat) (xs : List Value) (W : World) (h : W.ownsRow base 129 9 v n xs) (h1 : ∀ u ∈ xs, u.oneCell' = true) (hn : n ≤ 1000000) :
    Calls Tryz.prog 107 #[v] W fun e w' => (∃ v2, e = .returned v2 ∧ w'.ownsRow W.heap.size 129 9 v2 n xs) ∧ Below W.heap.size W w' := by
  have hnil : ∀ (w : World) (a : Option Addr) (n c : Nat), (binOp .eql 96 (.slice a n c) (.slice none 0 0)).run Tryz.prog w = .ok (.bool a.isNone) w := fun w a n c => Lib.run_eql_slice_nil w _ _ a n c 0 0 Tryz.underlying96
  rcases h.2 with ⟨rfl, rfl⟩ | ⟨g, cap, cur, rfl, hb, hc, hr⟩
  · have hx : xs = [] := List.eq_nil_of_length_eq_zero (by simpa using h.1)
    go_enter Tryz.func107, Tryz.ntmps107
    go_wp2_with fail
    go_ret
    exact ⟨⟨_, rfl, by rw [hx]; exact ⟨rfl, .inl ⟨rfl, rfl⟩⟩⟩, Below.refl _ _⟩
  · have HB0 := Lib.hid ((Below.refl W.heap.size W).alloc (Nat.le_refl _) (.cells #[] 129))
    have HR := Lib.hid (own_alloc (.cells #[] 129) h)
    have HE := Lib.hid (own_empty (base := W.heap.size) (size := 9) (heap_alloc_new W (.cells #[] 129)) (Nat.le_refl _))
    have HX := Lib.hid h1
    clear h hc hr h1
    obtain ⟨i0, z0, hi, hz0, hz1, hz2, hz3⟩ := info_sz infoM
    go_enter Tryz.func107, Tryz.ntmps107
    go_wp2_with (at_builtin; refine wpList_append_row _ rfl _ _ 96 rfl W.heap.size base 129 i0 z0 9 120 Tryz.underlying96 hi hz0 hz1 hz2 hz3 (by decide) _ _ _ rfl HE.out _ n xs rfl HR.out HX.out ?a3 ?a4 ?a5 ?_)
    case a3 => unfold maxLen; omega
    case a4 => omega
    case a5 => exact HB0.out.size
    intro v1 w1 hown hgrow hv1
    have HB1 := Lib.hid (below_grew hgrow HB0.out (fun k hk => by cases hk; exact Nat.le_refl _) HB0.out.size)
    have HW := Lib.hid hown
    clear hgrow hown hv1
    go_wp2_with fail
    go_ret
    exact ⟨⟨_, rfl, HW.out⟩, HB1.out⟩
theorem array_raw (v : Value) (n base : Nat) (xs : List Value) (W : World) (h : W.ownsRow base 98 7 v n xs) (h1 : ∀ u ∈ xs, u.oneCell' = true) (hn : n ≤ 1000000) :
    Calls Tryz.prog 45 #[v] W fun e w' => (∃ a2 n2, e = .returned (.agg #[.int .i64 4, .bool false, .int .i64 0, .string ⟨#[]⟩, .slice a2 n n2, .slice none 0 0, .int .i64 0]) ∧ w'.ownsRow W.heap.size 98 7 (.slice a2 n n2) n xs) ∧ Below W.heap.size W w' := by
  have HZ := Lib.hid (heap_alloc_new W (.cells #[.int .i64 0, .bool false, .int .i64 0, .string ByteArray.empty, .slice none 0 0, .slice none 0 0, .int .i64 0] 98))
  have HB0 := Lib.hid ((Below.refl W.heap.size W).alloc (Nat.le_refl _) (.cells #[.int .i64 0, .bool false, .int .i64 0, .string ByteArray.empty, .slice none 0 0, .slice none 0 0, .int .i64 0] 98))
  have HSZ := Lib.hid (show W.heap.size < (W.alloc (.cells #[.int .i64 0, .bool false, .int .i64 0, .string ByteArray.empty, .slice none 0 0, .slice none 0 0, .int .i64 0] 98)).heap.size from Rw.lt_of_heap HZ.out)
  have CC := Lib.hid (cloneV_is v n base xs _ (own_alloc (.cells #[.int .i64 0, .bool false, .int .i64 0, .string ByteArray.empty, .slice none 0 0, .slice none 0 0, .int .i64 0] 98) h) h1 hn)
  obtain ⟨ad, cap, rfl⟩ := own_slice h
  clear h h1
  go_enter Tryz.func45, Tryz.ntmps45
  go_wp2_with fail
  change Calls _ _ _ (W.alloc (.cells #[.int .i64 0, .bool false, .int .i64 0, .string ByteArray.empty, .slice none 0 0, .slice none 0 0, .int .i64 0] 98)) _
  generalize W.alloc (.cells #[.int .i64 0, .bool false, .int .i64 0, .string ByteArray.empty, .slice none 0 0, .slice none 0 0, .int .i64 0] 98) = w0 at HZ HB0 HSZ CC ⊢
  refine CC.out.mono ?_
  rintro e w1 ⟨⟨v2, rfl, ho2⟩, hb1⟩
  have HO2 := Lib.hid ho2
  have HB1 := Lib.hid (below_seq HB0.out hb1)
  have hz1 := (hb1.block _ HSZ.out).trans HZ.out
  obtain ⟨a2, n2, rfl⟩ := own_slice ho2
  clear ho2 hb1 CC
  go_wp2_with (refine wpList_store_row rfl 98 _ _ rfl W.heap.size #[.int .i64 4, .bool false, .int .i64 0, .string ⟨#[]⟩, .slice a2 n n2, .slice none 0 0, .int .i64 0] rfl rfl 98 _ hz1 (by kernel_rfl) rfl (by simp [Value.oneCell']) ?_)
  go_wp2_with fail
  have hz2 := setRow_heap w1 W.heap.size _ #[.int .i64 4, .bool false, .int .i64 0, .string ⟨#[]⟩, .slice a2 n n2, .slice none 0 0, .int .i64 0] _ _ hz1
  refine bodyPost_ret (results_cell_row rfl _ _ W.heap.size _ _ _ _ rfl hz2 Tryz.underlying98 rfl (by kernel_rfl)) rfl ?_
  have hb2 := below_setRow HB1.out (Nat.le_refl _) #[.int .i64 4, .bool false, .int .i64 0, .string ⟨#[]⟩, .slice a2 n n2, .slice none 0 0, .int .i64 0]
  exact ⟨⟨a2, n2, rfl, own_base (own_kept HO2.out fun g hg => setRow_other _ _ _ _ (by have := (own_lt HO2.out hg).1; have := HSZ.out; omega)) HB0.out.size⟩, hb2⟩
theorem array_is (S : Nat) (v : Value) (l : List Jv.J) (W : World) (h : VRow S W v l) (hS : S ≤ W.heap.size) (hl : l.length ≤ 1000000) :
    Calls Tryz.prog 45 #[v] W fun e w' => (∃ a2 n2, e = .returned (.agg #[.int .i64 4, .bool false, .int .i64 0, .string ⟨#[]⟩, .slice a2 l.length n2, .slice none 0 0, .int .i64 0]) ∧ Val S w' (.arr l) (vCells 4 false 0 ⟨#[]⟩ (.slice a2 l.length n2) nilV 0)) ∧ Below W.heap.size W w' := by
  obtain ⟨L, hL, ho, hE⟩ := h
  refine (array_raw v l.length S L.flatten W ho hL.2 hl).mono ?_
  rintro e w' ⟨⟨a2, n2, rfl, ho2⟩, hb⟩
  exact ⟨⟨a2, n2, rfl, Val.arr hL (hE W (fun _ _ _ _ => rfl)).1 hE hb ho2 hS⟩, hb⟩
theorem object_raw (v : Value) (n base : Nat) (xs : List Value) (W : World) (h : W.ownsRow base 129 9 v n xs) (h1 : ∀ u ∈ xs, u.oneCell' = true) (hn : n ≤ 1000000) :
    Calls Tryz.prog 75 #[v] W fun e w' => (∃ a2 n2, e = .returned (.agg #[.int .i64 5, .bool false, .int .i64 0, .string ⟨#[]⟩, .slice none 0 0, .slice a2 n n2, .int .i64 0]) ∧ w'.ownsRow W.heap.size 129 9 (.slice a2 n n2) n xs) ∧ Below W.heap.size W w' := by
  have HZ := Lib.hid (heap_alloc_new W (.cells #[.int .i64 0, .bool false, .int .i64 0, .string ByteArray.empty, .slice none 0 0, .slice none 0 0, .int .i64 0] 98))
  have HB0 := Lib.hid ((Below.refl W.heap.size W).alloc (Nat.le_refl _) (.cells #[.int .i64 0, .bool false, .int .i64 0, .string ByteArray.empty, .slice none 0 0, .slice none 0 0, .int .i64 0] 98))
  have HSZ := Lib.hid (show W.heap.size < (W.alloc (.cells #[.int .i64 0, .bool false, .int .i64 0, .string ByteArray.empty, .slice none 0 0, .slice none 0 0, .int .i64 0] 98)).heap.size from Rw.lt_of_heap HZ.out)
  have CC := Lib.hid (cloneM_is v n base xs _ (own_alloc (.cells #[.int .i64 0, .bool false, .int .i64 0, .string ByteArray.empty, .slice none 0 0, .slice none 0 0, .int .i64 0] 98) h) h1 hn)
  obtain ⟨ad, cap, rfl⟩ := own_slice h
  clear h h1
  go_enter Tryz.func75, Tryz.ntmps75
  go_wp2_with fail
  change Calls _ _ _ (W.alloc (.cells #[.int .i64 0, .bool false, .int .i64 0, .string ByteArray.empty, .slice none 0 0, .slice none 0 0, .int .i64 0] 98)) _
  generalize W.alloc (.cells #[.int .i64 0, .bool false, .int .i64 0, .string ByteArray.empty, .slice none 0 0, .slice none 0 0, .int .i64 0] 98) = w0 at HZ HB0 HSZ CC ⊢
  refine CC.out.mono ?_
  rintro e w1 ⟨⟨v2, rfl, ho2⟩, hb1⟩
  have HO2 := Lib.hid ho2
  have HB1 := Lib.hid (below_seq HB0.out hb1)
  have hz1 := (hb1.block _ HSZ.out).trans HZ.out
  obtain ⟨a2, n2, rfl⟩ := own_slice ho2
  clear ho2 hb1 CC
  go_wp2_with (refine wpList_store_row rfl 98 _ _ rfl W.heap.size #[.int .i64 5, .bool false, .int .i64 0, .string ⟨#[]⟩, .slice none 0 0, .slice a2 n n2, .int .i64 0] rfl rfl 98 _ hz1 (by kernel_rfl) rfl (by simp [Value.oneCell']) ?_)
  go_wp2_with fail
  have hz2 := setRow_heap w1 W.heap.size _ #[.int .i64 5, .bool false, .int .i64 0, .string ⟨#[]⟩, .slice none 0 0, .slice a2 n n2, .int .i64 0] _ _ hz1
  refine bodyPost_ret (results_cell_row rfl _ _ W.heap.size _ _ _ _ rfl hz2 Tryz.underlying98 rfl (by kernel_rfl)) rfl ?_
  have hb2 := below_setRow HB1.out (Nat.le_refl _) #[.int .i64 5, .bool false, .int .i64 0, .string ⟨#[]⟩, .slice none 0 0, .slice a2 n n2, .int .i64 0]
  exact ⟨⟨a2, n2, rfl, own_base (own_kept HO2.out fun g hg => setRow_other _ _ _ _ (by have := (own_lt HO2.out hg).1; have := HSZ.out; omega)) HB0.out.size⟩, hb2⟩
theorem object_is (S : Nat) (v : Value) (l : List (ByteArray × Jv.J)) (W : World) (h : MRow S W v l) (hS : S ≤ W.heap.size) (hl : l.length ≤ 1000000) :
    Calls Tryz.prog 75 #[v] W fun e w' => (∃ a2 n2, e = .returned (.agg #[.int .i64 5, .bool false, .int .i64 0, .string ⟨#[]⟩, .slice none 0 0, .slice a2 l.length n2, .int .i64 0]) ∧ Val S w' (.obj l) (vCells 5 false 0 ⟨#[]⟩ nilV (.slice a2 l.length n2) 0)) ∧ Below W.heap.size W w' := by
  obtain ⟨L, hL, ho, hE⟩ := h
  refine (object_raw v l.length S L.flatten W ho hL.2 hl).mono ?_
  rintro e w' ⟨⟨a2, n2, rfl, ho2⟩, hb⟩
  exact ⟨⟨a2, n2, rfl, Val.obj hL (hE W (fun _ _ _ _ => rfl)).1 hE hb ho2 hS⟩, hb⟩
end Go.Proofs.YtbodoncomeegpaaGreatDoor.Me
