/- Parts of this proof, joined: VfR15, VfR16, VfR17, VfA1, VfA2, VfA3, VfA5, VfA4, VfW32, VfO2. -/
import Derived.Laws.Small
import Derived.Lib.SmallJoins
import Derived.Test.YtcobjjaicckgpaaK05
/- The laws' perform. -/
namespace Go.Proofs.Ytcobjjaicckgpaa.Vf
open Go Go.RowKit Go.Maps Go.Proofs.Ytcobjjaicckgpaa Go.Proofs.Ytcobjjaicckgpaa.Bs
set_option linter.unusedVariables false

def actCells (c : Ac) (v1 v2 : Value) : Array Value := #[.int .i64 c.kind, .string c.name, .string c.new, .string c.data, .int .i64 c.after, .int .i64 c.err, v1, v2]
theorem act_cells {w : World} {S : Nat} {c : Ac} {v1 v2 : Value} (h : w.heap[S]? = some (Obj.cells (actCells c v1 v2) 44 (0, 0))) : w.cell? ⟨S, 0, none⟩ = some (.int .i64 c.kind) ∧ w.cell? ⟨S, 1, none⟩ = some (.string c.name) ∧ w.cell? ⟨S, 2, none⟩ = some (.string c.new) ∧ w.cell? ⟨S, 3, none⟩ = some (.string c.data) ∧ w.cell? ⟨S, 4, none⟩ = some (.int .i64 c.after) ∧ w.cell? ⟨S, 5, none⟩ = some (.int .i64 c.err) ∧ w.cell? ⟨S, 6, none⟩ = some v1 ∧ w.cell? ⟨S, 7, none⟩ = some v2 := by
  unfold World.cell?
  simp only [h]
  exact ⟨rfl, rfl, rfl, rfl, rfl, rfl, rfl, rfl⟩
theorem cell_fr {w w' : World} {p : Nat → Prop} {a : Addr} {v : Value} (h : w.cell? a = some v) (hf : Fr w w' p) (hp : ¬ p a.block) : w'.cell? a = some v := by
  have hlt : a.block < w.heap.size := by
    rcases Nat.lt_or_ge a.block w.heap.size with h1 | h1
    · exact h1
    · unfold World.cell? at h
      rw [Array.getElem?_eq_none h1] at h
      cases h
  unfold World.cell? at h ⊢
  rw [hf.block _ hlt hp]
  exact h
set_option maxRecDepth 100000 in
set_option maxHeartbeats 16000000 in
theorem perform4 (W w : World) (f n : Nat) (o : RL) (a : AS) (p : Nat → Prop) (c : Ac) (v1 v2 : Value) (t : Two W w f o a p) (hk : a.Rk n) (hn : n ≤ 400000) (h4 : c.kind = 4) :
    Calls Try.prog 18 #[.pointer (some ⟨f, 0, none⟩), .pointer (some ⟨o.G, 0, none⟩), .agg (actCells c v1 v2)] w fun e w' => e = .returned (.tuple #[.int .i64 (AS.op AS.syncdir id a).1, .int .i64 (AS.op AS.syncdir id a).1]) ∧ ∃ o' p', o'.G = o.G ∧ Two W w' f o' (AS.op AS.syncdir id a).2 p' ∧ Fr w w' (fun k => p k ∨ rfoot o k) := by
  obtain ⟨kd, nm, nw, dt, af, er, ch, ls⟩ := c
  subst h4
  have HB := Lib.hid ((Below.refl w.heap.size w).alloc (Nat.le_refl _) (.cells (actCells ⟨4, nm, nw, dt, af, er, ch, ls⟩ v1 v2) 44))
  have HT := Lib.hid (t.under HB.out)
  have HFB := Lib.hid (Fr.of_below HB.out (fun k => p k ∨ rfoot o k))
  have HX := Lib.hid (heap_alloc_new w (.cells (actCells ⟨4, nm, nw, dt, af, er, ch, ls⟩ v1 v2) 44))
  obtain ⟨x0, -⟩ := act_cells HX.out
  have HK := Lib.hid hk
  clear t hk
  unfold actCells at *
  go_enter Try.func18, Try.ntmps18
  go_wp2_with fail
  refine (syncdir_fs HT.out.f HK.out.ok hn).mono ?_
  rintro e w1 ⟨rfl, p', hF, hFr, hp⟩
  have HF := Lib.hid (And.intro hF (And.intro hFr hp))
  clear hF hFr hp
  go_wp2_with fail
  refine (rsyncdir_is _ n o a w1 (HT.out.g.apart HT.out.f HF.out.2.1) HK.out hn).mono ?_
  rintro e w2 ⟨rfl, o', hG, hR, hFr2, -⟩
  have HR := Lib.hid (And.intro hG (HT.out.step HF.out.1 HF.out.2.1 HF.out.2.2 hR hFr2))
  clear hG hR hFr2
  go_wp2_with fail
  go_ret2
  exact ⟨rfl, o', p', HR.out.1, HR.out.2.1, HFB.out.trans HR.out.2.2 (fun _ _ e => e)⟩
set_option maxRecDepth 100000 in
set_option maxHeartbeats 16000000 in
theorem perform1 (W w : World) (f n : Nat) (o : RL) (a : AS) (p : Nat → Prop) (c : Ac) (v1 v2 : Value) (t : Two W w f o a p) (hk : a.Rk n) (hn : n ≤ 400000) (h4 : c.kind = 1) (hnm : c.name.size ≤ 1000000) :
    Calls Try.prog 18 #[.pointer (some ⟨f, 0, none⟩), .pointer (some ⟨o.G, 0, none⟩), .agg (actCells c v1 v2)] w fun e w' => e = .returned (.tuple #[.int .i64 (AS.op (AS.sync c.name) id a).1, .int .i64 (AS.op (AS.sync c.name) id a).1]) ∧ ∃ o' p', o'.G = o.G ∧ Two W w' f o' (AS.op (AS.sync c.name) id a).2 p' ∧ Fr w w' (fun k => p k ∨ rfoot o k) := by
  obtain ⟨kd, nm, nw, dt, af, er, ch, ls⟩ := c
  subst h4
  have HB := Lib.hid ((Below.refl w.heap.size w).alloc (Nat.le_refl _) (.cells (actCells ⟨1, nm, nw, dt, af, er, ch, ls⟩ v1 v2) 44))
  have HT := Lib.hid (t.under HB.out)
  have HFB := Lib.hid (Fr.of_below HB.out (fun k => p k ∨ rfoot o k))
  have HX := Lib.hid (heap_alloc_new w (.cells (actCells ⟨1, nm, nw, dt, af, er, ch, ls⟩ v1 v2) 44))
  have HP0 : Hid (∀ k, p k → k < w.heap.size) := fun k hk => (t.f.lt k hk).1
  have HP1 : Hid (∀ k, rfoot o k → k < w.heap.size) := fun k hk => (t.g.lt hk).1
  obtain ⟨x0, x1, -⟩ := act_cells HX.out
  have HK := Lib.hid hk
  have HNM := Lib.hid hnm
  clear t hk hnm
  unfold actCells at *
  go_enter Try.func18, Try.ntmps18
  go_upto_region 5 with fail
  generalize (w.alloc (.cells #[.int .i64 1, .string nm, .string nw, .string dt, .int .i64 af, .int .i64 er, v1, v2] 44)) = w0 at HB HT HFB HX x0 x1 ⊢
  obtain ⟨S, hS⟩ : ∃ S, w.heap.size = S := ⟨_, rfl⟩
  rw [hS] at HP0 HP1 HX HB x0 x1 ⊢
  have cF := Lib.hid (fun (u : World) (hu : Two W u f o a p) => sync_fs hu.f HK.out.ok hn nm HNM.out)
  go_region_held3 (fun w' => w'.cell? ⟨S, 1, none⟩ = some (.string nm)) (go_keep)
    (first
      | (go_at_call_of 10 (Value.pointer (some ⟨f, 0, none⟩)); refine (cF.out _ (by exact ⟨HT.out.f.kept (fun _ _ => rfl) (fun _ _ _ _ => rfl), HT.out.g.kept (fun _ _ _ _ _ _ => rfl), HT.out.below.drew⟩)).mono ?_; rintro e wA ⟨rfl, p', hF, hFr, hp⟩; have HF := Lib.hid (And.intro hF (And.intro ((fr_drew w0 p).trans hFr (fun _ _ e => e)) hp)); have HG1 := Lib.hid (HT.out.g.apart HT.out.f HF.out.2.1); have xA := cell_fr x1 HF.out.2.1 (fun e => Nat.lt_irrefl _ (HP0.out S e)); clear hF hFr hp)
      | (go_at_call_of 45 (Value.pointer (some ⟨o.G, 0, none⟩)); refine (rsync_is _ n o a nm _ (by exact HG1.out.kept (fun _ _ _ _ _ _ => rfl)) HK.out hn).mono ?_; rintro e wB ⟨rfl, o', hG, hR, hFr2, -⟩; have HR := Lib.hid (And.intro hG (HT.out.step HF.out.1 HF.out.2.1 HF.out.2.2 hR hFr2)); have xB := cell_fr xA hFr2 (fun e => Nat.lt_irrefl _ (HP1.out S e)); clear hG hR hFr2))
  all_goals
    go_wp2_with fail
    go_ret2
    exact ⟨rfl, o', p', HR.out.1, HR.out.2.1, HFB.out.trans HR.out.2.2 (fun _ _ e => e)⟩
set_option maxRecDepth 100000 in
set_option maxHeartbeats 16000000 in
theorem perform2 (W w : World) (f n : Nat) (o : RL) (a : AS) (p : Nat → Prop) (c : Ac) (v1 v2 : Value) (t : Two W w f o a p) (hk : a.Rk n) (hn : n ≤ 400000) (h4 : c.kind = 2) (hnm : c.name.size ≤ 1000000) (hnw : c.new.size ≤ 1000000) :
    Calls Try.prog 18 #[.pointer (some ⟨f, 0, none⟩), .pointer (some ⟨o.G, 0, none⟩), .agg (actCells c v1 v2)] w fun e w' => e = .returned (.tuple #[.int .i64 (AS.op (AS.rename c.name c.new) id a).1, .int .i64 (AS.op (AS.rename c.name c.new) id a).1]) ∧ ∃ o' p', o'.G = o.G ∧ Two W w' f o' (AS.op (AS.rename c.name c.new) id a).2 p' ∧ Fr w w' (fun k => p k ∨ rfoot o k) := by
  obtain ⟨kd, nm, nw, dt, af, er, ch, ls⟩ := c
  subst h4
  have HB := Lib.hid ((Below.refl w.heap.size w).alloc (Nat.le_refl _) (.cells (actCells ⟨2, nm, nw, dt, af, er, ch, ls⟩ v1 v2) 44))
  have HT := Lib.hid (t.under HB.out)
  have HFB := Lib.hid (Fr.of_below HB.out (fun k => p k ∨ rfoot o k))
  have HX := Lib.hid (heap_alloc_new w (.cells (actCells ⟨2, nm, nw, dt, af, er, ch, ls⟩ v1 v2) 44))
  have HP0 : Hid (∀ k, p k → k < w.heap.size) := fun k hk => (t.f.lt k hk).1
  have HP1 : Hid (∀ k, rfoot o k → k < w.heap.size) := fun k hk => (t.g.lt hk).1
  obtain ⟨x0, x1, x2, -⟩ := act_cells HX.out
  have HK := Lib.hid hk
  have HNM := Lib.hid (And.intro hnm hnw)
  clear t hk hnm hnw
  unfold actCells at *
  go_enter Try.func18, Try.ntmps18
  go_upto_region 7 with fail
  generalize (w.alloc (.cells #[.int .i64 2, .string nm, .string nw, .string dt, .int .i64 af, .int .i64 er, v1, v2] 44)) = w0 at HB HT HFB HX x0 x1 x2 ⊢
  obtain ⟨S, hS⟩ : ∃ S, w.heap.size = S := ⟨_, rfl⟩
  rw [hS] at HP0 HP1 HX HB x0 x1 x2 ⊢
  have cF := Lib.hid (fun (u : World) (hu : Two W u f o a p) => rename_fs hu.f HK.out.ok hn nm nw HNM.out.1 HNM.out.2)
  go_region_held3 (fun w' => w'.cell? ⟨S, 1, none⟩ = some (.string nm) ∧ w'.cell? ⟨S, 2, none⟩ = some (.string nw)) (go_keep)
    (first
      | (go_at_call_of 12 (Value.pointer (some ⟨f, 0, none⟩)); refine (cF.out _ (by exact ⟨HT.out.f.kept (fun _ _ => rfl) (fun _ _ _ _ => rfl), HT.out.g.kept (fun _ _ _ _ _ _ => rfl), HT.out.below.drew⟩)).mono ?_; rintro e wA ⟨rfl, p', hF, hFr, hp⟩; have HF := Lib.hid (And.intro hF (And.intro ((fr_drew w0 p).trans hFr (fun _ _ e => e)) hp)); have HG1 := Lib.hid (HT.out.g.apart HT.out.f HF.out.2.1); have x1A := cell_fr x1 HF.out.2.1 (fun e => Nat.lt_irrefl _ (HP0.out S e)); have x2A := cell_fr x2 HF.out.2.1 (fun e => Nat.lt_irrefl _ (HP0.out S e)); clear hF hFr hp)
      | (go_at_call_of 46 (Value.pointer (some ⟨o.G, 0, none⟩)); refine (rrename_is _ n o a nm nw _ (by exact HG1.out.kept (fun _ _ _ _ _ _ => rfl)) HK.out hn).mono ?_; rintro e wB ⟨rfl, o', hG, hR, hFr2, -⟩; have HR := Lib.hid (And.intro hG (HT.out.step HF.out.1 HF.out.2.1 HF.out.2.2 hR hFr2)); have x1B := cell_fr x1A hFr2 (fun e => Nat.lt_irrefl _ (HP1.out S e)); have x2B := cell_fr x2A hFr2 (fun e => Nat.lt_irrefl _ (HP1.out S e)); clear hG hR hFr2))
  all_goals
    go_wp2_with fail
    go_ret2
    exact ⟨rfl, o', p', HR.out.1, HR.out.2.1, HFB.out.trans HR.out.2.2 (fun _ _ e => e)⟩
set_option maxRecDepth 100000 in
set_option maxHeartbeats 16000000 in
theorem perform3 (W w : World) (f n : Nat) (o : RL) (a : AS) (p : Nat → Prop) (c : Ac) (v1 v2 : Value) (t : Two W w f o a p) (hk : a.Rk n) (hn : n ≤ 400000) (h4 : c.kind = 3) (hnm : c.name.size ≤ 1000000) :
    Calls Try.prog 18 #[.pointer (some ⟨f, 0, none⟩), .pointer (some ⟨o.G, 0, none⟩), .agg (actCells c v1 v2)] w fun e w' => e = .returned (.tuple #[.int .i64 (AS.op (AS.remove c.name) id a).1, .int .i64 (AS.op (AS.remove c.name) id a).1]) ∧ ∃ o' p', o'.G = o.G ∧ Two W w' f o' (AS.op (AS.remove c.name) id a).2 p' ∧ Fr w w' (fun k => p k ∨ rfoot o k) := by
  obtain ⟨kd, nm, nw, dt, af, er, ch, ls⟩ := c
  subst h4
  have HB := Lib.hid ((Below.refl w.heap.size w).alloc (Nat.le_refl _) (.cells (actCells ⟨3, nm, nw, dt, af, er, ch, ls⟩ v1 v2) 44))
  have HT := Lib.hid (t.under HB.out)
  have HFB := Lib.hid (Fr.of_below HB.out (fun k => p k ∨ rfoot o k))
  have HX := Lib.hid (heap_alloc_new w (.cells (actCells ⟨3, nm, nw, dt, af, er, ch, ls⟩ v1 v2) 44))
  have HP0 : Hid (∀ k, p k → k < w.heap.size) := fun k hk => (t.f.lt k hk).1
  have HP1 : Hid (∀ k, rfoot o k → k < w.heap.size) := fun k hk => (t.g.lt hk).1
  obtain ⟨x0, x1, -⟩ := act_cells HX.out
  have HK := Lib.hid hk
  have HNM := Lib.hid hnm
  clear t hk hnm
  unfold actCells at *
  go_enter Try.func18, Try.ntmps18
  go_upto_region 9 with fail
  generalize (w.alloc (.cells #[.int .i64 3, .string nm, .string nw, .string dt, .int .i64 af, .int .i64 er, v1, v2] 44)) = w0 at HB HT HFB HX x0 x1 ⊢
  obtain ⟨S, hS⟩ : ∃ S, w.heap.size = S := ⟨_, rfl⟩
  rw [hS] at HP0 HP1 HX HB x0 x1 ⊢
  have cF := Lib.hid (fun (u : World) (hu : Two W u f o a p) => remove_fs hu.f HK.out.ok hn nm HNM.out)
  go_region_held3 (fun w' => w'.cell? ⟨S, 1, none⟩ = some (.string nm)) (go_keep)
    (first
      | (go_at_call_of 28 (Value.pointer (some ⟨f, 0, none⟩)); refine (cF.out _ (by exact ⟨HT.out.f.kept (fun _ _ => rfl) (fun _ _ _ _ => rfl), HT.out.g.kept (fun _ _ _ _ _ _ => rfl), HT.out.below.drew⟩)).mono ?_; rintro e wA ⟨rfl, p', hF, hFr, hp⟩; have HF := Lib.hid (And.intro hF (And.intro ((fr_drew w0 p).trans hFr (fun _ _ e => e)) hp)); have HG1 := Lib.hid (HT.out.g.apart HT.out.f HF.out.2.1); have xA := cell_fr x1 HF.out.2.1 (fun e => Nat.lt_irrefl _ (HP0.out S e)); clear hF hFr hp)
      | (go_at_call_of 47 (Value.pointer (some ⟨o.G, 0, none⟩)); refine (rremove_is _ n o a nm _ (by exact HG1.out.kept (fun _ _ _ _ _ _ => rfl)) HK.out hn).mono ?_; rintro e wB ⟨rfl, o', hG, hR, hFr2, -⟩; have HR := Lib.hid (And.intro hG (HT.out.step HF.out.1 HF.out.2.1 HF.out.2.2 hR hFr2)); have xB := cell_fr xA hFr2 (fun e => Nat.lt_irrefl _ (HP1.out S e)); clear hG hR hFr2))
  all_goals
    go_wp2_with fail
    go_ret2
    exact ⟨rfl, o', p', HR.out.1, HR.out.2.1, HFB.out.trans HR.out.2.2 (fun _ _ e => e)⟩
set_option maxRecDepth 100000 in
set_option maxHeartbeats 16000000 in
theorem perform5 (W w : World) (f n : Nat) (o : RL) (a : AS) (p : Nat → Prop) (c : Ac) (v1 v2 : Value) (t : Two W w f o a p) (hk : a.Rk n) (hn : n ≤ 400000) (h4 : c.kind = 5) (hnm : True) :
    Calls Try.prog 18 #[.pointer (some ⟨f, 0, none⟩), .pointer (some ⟨o.G, 0, none⟩), .agg (actCells c v1 v2)] w fun e w' => e = .returned (.tuple #[.int .i64 (AS.arm c.after c.err a).1, .int .i64 (AS.arm c.after c.err a).1]) ∧ ∃ o' p', o'.G = o.G ∧ Two W w' f o' (AS.arm c.after c.err a).2 p' ∧ Fr w w' (fun k => p k ∨ rfoot o k) := by
  obtain ⟨kd, nm, nw, dt, af, er, ch, ls⟩ := c
  subst h4
  have HB := Lib.hid ((Below.refl w.heap.size w).alloc (Nat.le_refl _) (.cells (actCells ⟨5, nm, nw, dt, af, er, ch, ls⟩ v1 v2) 44))
  have HT := Lib.hid (t.under HB.out)
  have HFB := Lib.hid (Fr.of_below HB.out (fun k => p k ∨ rfoot o k))
  have HX := Lib.hid (heap_alloc_new w (.cells (actCells ⟨5, nm, nw, dt, af, er, ch, ls⟩ v1 v2) 44))
  have HP0 : Hid (∀ k, p k → k < w.heap.size) := fun k hk => (t.f.lt k hk).1
  have HP1 : Hid (∀ k, rfoot o k → k < w.heap.size) := fun k hk => (t.g.lt hk).1
  obtain ⟨x0, -, -, -, x4, x5, -⟩ := act_cells HX.out
  have HK := Lib.hid hk
  have HNM := Lib.hid hnm
  clear t hk hnm
  unfold actCells at *
  go_enter Try.func18, Try.ntmps18
  go_upto_region 13 with fail
  generalize (w.alloc (.cells #[.int .i64 5, .string nm, .string nw, .string dt, .int .i64 af, .int .i64 er, v1, v2] 44)) = w0 at HB HT HFB HX x0 x4 x5 ⊢
  obtain ⟨S, hS⟩ : ∃ S, w.heap.size = S := ⟨_, rfl⟩
  rw [hS] at HP0 HP1 HX HB x0 x4 x5 ⊢
  have cF := Lib.hid (fun (u : World) (hu : Two W u f o a p) => arm_fs hu.f af er)
  go_region_held3 (fun w' => w'.cell? ⟨S, 4, none⟩ = some (.int .i64 af) ∧ w'.cell? ⟨S, 5, none⟩ = some (.int .i64 er)) (go_keep)
    (first
      | (go_at_call_of 21 (Value.pointer (some ⟨f, 0, none⟩)); refine (cF.out _ (by exact ⟨HT.out.f.kept (fun _ _ => rfl) (fun _ _ _ _ => rfl), HT.out.g.kept (fun _ _ _ _ _ _ => rfl), HT.out.below.drew⟩)).mono ?_; rintro e wA ⟨rfl, p', hF, hFr, hp⟩; have HF := Lib.hid (And.intro hF (And.intro ((fr_drew w0 p).trans hFr (fun _ _ e => e)) hp)); have HG1 := Lib.hid (HT.out.g.apart HT.out.f HF.out.2.1); have x4A := cell_fr x4 HF.out.2.1 (fun e => Nat.lt_irrefl _ (HP0.out S e)); have x5A := cell_fr x5 HF.out.2.1 (fun e => Nat.lt_irrefl _ (HP0.out S e)); clear hF hFr hp)
      | (go_at_call_of 22 (Value.pointer (some ⟨o.G, 0, none⟩)); refine (rarm_is _ o a af er _ (by exact HG1.out.kept (fun _ _ _ _ _ _ => rfl))).mono ?_; rintro e wB ⟨rfl, o', hG, hR, hFr2, -⟩; have HR := Lib.hid (And.intro hG (HT.out.step HF.out.1 HF.out.2.1 HF.out.2.2 hR hFr2)); have x4B := cell_fr x4A hFr2 (fun e => Nat.lt_irrefl _ (HP1.out S e)); have x5B := cell_fr x5A hFr2 (fun e => Nat.lt_irrefl _ (HP1.out S e)); clear hG hR hFr2))
  all_goals
    go_wp2_with fail
    go_ret2
    exact ⟨rfl, o', p', HR.out.1, HR.out.2.1, HFB.out.trans HR.out.2.2 (fun _ _ e => e)⟩
end Go.Proofs.Ytcobjjaicckgpaa.Vf
/- The laws' perform: Crash and Write. -/
namespace Go.Proofs.Ytcobjjaicckgpaa.Vf
open Go Go.RowKit Go.Maps Go.Proofs.Ytcobjjaicckgpaa Go.Proofs.Ytcobjjaicckgpaa.Bs
set_option linter.unusedVariables false

theorem Bl.lt {w : World} {v : Value} {l : List Bool} (h : Bl w v l) (h0 : 0 < l.length) : ∀ g, v.ownBlock = some g → g < w.heap.size := by
  obtain ⟨g, off, ad, c, rfl, h1, h2⟩ := h
  intro b hb
  rw [h1 h0] at hb
  obtain rfl : g = b := by simpa [Value.ownBlock] using hb
  exact lt_of_cell (h2 0 h0)
theorem Il.lt2 {w : World} {v : Value} {l : List Int} (h : Il w v l) (h0 : 0 < l.length) : ∀ g, v.ownBlock = some g → g < w.heap.size := by
  obtain ⟨g, off, ad, c, rfl, _, h1, h2⟩ := h
  intro b hb
  rw [h1 h0] at hb
  obtain rfl : g = b := by simpa [Value.ownBlock] using hb
  exact lt_of_cell (h2 0 h0)
theorem Bl.kept0 {w w' : World} {v : Value} {l : List Bool} (h : Bl w v l) (hk : 0 < l.length → ∀ g, v.ownBlock = some g → w'.heap[g]? = w.heap[g]?) : Bl w' v l := by
  by_cases h0 : 0 < l.length
  · exact h.kept (hk h0)
  · obtain ⟨g, off, ad, c, rfl, h1, h2⟩ := h
    exact ⟨g, off, ad, c, rfl, h1, fun j hj => by omega⟩
theorem Il.kept0 {w w' : World} {v : Value} {l : List Int} (h : Il w v l) (hk : 0 < l.length → ∀ g, v.ownBlock = some g → w'.heap[g]? = w.heap[g]?) : Il w' v l := by
  by_cases h0 : 0 < l.length
  · exact h.kept (hk h0)
  · obtain ⟨g, off, ad, c, rfl, hc, h1, h2⟩ := h
    exact ⟨g, off, ad, c, rfl, hc, h1, fun j hj => by omega⟩
theorem Bl.under {w w' : World} {v : Value} {l : List Bool} (h : Bl w v l) (hb : Below w.heap.size w w') : Bl w' v l := h.kept0 fun h0 g hg => hb.block g (h.lt h0 g hg)
theorem Il.under {w w' : World} {v : Value} {l : List Int} (h : Il w v l) (hb : Below w.heap.size w w') : Il w' v l := h.kept0 fun h0 g hg => hb.block g (h.lt2 h0 g hg)
theorem bl_fr {w w' : World} {p : Nat → Prop} {v : Value} {l : List Bool} (h : Bl w v l) (hf : Fr w w' p) (hp : 0 < l.length → ∀ g, v.ownBlock = some g → ¬ p g) : Bl w' v l := h.kept0 fun h0 g hg => hf.block g (h.lt h0 g hg) (hp h0 g hg)
theorem il_fr {w w' : World} {p : Nat → Prop} {v : Value} {l : List Int} (h : Il w v l) (hf : Fr w w' p) (hp : 0 < l.length → ∀ g, v.ownBlock = some g → ¬ p g) : Il w' v l := h.kept0 fun h0 g hg => hf.block g (h.lt2 h0 g hg) (hp h0 g hg)
theorem rcrash_bl (B nn : Nat) (o : RL) (a : AS) (v1 v2 : Value) (ch : List Bool) (ls : List Int) (W : World) (h : Ri W B o a) (hk : a.Rk nn) (hnn : nn ≤ 400000) (h1 : Bl W v1 ch) (h2 : Il W v2 ls) (hc : ch.length ≤ 1000000000) (hl : ls.length ≤ 1000000000) (g1 : 0 < ch.length → ∀ g, v1.ownBlock = some g → ¬ rfoot o g) (g2 : 0 < ls.length → ∀ g, v2.ownBlock = some g → ¬ rfoot o g) :
    Calls Try.prog 20 #[.pointer (some ⟨o.G, 0, none⟩), v1, v2] W (RAft W B o (.tuple #[]) (a.crash ch ls)) := by
  obtain ⟨g, off, ad, c, rfl, had, hcell⟩ := h1
  exact rcrash_is B o a v2 ch ls W g off ch.length c ad nn h hk hnn rfl hc had hcell (fun h0 => g1 h0 g (by rw [had h0]; rfl)) h2 hl g2
set_option maxRecDepth 100000 in
set_option maxHeartbeats 16000000 in
theorem perform6 (W w : World) (f n : Nat) (o : RL) (a : AS) (p : Nat → Prop) (c : Ac) (v1 v2 : Value) (t : Two W w f o a p) (hk : a.Rk n) (hn : n ≤ 400000) (k0 : c.kind ≠ 0) (k1 : c.kind ≠ 1) (k2 : c.kind ≠ 2) (k3 : c.kind ≠ 3) (k4 : c.kind ≠ 4) (k5 : c.kind ≠ 5)
    (b1 : Bl W v1 c.ch) (b2 : Il W v2 c.ls) (hc : c.ch.length ≤ 1000000000) (hl : c.ls.length ≤ 1000000000) :
    Calls Try.prog 18 #[.pointer (some ⟨f, 0, none⟩), .pointer (some ⟨o.G, 0, none⟩), .agg (actCells c v1 v2)] w fun e w' => e = .returned (.tuple #[.int .i64 0, .int .i64 0]) ∧ ∃ o' p', o'.G = o.G ∧ Two W w' f o' (a.crash c.ch c.ls) p' ∧ Fr w w' (fun k => p k ∨ rfoot o k) := by
  obtain ⟨kd, nm, nw, dt, af, er, ch, ls⟩ := c
  have HB := Lib.hid ((Below.refl w.heap.size w).alloc (Nat.le_refl _) (.cells (actCells ⟨kd, nm, nw, dt, af, er, ch, ls⟩ v1 v2) 44))
  have HT := Lib.hid (t.under HB.out)
  have HFB := Lib.hid (Fr.of_below HB.out (fun k => p k ∨ rfoot o k))
  have HX := Lib.hid (heap_alloc_new w (.cells (actCells ⟨kd, nm, nw, dt, af, er, ch, ls⟩ v1 v2) 44))
  have HP0 : Hid (∀ k, p k → k < w.heap.size) := fun k hk => (t.f.lt k hk).1
  have HP1 : Hid (∀ k, rfoot o k → k < w.heap.size) := fun k hk => (t.g.lt hk).1
  have h1 := b1.under t.below
  have h2 := b2.under t.below
  have HA := Lib.hid (And.intro (h1.under HB.out) (And.intro (h2.under HB.out) (And.intro hc hl)))
  have HN1 : Hid ((0 < ch.length → ∀ g, v1.ownBlock = some g → ¬ p g ∧ ¬ rfoot o g) ∧ (0 < ls.length → ∀ g, v2.ownBlock = some g → ¬ p g ∧ ¬ rfoot o g)) := by
    constructor
    · intro h0 g hg
      have h3 := b1.lt h0 g hg
      exact ⟨fun e => by have := (t.f.lt g e).2; omega, fun e => by have := (t.g.lt e).2; omega⟩
    · intro h0 g hg
      have h3 := b2.lt2 h0 g hg
      exact ⟨fun e => by have := (t.f.lt g e).2; omega, fun e => by have := (t.g.lt e).2; omega⟩
  obtain ⟨x0, -, -, -, -, -, x6, x7⟩ := act_cells HX.out
  have HK := Lib.hid hk
  have e0 : (kd == (0 : Int)) = false := by simpa using k0
  have e1 : (kd == (1 : Int)) = false := by simpa using k1
  have e2 : (kd == (2 : Int)) = false := by simpa using k2
  have e3 : (kd == (3 : Int)) = false := by simpa using k3
  have e4 : (kd == (4 : Int)) = false := by simpa using k4
  have e5 : (kd == (5 : Int)) = false := by simpa using k5
  obtain ⟨p1, p2, b3, b4, rfl, -⟩ := id h1
  obtain ⟨q1, q2, d3, d4, rfl, -⟩ := id h2
  clear t hk k0 k1 k2 k3 k4 k5 h1 h2 hc hl b1 b2
  unfold actCells at *
  go_enter Try.func18, Try.ntmps18
  go_upto_region 14 with fail
  generalize (w.alloc (.cells #[.int .i64 kd, .string nm, .string nw, .string dt, .int .i64 af, .int .i64 er, .slice b3 ch.length b4, .slice d3 ls.length d4] 44)) = w0 at HB HT HFB HX HA x0 x6 x7 ⊢
  obtain ⟨S, hS⟩ : ∃ S, w.heap.size = S := ⟨_, rfl⟩
  rw [hS] at HP0 HP1 HX HB x0 x6 x7 ⊢
  go_wp2_with fail
  refine (crash_fs0 HT.out.f HK.out.ok hn _ _ ch ls HA.out.1 HA.out.2.1 (fun h0 g hg => (HN1.out.1 h0 g hg).1) (fun h0 g hg => (HN1.out.2 h0 g hg).1) HA.out.2.2.1 HA.out.2.2.2).mono ?_
  rintro e wA ⟨rfl, p', hF, hFr, hp⟩
  have HF := Lib.hid (And.intro hF (And.intro hFr hp))
  have xA6 := cell_fr x6 hFr (fun e => Nat.lt_irrefl _ (HP0.out S e))
  have xA7 := cell_fr x7 hFr (fun e => Nat.lt_irrefl _ (HP0.out S e))
  have HA2 := Lib.hid (And.intro (bl_fr HA.out.1 hFr (fun h0 g hg => (HN1.out.1 h0 g hg).1)) (il_fr HA.out.2.1 hFr (fun h0 g hg => (HN1.out.2 h0 g hg).1)))
  have HG1 := Lib.hid (HT.out.g.apart HT.out.f hFr)
  clear hF hFr hp x0 x6 x7
  go_wp2_with fail
  refine (rcrash_bl _ n o a _ _ ch ls wA HG1.out HK.out hn HA2.out.1 HA2.out.2 HA.out.2.2.1 HA.out.2.2.2 (fun h0 g hg => (HN1.out.1 h0 g hg).2) (fun h0 g hg => (HN1.out.2 h0 g hg).2)).mono ?_
  rintro e wB ⟨rfl, o', hG, hR, hFr2, -⟩
  have HR := Lib.hid (And.intro hG (HT.out.step HF.out.1 HF.out.2.1 HF.out.2.2 hR hFr2))
  clear hG hR hFr2
  go_wp2_with fail
  go_ret2
  exact ⟨rfl, o', p', HR.out.1, HR.out.2.1, HFB.out.trans HR.out.2.2 (fun _ _ e => e)⟩
end Go.Proofs.Ytcobjjaicckgpaa.Vf
/- The laws' perform: Write. -/
namespace Go.Proofs.Ytcobjjaicckgpaa.Vf
open Go Go.RowKit Go.Maps Go.Proofs.Ytcobjjaicckgpaa Go.Proofs.Ytcobjjaicckgpaa.Bs
set_option linter.unusedVariables false

/-- The conversion under a name: so that go_region_held3 takes it in its place, without a word. -/
def cvOp : Op := .convert 9 30 (.tmp 16)
theorem rd_conv (w : World) (s : ByteArray) : Rd (Lib.bytesWorld w 5 s) (.slice (some ⟨w.heap.size, 0, none⟩) s.size (grownCap w s.size 0 5)) s.data.toList := by
  obtain ⟨cap, w', h1, h2, h3⟩ := conv_str w s
  have hcv := Lib.run_convert_string_bytes (P := Try.prog) w 9 30 5 s (u := .string) Try.underlying9 Try.underlying30 Try.underlying5
  have e := h1.symm.trans hcv
  injection e with e1 e2
  subst e2
  rw [← e1]
  exact h2
set_option maxRecDepth 100000 in
set_option maxHeartbeats 16000000 in
theorem perform0 (W w : World) (f n : Nat) (o : RL) (a : AS) (p : Nat → Prop) (c : Ac) (v1 v2 : Value) (t : Two W w f o a p) (hk : a.Rk n) (hn : n ≤ 400000) (h4 : c.kind = 0) (hnm : c.name.size ≤ 1000000) (hdt : c.data.size ≤ 1000000) :
    Calls Try.prog 18 #[.pointer (some ⟨f, 0, none⟩), .pointer (some ⟨o.G, 0, none⟩), .agg (actCells c v1 v2)] w fun e w' => e = .returned (.tuple #[.int .i64 (AS.op (AS.put c.name c.data.data.toList) (AS.tear c.name c.data.data.toList) a).1, .int .i64 (AS.op (AS.put c.name c.data.data.toList) (AS.tear c.name c.data.data.toList) a).1]) ∧ ∃ o' p', o'.G = o.G ∧ Two W w' f o' (AS.op (AS.put c.name c.data.data.toList) (AS.tear c.name c.data.data.toList) a).2 p' ∧ Fr w w' (fun k => p k ∨ rfoot o k) := by
  obtain ⟨kd, nm, nw, dt, af, er, ch, ls⟩ := c
  subst h4
  have HB := Lib.hid ((Below.refl w.heap.size w).alloc (Nat.le_refl _) (.cells (actCells ⟨0, nm, nw, dt, af, er, ch, ls⟩ v1 v2) 44))
  have HT := Lib.hid (t.under HB.out)
  have HFB := Lib.hid (Fr.of_below HB.out (fun k => p k ∨ rfoot o k))
  have HX := Lib.hid (heap_alloc_new w (.cells (actCells ⟨0, nm, nw, dt, af, er, ch, ls⟩ v1 v2) 44))
  have HP0 : Hid (∀ k, p k → k < w.heap.size) := fun k hk => (t.f.lt k hk).1
  have HP1 : Hid (∀ k, rfoot o k → k < w.heap.size) := fun k hk => (t.g.lt hk).1
  obtain ⟨x0, x1, -, x3, -⟩ := act_cells HX.out
  have HK := Lib.hid hk
  have HNM := Lib.hid (And.intro hnm hdt)
  clear t hk hnm hdt
  unfold actCells at *
  go_enter Try.func18, Try.ntmps18
  go_upto_region 3 with fail
  generalize (w.alloc (.cells #[.int .i64 0, .string nm, .string nw, .string dt, .int .i64 af, .int .i64 er, v1, v2] 44)) = w0 at HB HT HFB HX x0 x1 x3 ⊢
  obtain ⟨S, hS⟩ : ∃ S, w.heap.size = S := ⟨_, rfl⟩
  rw [hS] at HP0 HP1 HX HB x0 x1 x3 ⊢
  have hbv := world_belowV w0.drew 5 dt
  have HTV := Lib.hid (Two.under (w := w0.drew) ⟨HT.out.f.kept (fun _ _ => rfl) (fun _ _ _ _ => rfl), HT.out.g.kept (fun _ _ _ _ _ _ => rfl), HT.out.below.drew⟩ hbv)
  have HRV := Lib.hid (rd_conv w0.drew dt)
  have hlt : S < w0.heap.size := lt_of_heap HX.out
  have y1 : (Lib.bytesWorld w0.drew 5 dt).cell? ⟨S, 1, none⟩ = some (.string nm) := (hbv.cell hlt).trans x1
  have y3 : (Lib.bytesWorld w0.drew 5 dt).cell? ⟨S, 3, none⟩ = some (.string dt) := (hbv.cell hlt).trans x3
  have HBV := Lib.hid (below_keep (u := w0) hbv rfl rfl rfl rfl)
  have kc : ∀ u : World, (convert 9 30 (.string dt)).run Try.prog u = .ok (.slice (some ⟨u.heap.size, 0, none⟩) dt.size (grownCap u dt.size 0 5)) (Lib.bytesWorld u 5 dt) := fun u => Lib.run_convert_string_bytes u 9 30 5 dt (u := .string) Try.underlying9 Try.underlying30 Try.underlying5
  clear hbv hlt
  have hcv : cvOp = .convert 9 30 (.tmp 16) := rfl
  rw [← hcv]
  go_region_held3 (fun w' => w'.cell? ⟨S, 1, none⟩ = some (.string nm) ∧ w'.cell? ⟨S, 3, none⟩ = some (.string dt)) (first | exact ⟨y1, y3⟩ | go_keep)
    (first
      | (go_at_call_of 9 (Value.pointer (some ⟨f, 0, none⟩)); refine (write_fs HTV.out.f HK.out.ok hn nm _ dt.data.toList HNM.out.1 (by have := HNM.out.2; simpa using this) HRV.out).mono ?_; rintro e wA ⟨rfl, p', hF, hFr, hp⟩; have HF := Lib.hid (And.intro hF (And.intro hFr hp)); have HG1 := Lib.hid (HTV.out.g.apart HTV.out.f HF.out.2.1); have x1A := cell_fr y1 HF.out.2.1 (fun e => Nat.lt_irrefl _ (HP0.out S e)); have x3A := cell_fr y3 HF.out.2.1 (fun e => Nat.lt_irrefl _ (HP0.out S e)); clear hF hFr hp)
      | (go_at_call_of 44 (Value.pointer (some ⟨o.G, 0, none⟩)); refine (rwrite_is _ n o a nm dt _ (by exact HG1.out.kept (fun _ _ _ _ _ _ => rfl)) HK.out hn HNM.out.2).mono ?_; rintro e wB ⟨rfl, o', hG, hR, hFr2, -⟩; have HR := Lib.hid (And.intro hG (HTV.out.step HF.out.1 HF.out.2.1 HF.out.2.2 hR hFr2)); have x1B := cell_fr x1A hFr2 (fun e => Nat.lt_irrefl _ (HP1.out S e)); have x3B := cell_fr x3A hFr2 (fun e => Nat.lt_irrefl _ (HP1.out S e)); clear hG hR hFr2))
  all_goals
    go_wp2_with fail
    go_ret2
    exact ⟨rfl, o', p', HR.out.1, HR.out.2.1, HFB.out.trans ((Fr.of_below HBV.out _).trans HR.out.2.2 (fun _ _ e => e)) (fun _ _ e => e)⟩
end Go.Proofs.Ytcobjjaicckgpaa.Vf
/- The laws' calls as arguments; tooLarge. -/
namespace Go.Proofs.Ytcobjjaicckgpaa.Vf
open Go Go.RowKit Go.Maps Go.Proofs.Ytcobjjaicckgpaa Go.Proofs.Ytcobjjaicckgpaa.Bs
set_option linter.unusedVariables false

/-- A call of the laws, at cell i of block g. -/
structure ActAt (W : World) (g i : Nat) (c : Ac) (v1 v2 : Value) : Prop where
  x0 : W.cell? ⟨g, i, none⟩ = some (.int .i64 c.kind)
  x1 : W.cell? ⟨g, i + 1, none⟩ = some (.string c.name)
  x2 : W.cell? ⟨g, i + 2, none⟩ = some (.string c.new)
  x3 : W.cell? ⟨g, i + 3, none⟩ = some (.string c.data)
  x4 : W.cell? ⟨g, i + 4, none⟩ = some (.int .i64 c.after)
  x5 : W.cell? ⟨g, i + 5, none⟩ = some (.int .i64 c.err)
  x6 : W.cell? ⟨g, i + 6, none⟩ = some v1
  x7 : W.cell? ⟨g, i + 7, none⟩ = some v2
/-- What a call's fields are. -/
structure ActOk (W : World) (c : Ac) (v1 v2 : Value) : Prop where
  b1 : Bl W v1 c.ch
  b2 : Il W v2 c.ls
  name : c.name.size ≤ 140737488355328
  new : c.new.size ≤ 140737488355328
  data : c.data.size ≤ 140737488355328
  ch : c.ch.length ≤ 140737488355328
  ls : c.ls.length ≤ 140737488355328
  after : c.after ≤ 9223372036854775807
def Acts (W : World) (v : Value) (l : List Ac) : Prop := ∃ g off ad cap, v = .slice ad l.length cap ∧ (0 < l.length → ad = some ⟨g, off, none⟩ ∧ g < W.heap.size) ∧ l.length ≤ 140737488355328 ∧ ∀ j (hj : j < l.length), ∃ v1 v2, ActAt W g (off + j * 8) l[j] v1 v2 ∧ ActOk W l[j] v1 v2
theorem ActAt.below {W w : World} {g i : Nat} {c : Ac} {v1 v2 : Value} (h : ActAt W g i c v1 v2) (hg : g < W.heap.size) (hb : Below W.heap.size W w) : ActAt w g i c v1 v2 := by
  have k : ∀ j, w.cell? ⟨g, j, none⟩ = W.cell? ⟨g, j, none⟩ := fun j => hb.cell hg
  exact ⟨(k _).trans h.x0, (k _).trans h.x1, (k _).trans h.x2, (k _).trans h.x3, (k _).trans h.x4, (k _).trans h.x5, (k _).trans h.x6, (k _).trans h.x7⟩
theorem ActOk.below {W w : World} {c : Ac} {v1 v2 : Value} (h : ActOk W c v1 v2) (hb : Below W.heap.size W w) : ActOk w c v1 v2 :=
  ⟨h.b1.under hb, h.b2.under hb, h.name, h.new, h.data, h.ch, h.ls, h.after⟩
theorem Acts.below {W w : World} {v : Value} {l : List Ac} (h : Acts W v l) (hb : Below W.heap.size W w) : Acts w v l := by
  obtain ⟨g, off, ad, cap, e, h1, h2, h3⟩ := h
  refine ⟨g, off, ad, cap, e, fun h0 => ⟨(h1 h0).1, Nat.lt_of_lt_of_le (h1 h0).2 hb.size⟩, h2, fun j hj => ?_⟩
  obtain ⟨v1, v2, h4, h5⟩ := h3 j hj
  exact ⟨v1, v2, h4.below (h1 (by omega)).2 hb, h5.below hb⟩
/-- A call's weight. -/
def Ac.sum (c : Ac) : Nat := c.name.size + c.new.size + c.data.size + c.ch.length + c.ls.length
def Ac.wt (c : Ac) : Nat := 1 + min c.sum 5000
def wts (l : List Ac) : Nat := (l.map Ac.wt).sum
theorem wts_take (l : List Ac) (k : Nat) (hk : k < l.length) : wts (l.take (k + 1)) = wts (l.take k) + l[k].wt := by
  unfold wts
  rw [List.take_add_one, List.map_append, List.sum_append, List.getElem?_eq_getElem hk]
  simp
theorem wts_le (l : List Ac) : ∀ k, wts (l.take k) ≤ wts l := fun k => by
  have : wts l = wts (l.take k) + wts (l.drop k) := by
    unfold wts
    rw [← List.sum_append, ← List.map_append, List.take_append_drop]
  omega
theorem wts_len (l : List Ac) : l.length ≤ wts l := by
  induction l with
  | nil => exact Nat.le_refl _
  | cons a r ih => unfold wts at ih ⊢; simp only [List.map_cons, List.sum_cons, List.length_cons]; have : 1 ≤ a.wt := Nat.le_add_right 1 _; omega
theorem wts_mem (l : List Ac) (c : Ac) (h : c ∈ l) : c.wt ≤ wts l := by
  induction l with
  | nil => cases h
  | cons a r ih =>
    unfold wts at ih ⊢
    simp only [List.map_cons, List.sum_cons]
    rcases List.mem_cons.1 h with rfl | h
    · omega
    · have := ih h; omega
theorem wt_le {c : Ac} (h : c.wt ≤ 5000) : c.sum ≤ 4999 := by
  unfold Ac.wt at h
  omega
def tooL (l : List Ac) : Bool := decide (5000 < wts l)
set_option maxRecDepth 100000 in
set_option maxHeartbeats 8000000 in
theorem tooLarge_is (W : World) (v : Value) (l : List Ac) (h : Acts W v l) :
    Calls Try.prog 15 #[v] W fun e w' => e = .returned (.bool (tooL l)) ∧ Below W.heap.size W w' := by
  obtain ⟨g, off, ad, cap, rfl, had, hlen, hact⟩ := h
  obtain ⟨m, hm⟩ : ∃ m, l.length = m := ⟨_, rfl⟩
  rw [hm] at had hlen ⊢
  have HM := Lib.hid hm
  have HAD := Lib.hid had
  have HACT := Lib.hid hact
  clear had hact hm
  go_enter Try.func15, Try.ntmps15
  go_wp2_with fail
  go_loopw [3, 8] (fun x i wr => ∃ k n : Nat, k ≤ m ∧ x = .int .i64 n ∧ i = .int .i64 k ∧ n ≤ 5000 ∧ Hid (n = wts (l.take k)) ∧ Hid (Below W.heap.size W wr)) (fun _ i _ => m - (intOf i).toNat)
  case atStart => exact ⟨0, 0, Nat.zero_le _, rfl, rfl, Nat.zero_le _, (rfl : 0 = wts []), Below.refl _ _⟩
  case round =>
    obtain ⟨k, n, hk, rfl, rfl, hn, hx, hb⟩ := hrel
    by_cases hlt : k < m
    · obtain ⟨rfl, hg⟩ := HAD.out (by omega)
      obtain ⟨v1, v2, ha, ho⟩ := HACT.out k (by rw [HM.out]; exact hlt)
      have ha := ha.below hg hb.out
      obtain ⟨c, hc⟩ : ∃ c, l[k]'(by rw [HM.out]; exact hlt) = c := ⟨_, rfl⟩
      rw [hc] at ha ho
      have HC := Lib.hid hc
      have HW := Lib.hid (wts_take l k (by rw [HM.out]; exact hlt))
      rw [hc] at HW
      obtain ⟨kd, nm, nw, dt, af, er, ch, ls⟩ := c
      obtain ⟨x0, x1, x2, x3, x4, x5, x6, x7⟩ := ha
      obtain ⟨b1, b2, z1, z2, z3, z4, z5, -⟩ := ho
      obtain ⟨g1, o1, a1, c1, rfl, -⟩ := b1
      obtain ⟨g2, o2, a2, c2, rfl, -⟩ := b2
      simp only at x0 x1 x2 x3 x4 x5 x6 x7 z1 z2 z3 z4 z5
      obtain ⟨n1, e1⟩ : ∃ n1, nm.size = n1 := ⟨_, rfl⟩
      obtain ⟨n2, e2⟩ : ∃ n2, nw.size = n2 := ⟨_, rfl⟩
      obtain ⟨n3, e3⟩ : ∃ n3, dt.size = n3 := ⟨_, rfl⟩
      obtain ⟨n4, e4⟩ : ∃ n4, ch.length = n4 := ⟨_, rfl⟩
      obtain ⟨n5, e5⟩ : ∃ n5, ls.length = n5 := ⟨_, rfl⟩
      rw [e1] at z1; rw [e2] at z2; rw [e3] at z3; rw [e4] at z4 x6; rw [e5] at z5 x7
      have HE := Lib.hid (show (Ac.sum ⟨kd, nm, nw, dt, af, er, ch, ls⟩) = n1 + n2 + n3 + n4 + n5 by unfold Ac.sum; simp only [e1, e2, e3, e4, e5])
      clear hc e4 e5
      obtain ⟨mn, hmn⟩ : ∃ mn : Int, min ((n1 : Int) + (n2 : Int) + (n3 : Int) + (n4 : Int) + (n5 : Int)) 5000 = mn := ⟨_, rfl⟩
      have hmn2 : mn = ((min (n1 + n2 + n3 + n4 + n5) 5000 : Nat) : Int) := by rw [← hmn]; omega
      have HMN := Lib.hid hmn2
      have q1 : 0 ≤ mn := by omega
      have q2 : mn ≤ 5000 := by omega
      have HN2 : Hid ((n : Int) + (1 + mn) = ((wts (l.take (k + 1)) : Nat) : Int)) := by
        show _ = _
        rw [HW.out, ← hx.out, show Ac.wt ⟨kd, nm, nw, dt, af, er, ch, ls⟩ = 1 + min (n1 + n2 + n3 + n4 + n5) 5000 by unfold Ac.wt; rw [HE.out], hmn2]
        omega
      have HB0 := Lib.hid (below_trans hb.out ((Below.refl wr.heap.size wr).alloc (Nat.le_refl _) (.cells #[.int .i64 kd, .string nm, .string nw, .string dt, .int .i64 af, .int .i64 er, .slice a1 n4 c1, .slice a2 n5 c2] 44)))
      have HX := Lib.hid hx
      clear hmn2 hb hx
      by_cases big : 5000 < (n : Int) + (1 + mn)
      · have HT : Hid (tooL l = true) := by
          have h1 := wts_le l (k + 1)
          have h2 := HN2.out
          show tooL l = true
          unfold tooL
          exact decide_eq_true (by omega)
        go_wp2_with fail
        go_ret
        exact ⟨by rw [HT.out]; rfl, HB0.out⟩
      · go_wp2_with fail
        go_roundw
        case rel =>
          refine ⟨k + 1, wts (l.take (k + 1)), by omega, ?_, by go_num, ?_, rfl, HB0.out⟩
          · rw [HN2.out]
          · have := HN2.out; omega
        case measure => simp [intOf]; omega
    · have hkm : k = m := by omega
      have HT : Hid (tooL l = false) := by
        have h1 : l.take k = l := List.take_of_length_le (by rw [HM.out]; omega)
        have h2 := hx.out
        rw [h1] at h2
        show tooL l = false
        unfold tooL
        exact decide_eq_false (by omega)
      have gl : decide ((k : Int) < (m : Int)) = false := decide_eq_false (by omega)
      go_wp2_with fail
      go_ret
      exact ⟨by rw [HT.out]; rfl, hb.out⟩
end Go.Proofs.Ytcobjjaicckgpaa.Vf
/- Names that are not long; sequences of calls, in plain words. -/
namespace Go.Proofs.Ytcobjjaicckgpaa.Vf
open Go Go.RowKit Go.Maps Go.Proofs.Ytcobjjaicckgpaa Go.Proofs.Ytcobjjaicckgpaa.Bs
set_option linter.unusedVariables false

section
variable {a : AS} {n : Nat}
/-- No name is long. -/
structure AS.Nb (a : AS) : Prop where
  n : ∀ p ∈ a.names, p.1.length ≤ 1000000
  d : ∀ p ∈ a.dur, p.1.length ≤ 1000000
  c : ∀ c ∈ a.pend, c.dst.size ≤ 1000000
theorem nb_apply {m : Nm} {f t : ByteArray} {i : Nat} (h : ∀ p ∈ m, p.1.length ≤ 1000000) (ht : t.size ≤ 1000000) : ∀ p ∈ applyS m f t i, p.1.length ≤ 1000000 := by
  intro p hp
  rcases mem_apply1 hp with hp | ⟨h4, h5⟩
  · exact h p hp
  · rw [h5]; simpa using ht
theorem AS.Nb.record (h : a.Nb) (c : AC) (hc : c.dst.size ≤ 1000000) : (a.record c).Nb where
  n := nb_apply h.n hc
  d := h.d
  c := fun d hd => by
    rcases List.mem_append.1 hd with hd | hd
    · exact h.c d hd
    · obtain rfl := List.mem_singleton.1 hd
      exact hc
theorem AS.Nb.files (h : a.Nb) (l : List AF) : AS.Nb { a with files := l } := ⟨h.n, h.d, h.c⟩
theorem AS.Nb.put (h : a.Nb) (k : ByteArray) (l : List UInt8) (hk : k.size ≤ 1000000) : (AS.put k l a).2.Nb := by
  unfold AS.put
  split
  · exact h
  split
  · exact h.files _
  · exact (h.files _).record _ hk
theorem AS.Nb.sync (h : a.Nb) (k : ByteArray) : (AS.sync k a).2.Nb := by
  unfold AS.sync
  split
  · exact h
  · exact h.files _
theorem AS.Nb.rename (h : a.Nb) (k t : ByteArray) (ht : t.size ≤ 1000000) : (AS.rename k t a).2.Nb := by
  unfold AS.rename
  split
  · exact h
  split
  · exact h
  split
  · exact h
  · exact h.record _ ht
theorem AS.Nb.remove (h : a.Nb) (k : ByteArray) : (AS.remove k a).2.Nb := by
  unfold AS.remove
  split
  · exact h
  · exact h.record _ (show (⟨#[]⟩ : ByteArray).size ≤ 1000000 by decide)
theorem AS.Nb.syncdir (h : a.Nb) : (AS.syncdir a).2.Nb := ⟨h.n, h.n, fun c hc => by cases hc⟩
theorem AS.Nb.arm (h : a.Nb) (m e : Int) : (AS.arm m e a).2.Nb := by
  unfold AS.arm
  split
  · exact h
  split
  · exact h
  · exact ⟨h.n, h.d, h.c⟩
theorem AS.Nb.op (h : a.Nb) (p : AS → Int × AS) (q : AS → AS) (hp : ∀ b : AS, b.Nb → (p b).2.Nb) (hq : ∀ b : AS, b.Nb → (q b).Nb) : (AS.op p q a).2.Nb := by
  unfold AS.op
  split
  · exact h
  split
  · exact hp _ h
  split
  · exact hp _ ⟨h.n, h.d, h.c⟩
  · have h1 := hq _ (show AS.Nb { a with armed := false } from ⟨h.n, h.d, h.c⟩)
    exact ⟨h1.n, h1.d, h1.c⟩
theorem durK_nb (h : a.Nb) (ch : List Bool) : ∀ k, ∀ p ∈ a.durK ch k, p.1.length ≤ 1000000
  | 0 => h.d
  | k + 1 => by
    have h1 := durK_nb h ch k
    unfold AS.durK
    split
    · exact h1
    · rename_i c hc
      split
      · exact nb_apply h1 (h.c c (List.mem_of_getElem? hc))
      · exact h1
theorem AS.Nb.crash (h : a.Nb) (ch : List Bool) (ls : List Int) : (a.crash ch ls).Nb := ⟨durK_nb h ch _, durK_nb h ch _, fun c hc => by cases hc⟩
theorem AS.Nb.new : AS.new.Nb := ⟨fun p h => absurd h (by simp [AS.new]), fun p h => absurd h (by simp [AS.new]), fun p h => absurd h (by simp [AS.new])⟩
theorem AS.Nb.act (h : a.Nb) (c : Ac) (hc : c.Sm) : (AS.act c a).2.Nb := by
  unfold AS.act
  split
  · exact h.op _ _ (fun b hb => hb.put _ _ hc.name) (fun b hb => hb.put _ _ hc.name)
  split
  · exact h.op _ _ (fun b hb => hb.sync _) (fun b hb => hb)
  split
  · exact h.op _ _ (fun b hb => hb.rename _ _ hc.new) (fun b hb => hb)
  split
  · exact h.op _ _ (fun b hb => hb.remove _) (fun b hb => hb)
  split
  · exact h.op _ _ (fun b hb => hb.syncdir) (fun b hb => hb)
  split
  · exact h.arm _ _
  · exact h.crash _ _
end
/-- What the laws ask of a state. -/
structure AS.Gd (a : AS) (n : Nat) : Prop where
  rk : a.Rk n
  nb : a.Nb
theorem AS.Rk.mono {a : AS} {n m : Nat} (h : a.Rk n) (hm : n ≤ m) : a.Rk m := h.rx.rk (h.ok.mono hm)
theorem AS.Gd.mono {a : AS} {n m : Nat} (h : a.Gd n) (hm : n ≤ m) : a.Gd m := ⟨h.rk.mono hm, h.nb⟩
theorem AS.Gd.new : AS.new.Gd 0 := ⟨AS.Rx.new.rk AS.Ok.new, AS.Nb.new⟩
theorem AS.Gd.act {a : AS} {n : Nat} (h : a.Gd n) (c : Ac) (hc : c.Sm) : (AS.act c a).2.Gd (n + 1) := ⟨h.rk.act c hc, h.nb.act c hc⟩
theorem AS.Gd.crash {a : AS} {n : Nat} (h : a.Gd n) (ch : List Bool) (ls : List Int) : (a.crash ch ls).Gd n := ⟨(h.rk.crash ch ls).rk (h.rk.ok.crash ch ls), h.nb.crash ch ls⟩
/-- Calls in sequence. -/
def AS.acts (l : List Ac) (a : AS) : AS := l.foldl (fun a c => (AS.act c a).2) a
theorem acts_take (l : List Ac) (a : AS) (k : Nat) (hk : k < l.length) : AS.acts (l.take (k + 1)) a = (AS.act l[k] (AS.acts (l.take k) a)).2 := by
  unfold AS.acts
  rw [List.take_add_one, List.foldl_append, List.getElem?_eq_getElem hk]
  rfl
theorem AS.Gd.acts {n : Nat} : ∀ {a : AS}, a.Gd n → ∀ l : List Ac, (∀ c ∈ l, c.Sm) → (AS.acts l a).Gd (n + l.length) := by
  intro a h l hl
  induction l generalizing a n with
  | nil => exact h
  | cons c r ih =>
    have h1 := h.act c (hl c (by simp))
    have h2 := ih h1 (fun d hd => hl d (by simp [hd]))
    have h3 : n + 1 + r.length = n + (c :: r).length := by simp; omega
    rw [h3] at h2
    exact h2
theorem sm_of {W : World} {c : Ac} {v1 v2 : Value} (h : ActOk W c v1 v2) (hs : c.sum ≤ 4999) : c.Sm := by
  unfold Ac.sum at hs
  exact ⟨by omega, by omega, by omega, h.after⟩
/-- What a row of calls is, that is not too large. -/
structure ActsOk (W : World) (v : Value) (l : List Ac) : Prop where
  acts : Acts W v l
  len : l.length ≤ 5000
  sm : ∀ c ∈ l, c.Sm
  sum : ∀ c ∈ l, c.sum ≤ 4999
theorem Acts.ok {W : World} {v : Value} {l : List Ac} (h : Acts W v l) (ht : tooL l = false) : ActsOk W v l := by
  have h1 : wts l ≤ 5000 := by unfold tooL at ht; have := of_decide_eq_false ht; omega
  have h2 : ∀ c ∈ l, c.sum ≤ 4999 := fun c hc => wt_le (Nat.le_trans (wts_mem l c hc) h1)
  refine ⟨h, Nat.le_trans (wts_len l) h1, fun c hc => ?_, h2⟩
  obtain ⟨g, off, ad, cap, -, -, -, h3⟩ := h
  obtain ⟨j, hj, rfl⟩ := List.getElem_of_mem hc
  obtain ⟨v1, v2, -, h4⟩ := h3 j hj
  exact sm_of h4 (h2 _ hc)
theorem ActsOk.below {W w : World} {v : Value} {l : List Ac} (h : ActsOk W v l) (hb : Below W.heap.size W w) : ActsOk w v l := ⟨h.acts.below hb, h.len, h.sm, h.sum⟩
end Go.Proofs.Ytcobjjaicckgpaa.Vf
/- The laws' perform, for every call. -/
namespace Go.Proofs.Ytcobjjaicckgpaa.Vf
open Go Go.RowKit Go.Maps Go.Proofs.Ytcobjjaicckgpaa Go.Proofs.Ytcobjjaicckgpaa.Bs
set_option linter.unusedVariables false

theorem perform_is (W w : World) (f n : Nat) (o : RL) (a : AS) (p : Nat → Prop) (c : Ac) (v1 v2 : Value) (t : Two W w f o a p) (hk : a.Rk n) (hn : n ≤ 400000) (ho : ActOk W c v1 v2) (hs : c.sum ≤ 4999) :
    Calls Try.prog 18 #[.pointer (some ⟨f, 0, none⟩), .pointer (some ⟨o.G, 0, none⟩), .agg (actCells c v1 v2)] w fun e w' => e = .returned (.tuple #[.int .i64 (AS.act c a).1, .int .i64 (AS.act c a).1]) ∧ ∃ o' p', o'.G = o.G ∧ Two W w' f o' (AS.act c a).2 p' ∧ Fr w w' (fun k => p k ∨ rfoot o k) := by
  have hs2 := hs
  unfold Ac.sum at hs2
  unfold AS.act
  by_cases k0 : c.kind = 0
  · rw [if_pos k0]
    exact perform0 W w f n o a p c v1 v2 t hk hn k0 (by omega) (by omega)
  rw [if_neg k0]
  by_cases k1 : c.kind = 1
  · rw [if_pos k1]
    exact perform1 W w f n o a p c v1 v2 t hk hn k1 (by omega)
  rw [if_neg k1]
  by_cases k2 : c.kind = 2
  · rw [if_pos k2]
    exact perform2 W w f n o a p c v1 v2 t hk hn k2 (by omega) (by omega)
  rw [if_neg k2]
  by_cases k3 : c.kind = 3
  · rw [if_pos k3]
    exact perform3 W w f n o a p c v1 v2 t hk hn k3 (by omega)
  rw [if_neg k3]
  by_cases k4 : c.kind = 4
  · rw [if_pos k4]
    exact perform4 W w f n o a p c v1 v2 t hk hn k4
  rw [if_neg k4]
  by_cases k5 : c.kind = 5
  · rw [if_pos k5]
    exact perform5 W w f n o a p c v1 v2 t hk hn k5 trivial
  rw [if_neg k5]
  exact perform6 W w f n o a p c v1 v2 t hk hn k0 k1 k2 k3 k4 k5 ho.b1 ho.b2 (by omega) (by omega)
end Go.Proofs.Ytcobjjaicckgpaa.Vf
/- The laws' run. -/
namespace Go.Proofs.Ytcobjjaicckgpaa.Vf
open Go Go.RowKit Go.Maps Go.Proofs.Ytcobjjaicckgpaa Go.Proofs.Ytcobjjaicckgpaa.Bs
set_option linter.unusedVariables false

theorem Ri.base {w : World} {B B' : Nat} {o : RL} {a : AS} (h : Ri w B o a) (hB : B' ≤ B) : Ri w B' o a :=
  ⟨h.fs, own_base h.files hB, own_base h.dir hB, own_base h.dur hB, own_base h.pend hB, Nat.le_trans hB h.bG⟩
theorem two_new {W w1 w2 : World} {F : Nat} {o : RL} {p : Nat → Prop} (hF : Fs w1 W.heap.size F Zn AS.new p) (hB : Below W.heap.size W w1) (hR : Ri w2 w1.heap.size o AS.new) (hB2 : Below w1.heap.size w1 w2) : Two W w2 F o AS.new p :=
  ⟨hF.below hB2, hR.base hB.size, hB.trans (hB2.mono hB.size)⟩
theorem gd_take {l : List Ac} (hl : ∀ c ∈ l, c.Sm) (h5 : l.length ≤ 5000) (k : Nat) : (AS.acts (l.take k) AS.new).Gd 5000 := by
  refine (AS.Gd.new.acts (l.take k) (fun c hc => hl c (List.mem_of_mem_take hc))).mono ?_
  rw [List.length_take]
  omega
theorem acts_new : AS.acts [] AS.new = AS.new := rfl
set_option maxRecDepth 100000 in
set_option maxHeartbeats 8000000 in
theorem run_is (W : World) (v : Value) (l : List Ac) (h : ActsOk W v l) :
    Calls Try.prog 19 #[v] W fun e w' => ∃ f o p, e = .returned (.tuple #[.pointer (some ⟨f, 0, none⟩), .pointer (some ⟨o.G, 0, none⟩)]) ∧ Two W w' f o (AS.acts l AS.new) p := by
  obtain ⟨⟨g, off, ad, cap, rfl, had, hlen, hact⟩, h5, hsm, hsum⟩ := h
  obtain ⟨m, hm⟩ : ∃ m, l.length = m := ⟨_, rfl⟩
  have HGD := Lib.hid (gd_take hsm h5)
  rw [hm] at had hlen ⊢
  have HM := Lib.hid hm
  have HAD := Lib.hid had
  have HACT := Lib.hid hact
  have HS := Lib.hid hsum
  clear had hact hm hsm hsum h5
  go_enter Try.func19, Try.ntmps19
  go_wp2_with fail
  refine (new_fs W).mono ?_
  rintro e w1 ⟨F, p0, rfl, hF, hB, -⟩
  have HF1 := Lib.hid (And.intro hF hB)
  clear hF hB
  go_wp2_with fail
  refine (rnew_is w1).mono ?_
  rintro e w2 ⟨o0, rfl, hR, hB2, -⟩
  have HT := Lib.hid (two_new HF1.out.1 HF1.out.2 hR hB2)
  obtain ⟨G, hG⟩ : ∃ G, o0.G = G := ⟨_, rfl⟩
  have HG0 := Lib.hid hG
  rw [hG]
  clear hR hB2 HF1 hG
  go_wp2_with fail
  go_loopw [12] (fun i wr => ∃ (k : Nat), k ≤ m ∧ i = .int .i64 k ∧ Hid (∃ o p, o.G = G ∧ Two W wr F o (AS.acts (l.take k) AS.new) p)) (fun i _ => m - (intOf i).toNat)
  case atStart => exact ⟨0, Nat.zero_le _, rfl, ⟨o0, p0, HG0.out, HT.out⟩⟩
  case round =>
    obtain ⟨k, hk, rfl, hT⟩ := hrel
    by_cases hlt : k < m
    · obtain ⟨rfl, hg⟩ := HAD.out (by omega)
      have hkl : k < l.length := by rw [HM.out]; exact hlt
      obtain ⟨v1, v2, ha, ho⟩ := HACT.out k hkl
      obtain ⟨o, p, hoG, ht⟩ := hT.out
      have ha := ha.below hg ht.below
      have HST := Lib.hid (acts_take l AS.new k hkl)
      have HSU := Lib.hid (HS.out _ (List.getElem_mem hkl))
      obtain ⟨c, hc⟩ : ∃ c, l[k] = c := ⟨_, rfl⟩
      rw [hc] at ha ho HST HSU
      have HO := Lib.hid ho
      obtain ⟨x0, x1, x2, x3, x4, x5, x6, x7⟩ := ha
      have HB0 := Lib.hid ((Below.refl wr.heap.size wr).alloc (Nat.le_refl _) (.cells (actCells c v1 v2) 44))
      have HT0 := Lib.hid (ht.under HB0.out)
      have HCP := Lib.hid (fun (w : World) (t : Two W w F o (AS.acts (l.take k) AS.new) p) => perform_is W w F 5000 o (AS.acts (l.take k) AS.new) p c v1 v2 t (HGD.out k).rk (by decide) HO.out HSU.out)
      rw [hoG] at HCP
      obtain ⟨g1, o1, a1, c1, rfl, -⟩ := id HO.out.b1
      obtain ⟨g2, o2, a2, c2, rfl, -⟩ := id HO.out.b2
      obtain ⟨kd, nm, nw, dt, af, er, ch, ls⟩ := c
      unfold actCells at *
      simp only at x0 x1 x2 x3 x4 x5 x6 x7 HB0 HT0 HCP
      clear hT ht ho hoG hc
      go_wp2_with fail
      refine (HCP.out _ HT0.out).mono ?_
      rintro e w3 ⟨rfl, o', p', hG', hT', -⟩
      have HT3 := Lib.hid (And.intro hG' hT')
      clear hG' hT'
      go_wp2_with fail
      go_roundw
      case rel => exact ⟨k + 1, by omega, by go_num, ⟨o', p', HT3.out.1, by rw [HST.out]; exact HT3.out.2⟩⟩
      case measure => simp [intOf]; omega
    · have gl : decide ((k : Int) < (m : Int)) = false := decide_eq_false (by omega)
      have hkm : k = m := by omega
      have HE : Hid (l.take k = l) := List.take_of_length_le (by rw [HM.out]; omega)
      go_wp2_with fail
      go_ret2
      obtain ⟨o, p, hoG, ht⟩ := hT.out
      rw [HE.out] at ht
      exact ⟨F, o, p, by rw [hoG]; rfl, ht⟩
end Go.Proofs.Ytcobjjaicckgpaa.Vf
/- The laws' same. -/
namespace Go.Proofs.Ytcobjjaicckgpaa.Vf
open Go Go.RowKit Go.Maps Go.Proofs.Ytcobjjaicckgpaa Go.Proofs.Ytcobjjaicckgpaa.Bs
set_option linter.unusedVariables false

theorem row_cells {w : World} {B : Nat} {v : Value} {L : List (List UInt8)} (h : w.ownsRow B 9 1 v L.length (L.map encStr)) : ∃ b ad cap, v = .slice ad L.length cap ∧ L.length ≤ cap ∧ (0 < L.length → ad = some ⟨b, 0, none⟩) ∧ ∀ k (hk : k < L.length), w.cell? ⟨b, k, none⟩ = some (.string (bs L[k])) := by
  have e : ∀ M : List (List UInt8), M.map encStr = M.flatMap fun l => [encStr l] := fun M => by induction M with | nil => rfl | cons a r ih => rw [List.map_cons, List.flatMap_cons, ih]; rfl
  rw [e L] at h
  obtain ⟨b, ad, cap, h1, h2, h3, h4⟩ := row_at (fun l => [encStr l]) (fun _ => rfl) L h
  exact ⟨b, ad, cap, h1, h2, h3, fun k hk => by have := h4 k hk 0 Nat.zero_lt_one; rw [Nat.mul_one, Nat.add_zero] at this; exact this⟩
/-- slices.Equal of two rows that read alike. -/
theorem equal_same {w : World} {B1 B2 : Nat} {v1 v2 : Value} {L : List (List UInt8)} (h1 : w.ownsRow B1 9 1 v1 L.length (L.map encStr)) (h2 : w.ownsRow B2 9 1 v2 L.length (L.map encStr)) (hL : L.length ≤ 1000000) :
    Calls Try.prog 26 #[v1, v2] w fun e w' => e = .returned (.bool true) ∧ ∃ q, w' = w.drewN q := by
  obtain ⟨b1, a1, c1, rfl, -, d1, e1⟩ := row_cells h1
  obtain ⟨b2, a2, c2, rfl, -, d2, e2⟩ := row_cells h2
  by_cases h0 : L.length = 0
  · rw [h0]
    exact (Try.slices_Equal_string_empty a1 a2 c1 0 c2 w (by decide)).mono fun e w' h => ⟨h.1, 0, h.2⟩
  · obtain rfl := d1 (by omega)
    obtain rfl := d2 (by omega)
    have hl : (L.map bs).length = L.length := List.length_map ..
    have hg : ∀ j (hj : j < (L.map bs).length), (L.map bs).getD j ByteArray.empty = bs (L[j]'(by omega)) := fun j hj => by
      rw [List.getD_eq_getElem?_getD, List.getElem?_eq_getElem hj, List.getElem_map]; rfl
    refine (Try.slices_Equal_string b1 0 L.length c1 b2 0 L.length c2 (L.map bs) (L.map bs) w (by omega) (by omega) (by omega) (by omega) (fun j hj => ?_) (fun j hj => ?_)).mono fun e w' h => ⟨by simpa using h.1, h.2⟩
    · rw [hg j hj, Nat.zero_add]; exact e1 j (by omega)
    · rw [hg j hj, Nat.zero_add]; exact e2 j (by omega)
theorem list_len (a : AS) {n : Nat} (h : a.Ok n) : a.list.length ≤ n := by
  unfold AS.list
  split
  · exact Nat.zero_le _
  · rw [List.length_map]; exact h.names
theorem list_nb {a : AS} (h : a.Nb) : ∀ l ∈ a.list, l.length ≤ 1000000 := by
  intro l hl
  unfold AS.list at hl
  split at hl
  · cases hl
  · obtain ⟨p, hp, rfl⟩ := List.mem_map.1 hl
    exact h.n p hp
set_option maxRecDepth 100000 in
set_option maxHeartbeats 16000000 in
theorem same_is (W w : World) (f n : Nat) (o : RL) (a : AS) (p : Nat → Prop) (x : ByteArray) (t : Two W w f o a p) (hk : a.Gd n) (hn : n ≤ 400000) (hx : x.size ≤ 1000000) :
    Calls Try.prog 17 #[.pointer (some ⟨f, 0, none⟩), .pointer (some ⟨o.G, 0, none⟩), .string x] w fun e w' => e = .returned (.bool true) ∧ Below w.heap.size w w' := by
  have HT := Lib.hid t
  have HK := Lib.hid hk
  have HLN := Lib.hid (Nat.le_trans (list_len a hk.rk.ok) hn)
  obtain ⟨pb, pad, pcap, hpv, -, -, -⟩ := row_at dcells (fun _ => rfl) a.pend t.g.pend
  have HPV := Lib.hid hpv
  have pn1 : a.pend.length ≤ 1000000 := by have := hk.rk.ok.pend; omega
  obtain ⟨pn, hpn⟩ : ∃ pn, a.pend.length = pn := ⟨_, rfl⟩
  rw [hpn] at HPV pn1
  have HPN := Lib.hid hpn
  obtain ⟨dn, hdn⟩ : ∃ dn, dirtyA a.files = dn := ⟨_, rfl⟩
  have HDN := Lib.hid hdn
  obtain ⟨dw, hdw⟩ : ∃ dw, a.down = dw := ⟨_, rfl⟩
  have HDW := Lib.hid hdw
  have HX := Lib.hid hx
  clear t hk hpv hpn hdn hdw hx
  obtain ⟨i0, hi, hz0, hz1, hz2⟩ := info_parts infoSr
  have II := Lib.hid (And.intro hi (And.intro hz0 (And.intro hz1 hz2)))
  clear hi hz0 hz1 hz2
  go_enter Try.func17, Try.ntmps17
  go_wp2_with fail
  refine (list_fs HT.out.f HK.out.rk.ok hn).mono ?_
  rintro e w1 ⟨v1, rfl, hv1, hb1⟩
  have HT1 := Lib.hid (HT.out.under hb1)
  have HB1 := Lib.hid hb1
  have HV1 := Lib.hid hv1
  obtain ⟨ad1, cp1, rfl⟩ := own_slice hv1
  clear hb1 hv1
  go_wp2_with fail
  have cP := pending_fs HT1.out.f HK.out.rk.ok hn
  rw [HPN.out, HDN.out] at cP
  refine cP.mono ?_
  rintro e w1' ⟨rfl, rfl⟩
  clear cP
  go_wp2_with fail
  obtain ⟨-, -, -, c3, c4, -, -, -⟩ := g_flags HT1.out.g
  rw [HPV.out] at c3
  rw [HDW.out] at c4
  obtain ⟨G, hG⟩ : ∃ G, o.G = G := ⟨_, rfl⟩
  have HG := Lib.hid hG
  rw [hG] at c3 c4 ⊢
  have CL : Hid (∀ u : World, Ri u W.heap.size o a → Calls Try.prog 23 #[.pointer (some ⟨G, 0, none⟩)] u fun e w' => ∃ v, e = .returned v ∧ w'.ownsRow u.heap.size 9 1 v a.list.length (a.list.map encStr) ∧ Below u.heap.size u w') := fun u hu => by
    rw [← hG]
    exact rlist_is _ o a u hu (by have := HK.out.rk.ok.names; omega)
  have CD : Hid (∀ u : World, Ri u W.heap.size o a → Calls Try.prog 42 #[.pointer (some ⟨G, 0, none⟩)] u fun e w' => e = .returned (.int .i64 dn) ∧ w' = u) := fun u hu => by
    rw [← hG, ← HDN.out]
    exact rdirty_is _ o a u hu (by have := HK.out.rk.ok.files; omega)
  have CW : Hid (∀ u : World, Fs u W.heap.size f Zn a p → Calls Try.prog 24 #[.pointer (some ⟨f, 0, none⟩)] u fun e w' => e = .returned (.bool dw) ∧ w' = u) := fun u hu => by
    rw [← HDW.out]
    exact down_fs hu
  have HLL : Hid (a.list.length ≤ 1000000) := by have := HLN.out; show a.list.length ≤ 1000000; omega
  clear hG
  obtain ⟨ln, hln⟩ : ∃ ln, a.list.length = ln := ⟨_, rfl⟩
  have HLE := Lib.hid hln
  rw [hln]
  go_region_held3 (fun w' => w'.cell? ⟨G, 3, none⟩ = some (.slice pad pn pcap) ∧ w'.cell? ⟨G, 4, none⟩ = some (.bool dw)) (go_keep)
    (first
      | (go_at_call_of 23 (Value.pointer (some ⟨G, 0, none⟩)); refine (CL.out _ (by exact HT1.out.g.kept (fun _ _ _ _ _ _ => rfl))).mono ?_; rintro e wA ⟨vA, rfl, hvA, hbA⟩; have HbA := Lib.hid (below_keep (u := w1') hbA rfl rfl rfl rfl); have HvA := Lib.hid hvA; obtain ⟨adA, cpA, rfl⟩ := own_slice hvA; rw [HLE.out]; have HTA := Lib.hid (HT1.out.under HbA.out); have HVA := Lib.hid (own_below HV1.out HbA.out); have c3A := cell_below c3 HbA.out rfl; have c4A := cell_below c4 HbA.out rfl; clear hvA hbA)
      | (go_at_call 26; rw [← HLE.out]; refine (equal_same (by exact HVA.out) (by exact HvA.out) HLL.out).mono ?_; rintro e wB ⟨rfl, qB, rfl⟩)
      | (go_at_call_of 24 (Value.pointer (some ⟨f, 0, none⟩)); refine (CW.out _ (by exact HTA.out.f.kept (fun _ _ => rfl) (fun _ _ _ _ => rfl))).mono ?_; rintro e wC ⟨rfl, rfl⟩)
      | (go_at_call_of 42 (Value.pointer (some ⟨G, 0, none⟩)); refine (CD.out _ (by exact HTA.out.g.kept (fun _ _ _ _ _ _ => rfl))).mono ?_; rintro e wD ⟨rfl, rfl⟩))
  have HTB : Hid (Two W (wA.drewN qB) f o a p) := ⟨HTA.out.f.kept (fun _ _ => rfl) (fun _ _ _ _ => rfl), HTA.out.g.kept (fun _ _ _ _ _ _ => rfl), below_drewN HTA.out.below qB⟩
  have HBB : Hid (Below w.heap.size w (wA.drewN qB)) := below_drewN (below_trans HB1.out HbA.out) qB
  clear c3 c4 c3A c4A HTA HVA HvA HbA HV1 HT1 CW CD HB1
  generalize wA.drewN qB = u at HTB HBB ⊢
  have HB0 := Lib.hid ((Below.refl u.heap.size u).alloc (Nat.le_refl _) (.cells #[.string x] 9))
  have HN0 := Lib.hid (own_new (base := u.heap.size) (n := 1) (size := 1) (cs := [.string x]) (heap_alloc_new u (.cells #[.string x] 9)) (Nat.le_refl _) rfl (by unfold maxLen; omega))
  go_wp2_with fail
  generalize (u.alloc (.cells #[.string x] 9)) = u1 at HB0 HN0 ⊢
  refine (CL.out _ (HTB.out.under HB0.out).g).mono ?_
  rintro e wL ⟨vL, rfl, hvL, hbL⟩
  have HbL := Lib.hid hbL
  have HvL := Lib.hid hvL
  have HNL := Lib.hid (own_below HN0.out hbL)
  have HSL := Lib.hid (Nat.le_trans HB0.out.size hbL.size)
  obtain ⟨adL, cpL, rfl⟩ := own_slice hvL
  rw [HLE.out]
  clear hvL hbL
  go_wp2_with (at_builtin; refine wpList_append_row _ rfl _ _ 52 rfl u.heap.size u1.heap.size 9 i0 (.string ByteArray.empty) 1 16 Try.underlying52 II.out.1 II.out.2.1 II.out.2.2.1 II.out.2.2.2 rfl (by decide) _ 1 [.string x] rfl HNL.out _ ln (a.list.map encStr) rfl (by have h1 := HvL.out; rw [HLE.out] at h1; exact h1) (by intro z hz; obtain ⟨l, -, rfl⟩ := List.mem_map.1 hz; rfl) ?a1 ?a2 ?a3 ?_)
  case a1 => have := HLL.out; have := HLE.out; unfold maxLen; omega
  case a2 => have := HLL.out; have := HLE.out; omega
  case a3 => exact HSL.out
  intro v2 w2 hown2 hg2 hb2
  obtain ⟨M, hM⟩ : ∃ M, x.data.toList :: a.list = M := ⟨_, rfl⟩
  have hMl : 1 + ln = M.length := by rw [← hM, List.length_cons, HLE.out, Nat.add_comm]
  have hMe : Value.string x :: a.list.map encStr = M.map encStr := by rw [← hM, List.map_cons]
  rw [hMl, hMe] at hown2
  have HB2 := Lib.hid (below_grew hg2 (below_trans HB0.out HbL.out) (fun k hk => by have := HNL.out.lt k hk; omega) HSL.out)
  have HT2 := Lib.hid (HTB.out.under HB2.out)
  have HMB : Hid (∀ l ∈ M, l.length ≤ 1000000) := by
    intro l hl
    rw [← hM] at hl
    rcases List.mem_cons.1 hl with rfl | hl
    · have := HX.out; simpa using this
    · exact list_nb HK.out.nb l hl
  have hml : M.length ≤ 1000001 := by have := HLL.out; have := HLE.out; omega
  obtain ⟨rb, rad, rcap, rfl, hrc, hrad, hrcell⟩ := row_cells hown2
  obtain ⟨m, hm⟩ : ∃ m, M.length = m := ⟨_, rfl⟩
  rw [hm] at hml hrc hrad ⊢
  have HMM := Lib.hid hm
  have HRA := Lib.hid hrad
  have HRC := Lib.hid hrcell
  have HBW := Lib.hid (below_trans HBB.out HB2.out)
  have hm0 : 0 < m := by omega
  obtain rfl := HRA.out hm0
  clear hown2 hg2 hb2 hM hMe hrad hrcell hm hMl HNL HvL HbL HN0 HB0 HSL HB2 HTB HBB HLN HLL HLE
  go_wp2_with fail
  go_loopw [58] (fun i wr => ∃ k : Nat, k ≤ m ∧ i = .int .i64 k ∧ Hid (Below w2.heap.size w2 wr)) (fun i _ => m - (intOf i).toNat)
  case atStart => exact ⟨0, Nat.zero_le _, rfl, Below.refl _ _⟩
  case round =>
    obtain ⟨k, hk, rfl, hb⟩ := hrel
    by_cases hlt : k < m
    · have hkl : k < M.length := by rw [HMM.out]; exact hlt
      have x0 := cell_below (HRC.out k hkl) hb.out rfl
      have HNM : Hid ((bs M[k]).size ≤ 1000000) := HMB.out _ (List.getElem_mem hkl)
      generalize bs M[k] = nm at x0 HNM
      obtain ⟨B, hB⟩ : ∃ B, bs (a.read nm).1 = B := ⟨_, rfl⟩
      obtain ⟨E, hE⟩ : ∃ E, (a.read nm).2 = E := ⟨_, rfl⟩
      have HTr := Lib.hid (HT2.out.under hb.out)
      have cF := read_fs HTr.out.f HK.out.rk.ok nm HNM.out
      have CR : Hid (∀ u : World, Ri u W.heap.size o a → Calls Try.prog 43 #[.pointer (some ⟨G, 0, none⟩), .string nm] u fun e w' => e = .returned (.tuple #[.string B, .int .i64 E]) ∧ w' = u) := fun u hu => by
        rw [← HG.out, ← hB, ← hE]
        exact rread_is _ o a nm u hu HK.out.rk.ok.wf (by have := HK.out.rk.ok.names; omega) (by have := HK.out.rk.ok.files; omega)
      rw [hE] at cF
      have CF := Lib.hid cF
      have HBE := Lib.hid hB
      have HBR := Lib.hid hb.out
      clear hB hE cF hb
      go_wp2_with fail
      refine CF.out.mono ?_
      rintro e w3 ⟨v, rfl, hv, -, hb3⟩
      have HV := Lib.hid hv
      have HB3 := Lib.hid hb3
      obtain ⟨va, vn, vc, rfl⟩ := hv.slice
      clear hv hb3 x0
      go_wp2_with fail
      refine (CR.out _ (HTr.out.under HB3.out).g).mono ?_
      rintro e w3' ⟨rfl, rfl⟩
      have hcv := HV.out.conv
      rw [show (⟨(a.read nm).1.toArray⟩ : ByteArray) = B from HBE.out] at hcv
      have HB4 := Lib.hid (HBR.out.trans (HB3.out.mono HBR.out.size))
      clear HV CR CF HTr HBE
      go_wp2_with fail

      go_roundw
      case rel => exact ⟨k + 1, by omega, by go_num, HB4.out⟩
      case measure => simp [intOf]; omega
    · have gl : decide ((k : Int) < (m : Int)) = false := decide_eq_false (by omega)
      have HE := Lib.hid (HBW.out.trans (hb.out.mono HBW.out.size))
      go_wp2_with fail
      go_ret
      exact ⟨rfl, HE.out⟩
end Go.Proofs.Ytcobjjaicckgpaa.Vf
/- The chapter's examples. -/
namespace Go.Proofs.Ytcobjjaicckgpaa.Vf
open Go Go.RowKit Go.Maps Go.Proofs.Ytcobjjaicckgpaa Go.Proofs.Ytcobjjaicckgpaa.Bs
set_option linter.unusedVariables false

theorem Rd.built (w : World) (l : List UInt8) (fr : Nat × Nat) : Rd (w.alloc (.cells (Lib.byteCells l).toArray 5 fr)) (.slice (some ⟨w.heap.size, 0, none⟩) l.length l.length) l :=
  .inr ⟨w.heap.size, l.length, _, _, rfl, new_block _ _, Nat.le_refl _, List.take_of_length_le (by simp [Lib.byteCells])⟩
theorem Bl.built (w : World) (b : Bool) : Bl (w.alloc (.cells #[.bool b] 4)) (.slice (some ⟨w.heap.size, 0, none⟩) 1 1) [b] :=
  ⟨w.heap.size, 0, _, 1, rfl, fun _ => rfl, fun j hj => by
    have : j = 0 := by simpa using hj
    subst this
    unfold World.cell?
    simp only [heap_alloc_new]
    rfl⟩
theorem Il.built (w : World) (n : Int) : Il (w.alloc (.cells #[.int .i64 n] 3)) (.slice (some ⟨w.heap.size, 0, none⟩) 1 1) [n] :=
  ⟨w.heap.size, 0, _, 1, rfl, Nat.le_refl _, fun _ => rfl, fun j hj => by
    have : j = 0 := by simpa using hj
    subst this
    unfold World.cell?
    simp only [heap_alloc_new]
    rfl⟩
set_option maxRecDepth 100000 in
set_option maxHeartbeats 8000000 in
theorem alive_is (W : World) :
    Calls Try.prog 7 #[] W fun e w' => e = .returned (.bool true) ∧ Below W.heap.size W w' := by
  have kc := fun (w : World) (C : Array Value) (n c : Nat) => Lib.run_convert_bytes_const (P := Try.prog) w 30 5 C n c Try.underlying30 Try.underlying5
  go_enter Try.func7, Try.ntmps7
  go_wp2_with fail
  refine (new_fs W).mono ?_
  rintro e w1 ⟨F, p, rfl, hF, hB, hp⟩
  have HF1 := Lib.hid (And.intro hF (And.intro hB hp))
  clear hF hB hp
  go_wp2_with fail
  -- Write
  have hb2 : Below w1.heap.size w1 (w1.alloc (.cells #[.int .u8 120, .int .u8 121, .int .u8 122] 5 (3, 4))) := (Below.refl _ _).alloc (Nat.le_refl _) _
  have hv : Rd (w1.alloc (.cells #[.int .u8 120, .int .u8 121, .int .u8 122] 5 (3, 4))) (.slice (some ⟨w1.heap.size, 0, none⟩) 3 3) [120, 121, 122] := Rd.built w1 [120, 121, 122] (3, 4)
  have cW := write_fs (HF1.out.1.below hb2) AS.Ok.new (by decide) ⟨#[97]⟩ _ [120, 121, 122] (by decide) (by decide) hv
  rw [ex_put] at cW
  have HB2 := Lib.hid (below_trans HF1.out.2.1 hb2)
  clear hb2 hv
  refine cW.mono ?_
  rintro e w2 ⟨rfl, p2, hF2, hr2, hp2⟩
  have HF2 := Lib.hid (show Fs w2 W.heap.size F Zn ex1 p2 ∧ Below W.heap.size W w2 from ⟨hF2, HB2.out.trans (hr2.below (fun k hk => HF1.out.2.2 k hk) HB2.out.size)⟩)
  clear cW hF2 hr2 hp2
  go_wp2_with fail
  -- Clone, twice
  refine (clone_fs HF2.out.1 ok1 (by decide)).mono ?_
  rintro e w3 ⟨q, rfl, hG, hB3, hq⟩
  have HG3 := Lib.hid (And.intro hG (And.intro hB3 hq))
  have HF3 := Lib.hid (HF2.out.1.below hB3)
  generalize w2.heap.size + 2 = G at *
  clear hG hB3 hq
  go_wp2_with fail
  refine (clone_fs HF3.out ok1 (by decide)).mono ?_
  rintro e w4 ⟨r, rfl, hH, hB4, hr⟩
  have HT : Hid (Tri W w4 F G (w3.heap.size + 2) ex1 ex1 ex1 p2 q r) := by
    have b3 : Below W.heap.size W w3 := HF2.out.2.trans (HG3.out.2.1.mono HF2.out.2.size)
    exact
      { f := HF3.out.below hB4
        g := (HG3.out.1.below hB4).base HF2.out.2.size
        h := hH.base b3.size
        fg := fun k h1 h2 => by have := (HF2.out.1.lt k h1).1; have := HG3.out.2.2 k h2; omega
        fh := fun k h1 h2 => by have := (HF3.out.lt k h1).1; have := hr k h2; omega
        gh := fun k h1 h2 => by have := (HG3.out.1.lt k h1).1; have := hr k h2; omega
        below := b3.trans (hB4.mono b3.size) }
  generalize w3.heap.size + 2 = H at *
  clear hH hB4 hr HF3 HG3 HF2 HF1 HB2
  go_wp2_with fail
  -- g.Crash(nil, nil)
  have cG := crash_fs HT.out.g ok1 (by decide) (.slice none 0 0) (.slice none 0 0) [] [] (Bl.emp _) (Il.emp _) (fun g hg => by simp [Value.ownBlock] at hg) (fun g hg => by simp [Value.ownBlock] at hg) (by decide) (by decide)
  rw [ex_crashG] at cG
  refine cG.mono ?_
  rintro e w5 ⟨rfl, q5, hG5, hr5, hq5⟩
  have HT5 := Lib.hid (HT.out.rot.next hG5 hr5 hq5)
  clear cG hG5 hr5 hq5 HT
  go_wp2_with fail
  -- h.Crash
  have hbA : Below w5.heap.size w5 (w5.alloc (.cells #[.bool true] 4)) := (Below.refl _ _).alloc (Nat.le_refl _) _
  have sA : (w5.alloc (.cells #[.bool true] 4)).heap.size = w5.heap.size + 1 := alloc_sz _ _
  have hbB := hbA.alloc (by omega) (.cells #[.int .i64 2] 3)
  have hBl : Bl ((w5.alloc (.cells #[.bool true] 4)).alloc (.cells #[.int .i64 2] 3)) (.slice (some ⟨w5.heap.size, 0, none⟩) 1 1) [true] := (Bl.built w5 true).kept fun g hg => by
    have e : w5.heap.size = g := by simpa [Value.ownBlock] using hg
    exact old_block _ _ _ (by omega)
  have hIl := Il.built (w5.alloc (.cells #[.bool true] 4)) 2
  rw [sA] at hIl
  have HT6 := Lib.hid (HT5.out.rot.under hbB)
  have hltH : ∀ k, r k → k < w5.heap.size := fun k hk => (HT5.out.rot.f.lt k hk).1
  have cH := crash_fs HT6.out.f ok1 (by decide) (.slice (some ⟨w5.heap.size, 0, none⟩) 1 1) (.slice (some ⟨w5.heap.size + 1, 0, none⟩) 1 1) [true] [2] hBl hIl (fun g hg => by
    have e : w5.heap.size = g := by simpa [Value.ownBlock] using hg
    intro hk; have := hltH g hk; omega) (fun g hg => by
    have e : w5.heap.size + 1 = g := by simpa [Value.ownBlock] using hg
    intro hk; have := hltH g hk; omega) (by decide) (by decide)
  rw [ex_crashH] at cH
  clear hbA sA hbB hBl hIl hltH HT5
  refine cH.mono ?_
  rintro e w7 ⟨rfl, r7, hH7, hr7, hq7⟩
  have HT7 := Lib.hid (HT6.out.next hH7 hr7 hq7)
  clear cH hH7 hr7 hq7 HT6
  go_wp2_with fail
  -- h.Read
  have cR := read_fs HT7.out.f okH ⟨#[97]⟩ (by decide)
  rw [ex_readH] at cR
  refine cR.mono ?_
  rintro e w8 ⟨x, rfl, hx, -, hb8⟩
  have HT8 := Lib.hid (HT7.out.rot.under hb8)
  have HX8 := Lib.hid hx
  clear cR hx hb8 HT7
  go_wp2_with fail
  -- f.Sync
  have cS := sync_fs HT8.out.f ok1 (by decide) ⟨#[97]⟩ (by decide)
  rw [ex_sync] at cS
  refine cS.mono ?_
  rintro e w9 ⟨rfl, p9, hF9, hr9, hp9⟩
  have HT9 := Lib.hid (HT8.out.next hF9 hr9 hp9)
  have HX9 := Lib.hid (HT8.out.f.rd hr9 HX8.out)
  clear cS hF9 hr9 hp9 HT8 HX8
  go_wp2_with fail
  have cD := syncdir_fs HT9.out.f ok2 (by decide)
  rw [ex_syncdir] at cD
  refine cD.mono ?_
  rintro e w10 ⟨rfl, p10, hF10, hr10, hp10⟩
  have HT10 := Lib.hid (HT9.out.next hF10 hr10 hp10)
  have HX10 := Lib.hid (HT9.out.f.rd hr10 HX9.out)
  clear cD hF10 hr10 hp10 HT9 HX9
  go_wp2_with fail
  have cC := crash_fs HT10.out.f ok3 (by decide) (.slice none 0 0) (.slice none 0 0) [] [] (Bl.emp _) (Il.emp _) (fun g hg => by simp [Value.ownBlock] at hg) (fun g hg => by simp [Value.ownBlock] at hg) (by decide) (by decide)
  rw [ex_crashF] at cC
  refine cC.mono ?_
  rintro e w11 ⟨rfl, p11, hF11, hr11, hp11⟩
  have HT11 := Lib.hid (HT10.out.next hF11 hr11 hp11)
  have HX11 := Lib.hid (HT10.out.f.rd hr11 HX10.out)
  clear cC hF11 hr11 hp11 HT10 HX10
  go_wp2_with fail
  have cR := read_fs HT11.out.f ok3 ⟨#[97]⟩ (by decide)
  rw [ex_readF] at cR
  refine cR.mono ?_
  rintro e w12 ⟨y, rfl, hy, -, hb12⟩
  have HT12 := Lib.hid (HT11.out.under hb12)
  have HX12 := Lib.hid (HX11.out.below hb12)
  have HY12 := Lib.hid hy
  clear cR hy hb12 HT11 HX11
  go_wp2_with fail
  have cL := list_fs HT12.out.g okG (by decide)
  rw [ex_list] at cL
  refine cL.mono ?_
  rintro e w13 ⟨l, rfl, hl, hb13⟩
  have hx := (HX12.out.below hb13).conv
  have hy := (HY12.out.below hb13).conv
  have HB13 := Lib.hid (HT12.out.under hb13).below
  obtain ⟨la, lc, rfl⟩ := own_slice hl
  clear cL hl hb13
  go_wp2_with fail
  go_ret
  exact ⟨rfl, HB13.out⟩
end Go.Proofs.Ytcobjjaicckgpaa.Vf
/- How a row of the laws' calls is opened. -/
namespace Go.Proofs.Ytcobjjaicckgpaa.VfO
open Go Go.ChangeShapes Go.WideShapes Go.ChangeAt Go.RowKit Go.Proofs.Ytcobjjaicckgpaa Go.Proofs.Ytcobjjaicckgpaa.Vf Go.Proofs.Ytcobjjaicckgpaa.Bs
set_option linter.unusedVariables false

section
variable {H : Type} {enc : TypeId × Value → H} {W : World}
theorem spot_none {w : World} {a : Addr} {v : Value} (h : w.cell? a = some v) : a = ⟨a.block, a.off, none⟩ := by
  obtain ⟨g, off, spot⟩ := a
  cases spot with
  | none => rfl
  | some s =>
    unfold World.cell? at h
    cases hb : w.heap[g]? with
    | none => simp [hb] at h
    | some o => cases o <;> simp [hb] at h
theorem add_zero' (a : Addr) : a.add 0 = a := by unfold Addr.add; rw [if_pos rfl]
theorem add_at {a : Addr} (h : a = ⟨a.block, a.off, none⟩) (i : Nat) : a.add i = ⟨a.block, a.off + i, none⟩ := by
  unfold Addr.add
  split
  · rename_i h0; rw [h0]; exact h
  · rfl
set_option maxRecDepth 100000 in
theorem bools_of {fuel : Nat} {cs : List Value} {x : DataW H × List MemPlace} (h : DataW.trod enc Try.prog W 0 (fun _ => true) true fuel 23 cs = some x) (hsz : ∀ n ∈ x.1.weights Try.prog 23, n ≤ reachBytes) : ∃ v ch, cs = [v] ∧ Bl W v ch ∧ ch.length ≤ 140737488355328 := by
  rcases Go.Deep.open_bools Try.underlying23 Try.underlying4 (show Try.prog.cellsOf 4 = 1 by kernel_rfl) h with ⟨hcs, _⟩ | ⟨a, len, cap, Bf, hcs, _, hl, hm, hx, hcell⟩
  · exact ⟨_, [], hcs, Bl.emp W, by simp⟩
  · refine ⟨_, (List.range len).map Bf, hcs, ⟨a.block, a.off, some a, cap, by simp, fun h0 => ?_, fun j hj => ?_⟩, ?_⟩
    · have h0 : 0 < len := by simpa using h0
      have := hcell 0 (by omega)
      rw [add_zero'] at this
      rw [← spot_none this]
    · have hj2 : j < len := by simpa using hj
      have h1 := hcell 0 (by omega)
      rw [add_zero'] at h1
      have := hcell j (by omega)
      rw [add_at (spot_none h1)] at this
      simpa using this
    · subst hx
      have h2 : reachBytes = 140737488351232 := by kernel_rfl
      have h3 := hsz ((((List.range len).map fun i => (DataW.lit (.bool (Bf i)) : DataW H)).length + ((List.range (cap - len)).map fun j => (DataW.lit (.bool (Bf (len + j))) : DataW H)).length) * Try.prog.bytesOf 4) (by simp [Go.Deep.boolRow, DataW.weights, Try.underlying23])
      have hby : Try.prog.bytesOf 4 = 1 := by kernel_rfl
      rw [hby] at h3
      simp only [List.length_map, List.length_range] at h3 ⊢
      omega
set_option maxRecDepth 100000 in
theorem ints_of {fuel : Nat} {cs : List Value} {x : DataW H × List MemPlace} (h : DataW.trod enc Try.prog W 0 (fun _ => true) true fuel 24 cs = some x) (hsz : ∀ n ∈ x.1.weights Try.prog 24, n ≤ reachBytes) : ∃ v ls, cs = [v] ∧ Il W v ls ∧ ls.length ≤ 140737488355328 := by
  rcases Go.ChangeShapes.open_ints (k := .i64) Try.underlying24 Try.underlying3 (show Try.prog.cellsOf 3 = 1 by kernel_rfl) h with ⟨hcs, _⟩ | ⟨a, len, cap, zs, hcs, _, hl, hm, hz, hx, hcell, hwz⟩
  · exact ⟨_, [], hcs, Il.emp W, by simp⟩
  · simp only [if_true] at hz
    have hlen : (zs.take len).length = len := by rw [List.length_take]; omega
    refine ⟨_, zs.take len, hcs, ⟨a.block, a.off, some a, cap, by rw [hlen], by rw [hlen]; exact hl, fun h0 => ?_, fun j hj => ?_⟩, ?_⟩
    · rw [hlen] at h0
      have := hcell 0 (by omega)
      rw [add_zero'] at this
      rw [← spot_none this]
    · have hj2 : j < len := by omega
      have h1 := hcell 0 (by omega)
      rw [add_zero'] at h1
      have := hcell j (by omega)
      rw [add_at (spot_none h1)] at this
      rw [List.getElem_take]
      rw [List.getD_eq_getElem?_getD, List.getElem?_eq_getElem (by omega)] at this
      simpa using this
    · subst hx
      have h2 : reachBytes = 140737488351232 := by kernel_rfl
      have hby : Try.prog.bytesOf 3 = 8 := by kernel_rfl
      rw [hlen]
      have h3 := hsz _ (by simp only [DataW.weights, Try.underlying24]; exact List.mem_cons_self ..)
      rw [hby] at h3
      simp [lits] at h3
      omega
theorem weights_all {P : Program} {e : TypeId} : ∀ {l : List (DataW H)} {d : DataW H}, d ∈ l → ∀ n ∈ d.weights P e, n ∈ DataW.weightsAll P e l
  | a :: r, d, h, n, hn => by
    simp only [DataW.weightsAll, List.mem_append]
    rcases List.mem_cons.1 h with rfl | h
    · exact .inl hn
    · exact .inr (weights_all h n hn)
theorem i64_max {n : Int} (h : (Lit.int .i64 n).wf = true) : n ≤ 9223372036854775807 := by
  simp only [Lit.wf, IntKind.min, IntKind.max, IntKind.signed, IntKind.bits, Bool.and_eq_true, decide_eq_true_eq, if_true] at h
  omega
theorem u8_in {n : Int} (h : (Lit.int .u8 n).wf = true) : 0 ≤ n ∧ n < 256 := by
  simp [Lit.wf, IntKind.min, IntKind.max, IntKind.signed, IntKind.bits] at h
  omega
theorem list8 {α : Type} {l : List α} (h : l.length = 8) : ∃ a b c d e f g i, l = [a, b, c, d, e, f, g, i] := by
  match l, h with
  | [a, b, c, d, e, f, g, i], _ => exact ⟨a, b, c, d, e, f, g, i, rfl⟩
set_option maxRecDepth 100000 in
theorem act_of {fuel : Nat} {cs : List Value} {x : DataW H × List MemPlace} (h : DataW.trod enc Try.prog W 0 (fun _ => true) true fuel 44 cs = some x) (hsz : ∀ n ∈ x.1.weights Try.prog 44, n ≤ reachBytes) : ∃ c v1 v2, cs = (actCells c v1 v2).toList ∧ ActOk W c v1 v2 := by
  obtain ⟨xs, m, -, rfl, hlen, hxs, hf⟩ := DataW.trod_struct Try.underlying44 h
  have c1 : Try.prog.cellsOf 3 = 1 := by kernel_rfl
  have c2 : Try.prog.cellsOf 9 = 1 := by kernel_rfl
  have c3 : Try.prog.cellsOf 23 = 1 := by kernel_rfl
  have c4 : Try.prog.cellsOf 24 = 1 := by kernel_rfl
  have c8 : Try.prog.cellsOf 44 = 8 := by kernel_rfl
  rw [c8] at hlen
  have hxs8 : xs.length = 8 := hxs
  obtain ⟨a0, a1, a2, a3, a4, a5, a6, a7, rfl⟩ := list8 hlen
  obtain ⟨y0, y1, y2, y3, y4, y5, y6, y7, rfl⟩ := list8 hxs8
  have f0 : DataW.trod enc Try.prog W 0 (fun _ => true) true m 3 (List.take (Try.prog.cellsOf 3) [a0, a1, a2, a3, a4, a5, a6, a7]) = some y0 := hf 0 _ rfl
  rw [c1] at f0
  replace f0 : DataW.trod enc Try.prog W 0 (fun _ => true) true m 3 [a0] = some y0 := f0
  have f1 : DataW.trod enc Try.prog W 0 (fun _ => true) true m 9 (List.take (Try.prog.cellsOf 9) [a1, a2, a3, a4, a5, a6, a7]) = some y1 := hf 1 _ rfl
  rw [c2] at f1
  replace f1 : DataW.trod enc Try.prog W 0 (fun _ => true) true m 9 [a1] = some y1 := f1
  have f2 : DataW.trod enc Try.prog W 0 (fun _ => true) true m 9 (List.take (Try.prog.cellsOf 9) [a2, a3, a4, a5, a6, a7]) = some y2 := hf 2 _ rfl
  rw [c2] at f2
  replace f2 : DataW.trod enc Try.prog W 0 (fun _ => true) true m 9 [a2] = some y2 := f2
  have f3 : DataW.trod enc Try.prog W 0 (fun _ => true) true m 9 (List.take (Try.prog.cellsOf 9) [a3, a4, a5, a6, a7]) = some y3 := hf 3 _ rfl
  rw [c2] at f3
  replace f3 : DataW.trod enc Try.prog W 0 (fun _ => true) true m 9 [a3] = some y3 := f3
  have f4 : DataW.trod enc Try.prog W 0 (fun _ => true) true m 3 (List.take (Try.prog.cellsOf 3) [a4, a5, a6, a7]) = some y4 := hf 4 _ rfl
  rw [c1] at f4
  replace f4 : DataW.trod enc Try.prog W 0 (fun _ => true) true m 3 [a4] = some y4 := f4
  have f5 : DataW.trod enc Try.prog W 0 (fun _ => true) true m 3 (List.take (Try.prog.cellsOf 3) [a5, a6, a7]) = some y5 := hf 5 _ rfl
  rw [c1] at f5
  replace f5 : DataW.trod enc Try.prog W 0 (fun _ => true) true m 3 [a5] = some y5 := f5
  have f6 : DataW.trod enc Try.prog W 0 (fun _ => true) true m 23 (List.take (Try.prog.cellsOf 23) [a6, a7]) = some y6 := hf 6 _ rfl
  rw [c3] at f6
  replace f6 : DataW.trod enc Try.prog W 0 (fun _ => true) true m 23 [a6] = some y6 := f6
  have f7 : DataW.trod enc Try.prog W 0 (fun _ => true) true m 24 (List.take (Try.prog.cellsOf 24) [a7]) = some y7 := hf 7 _ rfl
  rw [c4] at f7
  replace f7 : DataW.trod enc Try.prog W 0 (fun _ => true) true m 24 [a7] = some y7 := f7
  have hs : (DataW.weightsEach Try.prog [3, 9, 9, 9, 3, 3, 23, 24] [y0.1, y1.1, y2.1, y3.1, y4.1, y5.1, y6.1, y7.1]).all (· ≤ reachBytes) = true := by
    rw [List.all_eq_true]
    intro n hn
    have := hsz n (by rw [show (DataW.weights Try.prog 44 (DataW.agg (List.map (fun x => x.1) [y0, y1, y2, y3, y4, y5, y6, y7]) : DataW H)) = DataW.weightsEach Try.prog [3, 9, 9, 9, 3, 3, 23, 24] [y0.1, y1.1, y2.1, y3.1, y4.1, y5.1, y6.1, y7.1] by simp only [DataW.weights, Try.underlying44]; rfl]; exact hn)
    exact decide_eq_true this
  obtain ⟨n0, e0, -, -⟩ := DataW.trod_int Try.underlying3 f0
  obtain ⟨s1, e1, g1, -⟩ := DataW.trod_string Try.underlying9 f1
  obtain ⟨s2, e2, g2, -⟩ := DataW.trod_string Try.underlying9 f2
  obtain ⟨s3, e3, g3, -⟩ := DataW.trod_string Try.underlying9 f3
  obtain ⟨n4, e4, -, w4⟩ := DataW.trod_int Try.underlying3 f4
  obtain ⟨n5, e5, -, -⟩ := DataW.trod_int Try.underlying3 f5
  have hw : ∀ n ∈ DataW.weightsEach Try.prog [3, 9, 9, 9, 3, 3, 23, 24] [y0.1, y1.1, y2.1, y3.1, y4.1, y5.1, y6.1, y7.1], n ≤ reachBytes := fun n hn => by simpa using List.all_eq_true.1 hs n hn
  obtain ⟨v1, ch, e6, b1, l1⟩ := bools_of f6 (fun n hn => hw n (DataW.weights_mem_each (j := 6) rfl rfl n hn))
  obtain ⟨v2, ls, e7, b2, l2⟩ := ints_of f7 (fun n hn => hw n (DataW.weights_mem_each (j := 7) rfl rfl n hn))
  have z1 := sized_string hs (j := 1) (t := 9) rfl (show _ = some (DataW.lit (.string s1.data.toList)) by rw [g1]; rfl)
  have z2 := sized_string hs (j := 2) (t := 9) rfl (show _ = some (DataW.lit (.string s2.data.toList)) by rw [g2]; rfl)
  have z3 := sized_string hs (j := 3) (t := 9) rfl (show _ = some (DataW.lit (.string s3.data.toList)) by rw [g3]; rfl)
  have h2 : reachBytes = 140737488351232 := by kernel_rfl
  have t1 : s1.data.toList.length = s1.size := by simp
  have t2 : s2.data.toList.length = s2.size := by simp
  have t3 : s3.data.toList.length = s3.size := by simp
  simp only [List.cons.injEq, and_true] at e0 e1 e2 e3 e4 e5 e6 e7
  subst e0 e1 e2 e3 e4 e5 e6 e7
  exact ⟨⟨n0, s1, s2, s3, n4, n5, ch, ls⟩, _, _, rfl, b1, b2, by show s1.size ≤ _; omega, by show s2.size ≤ _; omega, by show s3.size ≤ _; omega, l1, l2, i64_max w4⟩
set_option maxRecDepth 100000 in
theorem acts_at {v : Value} {d : DataW H} {p : List MemPlace} {base : Nat} (hv : Value.okWide Try.prog W .any base 38 v) (h : DataW.Trod enc Try.prog W 0 (fun _ => true) true 38 v d p) {ts : List TypeId} {ds : List (DataW H)} {j : Nat} (hj : ts[j]? = some 38) (hd : ds[j]? = some d) (hsz : (DataW.weightsEach Try.prog ts ds).all (· ≤ reachBytes) = true) :
    ∃ l, Acts W v l := by
  obtain ⟨fuel, hf⟩ := h
  have hw : ∀ n ∈ d.weights Try.prog 38, n ≤ reachBytes := fun n hn => by simpa using List.all_eq_true.1 hsz n (DataW.weights_mem_each hj hd n hn)
  have h2 : reachBytes = 140737488351232 := by kernel_rfl
  have c8 : Try.prog.cellsOf 44 = 8 := by kernel_rfl
  rcases DataW.trod_slice Try.underlying38 hf with ⟨hcs, _⟩ | ⟨a, len, cap, elems, rest, m, -, hcs, hx, _, hl, hm, hel, he, -, -⟩
  · obtain rfl : v = .slice none 0 0 := by rcases slice_at Try.underlying38 hv with rfl | ⟨g, off, len, cap, rfl, hg⟩ <;> simp_all [Value.cells]
    exact ⟨[], 0, 0, none, 0, rfl, fun h0 => absurd h0 (by simp), by simp, fun j hj => absurd hj (by simp)⟩
  · obtain rfl : v = .slice (some a) len cap := by rcases slice_at Try.underlying38 hv with rfl | ⟨g, off, len, cap, rfl, hg⟩ <;> simp_all [Value.cells]
    simp only [Prod.mk.injEq] at hx
    obtain ⟨rfl, -⟩ := hx
    have each : ∀ i (hi : i < len), ∃ c v1 v2, (∀ k, k < 8 → W.cell? ((a.add (i * 8)).add k) = (actCells c v1 v2).toList[k]?) ∧ ActOk W c v1 v2 := by
      intro i hi
      have h1 := he i hi
      rw [c8, List.getElem?_eq_getElem (by omega)] at h1
      obtain ⟨cs, hc, ht⟩ := Option.bind_eq_some_iff.1 h1
      obtain ⟨-, -, hcell⟩ := World.cells?_some hc
      obtain ⟨c, v1, v2, rfl, ho⟩ := act_of ht (fun n hn => hw n (by
        simp only [DataW.weights, Try.underlying38]
        exact List.mem_cons_of_mem _ (List.mem_append.2 (.inl (weights_all (List.mem_map_of_mem (List.getElem_mem (by omega : i < elems.length))) n hn)))))
      exact ⟨c, v1, v2, hcell, ho⟩
    have hall : ∃ l : List Ac, l.length = len ∧ ∀ i (hi : i < l.length), ∃ v1 v2, (∀ k, k < 8 → W.cell? ((a.add (i * 8)).add k) = (actCells l[i] v1 v2).toList[k]?) ∧ ActOk W l[i] v1 v2 := by
      refine ⟨(List.range len).attach.map fun i => Classical.choose (each i.1 (List.mem_range.1 i.2)), by simp, fun i hi => ?_⟩
      have hi2 : i < len := by simpa using hi
      have := Classical.choose_spec (each i hi2)
      simpa using this
    obtain ⟨l, hll, hl2⟩ := hall
    have hlen : len ≤ 140737488355328 := by
      have h3 := hw _ (by simp only [DataW.weights, Try.underlying38]; exact List.mem_cons_self ..)
      rw [List.length_map, List.length_map, hel, show Try.prog.bytesOf 44 = 120 by kernel_rfl, h2] at h3
      have h4 : len ≤ (len + rest.length) * 120 := by omega
      omega
    subst hll
    refine ⟨l, a.block, a.off, some a, cap, rfl, fun h0 => ?_, hlen, fun i hi => ?_⟩
    · obtain ⟨v1, v2, h3, -⟩ := hl2 0 h0
      have h4 := h3 0 (by omega)
      rw [Nat.zero_mul, add_zero', add_zero'] at h4
      rw [← spot_none h4]
      exact ⟨rfl, lt_of_cell h4⟩
    · obtain ⟨v1, v2, h3, ho⟩ := hl2 i hi
      obtain ⟨u1, u2, h5, -⟩ := hl2 0 (by omega)
      have h4 := h5 0 (by omega)
      rw [Nat.zero_mul, add_zero', add_zero'] at h4
      have sp := spot_none h4
      have key : ∀ k, k < 8 → W.cell? ⟨a.block, a.off + i * 8 + k, none⟩ = (actCells l[i] v1 v2).toList[k]? := fun k hk => by
        have := h3 k hk
        rw [add_at sp (i * 8), add_at rfl k] at this
        exact this
      exact ⟨v1, v2, ⟨key 0 (by omega), key 1 (by omega), key 2 (by omega), key 3 (by omega), key 4 (by omega), key 5 (by omega), key 6 (by omega), key 7 (by omega)⟩, ho⟩
set_option maxRecDepth 100000 in
theorem act_at {v : Value} {d : DataW H} {p : List MemPlace} {base : Nat} (hv : Value.okWide Try.prog W .any base 44 v) (h : DataW.Trod enc Try.prog W 0 (fun _ => true) true 44 v d p) {ts : List TypeId} {ds : List (DataW H)} {j : Nat} (hj : ts[j]? = some 44) (hd : ds[j]? = some d) (hsz : (DataW.weightsEach Try.prog ts ds).all (· ≤ reachBytes) = true) :
    ∃ c v1 v2, v = .agg (actCells c v1 v2) ∧ ActOk W c v1 v2 := by
  obtain ⟨fuel, hf⟩ := h
  have hw : ∀ n ∈ d.weights Try.prog 44, n ≤ reachBytes := fun n hn => by simpa using List.all_eq_true.1 hsz n (DataW.weights_mem_each hj hd n hn)
  obtain ⟨cs, rfl, -⟩ : ∃ cs, v = .agg cs ∧ True := by
    unfold Value.okWide at hv
    rw [Try.underlying44] at hv
    obtain ⟨cs, h1, -⟩ := hv
    exact ⟨cs, h1, trivial⟩
  obtain ⟨c, v1, v2, hcs, ho⟩ := act_of hf hw
  refine ⟨c, v1, v2, ?_, ho⟩
  have : cs.toList = (actCells c v1 v2).toList := by simpa [Value.cells] using hcs
  rw [Array.toList_inj.1 this]
end
end Go.Proofs.Ytcobjjaicckgpaa.VfO
