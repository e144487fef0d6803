/- Parts of this proof, joined: PjO, DeW1, DeW2, EqW. -/
import Derived.Test.YtjaojenalodolaaGreatDoorKE
import Derived.Deep.MidRow
import Derived.Test.YtjaojenalodolaaGreatDoorKW
import Derived.Lib.QuietBelow
/- Own rows: an element set in place; the store of many cells as a step of a drawn region. -/
namespace Go.Proofs.YtjaojenalodolaaGreatDoor.Me
open Go Go.RowKit Go.Proofs.YtjaojenalodolaaGreatDoor Go.Proofs.YtjaojenalodolaaGreatDoor.Rw Go.Proofs.YtjaojenalodolaaGreatDoor.Vf
set_option linter.unusedVariables false
theorem own_set1 {w : World} {base size b n cap j : Nat} {t : TypeId} {xs : List Value} (h : w.ownsRow base t size (.slice (some ⟨b, 0, none⟩) n cap) n xs) (v : Value) : (w.setCell ⟨b, j, none⟩ v).ownsRow base t size (.slice (some ⟨b, 0, none⟩) n cap) n (xs.set j v) := by
  refine ⟨by rw [List.length_set]; exact h.1, ?_⟩
  rcases h.2 with ⟨e, _⟩ | ⟨g, c, cur, e, hb, hg, hnc, hcm, hcs, ht⟩
  · cases e
  · have e1 : b = g := by injection e with e; injection e with e; injection e
    have e2 : cap = c := by injection e
    subst e1 e2
    refine .inr ⟨b, cap, cur.setIfInBounds j v, rfl, hb, heap_setCell_same w b j _ _ v hg, hnc, hcm, by simpa using hcs, ?_⟩
    rw [← ht, Array.toList_setIfInBounds, List.take_set]
def sets (xs : List Value) : Nat → List Value → List Value
  | _, [] => xs
  | o, v :: r => sets (xs.set o v) (o + 1) r
theorem sets_append (vs : List Value) : ∀ (ys zs : List Value), zs.length = vs.length → sets (ys ++ zs) ys.length vs = ys ++ vs := by
  induction vs with
  | nil => intro ys zs h; obtain rfl : zs = [] := List.eq_nil_of_length_eq_zero h; rfl
  | cons v r ih =>
    intro ys zs h
    cases zs with
    | nil => simp at h
    | cons z t =>
      show sets ((ys ++ z :: t).set ys.length v) (ys.length + 1) r = _
      rw [List.set_append_right _ _ (Nat.le_refl _), Nat.sub_self, List.set_cons_zero]
      have := ih (ys ++ [v]) t (by simpa using h)
      simpa using this
theorem own_sets {base size b n cap : Nat} {t : TypeId} (vs : List Value) : ∀ (o : Nat) (w : World) (xs : List Value), w.ownsRow base t size (.slice (some ⟨b, 0, none⟩) n cap) n xs → (w.setCells b o vs).ownsRow base t size (.slice (some ⟨b, 0, none⟩) n cap) n (sets xs o vs) := by
  induction vs with
  | nil => intro o w xs h; exact h
  | cons v r ih => intro o w xs h; exact ih (o + 1) _ _ (own_set1 h v)
theorem setCells_frame (b : Nat) (vs : List Value) : ∀ (o : Nat) (w : World), (w.setCells b o vs).os = w.os ∧ (w.setCells b o vs).tape = w.tape ∧ (w.setCells b o vs).output = w.output ∧ (w.setCells b o vs).heap.size = w.heap.size ∧ ∀ k, k ≠ b → (w.setCells b o vs).heap[k]? = w.heap[k]? := by
  induction vs with
  | nil => intro o w; exact ⟨rfl, rfl, rfl, rfl, fun _ _ => rfl⟩
  | cons v r ih =>
    intro o w
    obtain ⟨h1, h2, h3, h4, h5⟩ := ih (o + 1) (w.setCell ⟨b, o, none⟩ v)
    exact ⟨h1, h2, h3, h4.trans (by simp [World.setCell]), fun k hk => (h5 k hk).trans (heap_setCell_other _ _ _ _ hk)⟩
end Go.Proofs.YtjaojenalodolaaGreatDoor.Me
/- jsonvalue.Get at a member that is there, and the store's get, walked. -/
namespace Go.Proofs.YtjaojenalodolaaGreatDoor.De
open Go Go.RowKit Go.Proofs.YtjaojenalodolaaGreatDoor Go.Proofs.YtjaojenalodolaaGreatDoor.Rw Go.Proofs.YtjaojenalodolaaGreatDoor.Mw Go.Proofs.YtjaojenalodolaaGreatDoor.Me
set_option linter.unusedVariables false
set_option maxRecDepth 100000
set_option maxHeartbeats 16000000
theorem res_cell_slot {P : Program} {fn : Func} {p q : Tmp} {ty : TypeId} (h : fn.results = #[.cell p ty, .tmp q]) (tmps : Array Value) (w : World) (g : Nat) (t : TypeId) (cs : Array Value) (fr : Nat × Nat) (d : TypeDesc)
    (hp : tmps.getD p undef = .pointer (some ⟨g, 0, none⟩)) (hg : w.heap[g]? = some (.cells cs t fr))
    (hu : P.underlying ty = some d) (hd : (match d with | .struct _ | .array _ _ => true | _ => false) = true) (hi : (P.info? ty).map (·.size) = some cs.size) :
    (results fn tmps).run P w = .ok (.tuple #[.agg cs, tmps.getD q undef]) w := by
  have hp' : tmps[p]?.getD undef = .pointer (some ⟨g, 0, none⟩) := by simpa using hp
  simp [results, h, hp', asAddr, run_loadVar_row w g t ty cs fr d hg hu hd hi]
abbrev zV : Obj := .cells #[.int .i64 0, .bool false, .int .i64 0, .string ByteArray.empty, .slice none 0 0, .slice none 0 0, .int .i64 0] 82
def GtT (W : World) (j : Jv.J) (e : Ending) : Prop := ∃ k b n t a1 n1 c1 a2 n2 c2 q, e = .returned (.tuple #[.agg #[.int .i64 k, .bool b, .int .i64 n, .string t, .slice a1 n1 c1, .slice a2 n2 c2, .int .i64 q], .bool true]) ∧ Jv W j (vCells k b n t (.slice a1 n1 c1) (.slice a2 n2 c2) q)
def GtA (W : World) (j : Jv.J) (e : Ending) : Prop := ∃ k b n t a1 n1 c1 a2 n2 c2 q, e = .returned (.agg #[.int .i64 k, .bool b, .int .i64 n, .string t, .slice a1 n1 c1, .slice a2 n2 c2, .int .i64 q]) ∧ Jv W j (vCells k b n t (.slice a1 n1 c1) (.slice a2 n2 c2) q)
theorem jget_is (l : List (ByteArray × Jv.J)) (i : Nat) (hi : i < l.length) (key : ByteArray) (hk : l[i].1 = key) (hn : ∀ j (hj : j < l.length), j < i → (l[j].1.toList == key.toList) = false) (vm : Value) (L : List (List Value)) (p : Int) (W U : World) (hWU : Below W.heap.size W U) (hR : Rw W vm 9 L) (hA : All JvP W l L) (hl : l.length ≤ 1000000) :
    Calls Tryz.prog 55 #[.agg #[.int .i64 5, .bool false, .int .i64 0, .string ⟨#[]⟩, .slice none 0 0, vm, .int .i64 p], .string key] U fun e w' => GtT W l[i].2 e ∧ Below U.heap.size U w' := by
  obtain ⟨g, off, ad, cap, rfl, had, hc⟩ := mems_at hR hA
  obtain ⟨m, hm⟩ : ∃ m, l.length = m := ⟨_, rfl⟩
  have hba := (Below.refl U.heap.size U).alloc (Nat.le_refl _) (.cells #[.int .i64 5, .bool false, .int .i64 0, .string ⟨#[]⟩, .slice none 0 0, .slice ad m cap, .int .i64 p] 82)
  obtain ⟨x0, x1, x2, x3, x4, x5, x6⟩ := cells7 (w := U) (x0 := .int .i64 5) (x1 := .bool false) (x2 := .int .i64 0) (x3 := .string ⟨#[]⟩) (x4 := .slice none 0 0) (x5 := .slice ad m cap) (x6 := .int .i64 p) (t := 82)
  rw [hm] at had hl ⊢
  have HM := Lib.hid hm
  have HAD := Lib.hid (had (by omega))
  have HC := Lib.hid hc
  have HN := Lib.hid (And.intro hk hn)
  have HI := Lib.hid hi
  have HBA := Lib.hid hba
  have HWU := Lib.hid hWU
  clear hR hA had hc hk hn hm hba hWU
  obtain rfl := HAD.out
  go_enter Tryz.func55, Tryz.ntmps55
  go_wp2_with fail
  generalize hw1 : (U.alloc (.cells #[.int .i64 5, .bool false, .int .i64 0, .string ⟨#[]⟩, .slice none 0 0, .slice (some ⟨g, off, none⟩) m cap, .int .i64 p] 82)).alloc (.cells #[.int .i64 0, .bool false, .int .i64 0, .string ⟨#[]⟩, .slice none 0 0, .slice none 0 0, .int .i64 0] 82) = w1
  have hRb : w1.heap[U.heap.size + 1]? = some (Obj.cells #[.int .i64 0, .bool false, .int .i64 0, .string ⟨#[]⟩, .slice none 0 0, .slice none 0 0, .int .i64 0] 82 (0, 0)) := by rw [← hw1]; exact heap_alloc2_new _ _ _
  have HB1 := Lib.hid (show Below U.heap.size U w1 by rw [← hw1]; exact HBA.out.alloc HBA.out.size _)
  have HRB := Lib.hid hRb
  obtain ⟨R, hR⟩ : ∃ n, U.heap.size + 1 = n := ⟨_, rfl⟩
  have HRE := Lib.hid (show U.heap.size ≤ R by omega)
  rw [hR] at HRB ⊢
  clear hw1 hRb HBA x0 x1 x2 x3 x4 x5 x6 hR
  go_loopw [15] (fun x wr => ∃ j : Nat, j ≤ i ∧ x = .int .i64 j ∧ Hid (Below w1.heap.size w1 wr)) (fun x _ => m - (intOf x).toNat)
  case atStart => exact ⟨0, Nat.zero_le _, rfl, Lib.hid (Below.refl _ _)⟩
  case round =>
    obtain ⟨j, hj, rfl, hb⟩ := hrel
    have hjl : j < l.length := by have := HI.out; omega
    have j1 : (j : Int) < (m : Int) := by have := HM.out; omega
    have j0 : (0 : Int) ≤ (j : Int) := by omega
    have hbw := below_seq HWU.out (below_seq HB1.out hb.out)
    obtain ⟨vk, vb, vn, vs, a1, n1, c1, a2, n2, c2, vp, vq, hJ, y0, y1, y2, y3, y4, y5, y6, y7, y8⟩ := HC.out j hjl
    replace y0 := cell_under y0 hbw
    replace y1 := cell_under y1 hbw
    replace y2 := cell_under y2 hbw
    replace y3 := cell_under y3 hbw
    replace y4 := cell_under y4 hbw
    replace y5 := cell_under y5 hbw
    replace y6 := cell_under y6 hbw
    replace y7 := cell_under y7 hbw
    replace y8 := cell_under y8 hbw
    have HJ := Lib.hid hJ
    have HE := Lib.hid (fun h : j = i => (show l[j].1 = key ∧ Jv W l[i].2 (vCells vk vb vn vs (.slice a1 n1 c1) (.slice a2 n2 c2) vp) by subst h; exact ⟨HN.out.1, hJ⟩))
    have HF := Lib.hid (fun h : j < i => HN.out.2 j hjl h)
    clear hJ
    generalize l[j].1 = kk at y0 HE HF
    have hba := (Below.refl wr.heap.size wr).alloc (Nat.le_refl _) (.cells #[.string kk, .int .i64 vk, .bool vb, .int .i64 vn, .string vs, .slice a1 n1 c1, .slice a2 n2 c2, .int .i64 vp, .int .i64 vq] 144)
    have hnb := heap_alloc_new wr (.cells #[.string kk, .int .i64 vk, .bool vb, .int .i64 vn, .string vs, .slice a1 n1 c1, .slice a2 n2 c2, .int .i64 vp, .int .i64 vq] 144)
    have HB2 := Lib.hid (below_seq hb.out hba)
    have z0 := Me.box_at (j := 0) hnb rfl
    have z1 := Me.box_at (j := 1) hnb rfl
    have z2 := Me.box_at (j := 2) hnb rfl
    have z3 := Me.box_at (j := 3) hnb rfl
    have z4 := Me.box_at (j := 4) hnb rfl
    have z5 := Me.box_at (j := 5) hnb rfl
    have z6 := Me.box_at (j := 6) hnb rfl
    have z7 := Me.box_at (j := 7) hnb rfl
    clear hba hnb hbw
    by_cases hlt : j < i
    · have hne := HF.out hlt
      go_wp2_with fail
      go_roundw
      case rel => exact ⟨j + 1, by omega, by go_num, HB2⟩
      case measure => have := HM.out; have := HI.out; simp [intOf]; omega
    · obtain ⟨rfl, hJ⟩ := HE.out (by omega)
      have HJ2 := Lib.hid hJ
      have HR2 := Lib.hid ((HB2.out.block R (Rw.lt_of_heap HRB.out)).trans HRB.out)
      have HB3 := Lib.hid (below_seq HB1.out HB2.out)
      clear hJ hlt
      go_wp2_with (refine wpList_store_row rfl 82 _ _ rfl R #[.int .i64 vk, .bool vb, .int .i64 vn, .string vs, .slice a1 n1 c1, .slice a2 n2 c2, .int .i64 vp] rfl rfl 82 _ HR2.out (by kernel_rfl) rfl (by simp [Value.oneCell']) ?_)
      go_wp2_with fail
      have hz2 := setRow_heap _ R _ #[.int .i64 vk, .bool vb, .int .i64 vn, .string vs, .slice a1 n1 c1, .slice a2 n2 c2, .int .i64 vp] _ _ HR2.out
      refine bodyPost_ret (res_cell_slot rfl _ _ R _ _ _ _ rfl hz2 Tryz.underlying82 rfl (by kernel_rfl)) rfl ?_
      exact ⟨⟨vk, vb, vn, vs, a1, n1, c1, a2, n2, c2, vp, rfl, HJ2.out⟩, below_setRow HB3.out HRE.out _⟩
theorem jget_of (l : List (ByteArray × Jv.J)) (i : Nat) (hi : i < l.length) (key : ByteArray) (hk : l[i].1 = key) (hn : ∀ j (hj : j < l.length), j < i → (l[j].1.toList == key.toList) = false) (vm : Value) (L : List (List Value)) (p : Int) (W : World) (hR : Rw W vm 9 L) (hA : All JvP W l L) (hl : l.length ≤ 1000000) :
    ∀ u, Below W.heap.size W u → Calls Tryz.prog 55 #[.agg #[.int .i64 5, .bool false, .int .i64 0, .string ⟨#[]⟩, .slice none 0 0, vm, .int .i64 p], .string key] u fun e w' => GtT W l[i].2 e ∧ Below u.heap.size u w' :=
  fun u hu => jget_is l i hi key hk hn vm L p W u hu hR hA hl
theorem get_is (l : List (ByteArray × Jv.J)) (i : Nat) (hi : i < l.length) (key : ByteArray) (hk : l[i].1 = key) (hn : ∀ j (hj : j < l.length), j < i → (l[j].1.toList == key.toList) = false) (vm : Value) (L : List (List Value)) (p : Int) (V W : World) (hVW : Below V.heap.size V W) (hR : Rw V vm 9 L) (hA : All JvP V l L) (hl : l.length ≤ 1000000) :
    Calls Tryz.prog 54 #[.agg #[.int .i64 5, .bool false, .int .i64 0, .string ⟨#[]⟩, .slice none 0 0, vm, .int .i64 p], .string key] W fun e w' => (GtA V l[i].2 e ∧ Below W.heap.size W w') := by
  obtain ⟨g, off, ad, cap, rfl, -, -⟩ := mems_at hR hA
  have hb0 := (Below.refl W.heap.size W).alloc (Nat.le_refl _) (.cells #[.int .i64 5, .bool false, .int .i64 0, .string ⟨#[]⟩, .slice none 0 0, .slice ad l.length cap, .int .i64 p] 82)
  have hb1 := hb0.alloc hb0.size (.cells #[.int .i64 0, .bool false, .int .i64 0, .string ⟨#[]⟩, .slice none 0 0, .slice none 0 0, .int .i64 0] 82)
  have hx := heap_alloc2_old W (.cells #[.int .i64 5, .bool false, .int .i64 0, .string ⟨#[]⟩, .slice none 0 0, .slice ad l.length cap, .int .i64 p] 82) (.cells #[.int .i64 0, .bool false, .int .i64 0, .string ⟨#[]⟩, .slice none 0 0, .slice none 0 0, .int .i64 0] 82)
  have hy := heap_alloc2_new W (.cells #[.int .i64 5, .bool false, .int .i64 0, .string ⟨#[]⟩, .slice none 0 0, .slice ad l.length cap, .int .i64 p] 82) (.cells #[.int .i64 0, .bool false, .int .i64 0, .string ⟨#[]⟩, .slice none 0 0, .slice none 0 0, .int .i64 0] 82)
  have x0 := Me.box_at (j := 0) hx rfl
  have x1 := Me.box_at (j := 1) hx rfl
  have x2 := Me.box_at (j := 2) hx rfl
  have x3 := Me.box_at (j := 3) hx rfl
  have x4 := Me.box_at (j := 4) hx rfl
  have x5 := Me.box_at (j := 5) hx rfl
  have x6 := Me.box_at (j := 6) hx rfl
  have CG := Lib.hid (jget_of l i hi key hk hn (.slice ad l.length cap) L p V hR hA hl)
  have HB1 := Lib.hid hb1
  have HVW := Lib.hid hVW
  have HY := Lib.hid hy
  generalize l.length = m at x5 CG HB1 HY ⊢
  clear hR hA hb0 hb1 hx hy hk hn hl hVW
  go_enter Tryz.func54, Tryz.ntmps54
  go_wp2_with fail
  refine (CG.out _ (below_seq HVW.out HB1.out)).mono ?_
  rintro e w1 ⟨⟨vk, vb, vn, vt, a1, n1, c1, a2, n2, c2, vp, rfl, hJ⟩, hb1⟩
  have HJ := Lib.hid hJ
  have HB2 := Lib.hid (below_seq HB1.out hb1)
  have HR2 := Lib.hid ((hb1.block _ (Rw.lt_of_heap HY.out)).trans HY.out)
  clear hJ hb1 CG x0 x1 x2 x3 x4 x5 x6 HY HB1
  have hba := (Below.refl w1.heap.size w1).alloc (Nat.le_refl _) (.cells #[.int .i64 vk, .bool vb, .int .i64 vn, .string vt, .slice a1 n1 c1, .slice a2 n2 c2, .int .i64 vp] 82)
  have HR3 := Lib.hid ((hba.block _ (Rw.lt_of_heap HR2.out)).trans HR2.out)
  have HB3 := Lib.hid (below_seq HB2.out hba)
  clear hba HR2 HB2
  obtain ⟨R, hR⟩ : ∃ n, W.heap.size + 1 = n := ⟨_, rfl⟩
  have HRE := Lib.hid (show W.heap.size ≤ R by omega)
  have HRW := Lib.hid (show (((W.alloc (.cells #[.int .i64 5, .bool false, .int .i64 0, .string ⟨#[]⟩, .slice none 0 0, .slice ad m cap, .int .i64 p] 82)).alloc (.cells #[.int .i64 0, .bool false, .int .i64 0, .string ⟨#[]⟩, .slice none 0 0, .slice none 0 0, .int .i64 0] 82))).heap.size ≤ R + 1 by rw [← hR]; simp)
  have HRL := Lib.hid (show R < (((W.alloc (.cells #[.int .i64 5, .bool false, .int .i64 0, .string ⟨#[]⟩, .slice none 0 0, .slice ad m cap, .int .i64 p] 82)).alloc (.cells #[.int .i64 0, .bool false, .int .i64 0, .string ⟨#[]⟩, .slice none 0 0, .slice none 0 0, .int .i64 0] 82))).heap.size by rw [← hR]; simp)
  rw [hR] at HR3 ⊢
  clear hR
  go_wp2_with (refine wpList_store_row rfl 82 _ _ rfl R #[.int .i64 vk, .bool vb, .int .i64 vn, .string vt, .slice a1 n1 c1, .slice a2 n2 c2, .int .i64 vp] rfl rfl 82 _ HR3.out (by kernel_rfl) rfl (by simp [Value.oneCell']) ?_)
  go_wp2_with fail
  have hz2 := setRow_heap _ R _ #[.int .i64 vk, .bool vb, .int .i64 vn, .string vt, .slice a1 n1 c1, .slice a2 n2 c2, .int .i64 vp] _ _ HR3.out
  refine bodyPost_ret (results_cell_row rfl _ _ R _ _ _ _ rfl hz2 Tryz.underlying82 rfl (by kernel_rfl)) rfl ?_
  exact ⟨⟨vk, vb, vn, vt, a1, n1, c1, a2, n2, c2, vp, rfl, HJ.out⟩, below_setRow HB3.out HRE.out _⟩
end Go.Proofs.YtjaojenalodolaaGreatDoor.De
/- The store's get at the members of a feed and of an entry. -/
namespace Go.Proofs.YtjaojenalodolaaGreatDoor.De
open Go Go.RowKit Go.Proofs.YtjaojenalodolaaGreatDoor Go.Proofs.YtjaojenalodolaaGreatDoor.Rw Go.Proofs.YtjaojenalodolaaGreatDoor.Mw Go.Proofs.YtjaojenalodolaaGreatDoor.Me
set_option linter.unusedVariables false
set_option maxRecDepth 100000
set_option maxHeartbeats 16000000
def Ob (W : World) (l : List (ByteArray × Jv.J)) (vm : Value) : Prop := ∃ L, Rw W vm 9 L ∧ All JvP W l L
theorem Ob.under {W u : World} {l : List (ByteArray × Jv.J)} {vm : Value} (h : Ob W l vm) (hb : Below W.heap.size W u) : Ob u l vm := by
  obtain ⟨L, h1, h2⟩ := h
  exact ⟨L, h1.under hb, h2.1, fun j hj hL => JvP.under hb _ _ (h2.2 j hj hL)⟩
theorem Ob.of {W : World} {l : List (ByteArray × Jv.J)} {c : List Value} (h : Jv W (.obj l) c) : ∃ p vm, c = vCells 5 false 0 ⟨#[]⟩ nilV vm p ∧ Ob W l vm := by
  unfold Jv at h
  obtain ⟨p, v, L, h1, h2, h3⟩ := h
  exact ⟨p, v, h1, L, h2, JvM_at h3⟩
def GS (t : ByteArray) (e : Ending) : Prop := ∃ p, e = .returned (.agg #[.int .i64 3, .bool false, .int .i64 0, .string t, .slice none 0 0, .slice none 0 0, .int .i64 p])
def GI (n : Int) (e : Ending) : Prop := ∃ p, e = .returned (.agg #[.int .i64 2, .bool false, .int .i64 n, .string ⟨#[]⟩, .slice none 0 0, .slice none 0 0, .int .i64 p])
def GL (W : World) (l : List Jv.J) (e : Ending) : Prop := ∃ p ad cap L, e = .returned (.agg #[.int .i64 4, .bool false, .int .i64 0, .string ⟨#[]⟩, .slice ad l.length cap, .slice none 0 0, .int .i64 p]) ∧ Rw W (.slice ad l.length cap) 7 L ∧ All Jv W l L
section
variable {l : List (ByteArray × Jv.J)} {key : ByteArray} {vm : Value} {p : Int} {W : World}
theorem gets (i : Nat) (hi : i < l.length) (hk : l[i].1 = key) (hn : ∀ j (hj : j < l.length), j < i → (l[j].1.toList == key.toList) = false) (h : Ob W l vm) (hl : l.length ≤ 1000000) (t : ByteArray) (ht : l[i].2 = .str t) :
    ∀ u, Below W.heap.size W u → Calls Tryz.prog 54 #[.agg #[.int .i64 5, .bool false, .int .i64 0, .string ⟨#[]⟩, .slice none 0 0, vm, .int .i64 p], .string key] u fun e w' => GS t e ∧ Below u.heap.size u w' := by
  intro u hu
  obtain ⟨L, h1, h2⟩ := h
  refine (get_is l i hi key hk hn vm L p W u hu h1 h2 hl).mono ?_
  rintro e w' ⟨⟨k, b, n, s, a1, n1, c1, a2, n2, c2, q, rfl, hj⟩, hb⟩
  rw [ht] at hj
  unfold Jv at hj
  obtain ⟨q', e'⟩ := hj
  simp only [vCells, nilV, List.cons.injEq, Value.int.injEq, Value.bool.injEq, Value.string.injEq, Value.slice.injEq, true_and, and_true] at e'
  obtain ⟨rfl, rfl, rfl, rfl, ⟨rfl, rfl, rfl⟩, ⟨rfl, rfl, rfl⟩, rfl⟩ := e'
  exact ⟨⟨_, rfl⟩, hb⟩
theorem geti (i : Nat) (hi : i < l.length) (hk : l[i].1 = key) (hn : ∀ j (hj : j < l.length), j < i → (l[j].1.toList == key.toList) = false) (h : Ob W l vm) (hl : l.length ≤ 1000000) (t : Int) (ht : l[i].2 = .int t) :
    ∀ u, Below W.heap.size W u → Calls Tryz.prog 54 #[.agg #[.int .i64 5, .bool false, .int .i64 0, .string ⟨#[]⟩, .slice none 0 0, vm, .int .i64 p], .string key] u fun e w' => GI t e ∧ Below u.heap.size u w' := by
  intro u hu
  obtain ⟨L, h1, h2⟩ := h
  refine (get_is l i hi key hk hn vm L p W u hu h1 h2 hl).mono ?_
  rintro e w' ⟨⟨k, b, n, s, a1, n1, c1, a2, n2, c2, q, rfl, hj⟩, hb⟩
  rw [ht] at hj
  unfold Jv at hj
  obtain ⟨q', e'⟩ := hj
  simp only [vCells, nilV, List.cons.injEq, Value.int.injEq, Value.bool.injEq, Value.string.injEq, Value.slice.injEq, true_and, and_true] at e'
  obtain ⟨rfl, rfl, rfl, rfl, ⟨rfl, rfl, rfl⟩, ⟨rfl, rfl, rfl⟩, rfl⟩ := e'
  exact ⟨⟨_, rfl⟩, hb⟩
theorem getl (i : Nat) (hi : i < l.length) (hk : l[i].1 = key) (hn : ∀ j (hj : j < l.length), j < i → (l[j].1.toList == key.toList) = false) (h : Ob W l vm) (hl : l.length ≤ 1000000) (t : List Jv.J) (ht : l[i].2 = .arr t) :
    ∀ u, Below W.heap.size W u → Calls Tryz.prog 54 #[.agg #[.int .i64 5, .bool false, .int .i64 0, .string ⟨#[]⟩, .slice none 0 0, vm, .int .i64 p], .string key] u fun e w' => GL W t e ∧ Below u.heap.size u w' := by
  intro u hu
  obtain ⟨L, h1, h2⟩ := h
  refine (get_is l i hi key hk hn vm L p W u hu h1 h2 hl).mono ?_
  rintro e w' ⟨⟨k, b, n, s, a1, n1, c1, a2, n2, c2, q, rfl, hj⟩, hb⟩
  rw [ht] at hj
  unfold Jv at hj
  obtain ⟨q', v, M, e', hR, hM⟩ := hj
  have hM' := JvL_at hM
  obtain ⟨g, off, ad, cap, rfl, hx, hy⟩ := id hR
  simp only [vCells, nilV, List.cons.injEq, Value.int.injEq, Value.bool.injEq, Value.string.injEq, Value.slice.injEq, true_and, and_true] at e'
  obtain ⟨rfl, rfl, rfl, rfl, ⟨rfl, rfl, rfl⟩, ⟨rfl, rfl, rfl⟩, rfl⟩ := e'
  rw [hM'.1] at hR
  exact ⟨⟨_, a1, c1, M, by rw [← hM'.1], hR, hM'⟩, hb⟩
end
def eL (e : Mo.En) : List (ByteArray × Jv.J) := [(Jv.kId, .str e.id), (Jv.kTitle, .str e.title), (Jv.kLink, .str e.link), (Jv.kContent, .str e.content), (Jv.kUpdated, .int e.upd)]
def fL (f : Mo.Fd) : List (ByteArray × Jv.J) := [(Jv.kPath, .arr (f.path.map .str)), (Jv.kId, .str f.id), (Jv.kTitle, .str f.title), (Jv.kLink, .str f.link), (Jv.kUpdated, .int f.upd), (Jv.kEntries, .arr (f.ents.map Jv.jE))]
theorem five {l : List (ByteArray × Jv.J)} {i : Nat} {key : ByteArray} (h : (l.take i).all (fun x => !(x.1.toList == key.toList)) = true) : ∀ j (hj : j < l.length), j < i → (l[j].1.toList == key.toList) = false := by
  intro j hj hji
  have := List.all_eq_true.1 h l[j] (by rw [List.mem_take_iff_getElem]; exact ⟨j, by omega, rfl⟩)
  simpa using this
abbrev Dc : FuncId := 54
abbrev oV (vm : Value) (p : Int) : Value := .agg #[.int .i64 5, .bool false, .int .i64 0, .string ⟨#[]⟩, .slice none 0 0, vm, .int .i64 p]
theorem eget (e : Mo.En) (vm : Value) (p : Int) (W : World) (h : Ob W (eL e) vm) :
    (∀ u, Below W.heap.size W u → Calls Tryz.prog Dc #[oV vm p, .string ⟨#[105, 100]⟩] u fun x w' => GS e.id x ∧ Below u.heap.size u w') ∧
    (∀ u, Below W.heap.size W u → Calls Tryz.prog Dc #[oV vm p, .string ⟨#[116, 105, 116, 108, 101]⟩] u fun x w' => GS e.title x ∧ Below u.heap.size u w') ∧
    (∀ u, Below W.heap.size W u → Calls Tryz.prog Dc #[oV vm p, .string ⟨#[108, 105, 110, 107]⟩] u fun x w' => GS e.link x ∧ Below u.heap.size u w') ∧
    (∀ u, Below W.heap.size W u → Calls Tryz.prog Dc #[oV vm p, .string ⟨#[99, 111, 110, 116, 101, 110, 116]⟩] u fun x w' => GS e.content x ∧ Below u.heap.size u w') ∧
    (∀ u, Below W.heap.size W u → Calls Tryz.prog Dc #[oV vm p, .string ⟨#[117, 112, 100, 97, 116, 101, 100]⟩] u fun x w' => GI e.upd x ∧ Below u.heap.size u w') :=
  ⟨gets (l := eL e) (key := Jv.kId) 0 (by simp [eL]) rfl (five (by rfl)) h (by simp [eL]) _ rfl,
   gets (l := eL e) (key := Jv.kTitle) 1 (by simp [eL]) rfl (five (by simp only [eL, List.take, List.all]; change _ = _; kernel_rfl)) h (by simp [eL]) _ rfl,
   gets (l := eL e) (key := Jv.kLink) 2 (by simp [eL]) rfl (five (by simp only [eL, List.take, List.all]; change _ = _; kernel_rfl)) h (by simp [eL]) _ rfl,
   gets (l := eL e) (key := Jv.kContent) 3 (by simp [eL]) rfl (five (by simp only [eL, List.take, List.all]; change _ = _; kernel_rfl)) h (by simp [eL]) _ rfl,
   geti (l := eL e) (key := Jv.kUpdated) 4 (by simp [eL]) rfl (five (by simp only [eL, List.take, List.all]; change _ = _; kernel_rfl)) h (by simp [eL]) _ rfl⟩
theorem fget (f : Mo.Fd) (vm : Value) (p : Int) (W : World) (h : Ob W (fL f) vm) :
    (∀ u, Below W.heap.size W u → Calls Tryz.prog Dc #[oV vm p, .string ⟨#[112, 97, 116, 104]⟩] u fun x w' => GL W (f.path.map .str) x ∧ Below u.heap.size u w') ∧
    (∀ u, Below W.heap.size W u → Calls Tryz.prog Dc #[oV vm p, .string ⟨#[105, 100]⟩] u fun x w' => GS f.id x ∧ Below u.heap.size u w') ∧
    (∀ u, Below W.heap.size W u → Calls Tryz.prog Dc #[oV vm p, .string ⟨#[116, 105, 116, 108, 101]⟩] u fun x w' => GS f.title x ∧ Below u.heap.size u w') ∧
    (∀ u, Below W.heap.size W u → Calls Tryz.prog Dc #[oV vm p, .string ⟨#[108, 105, 110, 107]⟩] u fun x w' => GS f.link x ∧ Below u.heap.size u w') ∧
    (∀ u, Below W.heap.size W u → Calls Tryz.prog Dc #[oV vm p, .string ⟨#[117, 112, 100, 97, 116, 101, 100]⟩] u fun x w' => GI f.upd x ∧ Below u.heap.size u w') ∧
    (∀ u, Below W.heap.size W u → Calls Tryz.prog Dc #[oV vm p, .string ⟨#[101, 110, 116, 114, 105, 101, 115]⟩] u fun x w' => GL W (f.ents.map Jv.jE) x ∧ Below u.heap.size u w') :=
  ⟨getl (l := fL f) (key := Jv.kPath) 0 (by simp [fL]) rfl (five (by rfl)) h (by simp [fL]) _ rfl,
   gets (l := fL f) (key := Jv.kId) 1 (by simp [fL]) rfl (five (by simp only [fL, List.take, List.all]; change _ = _; kernel_rfl)) h (by simp [fL]) _ rfl,
   gets (l := fL f) (key := Jv.kTitle) 2 (by simp [fL]) rfl (five (by simp only [fL, List.take, List.all]; change _ = _; kernel_rfl)) h (by simp [fL]) _ rfl,
   gets (l := fL f) (key := Jv.kLink) 3 (by simp [fL]) rfl (five (by simp only [fL, List.take, List.all]; change _ = _; kernel_rfl)) h (by simp [fL]) _ rfl,
   geti (l := fL f) (key := Jv.kUpdated) 4 (by simp [fL]) rfl (five (by simp only [fL, List.take, List.all]; change _ = _; kernel_rfl)) h (by simp [fL]) _ rfl,
   getl (l := fL f) (key := Jv.kEntries) 5 (by simp [fL]) rfl (five (by simp only [fL, List.take, List.all]; change _ = _; kernel_rfl)) h (by simp [fL]) _ rfl⟩
end Go.Proofs.YtjaojenalodolaaGreatDoor.De
/- The reference's SameFeed and Equal at two copies of one archive: true. -/
namespace Go.Proofs.YtjaojenalodolaaGreatDoor.Eqw
open Go Go.RowKit Go.Proofs.YtjaojenalodolaaGreatDoor Go.Proofs.YtjaojenalodolaaGreatDoor.Rw Go.Proofs.YtjaojenalodolaaGreatDoor.Mw
set_option linter.unusedVariables false
set_option maxRecDepth 100000
set_option maxHeartbeats 16000000
theorem ent_neq (a b c d : ByteArray) (n : Int) (w : World) : (binOp .neq 51 (.agg #[.string a, .string b, .string c, .string d, .int .i64 n]) (.agg #[.string a, .string b, .string c, .string d, .int .i64 n])).run Tryz.prog w = .ok (.bool false) w := by
  have hs : Tryz.prog.stoodInHeld 51 = false := by kernel_rfl
  have u1 := Tryz.underlying51
  have u2 := Tryz.underlying9
  have u3 := Tryz.underlying2
  rw [run_neq_struct]
  have e : (Op.equalIn 10000 51 (.agg #[.string a, .string b, .string c, .string d, .int .i64 n]) (.agg #[.string a, .string b, .string c, .string d, .int .i64 n])).run Tryz.prog w = .ok true w := by
    rw [show (10000 : Nat) = 9999 + 1 from rfl, run_equalIn_agg w _ _ _ _ (by kernel_rfl) hs]
    simp [go_sem, u1, u2, u3]
  rw [e]
  rfl
theorem cmpP_self (p : List ByteArray) : Mo.cmpP p p = 0 := by
  induction p with
  | nil => rfl
  | cons a r ih => simp [Mo.cmpP, ih]
theorem same_is (f : Mo.Fd) (vp ve vq vf : Value) (W : World) (hp : Rw W vp 1 (f.path.map sCell)) (he : Rw W ve 5 (f.ents.map eCells)) (hq : Rw W vq 1 (f.path.map sCell)) (hf : Rw W vf 5 (f.ents.map eCells)) (lp : f.path.length ≤ 1000000) (le : f.ents.length ≤ 1000000) :
    Calls Tryz.prog 28 #[.agg #[vp, .string f.id, .string f.title, .string f.link, .int .i64 f.upd, ve], .agg #[vq, .string f.id, .string f.title, .string f.link, .int .i64 f.upd, vf]] W fun x w' => x = .returned (.bool true) ∧ Below W.heap.size W w' := by
  have hcp := fun u (hu : Below W.heap.size W u) => rpaths_is f.path f.path vp vq u (hp.under hu) (hq.under hu) (by omega) (by omega)
  rw [cmpP_self] at hcp
  have HCP := Lib.hid hcp
  obtain ⟨-, -, pa, pc, rfl, -, -⟩ := path_at hp
  obtain ⟨-, -, qa, qc, rfl, -, -⟩ := path_at hq
  obtain ⟨eg, eo, ea, ec, rfl, hea, hents⟩ := ents_at he
  obtain ⟨fg, fo, fa, fc, rfl, hfa, hfnts⟩ := ents_at hf
  obtain ⟨path, i, t, l, u, ents⟩ := f
  simp only at lp le hea hents hfa hfnts HCP ⊢
  obtain ⟨pl, hpl⟩ : ∃ n, path.length = n := ⟨_, rfl⟩
  obtain ⟨el, hel⟩ : ∃ n, ents.length = n := ⟨_, rfl⟩
  rw [hpl] at HCP
  rw [hel] at hea hfa le
  have HEL := Lib.hid hel
  have HEA := Lib.hid (And.intro hea hfa)
  have HEN := Lib.hid (And.intro hents hfnts)
  show Calls Tryz.prog 28 #[.agg #[.slice pa path.length pc, .string i, .string t, .string l, .int .i64 u, .slice ea ents.length ec], .agg #[.slice qa path.length qc, .string i, .string t, .string l, .int .i64 u, .slice fa ents.length fc]] W _
  rw [hpl, hel]
  clear hp he hq hf hcp hea hfa hents hfnts hpl hel lp
  have b0 := (Below.refl W.heap.size W).alloc (Nat.le_refl _) (.cells #[.slice pa pl pc, .string i, .string t, .string l, .int .i64 u, .slice ea el ec] 49)
  have b1 := b0.alloc b0.size (.cells #[.slice qa pl qc, .string i, .string t, .string l, .int .i64 u, .slice fa el fc] 49)
  have hx := heap_alloc2_old W (.cells #[.slice pa pl pc, .string i, .string t, .string l, .int .i64 u, .slice ea el ec] 49) (.cells #[.slice qa pl qc, .string i, .string t, .string l, .int .i64 u, .slice fa el fc] 49)
  have hy := heap_alloc2_new W (.cells #[.slice pa pl pc, .string i, .string t, .string l, .int .i64 u, .slice ea el ec] 49) (.cells #[.slice qa pl qc, .string i, .string t, .string l, .int .i64 u, .slice fa el fc] 49)
  have HBX := Lib.hid hx
  have HBY := Lib.hid hy
  have x0 := Me.box_at (j := 0) hx rfl
  have y0 := Me.box_at (j := 0) hy rfl
  have HB1 := Lib.hid b1
  clear b0 b1 hx hy
  go_enter Tryz.func28, Tryz.ntmps28
  go_wp2_with fail
  have HBXX := Lib.hid (And.intro HBX.out HBY.out)
  refine (HCP.out _ HB1.out).mono ?_
  rintro e w1 ⟨rfl, hb1⟩
  have HB2 := Lib.hid (below_seq HB1.out hb1)
  have hx := (hb1.block _ (Rw.lt_of_heap HBX.out)).trans HBX.out
  have hy := (hb1.block _ (Rw.lt_of_heap HBY.out)).trans HBY.out
  replace x0 := Me.box_at (j := 0) hx rfl
  have x1 := Me.box_at (j := 1) hx rfl
  have x2 := Me.box_at (j := 2) hx rfl
  have x3 := Me.box_at (j := 3) hx rfl
  have x4 := Me.box_at (j := 4) hx rfl
  have x5 := Me.box_at (j := 5) hx rfl
  replace y0 := Me.box_at (j := 0) hy rfl
  have y1 := Me.box_at (j := 1) hy rfl
  have y2 := Me.box_at (j := 2) hy rfl
  have y3 := Me.box_at (j := 3) hy rfl
  have y4 := Me.box_at (j := 4) hy rfl
  have y5 := Me.box_at (j := 5) hy rfl
  clear hx hy hb1 HCP HBX HBY HBXX
  go_wp2_with fail
  go_loopw [5] (fun x wr => ∃ j : Nat, j ≤ el ∧ x = .int .i64 j ∧ Hid (Below w1.heap.size w1 wr)) (fun x _ => el - (intOf x).toNat)
  case atStart => exact ⟨0, Nat.zero_le _, rfl, Lib.hid (Below.refl _ _)⟩
  case round =>
    obtain ⟨j, hj, rfl, hb⟩ := hrel
    replace x5 := cell_under x5 hb.out
    replace y5 := cell_under y5 hb.out
    by_cases hlt : j < el
    · obtain rfl := HEA.out.1 (by omega)
      obtain rfl := HEA.out.2 (by omega)
      have hjl : j < ents.length := by rw [HEL.out]; exact hlt
      have hbw := below_seq HB2.out hb.out
      obtain ⟨c0, c1, c2, c3, c4⟩ := HEN.out.1 j hjl
      obtain ⟨d0, d1, d2, d3, d4⟩ := HEN.out.2 j hjl
      replace c0 := cell_under c0 hbw
      replace c1 := cell_under c1 hbw
      replace c2 := cell_under c2 hbw
      replace c3 := cell_under c3 hbw
      replace c4 := cell_under c4 hbw
      replace d0 := cell_under d0 hbw
      replace d1 := cell_under d1 hbw
      replace d2 := cell_under d2 hbw
      replace d3 := cell_under d3 hbw
      replace d4 := cell_under d4 hbw
      generalize ents[j] = en at c0 c1 c2 c3 c4 d0 d1 d2 d3 d4
      obtain ⟨eid, eti, eli, eco, eup⟩ := en
      simp only at c0 c1 c2 c3 c4 d0 d1 d2 d3 d4
      have j1 : (j : Int) < (el : Int) := by omega
      have j0 : (0 : Int) ≤ (j : Int) := by omega
      have hg : Tryz.prog.eqGuardType Tryz.prog.depth 51 = false := by kernel_rfl
      have hq := ent_neq eid eti eli eco eup
      clear hbw x0 x1 x2 x3 x4 y0 y1 y2 y3 y4
      go_wp2_with fail
      go_quiet (fail)
      have HB3 := Lib.hid (Rw.below_drewN hb.out nq)
      go_wp2_with fail
      go_roundw
      case rel => exact ⟨j + 1, by omega, by go_num, HB3⟩
      case measure => simp [intOf]; omega
    · have gj : decide ((j : Int) < (el : Int)) = false := decide_eq_false (by omega)
      have HB3 := Lib.hid (below_seq HB2.out hb.out)
      go_wp2_with fail
      go_ret
      exact ⟨rfl, HB3.out⟩
theorem equal_is (ar : List Mo.Fd) (va vb : Value) (W : World) (ha : ArIs W va ar) (hb : ArIs W vb ar) (hl : ar.length ≤ 1000000) (hp : ∀ f ∈ ar, f.path.length ≤ 1000000 ∧ f.ents.length ≤ 1000000) :
    Calls Tryz.prog 12 #[.agg #[va], .agg #[vb]] W fun x w' => x = .returned (.bool true) ∧ Below W.heap.size W w' := by
  obtain ⟨ag, ao, aa, ac, rfl, haa, hac⟩ := feeds_at ha
  obtain ⟨bg, bo, ba, bc, rfl, hba, hbc⟩ := feeds_at hb
  obtain ⟨m, hm⟩ : ∃ n, ar.length = n := ⟨_, rfl⟩
  rw [hm] at haa hba hl ⊢
  have HM := Lib.hid hm
  have HAA := Lib.hid (And.intro haa hba)
  have HAC := Lib.hid (And.intro hac hbc)
  have HP := Lib.hid hp
  have b0 := (Below.refl W.heap.size W).alloc (Nat.le_refl _) (.cells #[.slice aa m ac] 24)
  have b1 := b0.alloc b0.size (.cells #[.slice ba m bc] 24)
  have hx := heap_alloc2_old W (.cells #[.slice aa m ac] 24) (.cells #[.slice ba m bc] 24)
  have hy := heap_alloc2_new W (.cells #[.slice aa m ac] 24) (.cells #[.slice ba m bc] 24)
  have x0 := Me.box_at (j := 0) hx rfl
  have y0 := Me.box_at (j := 0) hy rfl
  have HB1 := Lib.hid b1
  clear ha hb haa hba hac hbc hm hp b0 b1 hx hy
  go_enter Tryz.func12, Tryz.ntmps12
  go_wp2_with fail
  generalize (W.alloc (.cells #[.slice aa m ac] 24)).alloc (.cells #[.slice ba m bc] 24) = w1 at x0 y0 HB1 ⊢
  go_loopw [5] (fun x wr => ∃ j : Nat, j ≤ m ∧ x = .int .i64 j ∧ Hid (Below w1.heap.size w1 wr)) (fun x _ => m - (intOf x).toNat)
  case atStart => exact ⟨0, Nat.zero_le _, rfl, Lib.hid (Below.refl _ _)⟩
  case round =>
    obtain ⟨j, hj, rfl, hb⟩ := hrel
    replace x0 := cell_under x0 hb.out
    replace y0 := cell_under y0 hb.out
    by_cases hlt : j < m
    · obtain rfl := HAA.out.1 (by omega)
      obtain rfl := HAA.out.2 (by omega)
      have hjl : j < ar.length := by rw [HM.out]; exact hlt
      have hbw := below_seq HB1.out hb.out
      obtain ⟨vp, ve, hp1, he1, c0, c1, c2, c3, c4, c5⟩ := HAC.out.1 j hjl
      obtain ⟨vq, vf, hp2, he2, d0, d1, d2, d3, d4, d5⟩ := HAC.out.2 j hjl
      have HS := Lib.hid (fun u (hu : Below W.heap.size W u) => same_is ar[j] vp ve vq vf u (hp1.under hu) (he1.under hu) (hp2.under hu) (he2.under hu) (HP.out _ (List.getElem_mem hjl)).1 (HP.out _ (List.getElem_mem hjl)).2)
      obtain ⟨-, -, pa, pc, rfl, -, -⟩ := path_at hp1
      obtain ⟨-, -, qa, qc, rfl, -, -⟩ := path_at hp2
      obtain ⟨-, -, ea, ec, rfl, -, -⟩ := ents_at he1
      obtain ⟨-, -, fa, fc, rfl, -, -⟩ := ents_at he2
      have r0 := cell_regrown (cell_under c0 hbw)
      have r1 := cell_regrown (cell_under c1 hbw)
      have r2 := cell_regrown (cell_under c2 hbw)
      have r3 := cell_regrown (cell_under c3 hbw)
      have r4 := cell_regrown (cell_under c4 hbw)
      have r5 := cell_regrown (cell_under c5 hbw)
      have q0 := cell_regrown (cell_under d0 hbw)
      have q1 := cell_regrown (cell_under d1 hbw)
      have q2 := cell_regrown (cell_under d2 hbw)
      have q3 := cell_regrown (cell_under d3 hbw)
      have q4 := cell_regrown (cell_under d4 hbw)
      have q5 := cell_regrown (cell_under d5 hbw)
      have rx := cell_regrown x0
      have ry := cell_regrown y0
      clear hp1 he1 hp2 he2 c0 c1 c2 c3 c4 c5 d0 d1 d2 d3 d4 d5
      generalize ar[j] = f at HS r0 r1 r2 r3 r4 r5 q0 q1 q2 q3 q4 q5
      obtain ⟨path, i, t, l, u, ents⟩ := f
      simp only at r0 r1 r2 r3 r4 r5 q0 q1 q2 q3 q4 q5 HS
      generalize path.length = pl at HS r0 q0
      generalize ents.length = el at HS r5 q5
      have cS : ∀ (dq : Nat) (os : Array Obj), Calls Tryz.prog 28 #[.agg #[.slice pa pl pc, .string i, .string t, .string l, .int .i64 u, .slice ea el ec], .agg #[.slice qa pl qc, .string i, .string t, .string l, .int .i64 u, .slice fa el fc]] (Sort.grow (redrawn wr dq) os) fun e w'' => e = .returned (.bool true) ∧ ∃ p : Regrown, w'' = Sort.grow (redrawn wr p.d) p.os := fun dq os => Calls.regrown_of (HS.out _ (below_seq hbw (below_regrown wr dq os)))
      have j1 : (j : Int) < (m : Int) := by omega
      have j0 : (0 : Int) ≤ (j : Int) := by omega
      go_wp2_with fail
      refine wp_region_quiet_below (by kernel_rfl) (by kernel_rfl) ?_
      repeat (first | go_big_quiet_step (fail) | quiet_step (exact cS _ _) | quiet_step (fail))
      refine wpQuiet_nil ?_
      intro _ hw'
      obtain ⟨⟨dq, osq⟩, hw''⟩ := hw'
      subst hw''
      have HB3 := Lib.hid (below_seq hb.out (below_regrown wr dq osq))
      clear r0 r1 r2 r3 r4 r5 q0 q1 q2 q3 q4 q5 rx ry cS
      go_wp2_with fail
      go_roundw
      case rel => exact ⟨j + 1, by omega, by go_num, HB3⟩
      case measure => simp [intOf]; omega
    · have gj : decide ((j : Int) < (m : Int)) = false := decide_eq_false (by omega)
      have HB3 := Lib.hid (below_seq HB1.out hb.out)
      go_wp2_with fail
      go_ret
      exact ⟨rfl, HB3.out⟩
end Go.Proofs.YtjaojenalodolaaGreatDoor.Eqw
