/- Parts of this proof, joined: PjW9, PjV, PjP. -/
import Derived.Test.YtjaojenalodolaaGreatDoorPjW6
import Derived.Test.YtjaojenalodolaaGreatDoorKP
import Derived.Defers
import Derived.Recover
/- jsonvalue's value on a canonical text: arrays, objects. Printed by genpj7.py. -/
namespace Go.Proofs.YtjaojenalodolaaGreatDoor.Pj
open Go Go.RowKit Go.Proofs.YtjaojenalodolaaGreatDoor Go.Proofs.YtjaojenalodolaaGreatDoor.Rw Go.Proofs.YtjaojenalodolaaGreatDoor.Vf Go.Proofs.YtjaojenalodolaaGreatDoor.Mw Go.Proofs.YtjaojenalodolaaGreatDoor.Me Go.Proofs.YtjaojenalodolaaGreatDoor.Pa
set_option linter.unusedVariables false
set_option maxRecDepth 100000
set_option maxHeartbeats 16000000
theorem encP_eq (p : ByteArray × Jv.J) : Jv.encP p = Js.quote p.1.data.toList ++ 58 :: Jv.enc p.2 := by obtain ⟨k, a⟩ := p; simp only [Jv.encP]
theorem val_arr_row {S : Nat} {w : World} {v : Value} {l : List Jv.J} (h : VRow S w v l) (a : Int) : ∀ w', Agree S w w' none → Jv w' (.arr l) (vCells 4 false 0 ⟨#[]⟩ v nilV a) := fun u hu => by
  obtain ⟨L, h1, h2, h3⟩ := h
  have h4 := own_agree h2 hu
  have h5 := h3 u (fun k a b c => hu k a b (by simp))
  unfold Jv
  exact ⟨a, v, L, rfl, Rw.of_own h4 h5.1 (fun j hj k hk => flat_at h1.1 j hj k hk) (fun j hj => h1.1 _ (List.getElem_mem hj)), h5.jl⟩
theorem val_obj_row {S : Nat} {w : World} {v : Value} {l : List (ByteArray × Jv.J)} (h : MRow S w v l) (a : Int) : ∀ w', Agree S w w' none → Jv w' (.obj l) (vCells 5 false 0 ⟨#[]⟩ nilV v a) := fun u hu => by
  obtain ⟨L, h1, h2, h3⟩ := h
  have h4 := own_agree h2 hu
  have h5 := h3 u (fun k a b c => hu k a b (by simp))
  unfold Jv
  exact ⟨a, v, L, rfl, Rw.of_own h4 h5.1 (fun j hj k hk => flat_at h1.1 j hj k hk) (fun j hj => h1.1 _ (List.getElem_mem hj)), h5.jm⟩
theorem value_arr (P a d : Nat) (s : ByteArray) (l : List Jv.J) (post : List UInt8) (W0 W : World) (h : Ps P s a d W) (hs : s.size ≤ 1000000000) (hW : Below W0.heap.size W0 W) (hP0 : W0.heap.size ≤ P) (hdp : d + 1 ≤ 100) (hl : l.length ≤ 1000000)
    (hd : s.data.toList.drop a = Jv.enc (.arr l) ++ post) (hb : ∀ t ∈ Jv.encL l, ∃ c r, t = c :: r ∧ Txt.spB (c.toNat : Int) = false ∧ c ≠ 93)
    (cJ : ∀ k (hk : k < l.length) u ak rest, Ps P s ak (d + 1) u → Below W0.heap.size W0 u → s.data.toList.drop ak = Jv.enc l[k] ++ rest → (rest.head? = some 44 ∨ rest.head? = some 93) → VC P s l[k] ak (d + 1) u) : VC P s (.arr l) a d W := by
  unfold VC
  have heq : Jv.enc (.arr l) = 91 :: (Jv.joinC (Jv.encL l) ++ [93]) := by simp only [Jv.enc]
  rw [heq] at hd ⊢
  have hd1 : s.data.toList.drop a = 91 :: (Jv.joinC (Jv.encL l) ++ 93 :: post) := by rw [hd]; simp
  have hd2 := drop_one hd1
  obtain ⟨ha, hc⟩ := drop_at hd1
  have hsp : Txt.spB ((91 : UInt8).toNat : Int) = false := by decide
  have hlen : (91 :: (Jv.joinC (Jv.encL l) ++ [93])).length = (Jv.joinC (Jv.encL l)).length + 2 := by simp
  rw [hlen]
  obtain ⟨jn, hjn⟩ : ∃ n, (Jv.joinC (Jv.encL l)).length = n := ⟨_, rfl⟩
  have hem : (Jv.encL l).length = l.length := by rw [Jv.encL_map]; simp
  have hek : ∀ k (hk : k < l.length) (hk2 : k < (Jv.encL l).length), (Jv.encL l)[k] = Jv.enc l[k] := fun k hk hk2 => by
    simp only [Jv.encL_map, List.getElem_map]
  have hPL := h.lt
  have hb0 := ((Below.refl W.heap.size W).alloc (Nat.le_refl _) (.cells #[.pointer (some ⟨P, 0, none⟩)] 159)).alloc ((Below.refl W.heap.size W).alloc (Nat.le_refl _) (.cells #[.pointer (some ⟨P, 0, none⟩)] 159)).size (.cells #[.int .i64 0, .bool false, .int .i64 0, .string ⟨#[]⟩, .slice none 0 0, .slice none 0 0, .int .i64 0] 82)
  have hBx := heap_alloc2_old W (.cells #[.pointer (some ⟨P, 0, none⟩)] 159) (.cells #[.int .i64 0, .bool false, .int .i64 0, .string ⟨#[]⟩, .slice none 0 0, .slice none 0 0, .int .i64 0] 82)
  have hRb := heap_alloc2_new W (.cells #[.pointer (some ⟨P, 0, none⟩)] 159) (.cells #[.int .i64 0, .bool false, .int .i64 0, .string ⟨#[]⟩, .slice none 0 0, .slice none 0 0, .int .i64 0] 82)
  have HB0 := Lib.hid hb0
  have HP0 := Lib.hid (h.below hb0)
  have x0 := Me.box_at (j := 0) hBx rfl
  have HBX := Lib.hid hBx
  have HRB := Lib.hid hRb
  have CP := Lib.hid (peek_is P a d s 91 _ (h.below hb0) hs ha hc hsp)
  change Hid (Calls _ _ _ _ (fun e w' => e = .returned (.int .u8 91) ∧ _)) at CP
  have HPL := Lib.hid hPL
  have HW := Lib.hid hW
  have HL := Lib.hid (And.intro hs (And.intro hdp (And.intro hd2 (And.intro hb (And.intro hl (And.intro hem hek))))))
  have HP00 := Lib.hid hP0
  have HJ := Lib.hid cJ
  rw [hjn]
  have HJN := Lib.hid hjn
  have hmf : ∀ (fn : Fn) (first cap : Array Value) (w : World), (Instr.makeFunc fn first cap).run Tryz.prog w = .ok (.func fn first cap) w := fun _ _ _ _ => rfl
  clear hd hd1 hd2 ha hc hsp hW hP0 h hb0 hBx hRb hPL heq hs hdp hl hb hem hek hlen hjn cJ
  go_enter Tryz.func96, Tryz.ntmps96
  go_wp2_with fail
  generalize (W.alloc (.cells #[.pointer (some ⟨P, 0, none⟩)] 159)).alloc (.cells #[.int .i64 0, .bool false, .int .i64 0, .string ⟨#[]⟩, .slice none 0 0, .slice none 0 0, .int .i64 0] 82) = w0 at CP HP0 HB0 HBX HRB x0 ⊢
  obtain ⟨R, hR⟩ : ∃ n, W.heap.size + 1 = n := ⟨_, rfl⟩
  obtain ⟨B, hB⟩ : ∃ n, W.heap.size = n := ⟨_, rfl⟩
  have HRE := Lib.hid (And.intro hB hR)
  rw [hR] at HRB ⊢
  rw [hB] at HBX x0 ⊢
  clear hR hB
  refine CP.out.mono ?_
  rintro e w1 ⟨rfl, hb1⟩
  have HP1 := Lib.hid (HP0.out.below hb1)
  have HB1 := Lib.hid (below_seq HB0.out hb1)
  have HR1 := Lib.hid ((hb1.block _ (Rw.lt_of_heap HRB.out)).trans HRB.out)
  have HX1 := Lib.hid ((hb1.block _ (Rw.lt_of_heap HBX.out)).trans HBX.out)
  replace x0 := Me.box_at (j := 0) HX1.out rfl
  have x1 := HP1.out.c1
  clear hb1 CP HP0 HB0 HBX HRB
  have hbV := (Below.refl w1.heap.size w1).alloc (Nat.le_refl _) (.cells #[.int .i64 0, .bool false, .int .i64 0, .string ⟨#[]⟩, .slice none 0 0, .slice none 0 0, .int .i64 a] 82)
  have hVb := heap_alloc_new w1 (.cells #[.int .i64 0, .bool false, .int .i64 0, .string ⟨#[]⟩, .slice none 0 0, .slice none 0 0, .int .i64 a] 82)
  have HP2 := Lib.hid (HP1.out.below hbV)
  have HB2 := Lib.hid (below_seq HB1.out hbV)
  have HR2 := Lib.hid ((hbV.block _ (Rw.lt_of_heap HR1.out)).trans HR1.out)
  have HX2 := Lib.hid ((hbV.block _ (Rw.lt_of_heap HX1.out)).trans HX1.out)
  have HVB := Lib.hid hVb
  have HVR := Lib.hid (show R < w1.heap.size ∧ B < w1.heap.size from ⟨Rw.lt_of_heap HR1.out, Rw.lt_of_heap HX1.out⟩)
  have y0 := Me.box_at (j := 0) HX2.out rfl
  clear hbV hVb HR1 HP1
  have v0 := Me.box_at (j := 0) HVB.out rfl
  have f0 := frozen_of_row _ w1.heap.size 0 _ _ HVB.out
  go_upto_region 4 with fail
  generalize hVe : w1.heap.size = V at HVB HVR v0 f0 ⊢
  generalize w1.alloc (.cells #[.int .i64 0, .bool false, .int .i64 0, .string ⟨#[]⟩, .slice none 0 0, .slice none 0 0, .int .i64 a] 82) = w2 at HP2 HB2 HR2 HX2 HVB y0 v0 f0 ⊢
  have HWV := Lib.hid (show W.heap.size ≤ V by rw [← hVe]; exact HB1.out.size)
  clear hVe HB1 HX1 x0 x1
  have HNP := Lib.hid (show V ≠ P ∧ R ≠ P ∧ B ≠ P ∧ R ≠ V ∧ B ≠ V from ⟨by have := HPL.out; have := HWV.out; omega, by have := HPL.out; have := HRE.out; omega, by have := HPL.out; have := HRE.out; omega, by have := HVR.out; omega, by have := HVR.out; omega⟩)
  have nBV := HNP.out.2.2.2.2
  go_wp2_with fail
  have hv3 : (w2.setCell ⟨V, 0, none⟩ (.int .i64 4)).heap[V]? = some (Obj.cells #[.int .i64 4, .bool false, .int .i64 0, .string ⟨#[]⟩, .slice none 0 0, .slice none 0 0, .int .i64 a] 82 (0, 0)) := heap_setCell_same w2 V 0 _ _ (.int .i64 4) HVB.out
  have HV3 := Lib.hid hv3
  have HP3 := Lib.hid (HP2.out.setOther (j := 0) (x := .int .i64 4) HNP.out.1.symm)
  have HS3 := Lib.hid ((Sd.of_below (P := P) HB2.out).setNew (j := 0) (x := .int .i64 4) HWV.out)
  have HR3 := Lib.hid ((heap_setCell_other w2 ⟨V, 0, none⟩ R (.int .i64 4) HNP.out.2.2.2.1).trans HR2.out)
  have HX3 := Lib.hid (Me.box_at (j := 0) ((heap_setCell_other w2 ⟨V, 0, none⟩ B (.int .i64 4) HNP.out.2.2.2.2).trans HX2.out) rfl)
  have HB3 := Lib.hid (show Below W0.heap.size W0 (w2.setCell ⟨V, 0, none⟩ (.int .i64 4)) from (HW.out.trans (HB2.out.mono HW.out.size)).trans ⟨rfl, rfl, rfl, by simp [World.setCell], fun i hi => heap_setCell_other _ _ _ _ (show i ≠ V by have := HW.out.size; have := HWV.out; omega)⟩)
  clear hv3 v0 f0 y0 nBV HP2 HB2 HR2 HX2 HVB
  generalize w2.setCell ⟨V, 0, none⟩ (.int .i64 4) = w3 at HV3 HP3 HS3 HR3 HX3 HB3 ⊢
  have HPV := Lib.hid (show P < w3.heap.size ∧ V < w3.heap.size ∧ B < w3.heap.size ∧ R < w3.heap.size from ⟨HP3.out.lt, Rw.lt_of_heap HV3.out, Rw.lt_of_cell HX3.out, Rw.lt_of_heap HR3.out⟩)
  have CE := Lib.hid (elems_v (Jv.encL l) (.pointer (some ⟨V, 0, none⟩)) (.pointer (some ⟨B, 0, none⟩)) 93 (by decide) (by decide) P a d s post w3 (fun k u => ∃ it, Iv P V a 4 w3 u it (.slice none 0 0) ∧ VRow w3.heap.size u it (l.take k)) HP3.out HL.out.1 HL.out.2.1 HL.out.2.2.1 HL.out.2.2.2.1
    ⟨.slice none 0 0, ⟨rfl, rfl, rfl, Nat.le_refl _, fun _ _ _ _ => rfl, HV3.out⟩, by rw [List.take_zero]; exact Row.nil⟩
    (fun k u w hk hs => by
      obtain ⟨it, h1, h2⟩ := hk
      exact ⟨it, h1.sd hs HNP.out.1, row_sd h2 HPV.out.1 hs⟩)
    (fun k hk2 u ak rest hps hiv hdr hrest => by
      obtain ⟨it, h1, h2⟩ := hiv
      have hk : k < l.length := by rw [← HL.out.2.2.2.2.2.1]; exact hk2
      rw [HL.out.2.2.2.2.2.2 k hk hk2] at hdr ⊢
      refine (val1_is P V B a ak (d + 1) s l k hk W0 w3 u it HPV.out.1 HPV.out.2.1 HPV.out.2.2.1 HNP.out.1 HNP.out.2.2.1 HNP.out.2.2.2.2 HX3.out HP00.out (by have := HW.out.size; have := HWV.out; omega) HB3.out HL.out.2.2.2.2.1 h1 h2 hps (fun x h1 h2 => HJ.out k hk x ak rest h1 h2 hdr hrest)).mono ?_
      rintro e w' ⟨he, h3, h4⟩
      exact ⟨he, h3, h4⟩))
  rw [HL.out.2.2.2.2.2.1, List.take_length, HJN.out] at CE
  change Hid (Calls _ _ #[_, .int .u8 93, _] _ _) at CE
  refine CE.out.mono ?_
  rintro e w4 ⟨rfl, ⟨it, hiv, hrow⟩, hp4⟩
  obtain ⟨ad, cap, rfl⟩ := Row.slice hrow
  have v0 := Me.box_at (j := 0) hiv.vb rfl
  have v1 := Me.box_at (j := 1) hiv.vb rfl
  have v2 := Me.box_at (j := 2) hiv.vb rfl
  have v3 := Me.box_at (j := 3) hiv.vb rfl
  have v4 := Me.box_at (j := 4) hiv.vb rfl
  have v5 := Me.box_at (j := 5) hiv.vb rfl
  have v6 := Me.box_at (j := 6) hiv.vb rfl
  have HR4 := Lib.hid ((hiv.block R HPV.out.2.2.2 HNP.out.2.1 HNP.out.2.2.2.1).trans HR3.out)
  have HP4 := Lib.hid hp4
  have HRW := Lib.hid hrow
  have HS4 := Lib.hid (show Sd P W w4 from ⟨hiv.os.trans HS3.out.os, hiv.tape.trans HS3.out.tape, hiv.output.trans HS3.out.output, Nat.le_trans HS3.out.size hiv.size, fun i hi hp => (hiv.block i (Nat.lt_of_lt_of_le hi HS3.out.size) hp (by have := HWV.out; omega)).trans (HS3.out.block i hi hp)⟩)
  have HSZ := Lib.hid hiv.size
  clear hiv hrow hp4 CE
  go_wp2_with (refine wpList_store_row rfl 82 _ _ rfl R #[.int .i64 4, .bool false, .int .i64 0, .string ⟨#[]⟩, .slice ad l.length cap, .slice none 0 0, .int .i64 a] rfl rfl 82 _ HR4.out (by kernel_rfl) rfl (by simp [Value.oneCell']) ?_)
  go_wp2_with fail
  have hz2 := setRow_heap _ R _ #[.int .i64 4, .bool false, .int .i64 0, .string ⟨#[]⟩, .slice ad l.length cap, .slice none 0 0, .int .i64 a] _ _ HR4.out
  refine bodyPost_ret (results_cell_row rfl _ _ R _ _ _ _ rfl hz2 Tryz.underlying82 rfl (by kernel_rfl)) rfl ?_
  refine ⟨⟨4, false, 0, ⟨#[]⟩, ad, l.length, cap, none, 0, 0, a, rfl, fun w' hw' => val_arr_row HRW.out a w' fun k h1 h2 h3 => ?_⟩, ?_, HS4.out.rowNew (by have := HRE.out; omega)⟩
  · rw [hw' k (by have := HS3.out.size; omega) (by rw [show (w4.setRow R _).heap.size = w4.heap.size from by simp [World.setRow]]; exact h2) (by simp), setRow_other _ R k _ (by have := HPV.out; omega)]
  · have e : a + (jn + 2) = a + 1 + jn + 1 := by omega
    rw [e]
    exact (setRow_other _ R P _ HNP.out.2.1.symm).trans HP4.out
theorem value_obj (P a d : Nat) (s : ByteArray) (l : List (ByteArray × Jv.J)) (post : List UInt8) (W0 W : World) (h : Ps P s a d W) (hs : s.size ≤ 1000000000) (hW : Below W0.heap.size W0 W) (hP0 : W0.heap.size ≤ P) (hdp : d + 1 ≤ 100) (hl : l.length ≤ 1000000)
    (hd : s.data.toList.drop a = Jv.enc (.obj l) ++ post) (hb : ∀ t ∈ Jv.encM l, ∃ c r, t = c :: r ∧ Txt.spB (c.toNat : Int) = false ∧ c ≠ 125)
    (cJ : ∀ k (hk : k < l.length) u v S ak rest, Ps P s ak (d + 1) u → Below W0.heap.size W0 u → P < S → MRow S u v (l.take k) → s.data.toList.drop ak = Jv.encP l[k] ++ rest → (rest.head? = some 44 ∨ rest.head? = some 125) → MC P s l[k] ak (d + 1) u v) : VC P s (.obj l) a d W := by
  unfold VC
  have heq : Jv.enc (.obj l) = 123 :: (Jv.joinC (Jv.encM l) ++ [125]) := by simp only [Jv.enc]
  rw [heq] at hd ⊢
  have hd1 : s.data.toList.drop a = 123 :: (Jv.joinC (Jv.encM l) ++ 125 :: post) := by rw [hd]; simp
  have hd2 := drop_one hd1
  obtain ⟨ha, hc⟩ := drop_at hd1
  have hsp : Txt.spB ((123 : UInt8).toNat : Int) = false := by decide
  have hlen : (123 :: (Jv.joinC (Jv.encM l) ++ [125])).length = (Jv.joinC (Jv.encM l)).length + 2 := by simp
  rw [hlen]
  obtain ⟨jn, hjn⟩ : ∃ n, (Jv.joinC (Jv.encM l)).length = n := ⟨_, rfl⟩
  have hem : (Jv.encM l).length = l.length := by rw [Jv.encM_map]; simp
  have hek : ∀ k (hk : k < l.length) (hk2 : k < (Jv.encM l).length), (Jv.encM l)[k] = Jv.encP l[k] := fun k hk hk2 => by
    simp only [Jv.encM_map, List.getElem_map]
    exact (encP_eq l[k]).symm
  have hPL := h.lt
  have hb0 := ((Below.refl W.heap.size W).alloc (Nat.le_refl _) (.cells #[.pointer (some ⟨P, 0, none⟩)] 159)).alloc ((Below.refl W.heap.size W).alloc (Nat.le_refl _) (.cells #[.pointer (some ⟨P, 0, none⟩)] 159)).size (.cells #[.int .i64 0, .bool false, .int .i64 0, .string ⟨#[]⟩, .slice none 0 0, .slice none 0 0, .int .i64 0] 82)
  have hBx := heap_alloc2_old W (.cells #[.pointer (some ⟨P, 0, none⟩)] 159) (.cells #[.int .i64 0, .bool false, .int .i64 0, .string ⟨#[]⟩, .slice none 0 0, .slice none 0 0, .int .i64 0] 82)
  have hRb := heap_alloc2_new W (.cells #[.pointer (some ⟨P, 0, none⟩)] 159) (.cells #[.int .i64 0, .bool false, .int .i64 0, .string ⟨#[]⟩, .slice none 0 0, .slice none 0 0, .int .i64 0] 82)
  have HB0 := Lib.hid hb0
  have HP0 := Lib.hid (h.below hb0)
  have x0 := Me.box_at (j := 0) hBx rfl
  have HBX := Lib.hid hBx
  have HRB := Lib.hid hRb
  have CP := Lib.hid (peek_is P a d s 123 _ (h.below hb0) hs ha hc hsp)
  change Hid (Calls _ _ _ _ (fun e w' => e = .returned (.int .u8 123) ∧ _)) at CP
  have HPL := Lib.hid hPL
  have HW := Lib.hid hW
  have HL := Lib.hid (And.intro hs (And.intro hdp (And.intro hd2 (And.intro hb (And.intro hl (And.intro hem hek))))))
  have HP00 := Lib.hid hP0
  have HJ := Lib.hid cJ
  rw [hjn]
  have HJN := Lib.hid hjn
  have hmf : ∀ (fn : Fn) (first cap : Array Value) (w : World), (Instr.makeFunc fn first cap).run Tryz.prog w = .ok (.func fn first cap) w := fun _ _ _ _ => rfl
  clear hd hd1 hd2 ha hc hsp hW hP0 h hb0 hBx hRb hPL heq hs hdp hl hb hem hek hlen hjn cJ
  go_enter Tryz.func96, Tryz.ntmps96
  go_wp2_with fail
  generalize (W.alloc (.cells #[.pointer (some ⟨P, 0, none⟩)] 159)).alloc (.cells #[.int .i64 0, .bool false, .int .i64 0, .string ⟨#[]⟩, .slice none 0 0, .slice none 0 0, .int .i64 0] 82) = w0 at CP HP0 HB0 HBX HRB x0 ⊢
  obtain ⟨R, hR⟩ : ∃ n, W.heap.size + 1 = n := ⟨_, rfl⟩
  obtain ⟨B, hB⟩ : ∃ n, W.heap.size = n := ⟨_, rfl⟩
  have HRE := Lib.hid (And.intro hB hR)
  rw [hR] at HRB ⊢
  rw [hB] at HBX x0 ⊢
  clear hR hB
  refine CP.out.mono ?_
  rintro e w1 ⟨rfl, hb1⟩
  have HP1 := Lib.hid (HP0.out.below hb1)
  have HB1 := Lib.hid (below_seq HB0.out hb1)
  have HR1 := Lib.hid ((hb1.block _ (Rw.lt_of_heap HRB.out)).trans HRB.out)
  have HX1 := Lib.hid ((hb1.block _ (Rw.lt_of_heap HBX.out)).trans HBX.out)
  replace x0 := Me.box_at (j := 0) HX1.out rfl
  have x1 := HP1.out.c1
  clear hb1 CP HP0 HB0 HBX HRB
  have hbV := (Below.refl w1.heap.size w1).alloc (Nat.le_refl _) (.cells #[.int .i64 0, .bool false, .int .i64 0, .string ⟨#[]⟩, .slice none 0 0, .slice none 0 0, .int .i64 a] 82)
  have hVb := heap_alloc_new w1 (.cells #[.int .i64 0, .bool false, .int .i64 0, .string ⟨#[]⟩, .slice none 0 0, .slice none 0 0, .int .i64 a] 82)
  have HP2 := Lib.hid (HP1.out.below hbV)
  have HB2 := Lib.hid (below_seq HB1.out hbV)
  have HR2 := Lib.hid ((hbV.block _ (Rw.lt_of_heap HR1.out)).trans HR1.out)
  have HX2 := Lib.hid ((hbV.block _ (Rw.lt_of_heap HX1.out)).trans HX1.out)
  have HVB := Lib.hid hVb
  have HVR := Lib.hid (show R < w1.heap.size ∧ B < w1.heap.size from ⟨Rw.lt_of_heap HR1.out, Rw.lt_of_heap HX1.out⟩)
  have y0 := Me.box_at (j := 0) HX2.out rfl
  clear hbV hVb HR1 HP1
  have v0 := Me.box_at (j := 0) HVB.out rfl
  have f0 := frozen_of_row _ w1.heap.size 0 _ _ HVB.out
  go_upto_region 4 with fail
  generalize hVe : w1.heap.size = V at HVB HVR v0 f0 ⊢
  generalize w1.alloc (.cells #[.int .i64 0, .bool false, .int .i64 0, .string ⟨#[]⟩, .slice none 0 0, .slice none 0 0, .int .i64 a] 82) = w2 at HP2 HB2 HR2 HX2 HVB y0 v0 f0 ⊢
  have HWV := Lib.hid (show W.heap.size ≤ V by rw [← hVe]; exact HB1.out.size)
  clear hVe HB1 HX1 x0 x1
  have HNP := Lib.hid (show V ≠ P ∧ R ≠ P ∧ B ≠ P ∧ R ≠ V ∧ B ≠ V from ⟨by have := HPL.out; have := HWV.out; omega, by have := HPL.out; have := HRE.out; omega, by have := HPL.out; have := HRE.out; omega, by have := HVR.out; omega, by have := HVR.out; omega⟩)
  have nBV := HNP.out.2.2.2.2
  go_wp2_with fail
  have hv3 : (w2.setCell ⟨V, 0, none⟩ (.int .i64 5)).heap[V]? = some (Obj.cells #[.int .i64 5, .bool false, .int .i64 0, .string ⟨#[]⟩, .slice none 0 0, .slice none 0 0, .int .i64 a] 82 (0, 0)) := heap_setCell_same w2 V 0 _ _ (.int .i64 5) HVB.out
  have HV3 := Lib.hid hv3
  have HP3 := Lib.hid (HP2.out.setOther (j := 0) (x := .int .i64 5) HNP.out.1.symm)
  have HS3 := Lib.hid ((Sd.of_below (P := P) HB2.out).setNew (j := 0) (x := .int .i64 5) HWV.out)
  have HR3 := Lib.hid ((heap_setCell_other w2 ⟨V, 0, none⟩ R (.int .i64 5) HNP.out.2.2.2.1).trans HR2.out)
  have HX3 := Lib.hid (Me.box_at (j := 0) ((heap_setCell_other w2 ⟨V, 0, none⟩ B (.int .i64 5) HNP.out.2.2.2.2).trans HX2.out) rfl)
  have HB3 := Lib.hid (show Below W0.heap.size W0 (w2.setCell ⟨V, 0, none⟩ (.int .i64 5)) from (HW.out.trans (HB2.out.mono HW.out.size)).trans ⟨rfl, rfl, rfl, by simp [World.setCell], fun i hi => heap_setCell_other _ _ _ _ (show i ≠ V by have := HW.out.size; have := HWV.out; omega)⟩)
  clear hv3 v0 f0 y0 nBV HP2 HB2 HR2 HX2 HVB
  generalize w2.setCell ⟨V, 0, none⟩ (.int .i64 5) = w3 at HV3 HP3 HS3 HR3 HX3 HB3 ⊢
  have HPV := Lib.hid (show P < w3.heap.size ∧ V < w3.heap.size ∧ B < w3.heap.size ∧ R < w3.heap.size from ⟨HP3.out.lt, Rw.lt_of_heap HV3.out, Rw.lt_of_cell HX3.out, Rw.lt_of_heap HR3.out⟩)
  have CE := Lib.hid (elems_m (Jv.encM l) (.pointer (some ⟨V, 0, none⟩)) (.pointer (some ⟨B, 0, none⟩)) 125 (by decide) (by decide) P a d s post w3 (fun k u => ∃ it, Iv P V a 5 w3 u (.slice none 0 0) it ∧ MRow w3.heap.size u it (l.take k)) HP3.out HL.out.1 HL.out.2.1 HL.out.2.2.1 HL.out.2.2.2.1
    ⟨.slice none 0 0, ⟨rfl, rfl, rfl, Nat.le_refl _, fun _ _ _ _ => rfl, HV3.out⟩, by rw [List.take_zero]; exact Row.nil⟩
    (fun k u w hk hs => by
      obtain ⟨it, h1, h2⟩ := hk
      exact ⟨it, h1.sd hs HNP.out.1, row_sd h2 HPV.out.1 hs⟩)
    (fun k hk2 u ak rest hps hiv hdr hrest => by
      obtain ⟨it, h1, h2⟩ := hiv
      have hk : k < l.length := by rw [← HL.out.2.2.2.2.2.1]; exact hk2
      rw [HL.out.2.2.2.2.2.2 k hk hk2] at hdr ⊢
      refine (val2_is P V B a ak (d + 1) s l k hk W0 w3 u it HPV.out.1 HPV.out.2.1 HPV.out.2.2.1 HNP.out.1 HNP.out.2.2.1 HNP.out.2.2.2.2 HX3.out HP00.out (by have := HW.out.size; have := HWV.out; omega) HB3.out HL.out.2.2.2.2.1 h1 h2 hps (fun x v h1 h2 h3 => HJ.out k hk x v _ ak rest h1 h2 HPV.out.1 h3 hdr hrest)).mono ?_
      rintro e w' ⟨he, h3, h4⟩
      exact ⟨he, h3, h4⟩))
  rw [HL.out.2.2.2.2.2.1, List.take_length, HJN.out] at CE
  change Hid (Calls _ _ #[_, .int .u8 125, _] _ _) at CE
  refine CE.out.mono ?_
  rintro e w4 ⟨rfl, ⟨it, hiv, hrow⟩, hp4⟩
  obtain ⟨ad, cap, rfl⟩ := Row.slice hrow
  have v0 := Me.box_at (j := 0) hiv.vb rfl
  have v1 := Me.box_at (j := 1) hiv.vb rfl
  have v2 := Me.box_at (j := 2) hiv.vb rfl
  have v3 := Me.box_at (j := 3) hiv.vb rfl
  have v4 := Me.box_at (j := 4) hiv.vb rfl
  have v5 := Me.box_at (j := 5) hiv.vb rfl
  have v6 := Me.box_at (j := 6) hiv.vb rfl
  have HR4 := Lib.hid ((hiv.block R HPV.out.2.2.2 HNP.out.2.1 HNP.out.2.2.2.1).trans HR3.out)
  have HP4 := Lib.hid hp4
  have HRW := Lib.hid hrow
  have HS4 := Lib.hid (show Sd P W w4 from ⟨hiv.os.trans HS3.out.os, hiv.tape.trans HS3.out.tape, hiv.output.trans HS3.out.output, Nat.le_trans HS3.out.size hiv.size, fun i hi hp => (hiv.block i (Nat.lt_of_lt_of_le hi HS3.out.size) hp (by have := HWV.out; omega)).trans (HS3.out.block i hi hp)⟩)
  have HSZ := Lib.hid hiv.size
  clear hiv hrow hp4 CE
  go_wp2_with (refine wpList_store_row rfl 82 _ _ rfl R #[.int .i64 5, .bool false, .int .i64 0, .string ⟨#[]⟩, .slice none 0 0, .slice ad l.length cap, .int .i64 a] rfl rfl 82 _ HR4.out (by kernel_rfl) rfl (by simp [Value.oneCell']) ?_)
  go_wp2_with fail
  have hz2 := setRow_heap _ R _ #[.int .i64 5, .bool false, .int .i64 0, .string ⟨#[]⟩, .slice none 0 0, .slice ad l.length cap, .int .i64 a] _ _ HR4.out
  refine bodyPost_ret (results_cell_row rfl _ _ R _ _ _ _ rfl hz2 Tryz.underlying82 rfl (by kernel_rfl)) rfl ?_
  refine ⟨⟨5, false, 0, ⟨#[]⟩, none, 0, 0, ad, l.length, cap, a, rfl, fun w' hw' => val_obj_row HRW.out a w' fun k h1 h2 h3 => ?_⟩, ?_, HS4.out.rowNew (by have := HRE.out; omega)⟩
  · rw [hw' k (by have := HS3.out.size; omega) (by rw [show (w4.setRow R _).heap.size = w4.heap.size from by simp [World.setRow]]; exact h2) (by simp), setRow_other _ R k _ (by have := HPV.out; omega)]
  · have e : a + (jn + 2) = a + 1 + jn + 1 := by omega
    rw [e]
    exact (setRow_other _ R P _ HNP.out.2.1.symm).trans HP4.out
end Go.Proofs.YtjaojenalodolaaGreatDoor.Pj
/- jsonvalue's value on a canonical text, whatever the value of strings, numbers, arrays and objects. -/
namespace Go.Proofs.YtjaojenalodolaaGreatDoor.Pj
open Go Go.RowKit Go.Proofs.YtjaojenalodolaaGreatDoor Go.Proofs.YtjaojenalodolaaGreatDoor.Rw Go.Proofs.YtjaojenalodolaaGreatDoor.Vf Go.Proofs.YtjaojenalodolaaGreatDoor.Mw Go.Proofs.YtjaojenalodolaaGreatDoor.Me Go.Proofs.YtjaojenalodolaaGreatDoor.Pa
set_option linter.unusedVariables false
theorem enc_beg {j : Jv.J} (hs : JS j) (hb : JB j) : ∃ c r, Jv.enc j = c :: r ∧ Beg c := by
  cases j with
  | null => unfold JS at hs; exact hs.elim
  | bool b => unfold JS at hs; exact hs.elim
  | int n =>
    unfold JB at hb
    have hN := num_dig n hb.1 hb.2
    have e : Jv.enc (.int n) = Jv.dig n := by simp only [Jv.enc]
    cases hd : Jv.dig n with
    | nil => exact absurd hd hN.ne
    | cons c r =>
      refine ⟨c, r, e.trans hd, ?_⟩
      have := hN.head
      rw [hd] at this
      rcases this with h | h
      · exact .inr (.inr (.inr (.inl h)))
      · exact .inr (.inr (.inr (.inr h)))
  | str s => exact ⟨34, _, by simp only [Jv.enc]; rfl, .inl rfl⟩
  | arr l => exact ⟨91, _, by simp only [Jv.enc]; rfl, .inr (.inl rfl)⟩
  | obj l => exact ⟨123, _, by simp only [Jv.enc]; rfl, .inr (.inr (.inl rfl))⟩
theorem beg_nat {c : UInt8} (h : Beg c) : c.toNat = 34 ∨ c.toNat = 91 ∨ c.toNat = 123 ∨ c.toNat = 45 ∨ (48 ≤ c.toNat ∧ c.toNat ≤ 57) := by
  rcases h with rfl | rfl | rfl | rfl | h
  · exact .inl rfl
  · exact .inr (.inl rfl)
  · exact .inr (.inr (.inl rfl))
  · exact .inr (.inr (.inr (.inl rfl)))
  · exact .inr (.inr (.inr (.inr h)))
theorem beg_ok {c : UInt8} (h : Beg c) : Txt.spB (c.toNat : Int) = false ∧ c ≠ 93 ∧ c ≠ 125 := by
  have hn := beg_nat h
  refine ⟨Tx.spB_f (by omega), ?_, ?_⟩
  · rintro rfl
    have : (93 : UInt8).toNat = 93 := rfl
    omega
  · rintro rfl
    have : (125 : UInt8).toNat = 125 := rfl
    omega
theorem stop_of {rest : List UInt8} (h : rest.head? = some 44 ∨ rest.head? = some 93 ∨ rest.head? = some 125) : Stop rest := by
  intro c hc
  rcases h with h | h | h <;> rw [h] at hc <;> cases hc <;> decide
theorem stop_nil : Stop [] := fun c hc => by cases hc
theorem keys_other {l : List (ByteArray × Jv.J)} (h : (l.map (·.1)).Nodup) {k : Nat} (hk : k < l.length) : ∀ x ∈ l.take k, (x.1.toList == l[k].1.toList) = false := by
  intro x hx
  rw [List.mem_take_iff_getElem] at hx
  obtain ⟨i, hi, rfl⟩ := hx
  have hil : i < l.length := by omega
  rw [Bool.eq_false_iff]
  intro e
  have e2 := eq_of_beq e
  rw [ByteArray.toList_eq, ByteArray.toList_eq] at e2
  have e3 : l[i].1 = l[k].1 := Bs.ba_eq e2
  have h2 : (l.map (·.1)).Pairwise (· ≠ ·) := h
  have := (List.pairwise_iff_getElem.1 h2) i k (by rw [List.length_map]; omega) (by rw [List.length_map]; exact hk) (by omega)
  rw [List.getElem_map, List.getElem_map] at this
  exact this e3
theorem value_is (P : Nat) (s : ByteArray) (W0 : World) (hT : Jw.JTabs W0) (hP0 : W0.heap.size ≤ P) (hs : s.size ≤ 1000000000) : ∀ (m d : Nat) (j : Jv.J) (a : Nat) (post : List UInt8) (W : World), d + m = 100 → Jv.Ok (d + 1) j → JB j → JS j → Ps P s a d W → Below W0.heap.size W0 W → Stop post → s.data.toList.drop a = Jv.enc j ++ post → VC P s j a d W
  | 0, d, j, a, post, W, hm, ho, hb, hj, h, hW, hp, hd => by
    exfalso
    cases j <;> simp only [Jv.Ok] at ho <;> omega
  | m + 1, d, j, a, post, W, hm, ho, hb, hj, h, hW, hp, hd => by
    cases j with
    | null => unfold JS at hj; exact hj.elim
    | bool b => unfold JS at hj; exact hj.elim
    | int n =>
      unfold JB at hb
      exact value_int P a d s n post W h hs hb.1 hb.2 hp hd
    | str t =>
      simp only [Jv.Ok] at ho
      exact value_str P a d s t post W0 W h hs hT hW hP0 ho.2 hd
    | arr l =>
      simp only [Jv.Ok] at ho
      unfold JB at hb
      unfold JS at hj
      rw [Jv.OkL_iff] at ho
      rw [JBL_iff] at hb
      rw [JSL_iff] at hj
      refine value_arr P a d s l post W0 W h hs hW hP0 ho.1 hb.1 hd (fun t ht => ?_) (fun k hk u ak rest h1 h2 h3 h4 => ?_)
      · rw [Jv.encL_map] at ht
        obtain ⟨x, hx, rfl⟩ := List.mem_map.1 ht
        obtain ⟨c, r, e, hc⟩ := enc_beg (hj x hx) (hb.2 x hx)
        exact ⟨c, r, e, (beg_ok hc).1, (beg_ok hc).2.1⟩
      · exact value_is P s W0 hT hP0 hs m (d + 1) l[k] ak rest u (by omega) (ho.2 _ (List.getElem_mem hk)) (hb.2 _ (List.getElem_mem hk)) (hj _ (List.getElem_mem hk)) h1 h2 (stop_of (h4.imp id .inl)) h3
    | obj l =>
      simp only [Jv.Ok] at ho
      unfold JB at hb
      unfold JS at hj
      rw [Jv.OkM_iff] at ho
      rw [JBM_iff] at hb
      rw [JSM_iff] at hj
      refine value_obj P a d s l post W0 W h hs hW hP0 ho.1 hb.1 hd (fun t ht => ?_) (fun k hk u v S ak rest h1 h2 hPS hrow h3 h4 => ?_)
      · rw [Jv.encM_map] at ht
        obtain ⟨x, hx, rfl⟩ := List.mem_map.1 ht
        exact ⟨34, _, rfl, by decide, by decide⟩
      · unfold MC
        refine (member_is P S ak (d + 1) s l[k].1 l[k].2 rest v (l.take k) W0 u h1 hs hPS hT h2 hP0 (ho.2.2 _ (List.getElem_mem hk)).1 h3 hrow (keys_other ho.2.1 hk) (by rw [List.length_take]; omega) (fun x bk h5 h6 h7 => ?_)).mono fun e w' h => h
        have h8 : Below W0.heap.size W0 x := h2.trans (h6.under hP0 h2.size)
        exact value_is P s W0 hT hP0 hs m (d + 1) l[k].2 bk rest x (by omega) (ho.2.2 _ (List.getElem_mem hk)).2 (hb.2 _ (List.getElem_mem hk)).2 (hj _ (List.getElem_mem hk)) h5 h8 (stop_of (h4.imp id .inr)) h7
end Go.Proofs.YtjaojenalodolaaGreatDoor.Pj
/- jsonvalue.Parse on a canonical text. -/
namespace Go.Proofs.YtjaojenalodolaaGreatDoor.Pj
open Go Go.RowKit Go.Proofs.YtjaojenalodolaaGreatDoor Go.Proofs.YtjaojenalodolaaGreatDoor.Rw Go.Proofs.YtjaojenalodolaaGreatDoor.Vf Go.Proofs.YtjaojenalodolaaGreatDoor.Mw Go.Proofs.YtjaojenalodolaaGreatDoor.Me Go.Proofs.YtjaojenalodolaaGreatDoor.Pa
set_option linter.unusedVariables false
set_option maxRecDepth 100000
set_option maxHeartbeats 16000000
theorem idle_is (p q r : Value) (w : World) :
    CallsD Tryz.prog 94 #[p, q, r] .returning w fun e u' w' => e = .returned (.tuple #[]) ∧ u' = .returning ∧ w' = w := by
  refine callsD_of_wpS Tryz.func94 rfl fun c₀ cs hu => ?_
  apply wpS_seq
  apply wpS_region
  simp [wpOpsS, go_sem, recoverD, hu, Tryz.ntmps94, Exit.thenS]
  have hnn : ∀ w, (binOp .neq 20 .nilIface .nilIface).run Tryz.prog w = .ok (.bool false) w := fun w => run_neq_nil_nil w 20 (by first | exact Tryz.underlying20 | kernel_rfl)
  apply wpS_seq
  apply wpS_region
  simp [wpOpsS, go_sem, hnn, Exit.thenS]
  refine wpS_cond (t := false) (by simp [Act.eval, Array.replicate]) ?_
  simp only [Bool.false_eq_true, if_false]
  refine wpS_of_wp (wp_skip ?_)
  cases c₀
  simp_all [bodyPostS, results, Tryz.results94]
theorem res_cells3 {P : Program} {fn : Func} {p q r : Tmp} {ty t2 t3 : TypeId} (h : fn.results = #[.cell p ty, .cell q t2, .cell r t3]) (tmps : Array Value) (w : World) (g : Nat) (t : TypeId) (cs : Array Value) (fr : Nat × Nat) (d : TypeDesc) (x y : Value)
    (hp : tmps.getD p undef = .pointer (some ⟨g, 0, none⟩)) (hg : w.heap[g]? = some (.cells cs t fr))
    (hu : P.underlying ty = some d) (hd : (match d with | .struct _ | .array _ _ => true | _ => false) = true) (hi : (P.info? ty).map (·.size) = some cs.size)
    (a2 a3 : Addr) (hq : tmps.getD q undef = .pointer (some a2)) (hr : tmps.getD r undef = .pointer (some a3)) (h2 : (loadVar t2 a2).run P w = .ok x w) (h3 : (loadVar t3 a3).run P w = .ok y w) :
    (results fn tmps).run P w = .ok (.tuple #[.agg cs, x, y]) w := by
  have hp' : tmps[p]?.getD undef = .pointer (some ⟨g, 0, none⟩) := by simpa using hp
  have hq' : tmps[q]?.getD undef = .pointer (some a2) := by simpa using hq
  have hr' : tmps[r]?.getD undef = .pointer (some a3) := by simpa using hr
  simp [results, h, hp', hq', hr', asAddr, run_loadVar_row w g t ty cs fr d hg hu hd hi, h2, h3]
abbrev zV : Obj := .cells #[.int .i64 0, .bool false, .int .i64 0, .string ⟨#[]⟩, .slice none 0 0, .slice none 0 0, .int .i64 0] 82
abbrev zI : Obj := .cells #[.int .i64 0] 3
abbrev zE : Obj := .cells #[.int .i64 0] 33
abbrev zP (s : ByteArray) : Obj := .cells #[.string s, .int .i64 0, .int .i64 0] 161
theorem four {W w : World} {a b c d : Obj} (h : (((W.alloc a).alloc b).alloc c).alloc d = w) : Below W.heap.size W w ∧ w.heap[W.heap.size]? = some a ∧ w.heap[W.heap.size + 1]? = some b ∧ w.heap[W.heap.size + 1 + 1]? = some c ∧ w.heap[W.heap.size + 1 + 1 + 1]? = some d := by
  subst h
  have s1 : (W.alloc a).heap.size = W.heap.size + 1 := Array.size_push _
  have s2 : ((W.alloc a).alloc b).heap.size = W.heap.size + 1 + 1 := by rw [← s1]; exact Array.size_push _
  have s3 : (((W.alloc a).alloc b).alloc c).heap.size = W.heap.size + 1 + 1 + 1 := by rw [← s2]; exact Array.size_push _
  have b1 := (Below.refl W.heap.size W).alloc (Nat.le_refl _) a
  have b2 := b1.alloc b1.size b
  have b3 := b2.alloc b2.size c
  have h0 := heap_alloc_new W a
  have h1 := heap_alloc_new (W.alloc a) b
  have h2 := heap_alloc_new ((W.alloc a).alloc b) c
  have h3 := heap_alloc_new (((W.alloc a).alloc b).alloc c) d
  rw [s1] at h1
  rw [s2] at h2
  rw [s3] at h3
  have o := fun (w : World) (x : Obj) (k : Nat) (y : Obj) (hk : w.heap[k]? = some y) => (heap_alloc_old w x (Rw.lt_of_heap hk)).trans hk
  exact ⟨b3.alloc b3.size d, o _ _ _ _ (o _ _ _ _ (o _ _ _ _ h0)), o _ _ _ _ (o _ _ _ _ h1), o _ _ _ _ h2, h3⟩
def PR (W : World) (j : Jv.J) (n : Nat) (e : Ending) (w' : World) : Prop := ∃ k b m t a1 n1 c1 a2 n2 c2 p, e = .returned (.tuple #[.agg #[.int .i64 k, .bool b, .int .i64 m, .string t, .slice a1 n1 c1, .slice a2 n2 c2, .int .i64 p], .int .i64 n, .int .i64 0]) ∧ Val W.heap.size w' j (vCells k b m t (.slice a1 n1 c1) (.slice a2 n2 c2) p)
theorem parse_is (s : ByteArray) (j : Jv.J) (W : World) (hT : Jw.JTabs W) (hs : s.size ≤ 1000000000) (ht : s.data.toList = Jv.enc j) (ho : Jv.Ok 1 j) (hb : JB j) (hj : JS j) :
    Calls Tryz.prog 53 #[.string s] W fun e w' => PR W j s.size e w' ∧ Below W.heap.size W w' := by
  have hmf : ∀ (fn : Fn) (first cap : Array Value) (w : World), (Instr.makeFunc fn first cap).run Tryz.prog w = .ok (.func fn first cap) w := fun _ _ _ _ => rfl
  have CH := Lib.hid (fun u => Tryz.strings_HasPrefix s ⟨#[239, 187, 191]⟩ u)
  have hpre : Lib.hasPrefix s.data.toList (⟨#[239, 187, 191]⟩ : ByteArray).data.toList = false := by
    obtain ⟨c, r, e, hc⟩ := enc_beg hj hb
    rw [ht, e]
    have hn := beg_nat hc
    have : c ≠ 239 := by
      rintro rfl
      have : (239 : UInt8).toNat = 239 := rfl
      omega
    show List.isPrefixOf [239, 187, 191] (c :: r) = false
    have h2 : ((239 : UInt8) == c) = false := by simpa using Ne.symm this
    simp [List.isPrefixOf, h2]
  rw [hpre] at CH
  have hlen : (Jv.enc j).length = s.size := by rw [← ht]; simp
  have HVI := Lib.hid (fun (P : Nat) (hP : W.heap.size ≤ P) (u : World) (h1 : Ps P s 0 0 u) (h2 : Below W.heap.size W u) => value_is P s W hT hP hs 100 0 j 0 [] u rfl ho hb hj h1 h2 stop_nil (by rw [List.drop_zero, List.append_nil]; exact ht))
  have HL := Lib.hid (And.intro hs hlen)
  clear hT ht ho hb hj hs hlen hpre
  go_enter_defers Tryz.func53, Tryz.ntmps53
  go_wp2_with fail
  generalize hw0 : (((W.alloc zV).alloc zI).alloc zE).alloc (zP s) = w0
  obtain ⟨b0, r1, r2, r3, rp⟩ := four hw0
  have HB0 := Lib.hid b0
  have HR1 := Lib.hid r1
  have HR2 := Lib.hid r2
  have HR3 := Lib.hid r3
  have HP0 := Lib.hid (show Ps (W.heap.size + 1 + 1 + 1) s 0 0 w0 from rp)
  clear hw0 b0 r1 r2 r3 rp
  refine (CH.out _).mono ?_
  rintro e w1 ⟨rfl, rfl⟩
  have CV := Lib.hid (HVI.out _ (by omega) w1 HP0.out HB0.out)
  unfold VC at CV
  clear HVI CH
  go_wp2_with fail
  refine CV.out.mono ?_
  rintro e w2 ⟨⟨vk, vb, vn, vt, a1, n1, c1, a2, n2, c2, vp, rfl, hv2⟩, hp2, hs2⟩
  rw [HL.out.2, Nat.zero_add] at hp2
  have hlt : W.heap.size < w1.heap.size ∧ W.heap.size + 1 + 1 < w1.heap.size ∧ W.heap.size + 1 < w1.heap.size := ⟨Rw.lt_of_heap HR1.out, Rw.lt_of_heap HR3.out, Rw.lt_of_heap HR2.out⟩
  have HR1' := Lib.hid (hs2.heap HR1.out (by omega))
  have HR2' := Lib.hid (hs2.heap HR2.out (by omega))
  have HR3' := Lib.hid (hs2.heap HR3.out (by omega))
  have HB2 := Lib.hid (show Below W.heap.size W w2 from HB0.out.trans (hs2.under (by omega) HB0.out.size))
  have HV2 := Lib.hid (show Val W.heap.size w2 j (vCells vk vb vn vt (.slice a1 n1 c1) (.slice a2 n2 c2) vp) ∧ w1.heap.size ≤ w2.heap.size from ⟨hv2.base (HB0.out.size), hs2.size⟩)
  have HVX := Lib.hid hv2
  have HLT := Lib.hid hlt
  have HP2 := Lib.hid hp2
  clear hv2 hp2 hs2 hlt CV HR1 HR2 HR3 HP0
  go_wp2_with (refine wpList_store_row rfl 82 _ _ rfl W.heap.size #[.int .i64 vk, .bool vb, .int .i64 vn, .string vt, .slice a1 n1 c1, .slice a2 n2 c2, .int .i64 vp] rfl rfl 82 _ HR1'.out (by kernel_rfl) rfl (by simp [Value.oneCell']) ?_)
  have HR4 := Lib.hid (setRow_heap w2 W.heap.size _ #[.int .i64 vk, .bool vb, .int .i64 vn, .string vt, .slice a1 n1 c1, .slice a2 n2 c2, .int .i64 vp] _ _ HR1'.out)
  have ho4 : ∀ k, k ≠ W.heap.size → (w2.setRow W.heap.size #[.int .i64 vk, .bool vb, .int .i64 vn, .string vt, .slice a1 n1 c1, .slice a2 n2 c2, .int .i64 vp]).heap[k]? = w2.heap[k]? := fun k hk => setRow_other w2 _ k _ hk
  have hs4 : (w2.setRow W.heap.size #[.int .i64 vk, .bool vb, .int .i64 vn, .string vt, .slice a1 n1 c1, .slice a2 n2 c2, .int .i64 vp]).heap.size = w2.heap.size := by simp [World.setRow]
  have HS4 := Lib.hid (And.intro ho4 hs4)
  have HB4 := Lib.hid (below_setRow HB2.out (Nat.le_refl _) #[.int .i64 vk, .bool vb, .int .i64 vn, .string vt, .slice a1 n1 c1, .slice a2 n2 c2, .int .i64 vp])
  clear ho4 hs4
  have HP4 := Lib.hid (show Ps (W.heap.size + 1 + 1 + 1) s s.size 0 _ from (HS4.out.1 _ (by omega)).trans HP2.out)
  have HR4b := Lib.hid ((HS4.out.1 (W.heap.size + 1) (by omega)).trans HR2'.out)
  have HR4c := Lib.hid ((HS4.out.1 (W.heap.size + 1 + 1) (by omega)).trans HR3'.out)
  have HV4 := Lib.hid (show ∀ w', Agree w1.heap.size (w2.setRow W.heap.size #[.int .i64 vk, .bool vb, .int .i64 vn, .string vt, .slice a1 n1 c1, .slice a2 n2 c2, .int .i64 vp]) w' none → Jv w' j (vCells vk vb vn vt (.slice a1 n1 c1) (.slice a2 n2 c2) vp) from fun w' hw => HVX.out w' fun k h1 h2 h3 => (hw k h1 (by rw [HS4.out.2]; exact h2) h3).trans (HS4.out.1 k (by have := HLT.out; omega)))
  have HZ4 := Lib.hid (show w1.heap.size ≤ (w2.setRow W.heap.size #[.int .i64 vk, .bool vb, .int .i64 vn, .string vt, .slice a1 n1 c1, .slice a2 n2 c2, .int .i64 vp]).heap.size by rw [HS4.out.2]; exact HV2.out.2)
  clear HP2 HR1' HR2' HR3' HV2 HVX HB2 HS4
  generalize w2.setRow W.heap.size #[.int .i64 vk, .bool vb, .int .i64 vn, .string vt, .slice a1 n1 c1, .slice a2 n2 c2, .int .i64 vp] = w3 at HR4 HB4 HP4 HR4b HR4c HV4 HZ4 ⊢
  refine (spaces_is _ s.size 0 s w3 HP4.out HL.out.1 (Nat.le_refl _) (fun h => absurd h (Nat.lt_irrefl _))).mono ?_
  rintro e w4 ⟨rfl, hb4⟩
  have HB5 := Lib.hid (below_seq HB4.out hb4)
  have hr1 := (hb4.block _ (Rw.lt_of_heap HR4.out)).trans HR4.out
  have hr2 := (hb4.block _ (Rw.lt_of_heap HR4b.out)).trans HR4b.out
  have hr3 := (hb4.block _ (Rw.lt_of_heap HR4c.out)).trans HR4c.out
  have y1 := (HP4.out.below hb4).c1
  have x0 := Me.box_at (j := 0) hr1 rfl
  have x1 := Me.box_at (j := 1) hr1 rfl
  have x2 := Me.box_at (j := 2) hr1 rfl
  have x3 := Me.box_at (j := 3) hr1 rfl
  have x4 := Me.box_at (j := 4) hr1 rfl
  have x5 := Me.box_at (j := 5) hr1 rfl
  have x6 := Me.box_at (j := 6) hr1 rfl
  have HR5 := Lib.hid hr1
  have HR5b := Lib.hid hr2
  have HR5c := Lib.hid hr3
  have HV5 := Lib.hid (show ∀ w', Agree w1.heap.size w4 w' none → Jv w' j (vCells vk vb vn vt (.slice a1 n1 c1) (.slice a2 n2 c2) vp) from fun w' hw => HV4.out w' (Agree.below hb4 hw))
  have HZ5 := Lib.hid (Nat.le_trans HZ4.out hb4.size)
  clear hb4 hr1 hr2 hr3 HB4 HR4 HR4b HR4c HP4 HV4 HZ4
  go_wp2_with (refine wpList_store_row rfl 82 _ _ rfl W.heap.size #[.int .i64 vk, .bool vb, .int .i64 vn, .string vt, .slice a1 n1 c1, .slice a2 n2 c2, .int .i64 vp] rfl rfl 82 _ HR5.out (by kernel_rfl) rfl (by simp [Value.oneCell']) ?_; have hr6 := setRow_heap w4 W.heap.size _ #[.int .i64 vk, .bool vb, .int .i64 vn, .string vt, .slice a1 n1 c1, .slice a2 n2 c2, .int .i64 vp] _ _ HR5.out; have ho6 : ∀ k, k ≠ W.heap.size → (w4.setRow W.heap.size #[.int .i64 vk, .bool vb, .int .i64 vn, .string vt, .slice a1 n1 c1, .slice a2 n2 c2, .int .i64 vp]).heap[k]? = w4.heap[k]? := (fun k hk => setRow_other w4 _ k _ hk); have hs6 : (w4.setRow W.heap.size #[.int .i64 vk, .bool vb, .int .i64 vn, .string vt, .slice a1 n1 c1, .slice a2 n2 c2, .int .i64 vp]).heap.size = w4.heap.size := (by simp [World.setRow]); have HB6 := Lib.hid (below_setRow HB5.out (Nat.le_refl _) #[.int .i64 vk, .bool vb, .int .i64 vn, .string vt, .slice a1 n1 c1, .slice a2 n2 c2, .int .i64 vp]); have HR6 := Lib.hid hr6; have hr2 := (ho6 (W.heap.size + 1) (by omega)).trans HR5b.out; have hr3 := (ho6 (W.heap.size + 1 + 1) (by omega)).trans HR5c.out; have HR6b := Lib.hid hr2; have HR6c := Lib.hid hr3; have z2 := Me.box_at (j := 0) hr2 rfl; have z3 := Me.box_at (j := 0) hr3 rfl; have f2 := frozen_of_row _ _ 0 _ _ hr2; have f3 := frozen_of_row _ _ 0 _ _ hr3; have HV6 := Lib.hid (show ∀ w', Agree w1.heap.size (w4.setRow W.heap.size #[.int .i64 vk, .bool vb, .int .i64 vn, .string vt, .slice a1 n1 c1, .slice a2 n2 c2, .int .i64 vp]) w' none → Jv w' j (vCells vk vb vn vt (.slice a1 n1 c1) (.slice a2 n2 c2) vp) from fun w' hw => HV5.out w' fun k h1 h2 h3 => (hw k h1 (by rw [hs6]; exact h2) h3).trans (ho6 k (by have := HLT.out; omega))); clear hr6 ho6 hs6 hr2 hr3 x0 x1 x2 x3 x4 x5 x6 y1 HR5 HR5b HR5c HB5 HV5; change wpList _ _ _ _ _ (w4.setRow W.heap.size #[.int .i64 vk, .bool vb, .int .i64 vn, .string vt, .slice a1 n1 c1, .slice a2 n2 c2, .int .i64 vp]); generalize w4.setRow W.heap.size #[.int .i64 vk, .bool vb, .int .i64 vn, .string vt, .slice a1 n1 c1, .slice a2 n2 c2, .int .i64 vp] = w5 at HB6 HR6 HR6b HR6c z2 z3 f2 f3 HV6 ⊢)
  have k2 := heap_setCell_same w5 (W.heap.size + 1) 0 _ _ (.int .i64 s.size) HR6b.out
  have k3 := (heap_setCell_other w5 ⟨W.heap.size + 1, 0, none⟩ (W.heap.size + 1 + 1) (.int .i64 s.size) (show _ ≠ W.heap.size + 1 by omega)).trans HR6c.out
  have k3' := heap_setCell_same (w5.setCell ⟨W.heap.size + 1, 0, none⟩ (.int .i64 s.size)) (W.heap.size + 1 + 1) 0 _ _ (.int .i64 0) k3
  have k2' := (heap_setCell_other (w5.setCell ⟨W.heap.size + 1, 0, none⟩ (.int .i64 s.size)) ⟨W.heap.size + 1 + 1, 0, none⟩ (W.heap.size + 1) (.int .i64 0) (show _ ≠ W.heap.size + 1 + 1 by omega)).trans k2
  have k1 := (heap_setCell_other w5 ⟨W.heap.size + 1, 0, none⟩ W.heap.size (.int .i64 s.size) (show _ ≠ W.heap.size + 1 by omega)).trans HR6.out
  have k1' := (heap_setCell_other (w5.setCell ⟨W.heap.size + 1, 0, none⟩ (.int .i64 s.size)) ⟨W.heap.size + 1 + 1, 0, none⟩ W.heap.size (.int .i64 0) (show _ ≠ W.heap.size + 1 + 1 by omega)).trans k1
  have hlt := HLT.out
  have ho : ∀ k, w1.heap.size ≤ k → ((w5.setCell ⟨W.heap.size + 1, 0, none⟩ (.int .i64 s.size)).setCell ⟨W.heap.size + 1 + 1, 0, none⟩ (.int .i64 0)).heap[k]? = w5.heap[k]? := fun k hk => (heap_setCell_other _ _ k _ (show k ≠ W.heap.size + 1 + 1 by omega)).trans (heap_setCell_other _ _ k _ (show k ≠ W.heap.size + 1 by omega))
  have hz : ((w5.setCell ⟨W.heap.size + 1, 0, none⟩ (.int .i64 s.size)).setCell ⟨W.heap.size + 1 + 1, 0, none⟩ (.int .i64 0)).heap.size = w5.heap.size := by simp [World.setCell]
  have hb : Below W.heap.size W ((w5.setCell ⟨W.heap.size + 1, 0, none⟩ (.int .i64 s.size)).setCell ⟨W.heap.size + 1 + 1, 0, none⟩ (.int .i64 0)) :=
    HB6.out.trans ⟨rfl, rfl, rfl, Nat.le_of_eq hz.symm, fun k hk => (heap_setCell_other _ _ k _ (show k ≠ W.heap.size + 1 + 1 by omega)).trans (heap_setCell_other _ _ k _ (show k ≠ W.heap.size + 1 by omega))⟩
  generalize (w5.setCell ⟨W.heap.size + 1, 0, none⟩ (.int .i64 s.size)).setCell ⟨W.heap.size + 1 + 1, 0, none⟩ (.int .i64 0) = w6 at k1' k2' k3' ho hz hb ⊢
  have d2 := Me.box_at (j := 0) k2' rfl
  have d3 := Me.box_at (j := 0) k3' rfl
  have l2 : (loadVar 3 ⟨W.heap.size + 1, 0, none⟩).run Tryz.prog w6 = .ok (.int .i64 s.size) w6 := by
    simp [loadVar, loadCells, go_sem, d2]
  have l3 : (loadVar 33 ⟨W.heap.size + 1 + 1, 0, none⟩).run Tryz.prog w6 = .ok (.int .i64 0) w6 := by
    simp [loadVar, loadCells, go_sem, d3]
  refine leaves_cons (f := 94) (args := #[.pointer (some ⟨W.heap.size, 0, none⟩), .pointer (some ⟨W.heap.size + 1, 0, none⟩), .pointer (some ⟨W.heap.size + 1 + 1, 0, none⟩)]) (by simp) (by simp [go_sem]) ?_
  refine (idle_is _ _ _ w6).mono ?_
  rintro e u' w'' ⟨rfl, rfl, rfl⟩
  simp only [settle, Leaves]
  refine ⟨_, res_cells3 (p := 2) (q := 3) (r := 4) (ty := 82) (t2 := 3) (t3 := 33) (by kernel_rfl) _ w'' W.heap.size _ _ _ _ _ _ (by rfl) k1' (by first | exact Tryz.underlying82 | kernel_rfl) rfl (by kernel_rfl) _ _ (by rfl) (by rfl) l2 l3, ⟨vk, vb, vn, vt, a1, n1, c1, a2, n2, c2, vp, rfl, ?_⟩, hb⟩
  intro w' hw
  exact HV6.out w' fun k h1 h2 h3 => (hw k (by omega) (by omega) h3).trans (ho k h1)
end Go.Proofs.YtjaojenalodolaaGreatDoor.Pj
