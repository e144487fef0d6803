/- The law VfsFails (feedvault/feedvaultlaw21.VfsFails): for every input it returns true, and each argument reads afterwards as before. No condition. -/
import Derived.Test.YtcobjjaicckgpaaRows
import Derived.WalkKit
import Derived.ProofKit
import Derived.OpenShut
import Derived.ShutString
import Derived.ChangeOld
import Derived.Below
import Derived.SizedLaws
import Derived.Laws.IdiomArrays
import Derived.Lib.SmallJoins
import Derived.Test.YtcobjjaicckgpaaK06
/- VfsFails: its walk. -/
namespace Go.Proofs.Ytcobjjaicckgpaa.Vf
open Go Go.RowKit Go.Maps Go.Proofs.Ytcobjjaicckgpaa Go.Proofs.Ytcobjjaicckgpaa.Bs
set_option linter.unusedVariables false

theorem AS.Gd.arm {a : AS} {n : Nat} (h : a.Gd n) (m e : Int) (hm : m ≤ 9223372036854775807) : (AS.arm m e a).2.Gd n := ⟨(h.rk.rx.arm m e).rk (h.rk.ok.arm m e hm), h.nb.arm m e⟩
theorem Two.fonly {W w w1 : World} {f : Nat} {o : RL} {a : AS} {p p' : Nat → Prop} (t : Two W w f o a p) (hf : Fs w1 W.heap.size f Zn a p') (hr : Fr w w1 p) : Two W w1 f o a p' :=
  ⟨hf, t.g.apart t.f hr, t.below.trans (hr.below (fun k hk => (t.f.lt k hk).2) t.below.size)⟩
theorem Two.fonly2 {W w w1 : World} {f : Nat} {o : RL} {a : AS} {p : Nat → Prop} (t : Two W w f o a p) (hr : Fr w w1 p) : Below W.heap.size W w1 :=
  t.below.trans (hr.below (fun k hk => (t.f.lt k hk).2) t.below.size)
/-- What a failing call does beside failing. -/
def Ac.torn (c : Ac) (a : AS) : AS := if c.kind = 0 then AS.tear c.name c.data.data.toList a else a
def AS.armed0 (a : AS) (e : Int) : AS := { a with armed := true, after := 0, err := e }
theorem arm_yes {a : AS} {e : Int} (hd : a.down = false) (he : e = 25 ∨ e = 26 ∨ e = 24) : AS.arm 0 e a = (0, a.armed0 e) := by
  unfold AS.arm
  rw [if_neg (by intro h; rcases h with h | h; exact absurd h (by decide); exact h he), if_neg (by rw [hd]; decide)]
  rfl
theorem fail_act {a : AS} {e : Int} {c : Ac} (hd : a.down = false) (h0 : 0 ≤ c.kind) (h4 : c.kind ≤ 4) :
    AS.act c (a.armed0 e) = (e, { c.torn { a.armed0 e with armed := false } with down := e == 24 }) := by
  have hop : ∀ p q, AS.op p q (a.armed0 e) = (e, { q { a.armed0 e with armed := false } with down := e == 24 }) := fun p q => by
    unfold AS.op AS.armed0
    simp [hd]
  unfold AS.act Ac.torn
  by_cases k0 : c.kind = 0
  · rw [if_pos k0, if_pos k0, hop]
  rw [if_neg k0, if_neg k0]
  by_cases k1 : c.kind = 1
  · rw [if_pos k1, hop]; rfl
  rw [if_neg k1]
  by_cases k2 : c.kind = 2
  · rw [if_pos k2, hop]; rfl
  rw [if_neg k2]
  by_cases k3 : c.kind = 3
  · rw [if_pos k3, hop]; rfl
  rw [if_neg k3, if_pos (by omega), hop]; rfl
theorem torn_flags (c : Ac) (a : AS) : (c.torn a).armed = a.armed ∧ (c.torn a).down = a.down := by
  unfold Ac.torn
  split
  · exact ⟨(AS.put_flags _ _ _).2.2.1, (AS.put_flags _ _ _).2.1⟩
  · exact ⟨rfl, rfl⟩
theorem acts_one {W : World} {c : Ac} {v1 v2 : Value} {b : Nat} (h : W.heap[b]? = some (Obj.cells (actCells c v1 v2) 44 (0, 0))) (ho : ActOk W c v1 v2) : Acts W (.slice (some ⟨b, 0, none⟩) 1 1) [c] := by
  obtain ⟨x0, x1, x2, x3, x4, x5, x6, x7⟩ := act_cells h
  refine ⟨b, 0, some ⟨b, 0, none⟩, 1, rfl, fun _ => ⟨rfl, lt_of_heap h⟩, by simp, fun j hj => ?_⟩
  obtain rfl : j = 0 := by simpa using hj
  exact ⟨v1, v2, ⟨x0, x1, x2, x3, x4, x5, x6, x7⟩, ho⟩
theorem tool_one {c : Ac} (h : tooL [c] = false) : c.sum ≤ 4999 := by
  unfold tooL at h
  have := of_decide_eq_false h
  exact wt_le (Nat.le_trans (wts_mem [c] c (by simp)) (by omega))
set_option maxRecDepth 100000 in
theorem idx3 (wh : Int) (h : 0 ≤ wh ∧ wh < 256) : ∃ E : Int, (E = 25 ∨ E = 26 ∨ E = 24) ∧ ∀ w : World, (Instr.index 49 (.agg #[.int .i64 25, .int .i64 26, .int .i64 24]) (.int .u8 (wh.tmod 3))).run Try.prog w = .ok (.int .i64 E) w := by
  rw [Int.tmod_eq_emod_of_nonneg h.1]
  have hc : wh % 3 = 0 ∨ wh % 3 = 1 ∨ wh % 3 = 2 := by omega
  have h1 : Try.prog.cellsOf 28 = 1 := by kernel_rfl
  rcases hc with hc | hc | hc <;> rw [hc]
  · exact ⟨25, .inl rfl, fun w => by simp [Instr.index, run_underlying Try.underlying49, asIntOf, go_sem]⟩
  · exact ⟨26, .inr (.inl rfl), fun w => by simp [Instr.index, run_underlying Try.underlying49, asIntOf, go_sem]⟩
  · exact ⟨24, .inr (.inr rfl), fun w => by simp [Instr.index, run_underlying Try.underlying49, asIntOf, go_sem]⟩
set_option maxRecDepth 100000 in
set_option maxHeartbeats 16000000 in
theorem fails_law (W : World) (v : Value) (l : List Ac) (c : Ac) (v1 v2 : Value) (wh : Int) (h : Acts W v l) (ho : ActOk W c v1 v2) (hwh : 0 ≤ wh ∧ wh < 256) :
    Calls Try.prog 5 #[v, .agg (actCells c v1 v2), .int .u8 wh] W fun e w' => e = .returned (.bool true) ∧ Below W.heap.size W w' := by
  have HA := Lib.hid h
  have HO := Lib.hid ho
  have HBX := Lib.hid ((Below.refl W.heap.size W).alloc (Nat.le_refl _) (.cells (actCells c v1 v2) 44))
  have HX := Lib.hid (heap_alloc_new W (.cells (actCells c v1 v2) 44))
  obtain ⟨x0, x1, x2, x3, x4, x5, x6, x7⟩ := act_cells HX.out
  obtain ⟨g, off, ad, cap, rfl, -, -, -⟩ := id h
  obtain ⟨g1, o1, a1, c1, rfl, -⟩ := id ho.b1
  obtain ⟨g2, o2, a2, c2, rfl, -⟩ := id ho.b2
  obtain ⟨m, hm⟩ : ∃ m, l.length = m := ⟨_, rfl⟩
  rw [hm] at HA ⊢
  obtain ⟨kd, nm, nw, dt, af, er, ch, ls⟩ := c
  obtain ⟨t1, ht1⟩ : ∃ t1, tooL l = t1 := ⟨_, rfl⟩
  obtain ⟨t2, ht2⟩ : ∃ t2, tooL [(⟨kd, nm, nw, dt, af, er, ch, ls⟩ : Ac)] = t2 := ⟨_, rfl⟩
  have HT1 := Lib.hid ht1
  have HT2 := Lib.hid ht2
  unfold actCells at *
  simp only at x0 x1 x2 x3 x4 x5 x6 x7 HBX HX HO
  clear h ho ht1 ht2 hm
  obtain ⟨E, hE, hidx⟩ := idx3 wh hwh
  have HE := Lib.hid hE
  clear hE hwh
  go_enter Try.func5, Try.ntmps5
  go_wp2_with fail
  generalize (W.alloc (.cells #[.int .i64 kd, .string nm, .string nw, .string dt, .int .i64 af, .int .i64 er, .slice a1 ch.length c1, .slice a2 ls.length c2] 44)) = w0 at HBX HX x0 x1 x2 x3 x4 x5 x6 x7 ⊢
  have cT := tooLarge_is w0 _ l (HA.out.below HBX.out)
  rw [HT1.out] at cT
  refine cT.mono ?_
  rintro e wa ⟨rfl, hba⟩
  have HBA := Lib.hid (HBX.out.trans (hba.mono HBX.out.size))
  have HBA0 := Lib.hid hba
  clear hba cT
  cases t1 with
  | true =>
    go_wp2_with fail
    refine (alive_is _).mono ?_
    rintro e wz ⟨rfl, hb⟩
    have HR := Lib.hid (HBA.out.trans (hb.mono HBA.out.size))
    clear hb
    go_wp2_with fail
    go_ret
    exact ⟨rfl, HR.out⟩
  | false =>
    replace x0 := cell_below x0 HBA0.out rfl
    replace x1 := cell_below x1 HBA0.out rfl
    replace x2 := cell_below x2 HBA0.out rfl
    replace x3 := cell_below x3 HBA0.out rfl
    replace x4 := cell_below x4 HBA0.out rfl
    replace x5 := cell_below x5 HBA0.out rfl
    replace x6 := cell_below x6 HBA0.out rfl
    replace x7 := cell_below x7 HBA0.out rfl
    have HBa := Lib.hid ((Below.refl wa.heap.size wa).alloc (Nat.le_refl _) (.cells #[.int .i64 kd, .string nm, .string nw, .string dt, .int .i64 af, .int .i64 er, .slice a1 ch.length c1, .slice a2 ls.length c2] 44))
    have HXa := Lib.hid (acts_one (heap_alloc_new wa (.cells #[.int .i64 kd, .string nm, .string nw, .string dt, .int .i64 af, .int .i64 er, .slice a1 ch.length c1, .slice a2 ls.length c2] 44)) (HO.out.below (HBA.out.trans (HBa.out.mono HBA.out.size))))
    go_wp2_with fail
    generalize (wa.alloc (.cells #[.int .i64 kd, .string nm, .string nw, .string dt, .int .i64 af, .int .i64 er, .slice a1 ch.length c1, .slice a2 ls.length c2] 44)) = wb at HBa HXa ⊢
    have cT := tooLarge_is wb _ _ HXa.out
    rw [HT2.out] at cT
    refine cT.mono ?_
    rintro e wc ⟨rfl, hbc⟩
    have HBC := Lib.hid (below_trans HBa.out hbc)
    have HBW := Lib.hid (HBA.out.trans (HBC.out.mono HBA.out.size))
    clear hbc cT HXa HBa
    replace x0 := cell_below x0 HBC.out rfl
    replace x1 := cell_below x1 HBC.out rfl
    replace x2 := cell_below x2 HBC.out rfl
    replace x3 := cell_below x3 HBC.out rfl
    replace x4 := cell_below x4 HBC.out rfl
    replace x5 := cell_below x5 HBC.out rfl
    replace x6 := cell_below x6 HBC.out rfl
    replace x7 := cell_below x7 HBC.out rfl
    cases t2 with
    | true =>
      go_wp2_with fail
      refine (alive_is _).mono ?_
      rintro e wz ⟨rfl, hb⟩
      have HR := Lib.hid (HBW.out.trans (hb.mono HBW.out.size))
      clear hb
      go_wp2_with fail
      go_ret
      exact ⟨rfl, HR.out⟩
    | false =>
      by_cases k0 : kd < 0
      · have g0 : decide (kd < (0 : Int)) = true := decide_eq_true k0
        clear k0
        go_wp2_with fail
        refine (alive_is _).mono ?_
        rintro e wz ⟨rfl, hb⟩
        have HR := Lib.hid (HBW.out.trans (hb.mono HBW.out.size))
        clear hb
        go_wp2_with fail
        go_ret
        exact ⟨rfl, HR.out⟩
      by_cases k4 : 4 < kd
      · have g0 : decide (kd < (0 : Int)) = false := decide_eq_false k0
        have g4 : decide ((4 : Int) < kd) = true := decide_eq_true k4
        clear k0 k4
        go_wp2_with fail
        refine (alive_is _).mono ?_
        rintro e wz ⟨rfl, hb⟩
        have HR := Lib.hid (HBW.out.trans (hb.mono HBW.out.size))
        clear hb
        go_wp2_with fail
        go_ret
        exact ⟨rfl, HR.out⟩
      have HK0 := Lib.hid (And.intro (Int.not_lt.1 k0) (Int.not_lt.1 k4))
      have g0 : decide (kd < (0 : Int)) = false := decide_eq_false k0
      have g4 : decide ((4 : Int) < kd) = false := decide_eq_false k4
      clear k0 k4
      go_wp2_with fail
      have HXC := Lib.hid (And.intro x0 (And.intro x1 (And.intro x2 (And.intro x3 (And.intro x4 (And.intro x5 (And.intro x6 x7)))))))
      clear x0 x1 x2 x3 x4 x5 x6 x7
      have HOK := Lib.hid ((HA.out.ok HT1.out).below HBW.out)
      have HGA : Hid ((AS.acts l AS.new).Gd 5000) := (AS.Gd.new.acts l HOK.out.sm).mono (by have := HOK.out.len; omega)
      refine (run_is wc _ l HOK.out).mono ?_
      rintro e wd ⟨f, o, p, rfl, ht⟩
      have HTD := Lib.hid ht
      obtain ⟨A, hA⟩ : ∃ A, AS.acts l AS.new = A := ⟨_, rfl⟩
      rw [hA] at HTD HGA
      obtain ⟨G, hG⟩ : ∃ G, o.G = G := ⟨_, rfl⟩
      have HG := Lib.hid hG
      rw [hG]
      clear ht hA HOK hG
      go_wp2_with fail
      refine (crash_fs0 HTD.out.f HGA.out.rk.ok (by decide) (.slice none 0 0) (.slice none 0 0) [] [] (Bl.emp _) (Il.emp _) (fun h => absurd h (by decide)) (fun h => absurd h (by decide)) (by decide) (by decide)).mono ?_
      rintro e we ⟨rfl, p1, hF, hFr, hp⟩
      have HF := Lib.hid (And.intro hF (And.intro hFr hp))
      have HG1 := Lib.hid (HTD.out.g.apart HTD.out.f hFr)
      have cC := rcrash_bl _ 5000 o A _ _ [] [] we HG1.out HGA.out.rk (by decide) (Bl.emp _) (Il.emp _) (by decide) (by decide) (fun h => absurd h (by decide)) (fun h => absurd h (by decide))
      rw [HG.out] at cC
      have CC := Lib.hid cC
      clear hF hFr hp cC
      go_wp2_with fail
      refine CC.out.mono ?_
      rintro e wf ⟨rfl, o1, hG1, hR, hFr2, -⟩
      have HT1' := Lib.hid (HTD.out.step HF.out.1 HF.out.2.1 HF.out.2.2 hR hFr2).1
      have HGo := Lib.hid (hG1.trans HG.out)
      have HGA1 := Lib.hid (HGA.out.crash [] [])
      have hdn : Hid ((A.crash [] []).down = false) := rfl
      generalize A.crash [] [] = A1 at HT1' HGA1 hdn
      clear hG1 hR hFr2 HF HG1 CC
      go_wp2_with fail
      have cA := arm_fs HT1'.out.f 0 E
      rw [arm_yes hdn.out HE.out] at cA
      refine cA.mono ?_
      rintro e wg ⟨rfl, p2, hF, hFr, hp⟩
      have HF := Lib.hid (And.intro hF (And.intro hFr hp))
      have HG1 := Lib.hid (HT1'.out.g.apart HT1'.out.f hFr)
      have cR := rarm_is _ o1 A1 0 E wg HG1.out
      rw [arm_yes hdn.out HE.out, HGo.out] at cR
      have CR := Lib.hid cR
      clear hF hFr hp cA cR
      go_wp2_with fail
      refine CR.out.mono ?_
      rintro e wh' ⟨rfl, o2, hG2, hR, hFr2, -⟩
      have HT2' := Lib.hid (HT1'.out.step HF.out.1 HF.out.2.1 HF.out.2.2 hR hFr2).1
      have HGo2 := Lib.hid (hG2.trans HGo.out)
      have HGA2 : Hid ((A1.armed0 E).Gd 5000) := by
        have h1 := HGA1.out.arm 0 E (by decide)
        rw [arm_yes hdn.out HE.out] at h1
        exact h1
      clear hG2 hR hFr2 HF HG1 CR
      go_wp2_with fail
      -- before
      have cL := rlist_is _ o2 (A1.armed0 E) wh' HT2'.out.g (by have := HGA2.out.rk.ok.names; omega)
      rw [HGo2.out] at cL
      refine cL.mono ?_
      rintro e wi ⟨vb, rfl, hvb, hbb⟩
      have HT3 := Lib.hid (HT2'.out.under hbb)
      have HVB := Lib.hid hvb
      have HLT : Hid (∀ k, (p2 k ∨ rfoot o2 k) → k < wh'.heap.size) := fun k hk => by rcases hk with hk | hk; exact (HT2'.out.f.lt k hk).1; exact (HT2'.out.g.lt hk).1
      obtain ⟨adb, cpb, rfl⟩ := own_slice hvb
      obtain ⟨x0, x1, x2, x3, x4, x5, x6, x7⟩ := HXC.out
      replace x0 := cell_below x0 HT3.out.below rfl
      replace x1 := cell_below x1 HT3.out.below rfl
      replace x2 := cell_below x2 HT3.out.below rfl
      replace x3 := cell_below x3 HT3.out.below rfl
      replace x4 := cell_below x4 HT3.out.below rfl
      replace x5 := cell_below x5 HT3.out.below rfl
      replace x6 := cell_below x6 HT3.out.below rfl
      replace x7 := cell_below x7 HT3.out.below rfl
      have cP := perform_is wc wi f 5000 o2 (A1.armed0 E) p2 ⟨kd, nm, nw, dt, af, er, ch, ls⟩ _ _ HT3.out HGA2.out.rk (by decide) (HO.out.below HBW.out) (tool_one HT2.out)
      rw [fail_act hdn.out HK0.out.1 HK0.out.2, HGo2.out] at cP
      have CP := Lib.hid cP
      have HGA3 : Hid (AS.Gd ({ Ac.torn ⟨kd, nm, nw, dt, af, er, ch, ls⟩ { A1.armed0 E with armed := false } with down := E == 24 }) 5001) := by
        have h1 := HGA2.out.act ⟨kd, nm, nw, dt, af, er, ch, ls⟩ (sm_of HO.out (tool_one HT2.out))
        rw [fail_act hdn.out HK0.out.1 HK0.out.2] at h1
        exact h1
      have hd3 : Hid (({ Ac.torn ⟨kd, nm, nw, dt, af, er, ch, ls⟩ { A1.armed0 E with armed := false } with down := E == 24 } : AS).down = (E == 24)) := rfl
      have ha3 : Hid (({ Ac.torn ⟨kd, nm, nw, dt, af, er, ch, ls⟩ { A1.armed0 E with armed := false } with down := E == 24 } : AS).armed = false) := (torn_flags ⟨kd, nm, nw, dt, af, er, ch, ls⟩ { A1.armed0 E with armed := false }).1
      have hl3 : Hid (¬ kd = 0 → (E == 24) = false → ({ Ac.torn ⟨kd, nm, nw, dt, af, er, ch, ls⟩ { A1.armed0 E with armed := false } with down := E == 24 } : AS).list = (A1.armed0 E).list) := fun h1 h2 => by
        have h3 : Ac.torn ⟨kd, nm, nw, dt, af, er, ch, ls⟩ { A1.armed0 E with armed := false } = { A1.armed0 E with armed := false } := by unfold Ac.torn; rw [if_neg h1]
        rw [h3]
        unfold AS.list AS.armed0
        rw [hdn.out, h2]
      unfold actCells at CP
      simp only at CP
      generalize ({ Ac.torn ⟨kd, nm, nw, dt, af, er, ch, ls⟩ { A1.armed0 E with armed := false } with down := E == 24 } : AS) = A3 at CP HGA3 hd3 ha3 hl3
      clear hvb hbb cL cP HT2' HGA1
      go_wp2_with fail
      refine CP.out.mono ?_
      rintro e wj ⟨rfl, o3, p3, hG3, hT3, hFr3⟩
      have HT4 := Lib.hid hT3
      have HG3 := Lib.hid hG3
      have HVJ := Lib.hid (own_kept HVB.out fun g hg => hFr3.block g (HVB.out.lt g hg).2 fun e => by have h1 := HLT.out g e; have h2 := (HVB.out.lt g hg).1; omega)
      obtain ⟨x0, x1, x2, x3, x4, x5, x6, x7⟩ := HXC.out
      replace x0 := cell_below x0 hT3.below rfl
      replace x1 := cell_below x1 hT3.below rfl
      replace x2 := cell_below x2 hT3.below rfl
      replace x3 := cell_below x3 hT3.below rfl
      replace x4 := cell_below x4 hT3.below rfl
      replace x5 := cell_below x5 hT3.below rfl
      replace x6 := cell_below x6 hT3.below rfl
      replace x7 := cell_below x7 hT3.below rfl
      have cD := down_fs HT4.out.f
      rw [hd3.out] at cD
      have CD := Lib.hid cD
      clear hT3 hG3 hFr3 CP HVB HT3 cD hidx
      rcases HE.out with h25 | h26 | h24
      · subst h25
        have HSY : Hid ((AS.op AS.syncdir id A3).1 = 0) := by
          have h1 := hd3.out
          have h2 := ha3.out
          unfold AS.op
          rw [if_neg (by rw [h1]; decide), if_pos h2]
          rfl
        have HNMS : Hid (nm.size ≤ 1000000) := (sm_of HO.out (tool_one HT2.out)).name
        go_wp2_with fail
        refine CD.out.mono ?_
        rintro e wk ⟨rfl, rfl⟩
        clear CD
        go_wp2_with fail
        refine (alive_is _).mono ?_
        rintro e wl ⟨rfl, hbl⟩
        have HT5 := Lib.hid (HT4.out.under hbl)
        have HVL := Lib.hid (own_below HVJ.out hbl)
        replace x0 := cell_below x0 hbl rfl
        replace x1 := cell_below x1 hbl rfl
        clear hbl x2 x3 x4 x5 x6 x7 HVJ HT4
        by_cases k0 : kd = 0
        · subst k0
          have HT6 := HT5
          have cS := same_is wc _ f 5001 o3 A3 p3 nm HT6.out HGA3.out (by decide) HNMS.out
          rw [HG3.out] at cS
          have CS := Lib.hid cS
          clear cS
          go_wp2_with fail
          refine CS.out.mono ?_
          rintro e wn ⟨rfl, hbn⟩
          have HT7 := Lib.hid (HT6.out.under hbn)
          have cY := syncdir_fs HT7.out.f HGA3.out.rk.ok (by decide)
          rw [HSY.out] at cY
          have CY := Lib.hid cY
          clear hbn cY
          go_wp2_with fail
          refine CY.out.mono ?_
          rintro e wo ⟨rfl, p4, hF, hFr, hp⟩
          have HR := Lib.hid (HBW.out.trans ((HT7.out.fonly2 hFr).mono HBW.out.size))
          clear hF hFr hp
          go_wp2_with fail
          go_ret
          exact ⟨rfl, HR.out⟩
        · have e0 : (kd == (0 : Int)) = false := by simpa using k0
          have HL3 := Lib.hid (hl3.out k0 (by decide))
          have HLL : Hid (A3.list.length ≤ 1000000) := Nat.le_trans (list_len A3 HGA3.out.rk.ok) (by decide)
          clear k0
          go_wp2_with fail
          refine (list_fs HT5.out.f HGA3.out.rk.ok (by decide)).mono ?_
          rintro e wm ⟨vl, rfl, hvl, hbm⟩
          have HT6 := Lib.hid (HT5.out.under hbm)
          have h2 := own_below HVL.out hbm
          rw [← HL3.out] at h2
          have cE := equal_same hvl h2 HLL.out
          obtain ⟨adl, cpl, rfl⟩ := own_slice hvl
          rw [HL3.out] at cE
          have CE := Lib.hid cE
          rw [HL3.out]
          replace x1 := cell_below x1 hbm rfl
          clear hvl h2 hbm cE
          go_wp2_with fail
          refine CE.out.mono ?_
          rintro e wm2 ⟨rfl, qE, rfl⟩
          replace HT6 : Hid (Two wc (wm.drewN qE) f o3 A3 p3) := ⟨HT6.out.f.kept (fun _ _ => rfl) (fun _ _ _ _ => rfl), HT6.out.g.kept (fun _ _ _ _ _ _ => rfl), below_drewN HT6.out.below qE⟩
          replace x1 : (wm.drewN qE).cell? ⟨W.heap.size, 1, none⟩ = some (.string nm) := x1
          have cS := same_is wc _ f 5001 o3 A3 p3 nm HT6.out HGA3.out (by decide) HNMS.out
          rw [HG3.out] at cS
          have CS := Lib.hid cS
          clear cS
          go_wp2_with fail
          refine CS.out.mono ?_
          rintro e wn ⟨rfl, hbn⟩
          have HT7 := Lib.hid (HT6.out.under hbn)
          have cY := syncdir_fs HT7.out.f HGA3.out.rk.ok (by decide)
          rw [HSY.out] at cY
          have CY := Lib.hid cY
          clear hbn cY
          go_wp2_with fail
          refine CY.out.mono ?_
          rintro e wo ⟨rfl, p4, hF, hFr, hp⟩
          have HR := Lib.hid (HBW.out.trans ((HT7.out.fonly2 hFr).mono HBW.out.size))
          clear hF hFr hp
          go_wp2_with fail
          go_ret
          exact ⟨rfl, HR.out⟩
      · subst h26
        have HSY : Hid ((AS.op AS.syncdir id A3).1 = 0) := by
          have h1 := hd3.out
          have h2 := ha3.out
          unfold AS.op
          rw [if_neg (by rw [h1]; decide), if_pos h2]
          rfl
        have HNMS : Hid (nm.size ≤ 1000000) := (sm_of HO.out (tool_one HT2.out)).name
        go_wp2_with fail
        refine CD.out.mono ?_
        rintro e wk ⟨rfl, rfl⟩
        clear CD
        go_wp2_with fail
        refine (alive_is _).mono ?_
        rintro e wl ⟨rfl, hbl⟩
        have HT5 := Lib.hid (HT4.out.under hbl)
        have HVL := Lib.hid (own_below HVJ.out hbl)
        replace x0 := cell_below x0 hbl rfl
        replace x1 := cell_below x1 hbl rfl
        clear hbl x2 x3 x4 x5 x6 x7 HVJ HT4
        by_cases k0 : kd = 0
        · subst k0
          have HT6 := HT5
          have cS := same_is wc _ f 5001 o3 A3 p3 nm HT6.out HGA3.out (by decide) HNMS.out
          rw [HG3.out] at cS
          have CS := Lib.hid cS
          clear cS
          go_wp2_with fail
          refine CS.out.mono ?_
          rintro e wn ⟨rfl, hbn⟩
          have HT7 := Lib.hid (HT6.out.under hbn)
          have cY := syncdir_fs HT7.out.f HGA3.out.rk.ok (by decide)
          rw [HSY.out] at cY
          have CY := Lib.hid cY
          clear hbn cY
          go_wp2_with fail
          refine CY.out.mono ?_
          rintro e wo ⟨rfl, p4, hF, hFr, hp⟩
          have HR := Lib.hid (HBW.out.trans ((HT7.out.fonly2 hFr).mono HBW.out.size))
          clear hF hFr hp
          go_wp2_with fail
          go_ret
          exact ⟨rfl, HR.out⟩
        · have e0 : (kd == (0 : Int)) = false := by simpa using k0
          have HL3 := Lib.hid (hl3.out k0 (by decide))
          have HLL : Hid (A3.list.length ≤ 1000000) := Nat.le_trans (list_len A3 HGA3.out.rk.ok) (by decide)
          clear k0
          go_wp2_with fail
          refine (list_fs HT5.out.f HGA3.out.rk.ok (by decide)).mono ?_
          rintro e wm ⟨vl, rfl, hvl, hbm⟩
          have HT6 := Lib.hid (HT5.out.under hbm)
          have h2 := own_below HVL.out hbm
          rw [← HL3.out] at h2
          have cE := equal_same hvl h2 HLL.out
          obtain ⟨adl, cpl, rfl⟩ := own_slice hvl
          rw [HL3.out] at cE
          have CE := Lib.hid cE
          rw [HL3.out]
          replace x1 := cell_below x1 hbm rfl
          clear hvl h2 hbm cE
          go_wp2_with fail
          refine CE.out.mono ?_
          rintro e wm2 ⟨rfl, qE, rfl⟩
          replace HT6 : Hid (Two wc (wm.drewN qE) f o3 A3 p3) := ⟨HT6.out.f.kept (fun _ _ => rfl) (fun _ _ _ _ => rfl), HT6.out.g.kept (fun _ _ _ _ _ _ => rfl), below_drewN HT6.out.below qE⟩
          replace x1 : (wm.drewN qE).cell? ⟨W.heap.size, 1, none⟩ = some (.string nm) := x1
          have cS := same_is wc _ f 5001 o3 A3 p3 nm HT6.out HGA3.out (by decide) HNMS.out
          rw [HG3.out] at cS
          have CS := Lib.hid cS
          clear cS
          go_wp2_with fail
          refine CS.out.mono ?_
          rintro e wn ⟨rfl, hbn⟩
          have HT7 := Lib.hid (HT6.out.under hbn)
          have cY := syncdir_fs HT7.out.f HGA3.out.rk.ok (by decide)
          rw [HSY.out] at cY
          have CY := Lib.hid cY
          clear hbn cY
          go_wp2_with fail
          refine CY.out.mono ?_
          rintro e wo ⟨rfl, p4, hF, hFr, hp⟩
          have HR := Lib.hid (HBW.out.trans ((HT7.out.fonly2 hFr).mono HBW.out.size))
          clear hF hFr hp
          go_wp2_with fail
          go_ret
          exact ⟨rfl, HR.out⟩
      · subst h24
        have hd : A3.down = true := hd3.out
        have HOP : Hid (∀ P Q, AS.op P Q A3 = (24, A3)) := fun P Q => by unfold AS.op; rw [if_pos hd]
        have HRD : Hid (A3.read ⟨#[97]⟩ = ([], 24)) := by show _ = _; unfold AS.read; rw [if_pos hd]
        have HLI : Hid (A3.list = []) := by show _ = _; unfold AS.list; rw [if_pos hd]
        have HAR : Hid (AS.arm 0 25 A3 = (24, A3)) := by show _ = _; unfold AS.arm; rw [if_neg (by decide), if_pos hd]
        clear hd
        go_wp2_with fail
        refine CD.out.mono ?_
        rintro e wk ⟨rfl, rfl⟩
        clear CD x0 x1 x2 x3 x4 x5 x6 x7 HVJ
        have cR := read_fs HT4.out.f HGA3.out.rk.ok ⟨#[97]⟩ (by decide)
        rw [HRD.out] at cR
        have CR := Lib.hid cR
        clear cR
        go_wp2_with fail
        refine CR.out.mono ?_
        rintro e wl ⟨vr, rfl, hvr, -, hbl⟩
        have HT5 := Lib.hid (HT4.out.under hbl)
        obtain ⟨va, vn, vc, rfl⟩ := hvr.slice
        clear hvr hbl HT4 CR
        go_wp2_with fail
        refine (alive_is _).mono ?_
        rintro e wm ⟨rfl, hbm⟩
        have HT6 := Lib.hid (HT5.out.under hbm)
        have cY := syncdir_fs HT6.out.f HGA3.out.rk.ok (by decide)
        rw [HOP.out] at cY
        have CY := Lib.hid cY
        clear hbm cY HT5
        go_wp2_with fail
        refine CY.out.mono ?_
        rintro e wn ⟨rfl, p4, hF, hFr, hp⟩
        have HT7 := Lib.hid (HT6.out.fonly hF hFr)
        have cW := write_fs HT7.out.f HGA3.out.rk.ok (by decide) ⟨#[97]⟩ (.slice none 0 0) [] (by decide) (by decide) (.inl ⟨rfl, rfl⟩)
        rw [HOP.out] at cW
        have CW := Lib.hid cW
        clear hF hFr hp cW HT6 CY
        go_wp2_with fail
        refine CW.out.mono ?_
        rintro e wo ⟨rfl, p5, hF, hFr, hp⟩
        have HT8 := Lib.hid (HT7.out.fonly hF hFr)
        have cL := list_fs HT8.out.f HGA3.out.rk.ok (by decide)
        rw [HLI.out] at cL
        have CL := Lib.hid cL
        clear hF hFr hp cL HT7 CW
        go_wp2_with fail
        refine CL.out.mono ?_
        rintro e wp ⟨vl, rfl, hvl, hbp⟩
        have HT9 := Lib.hid (HT8.out.under hbp)
        obtain ⟨adl, cpl, rfl⟩ := own_slice hvl
        have cA := arm_fs HT9.out.f 0 25
        rw [HAR.out] at cA
        have CA := Lib.hid cA
        clear hvl hbp cA HT8 CL
        go_wp2_with fail
        refine CA.out.mono ?_
        rintro e wq ⟨rfl, p6, hF, hFr, hp⟩
        have HR := Lib.hid (HBW.out.trans ((HT9.out.fonly2 hFr).mono HBW.out.size))
        clear hF hFr hp
        go_wp2_with fail
        go_ret
        exact ⟨rfl, HR.out⟩
end Go.Proofs.Ytcobjjaicckgpaa.Vf
namespace Go.Proofs.Ytcobjjaicckgpaa.vfsFails
open Go.ChangeShapes Go.WideShapes Go.ChangeAt Go.RowKit
open Go.ChangeMaps (open_string shut_string)
set_option linter.unusedVariables false

theorem own : ownKnob Try.prog.godebug = none := by kernel_rfl
theorem laidOut : laidOutB Try.prog = true := by kernel_rfl
set_option maxRecDepth 100000 in
theorem lifted (os : Os) (started : os.Started) (H : Type) (enc : TypeId × Value → H) :
    ReturnsInHanded {} Try.checked os 5 .any (Rows.vfsFailsSpec.pre6 enc Try.prog Try.f5 Rows.vfsFailsRow.domain false) (Rows.vfsFailsSpec.post enc Try.prog Try.f5 false true false false) := by
  refine returnsInHanded_of_change_sized (C := Try.checked) own started (by kernel_rfl) Try.func5
    (ChangeSpec.witness6 (enc := enc) (C := Try.checked) false ⟨#[], #[.slice none 0 0, .agg #[.int .i64 0, .string ⟨#[]⟩, .string ⟨#[]⟩, .string ⟨#[]⟩, .int .i64 0, .int .i64 0, .slice none 0 0, .slice none 0 0], .int .u8 0], []⟩ 8 (by kernel_rfl) (by kernel_rfl) (by kernel_rfl) (by kernel_rfl)) ?_
  intro W base args ds gs before hval0 hW hcnd hsz _
  have hval : ∀ (j : Nat) t v, Try.f5.params[j]? = some t → args[j]? = some v → Value.okWide Try.prog W .any base t v := hval0
  have hW' := hW
  obtain ⟨p, q, hA0, hV, rfl, hfz, hnd⟩ := hW
  have hA : DataW.TrodAll enc Try.prog W 0 (fun _ => true) true Try.f5.params.toList args.toList ds p := hA0
  rw [Try.params5] at hA hval
  obtain ⟨v0, vs0, d0, ds0, p0, q0, hargs, rfl, rfl, h0, r0⟩ := trodAll_cons hA
  obtain ⟨v1, vs1, d1, ds1, p1, q1, rfl, rfl, rfl, h1, r1⟩ := trodAll_cons r0
  obtain ⟨v2, vs2, d2, ds2, p2, q2, rfl, rfl, rfl, h2, r2⟩ := trodAll_cons r1
  obtain ⟨rfl, rfl, rfl⟩ := trodAll_nil r2
  obtain rfl : args = #[v0, v1, v2] := by cases args; simp_all
  obtain ⟨rfl, rfl⟩ := trodVars_none hV
  have lt0 : ∀ x ∈ p0, x.block < W.heap.size := by obtain ⟨m, hm⟩ := h0; exact DataW.trod_lt m _ _ _ hm
  obtain ⟨l0, b0⟩ := VfO.acts_at (hval 0 38 v0 rfl rfl) h0 (j := 0) (ts := (Try.f5.params.toList ++ Rows.vfsFailsSpec.plain.varTypes Try.prog)) rfl rfl hsz
  have lt1 : ∀ x ∈ p1, x.block < W.heap.size := by obtain ⟨m, hm⟩ := h1; exact DataW.trod_lt m _ _ _ hm
  obtain ⟨c1, x1, y1, rfl, b1⟩ := VfO.act_at (hval 1 44 v1 rfl rfl) h1 (j := 1) (ts := (Try.f5.params.toList ++ Rows.vfsFailsSpec.plain.varTypes Try.prog)) rfl rfl hsz
  have lt2 : ∀ x ∈ p2, x.block < W.heap.size := by obtain ⟨m, hm⟩ := h2; exact DataW.trod_lt m _ _ _ hm
  have k2 := h2
  obtain ⟨a2, rfl, rfl, rfl, w2⟩ := open_int Try.underlying5 (hval 2 5 v2 rfl rfl) h2
  have b2 := VfO.u8_in w2
  clear hA0 hval0
  refine (Vf.fails_law W v0 l0 c1 x1 y1 a2 b0 b1 b2).mono fun e W' ⟨he, bel⟩ => ?_
  subst he
  exact ⟨_, rfl, _, _, _, [], _, [], hW', trodAll_mk1 (shut_bool Try.underlying4 _), (trodAll_cons_mk (Below.trod laidOut (by kernel_rfl) (of_decide_eq_true (by kernel_rfl)) h0 bel lt0) (trodAll_cons_mk (Below.trod laidOut (by kernel_rfl) (of_decide_eq_true (by kernel_rfl)) h1 bel lt1) (trodAll_cons_mk (Below.trod laidOut (by kernel_rfl) (of_decide_eq_true (by kernel_rfl)) k2 bel lt2) trodAll_mk0))), rfl, bel.frame _, fun h => by cases h⟩

theorem over : Rows.vfsFailsRow.holds Try.pinned (OpenSpec.ofChange Rows.vfsFailsSpec) :=
  OpenClaim.holds_of_wide 5 Try.f5 rfl rfl rfl rfl rfl rfl rfl ⟨rfl, rfl, rfl, rfl, rfl⟩ rfl rfl rfl rfl rfl (by kernel_rfl) Try.func5 (by kernel_rfl)
    (of_decide_eq_true (by kernel_rfl)) (by unfold Func.isWrapper; first | (rw [if_pos (by decide +kernel)]; kernel_rfl) | (rw [if_neg (by decide +kernel)]; exact ⟨rfl, rfl⟩))
    (fun os started H enc _ => lifted os started H enc)

/-- The given statement. -/
theorem proved : Rows.VfsFailsSaid := over
#print axioms proved
end Go.Proofs.Ytcobjjaicckgpaa.vfsFails
