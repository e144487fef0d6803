/- VfsRenameIsAtomic: its walk. -/
import Derived.Test.YtcobjjaicckgpaaVfL1
import Derived.Test.YtcobjjaicckgpaaVfW32
namespace Go.Proofs.Ytcobjjaicckgpaa.Vf
open Go Go.RowKit Go.Maps Go.Proofs.Ytcobjjaicckgpaa Go.Proofs.Ytcobjjaicckgpaa.Bs
set_option linter.unusedVariables false

theorem sum_small {x y m : Nat} (h : x + y ≤ m) (hm : m ≤ 1000000) : IntKind.i64.wrap ((x : Int) + (y : Int)) = ((x + y : Nat) : Int) := by
  rw [IntKind.wrap_i64]; omega
theorem sum_big {x y m : Nat} (hx : x ≤ 140737488355328) (hy : y ≤ 140737488355328) (h : ¬ x + y ≤ m) : ∃ T : Int, IntKind.i64.wrap ((x : Int) + (y : Int)) = T ∧ (m : Int) < T := by
  exact ⟨_, rfl, by rw [IntKind.wrap_i64]; omega⟩
/-- One file system, made in this call. -/
structure One (W w : World) (F : Nat) (a : AS) (p : Nat → Prop) : Prop where
  fs : Fs w W.heap.size F Zn a p
  below : Below W.heap.size W w
theorem One.next {W w w' : World} {F : Nat} {a a' : AS} {p p' : Nat → Prop} (h : One W w F a p) (hf : Fs w' W.heap.size F Zn a' p') (hr : Fr w w' p) : One W w' F a' p' :=
  ⟨hf, h.below.trans (hr.below (fun k hk => (h.fs.lt k hk).2) h.below.size)⟩
theorem One.under {W w w' : World} {F : Nat} {a : AS} {p : Nat → Prop} (h : One W w F a p) (hb : Below w.heap.size w w') : One W w' F a p := ⟨h.fs.below hb, h.below.trans (hb.mono h.below.size)⟩
set_option maxRecDepth 100000 in
set_option maxHeartbeats 8000000 in
theorem rename_law (A D : ByteArray) (v1 v2 : Value) (ch : List Bool) (ls : List Int) (W : World) (hb1 : Bl W v1 ch) (hb2 : Il W v2 ls) (hA : A.size ≤ 140737488355328) (hD : D.size ≤ 140737488355328) (hc : ch.length ≤ 140737488355328) (hl : ls.length ≤ 140737488355328) (g1 : ∀ g, v1.ownBlock = some g → g < W.heap.size) (g2 : ∀ g, v2.ownBlock = some g → g < W.heap.size) :
    Calls Try.prog 3 #[.agg #[.string A, .string D], v1, v2] W fun e w' => e = .returned (.bool true) ∧ Below W.heap.size W w' := by
  obtain ⟨cg, coff, cad, cc0, rfl, hcad, hccell⟩ := id hb1
  obtain ⟨lg, loff, lad, lc0, rfl, -, -, -⟩ := id hb2
  have b0 : Below W.heap.size W (W.alloc (.cells #[.string A, .string D] 22)) := (Below.refl _ _).alloc (Nat.le_refl _) _
  have q0 : (W.alloc (.cells #[.string A, .string D] 22)).cell? ⟨W.heap.size, 0, none⟩ = some (.string A) := by unfold World.cell?; simp only [heap_alloc_new]; rfl
  have q1 : (W.alloc (.cells #[.string A, .string D] 22)).cell? ⟨W.heap.size, 1, none⟩ = some (.string D) := by unfold World.cell?; simp only [heap_alloc_new]; rfl
  obtain ⟨x, hx⟩ : ∃ x, A.size = x := ⟨_, rfl⟩
  obtain ⟨y, hy⟩ : ∃ y, D.size = y := ⟨_, rfl⟩
  obtain ⟨n, hn⟩ : ∃ n, ch.length = n := ⟨_, rfl⟩
  obtain ⟨m, hm⟩ : ∃ m, ls.length = m := ⟨_, rfl⟩
  rw [hx] at hA
  rw [hy] at hD
  rw [hn] at hc hcad
  rw [hm] at hl
  rw [hn, hm]
  have HX := Lib.hid (And.intro hx (And.intro hy (And.intro hn hm)))
  have HB := Lib.hid (And.intro hb1 (And.intro hb2 (And.intro g1 g2)))
  have HC := Lib.hid (And.intro hcad hccell)
  have HB0 := Lib.hid b0
  have hlx : A.size = x := hx
  have hly : D.size = y := hy
  by_cases s1 : ¬ x + y ≤ 2000
  · obtain ⟨T, hT, hT2⟩ := sum_big hA hD s1
    clear hb1 hb2 hcad hccell b0 hx hy hn hm hA hD hc hl g1 g2 s1
    go_enter Try.func3, Try.ntmps3
    go_wp2_with fail
    go_quiet (fail)
    have HQ := Lib.hid (below_drewN HB0.out nq)
    go_wp2_with fail
    refine (alive_is _).mono ?_
    rintro e w1 ⟨rfl, hb⟩
    have HR := Lib.hid (HQ.out.trans (hb.mono HQ.out.size))
    clear hb
    go_wp2_with fail
    go_ret
    exact ⟨rfl, HR.out⟩
  replace s1 := Decidable.not_not.1 s1
  by_cases s2 : ¬ n + m ≤ 1000
  · have hT1 := sum_small s1 (by decide)
    obtain ⟨T, hT, hT2⟩ := sum_big hc hl s2
    have hT3 : ((x + y : Nat) : Int) ≤ 2000 := by omega
    obtain ⟨xy, hxy⟩ : ∃ xy : Nat, x + y = xy := ⟨_, rfl⟩
    rw [hxy] at hT1 hT3
    clear hb1 hb2 hcad hccell b0 hx hy hn hm hA hD hc hl g1 g2 s1 s2 hxy
    go_enter Try.func3, Try.ntmps3
    go_wp2_with fail
    go_quiet (fail)
    have HQ := Lib.hid (below_drewN HB0.out nq)
    go_wp2_with fail
    refine (alive_is _).mono ?_
    rintro e w1 ⟨rfl, hb⟩
    have HR := Lib.hid (HQ.out.trans (hb.mono HQ.out.size))
    clear hb
    go_wp2_with fail
    go_ret
    exact ⟨rfl, HR.out⟩
  replace s2 := Decidable.not_not.1 s2
  have hT1 := sum_small s1 (by decide)
  have hT2 := sum_small s2 (by decide)
  have hT3 : ((x + y : Nat) : Int) ≤ 2000 := by omega
  have hT4 : ((n + m : Nat) : Int) ≤ 1000 := by omega
  have ly : y ≤ 2000 := by omega
  have lx : x ≤ 2000 := by omega
  have ln : n ≤ 1000 := by omega
  have lm : m ≤ 1000 := by omega
  obtain ⟨xy, hxy⟩ : ∃ xy : Nat, x + y = xy := ⟨_, rfl⟩
  obtain ⟨nm, hnm⟩ : ∃ nm : Nat, n + m = nm := ⟨_, rfl⟩
  rw [hxy] at hT1 hT3
  rw [hnm] at hT2 hT4
  have KX : Hid (A.data.toList.length ≤ 2000 ∧ D.data.toList.length ≤ 2000) := ⟨by rw [show A.data.toList.length = A.size by simp, hx]; exact lx, by rw [show D.data.toList.length = D.size by simp, hy]; exact ly⟩
  clear hb1 hb2 hcad hccell b0 hx hy hn hm hA hD hc hl g1 g2 s1 s2 hxy hnm
  go_enter Try.func3, Try.ntmps3
  go_wp2_with fail
  go_quiet (fail)
  have HQ := Lib.hid (below_drewN HB0.out nq)
  clear q0 q1
  go_wp2_with fail
  generalize (World.drewN _ nq) = w0 at HQ ⊢
  refine (new_fs w0).mono ?_
  rintro e w1 ⟨F, p1, rfl, hF, hB, hp⟩
  have HO1 : Hid (One W w1 F AS.new p1) := ⟨hF.base HQ.out.size, HQ.out.trans (hB.mono HQ.out.size)⟩
  clear hF hB hp
  obtain ⟨cap1, w2, hcv, hrd, hb⟩ := conv_str w1 A
  rw [hlx] at hcv hrd
  have HO2 := Lib.hid (HO1.out.under hb)
  have HR := Lib.hid hrd
  clear hrd hb
  go_wp2_with fail
  clear hcv
  have c := write_fs HO2.out.fs AS.Ok.new (by decide) ⟨#[102]⟩ _ A.data.toList (show (⟨#[102]⟩ : ByteArray).size ≤ 1000000 by decide) (by have := KX.out.1; omega) HR.out
  rw [rn_put1] at c
  refine c.mono ?_
  rintro e w3 ⟨rfl, p3, hf, hr, -⟩
  have HO3 := Lib.hid (HO2.out.next hf hr)
  clear c hf hr HR
  go_wp2_with fail
  have c := sync_fs HO3.out.fs (rn_ok1 _ KX.out.1) (by decide) ⟨#[102]⟩ (show (⟨#[102]⟩ : ByteArray).size ≤ 1000000 by decide)
  rw [rn_sync1] at c
  refine c.mono ?_
  rintro e w4 ⟨rfl, p4, hf, hr, -⟩
  have HO4 := Lib.hid (HO3.out.next hf hr)
  clear c hf hr
  go_wp2_with fail
  have c := syncdir_fs HO4.out.fs (rn_ok2 _ KX.out.1) (by decide)
  rw [rn_syncdir] at c
  refine c.mono ?_
  rintro e w5 ⟨rfl, p5, hf, hr, -⟩
  have HO5 := Lib.hid (HO4.out.next hf hr)
  clear c hf hr
  obtain ⟨cap2, w6, hcv, hrd, hb⟩ := conv_str w5 D
  rw [hly] at hcv hrd
  have HO6 := Lib.hid (HO5.out.under hb)
  have HR := Lib.hid hrd
  clear hrd hb
  go_wp2_with fail
  clear hcv
  have c := write_fs HO6.out.fs (rn_ok3 _ KX.out.1) (by decide) ⟨#[116]⟩ _ D.data.toList (show (⟨#[116]⟩ : ByteArray).size ≤ 1000000 by decide) (by have := KX.out.2; omega) HR.out
  rw [rn_put2] at c
  refine c.mono ?_
  rintro e w7 ⟨rfl, p7, hf, hr, -⟩
  have HO7 := Lib.hid (HO6.out.next hf hr)
  clear c hf hr HR
  go_wp2_with fail
  have c := sync_fs HO7.out.fs (rn_ok4 _ _ KX.out.1 KX.out.2) (by decide) ⟨#[116]⟩ (show (⟨#[116]⟩ : ByteArray).size ≤ 1000000 by decide)
  rw [rn_sync2] at c
  refine c.mono ?_
  rintro e w8 ⟨rfl, p8, hf, hr, -⟩
  have HO8 := Lib.hid (HO7.out.next hf hr)
  clear c hf hr
  go_wp2_with fail
  have c := rename_fs HO8.out.fs (rn_ok5 _ _ KX.out.1 KX.out.2) (by decide) ⟨#[116]⟩ ⟨#[102]⟩ (show (⟨#[116]⟩ : ByteArray).size ≤ 1000000 by decide) (show (⟨#[102]⟩ : ByteArray).size ≤ 1000000 by decide)
  rw [rn_rename] at c
  refine c.mono ?_
  rintro e w9 ⟨rfl, p9, hf, hr, -⟩
  have HO9 := Lib.hid (HO8.out.next hf hr)
  clear c hf hr
  go_wp2_with fail
  have hB9 := HO9.out.below
  have c := crash_fs HO9.out.fs (rn_ok6 _ _ KX.out.1 KX.out.2) (by decide) _ _ ch ls (HB.out.1.kept fun g hg => hB9.block g (HB.out.2.2.1 g hg)) (HB.out.2.1.kept fun g hg => hB9.block g (HB.out.2.2.2 g hg)) (fun g hg hk => by have := HB.out.2.2.1 g hg; have := (HO9.out.fs.lt g hk).2; omega) (fun g hg hk => by have := HB.out.2.2.2 g hg; have := (HO9.out.fs.lt g hk).2; omega) (by rw [HX.out.2.2.1]; omega) (by rw [HX.out.2.2.2]; omega)
  rw [HX.out.2.2.1, HX.out.2.2.2] at c
  clear hB9
  refine c.mono ?_
  rintro e w10 ⟨rfl, p10, hf, hr, -⟩
  have HO10 := Lib.hid (HO9.out.next hf hr)
  clear c hf hr
  go_wp2_with fail
  have c := read_fs HO10.out.fs (rn_ok7 _ _ KX.out.1 KX.out.2 ch ls) ⟨#[102]⟩ (show (⟨#[102]⟩ : ByteArray).size ≤ 1000000 by decide)
  rw [rn_read] at c
  refine c.mono ?_
  rintro e w11 ⟨v, rfl, hv, -, hb⟩
  have HO11 := Lib.hid (HO10.out.under hb)
  have HV := Lib.hid hv
  clear c hv hb
  by_cases hn1 : 1 < n
  · obtain rfl := HC.out.1 (by omega)
    have h1c : 1 < ch.length := by rw [HX.out.2.2.1]; exact hn1
    have hcell : w11.cell? ⟨cg, coff + 1, none⟩ = some (.bool ch[1]) := cell_below (HC.out.2 1 h1c) HO11.out.below rfl
    have hge : ch.getD 1 false = ch[1] := by rw [List.getD_eq_getElem?_getD, List.getElem?_eq_getElem h1c]; rfl
    have hcap : (1 : Int) < (n : Int) := by omega
    cases hb1 : ch[1] with
    | true =>
      rw [hb1] at hcell hge
      have HGE := Lib.hid hge
      clear hb1 hge h1c
      have hr := HO11.out.below
      have hgd : ch.getD 1 false = true := HGE.out
      have HV2 : Hid (Rd w11 v D.data.toList) := by have := HV.out; rw [hgd] at this; exact this
      clear hr hgd HV
      obtain ⟨va, vn, vc, rfl⟩ := HV2.out.slice
      go_wp2_with fail
      refine (alive_is w11).mono ?_
      rintro e w12 ⟨rfl, hb⟩
      have hcv := (HV2.out.below hb).conv
      rw [ba_of (A := D) rfl] at hcv
      have HE := Lib.hid (HO11.out.under hb).below
      clear hb
      go_wp2_with fail
      go_ret
      exact ⟨rfl, HE.out⟩
    | false =>
      rw [hb1] at hcell hge
      have HGE := Lib.hid hge
      clear hb1 hge h1c
      have hr := HO11.out.below
      have hgd : ch.getD 1 false = false := HGE.out
      have HV2 : Hid (Rd w11 v A.data.toList) := by have := HV.out; rw [hgd] at this; exact this
      clear hr hgd HV
      obtain ⟨va, vn, vc, rfl⟩ := HV2.out.slice
      go_wp2_with fail
      refine (alive_is w11).mono ?_
      rintro e w12 ⟨rfl, hb⟩
      have hcv := (HV2.out.below hb).conv
      rw [ba_of (A := A) rfl] at hcv
      have HE := Lib.hid (HO11.out.under hb).below
      clear hb
      go_wp2_with fail
      go_ret
      exact ⟨rfl, HE.out⟩
  · have hdn : decide ((1 : Int) < (n : Int)) = false := decide_eq_false (by omega)
    have HGE : Hid (ch.getD 1 false = false) := by
      have : ch.length ≤ 1 := by rw [HX.out.2.2.1]; omega
      show ch.getD 1 false = false
      rw [List.getD_eq_getElem?_getD, List.getElem?_eq_none this]; rfl
    clear hn1
    have hr := HO11.out.below
    have hgd : ch.getD 1 false = false := HGE.out
    have HV2 : Hid (Rd w11 v A.data.toList) := by have := HV.out; rw [hgd] at this; exact this
    clear hr hgd HV
    obtain ⟨va, vn, vc, rfl⟩ := HV2.out.slice
    go_wp2_with fail
    refine (alive_is w11).mono ?_
    rintro e w12 ⟨rfl, hb⟩
    have hcv := (HV2.out.below hb).conv
    rw [ba_of (A := A) rfl] at hcv
    have HE := Lib.hid (HO11.out.under hb).below
    clear hb
    go_wp2_with fail
    go_ret
    exact ⟨rfl, HE.out⟩
end Go.Proofs.Ytcobjjaicckgpaa.Vf
