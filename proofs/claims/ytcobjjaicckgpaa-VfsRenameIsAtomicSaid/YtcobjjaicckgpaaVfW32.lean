/- The chapter's examples. -/
import Derived.Test.YtcobjjaicckgpaaVfW31
import Derived.Lib.SmallJoins
namespace Go.Proofs.Ytcobjjaicckgpaa.Vf
open Go Go.RowKit Go.Maps Go.Proofs.Ytcobjjaicckgpaa Go.Proofs.Ytcobjjaicckgpaa.Bs
set_option linter.unusedVariables false

theorem Rd.built (w : World) (l : List UInt8) (fr : Nat × Nat) : Rd (w.alloc (.cells (Lib.byteCells l).toArray 5 fr)) (.slice (some ⟨w.heap.size, 0, none⟩) l.length l.length) l :=
  .inr ⟨w.heap.size, l.length, _, _, rfl, new_block _ _, Nat.le_refl _, List.take_of_length_le (by simp [Lib.byteCells])⟩
theorem Bl.built (w : World) (b : Bool) : Bl (w.alloc (.cells #[.bool b] 4)) (.slice (some ⟨w.heap.size, 0, none⟩) 1 1) [b] :=
  ⟨w.heap.size, 0, _, 1, rfl, fun _ => rfl, fun j hj => by
    have : j = 0 := by simpa using hj
    subst this
    unfold World.cell?
    simp only [heap_alloc_new]
    rfl⟩
theorem Il.built (w : World) (n : Int) : Il (w.alloc (.cells #[.int .i64 n] 3)) (.slice (some ⟨w.heap.size, 0, none⟩) 1 1) [n] :=
  ⟨w.heap.size, 0, _, 1, rfl, Nat.le_refl _, fun _ => rfl, fun j hj => by
    have : j = 0 := by simpa using hj
    subst this
    unfold World.cell?
    simp only [heap_alloc_new]
    rfl⟩
set_option maxRecDepth 100000 in
set_option maxHeartbeats 8000000 in
theorem alive_is (W : World) :
    Calls Try.prog 7 #[] W fun e w' => e = .returned (.bool true) ∧ Below W.heap.size W w' := by
  have kc := fun (w : World) (C : Array Value) (n c : Nat) => Lib.run_convert_bytes_const (P := Try.prog) w 30 5 C n c Try.underlying30 Try.underlying5
  go_enter Try.func7, Try.ntmps7
  go_wp2_with fail
  refine (new_fs W).mono ?_
  rintro e w1 ⟨F, p, rfl, hF, hB, hp⟩
  have HF1 := Lib.hid (And.intro hF (And.intro hB hp))
  clear hF hB hp
  go_wp2_with fail
  -- Write
  have hb2 : Below w1.heap.size w1 (w1.alloc (.cells #[.int .u8 120, .int .u8 121, .int .u8 122] 5 (3, 4))) := (Below.refl _ _).alloc (Nat.le_refl _) _
  have hv : Rd (w1.alloc (.cells #[.int .u8 120, .int .u8 121, .int .u8 122] 5 (3, 4))) (.slice (some ⟨w1.heap.size, 0, none⟩) 3 3) [120, 121, 122] := Rd.built w1 [120, 121, 122] (3, 4)
  have cW := write_fs (HF1.out.1.below hb2) AS.Ok.new (by decide) ⟨#[97]⟩ _ [120, 121, 122] (by decide) (by decide) hv
  rw [ex_put] at cW
  have HB2 := Lib.hid (below_trans HF1.out.2.1 hb2)
  clear hb2 hv
  refine cW.mono ?_
  rintro e w2 ⟨rfl, p2, hF2, hr2, hp2⟩
  have HF2 := Lib.hid (show Fs w2 W.heap.size F Zn ex1 p2 ∧ Below W.heap.size W w2 from ⟨hF2, HB2.out.trans (hr2.below (fun k hk => HF1.out.2.2 k hk) HB2.out.size)⟩)
  clear cW hF2 hr2 hp2
  go_wp2_with fail
  -- Clone, twice
  refine (clone_fs HF2.out.1 ok1 (by decide)).mono ?_
  rintro e w3 ⟨q, rfl, hG, hB3, hq⟩
  have HG3 := Lib.hid (And.intro hG (And.intro hB3 hq))
  have HF3 := Lib.hid (HF2.out.1.below hB3)
  generalize w2.heap.size + 2 = G at *
  clear hG hB3 hq
  go_wp2_with fail
  refine (clone_fs HF3.out ok1 (by decide)).mono ?_
  rintro e w4 ⟨r, rfl, hH, hB4, hr⟩
  have HT : Hid (Tri W w4 F G (w3.heap.size + 2) ex1 ex1 ex1 p2 q r) := by
    have b3 : Below W.heap.size W w3 := HF2.out.2.trans (HG3.out.2.1.mono HF2.out.2.size)
    exact
      { f := HF3.out.below hB4
        g := (HG3.out.1.below hB4).base HF2.out.2.size
        h := hH.base b3.size
        fg := fun k h1 h2 => by have := (HF2.out.1.lt k h1).1; have := HG3.out.2.2 k h2; omega
        fh := fun k h1 h2 => by have := (HF3.out.lt k h1).1; have := hr k h2; omega
        gh := fun k h1 h2 => by have := (HG3.out.1.lt k h1).1; have := hr k h2; omega
        below := b3.trans (hB4.mono b3.size) }
  generalize w3.heap.size + 2 = H at *
  clear hH hB4 hr HF3 HG3 HF2 HF1 HB2
  go_wp2_with fail
  -- g.Crash(nil, nil)
  have cG := crash_fs HT.out.g ok1 (by decide) (.slice none 0 0) (.slice none 0 0) [] [] (Bl.emp _) (Il.emp _) (fun g hg => by simp [Value.ownBlock] at hg) (fun g hg => by simp [Value.ownBlock] at hg) (by decide) (by decide)
  rw [ex_crashG] at cG
  refine cG.mono ?_
  rintro e w5 ⟨rfl, q5, hG5, hr5, hq5⟩
  have HT5 := Lib.hid (HT.out.rot.next hG5 hr5 hq5)
  clear cG hG5 hr5 hq5 HT
  go_wp2_with fail
  -- h.Crash
  have hbA : Below w5.heap.size w5 (w5.alloc (.cells #[.bool true] 4)) := (Below.refl _ _).alloc (Nat.le_refl _) _
  have sA : (w5.alloc (.cells #[.bool true] 4)).heap.size = w5.heap.size + 1 := alloc_sz _ _
  have hbB := hbA.alloc (by omega) (.cells #[.int .i64 2] 3)
  have hBl : Bl ((w5.alloc (.cells #[.bool true] 4)).alloc (.cells #[.int .i64 2] 3)) (.slice (some ⟨w5.heap.size, 0, none⟩) 1 1) [true] := (Bl.built w5 true).kept fun g hg => by
    have e : w5.heap.size = g := by simpa [Value.ownBlock] using hg
    exact old_block _ _ _ (by omega)
  have hIl := Il.built (w5.alloc (.cells #[.bool true] 4)) 2
  rw [sA] at hIl
  have HT6 := Lib.hid (HT5.out.rot.under hbB)
  have hltH : ∀ k, r k → k < w5.heap.size := fun k hk => (HT5.out.rot.f.lt k hk).1
  have cH := crash_fs HT6.out.f ok1 (by decide) (.slice (some ⟨w5.heap.size, 0, none⟩) 1 1) (.slice (some ⟨w5.heap.size + 1, 0, none⟩) 1 1) [true] [2] hBl hIl (fun g hg => by
    have e : w5.heap.size = g := by simpa [Value.ownBlock] using hg
    intro hk; have := hltH g hk; omega) (fun g hg => by
    have e : w5.heap.size + 1 = g := by simpa [Value.ownBlock] using hg
    intro hk; have := hltH g hk; omega) (by decide) (by decide)
  rw [ex_crashH] at cH
  clear hbA sA hbB hBl hIl hltH HT5
  refine cH.mono ?_
  rintro e w7 ⟨rfl, r7, hH7, hr7, hq7⟩
  have HT7 := Lib.hid (HT6.out.next hH7 hr7 hq7)
  clear cH hH7 hr7 hq7 HT6
  go_wp2_with fail
  -- h.Read
  have cR := read_fs HT7.out.f okH ⟨#[97]⟩ (by decide)
  rw [ex_readH] at cR
  refine cR.mono ?_
  rintro e w8 ⟨x, rfl, hx, -, hb8⟩
  have HT8 := Lib.hid (HT7.out.rot.under hb8)
  have HX8 := Lib.hid hx
  clear cR hx hb8 HT7
  go_wp2_with fail
  -- f.Sync
  have cS := sync_fs HT8.out.f ok1 (by decide) ⟨#[97]⟩ (by decide)
  rw [ex_sync] at cS
  refine cS.mono ?_
  rintro e w9 ⟨rfl, p9, hF9, hr9, hp9⟩
  have HT9 := Lib.hid (HT8.out.next hF9 hr9 hp9)
  have HX9 := Lib.hid (HT8.out.f.rd hr9 HX8.out)
  clear cS hF9 hr9 hp9 HT8 HX8
  go_wp2_with fail
  have cD := syncdir_fs HT9.out.f ok2 (by decide)
  rw [ex_syncdir] at cD
  refine cD.mono ?_
  rintro e w10 ⟨rfl, p10, hF10, hr10, hp10⟩
  have HT10 := Lib.hid (HT9.out.next hF10 hr10 hp10)
  have HX10 := Lib.hid (HT9.out.f.rd hr10 HX9.out)
  clear cD hF10 hr10 hp10 HT9 HX9
  go_wp2_with fail
  have cC := crash_fs HT10.out.f ok3 (by decide) (.slice none 0 0) (.slice none 0 0) [] [] (Bl.emp _) (Il.emp _) (fun g hg => by simp [Value.ownBlock] at hg) (fun g hg => by simp [Value.ownBlock] at hg) (by decide) (by decide)
  rw [ex_crashF] at cC
  refine cC.mono ?_
  rintro e w11 ⟨rfl, p11, hF11, hr11, hp11⟩
  have HT11 := Lib.hid (HT10.out.next hF11 hr11 hp11)
  have HX11 := Lib.hid (HT10.out.f.rd hr11 HX10.out)
  clear cC hF11 hr11 hp11 HT10 HX10
  go_wp2_with fail
  have cR := read_fs HT11.out.f ok3 ⟨#[97]⟩ (by decide)
  rw [ex_readF] at cR
  refine cR.mono ?_
  rintro e w12 ⟨y, rfl, hy, -, hb12⟩
  have HT12 := Lib.hid (HT11.out.under hb12)
  have HX12 := Lib.hid (HX11.out.below hb12)
  have HY12 := Lib.hid hy
  clear cR hy hb12 HT11 HX11
  go_wp2_with fail
  have cL := list_fs HT12.out.g okG (by decide)
  rw [ex_list] at cL
  refine cL.mono ?_
  rintro e w13 ⟨l, rfl, hl, hb13⟩
  have hx := (HX12.out.below hb13).conv
  have hy := (HY12.out.below hb13).conv
  have HB13 := Lib.hid (HT12.out.under hb13).below
  obtain ⟨la, lc, rfl⟩ := own_slice hl
  clear cL hl hb13
  go_wp2_with fail
  go_ret
  exact ⟨rfl, HB13.out⟩
end Go.Proofs.Ytcobjjaicckgpaa.Vf
