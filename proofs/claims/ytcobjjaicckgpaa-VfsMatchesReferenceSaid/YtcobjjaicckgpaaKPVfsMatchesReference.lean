/- The law VfsMatchesReference (feedvault/feedvaultlaw21.VfsMatchesReference): for every input it returns true, and each argument reads afterwards as before. No condition. -/
import Derived.Test.YtcobjjaicckgpaaRows
import Derived.WalkKit
import Derived.ProofKit
import Derived.OpenShut
import Derived.ShutString
import Derived.ChangeOld
import Derived.Below
import Derived.SizedLaws
import Derived.Laws.IdiomArrays
import Derived.Lib.SmallJoins
import Derived.Test.YtcobjjaicckgpaaK06
/- VfsMatchesReference: its walk. -/
namespace Go.Proofs.Ytcobjjaicckgpaa.Vf
open Go Go.RowKit Go.Maps Go.Proofs.Ytcobjjaicckgpaa Go.Proofs.Ytcobjjaicckgpaa.Bs
set_option linter.unusedVariables false

set_option maxRecDepth 100000 in
set_option maxHeartbeats 8000000 in
theorem matches_law (W : World) (v : Value) (l : List Ac) (h : Acts W v l) :
    Calls Try.prog 4 #[v] W fun e w' => e = .returned (.bool true) ∧ Below W.heap.size W w' := by
  obtain ⟨g, off, ad, cap, rfl, had, hlen, hact⟩ := id h
  obtain ⟨m, hm⟩ : ∃ m, l.length = m := ⟨_, rfl⟩
  rw [hm] at had hlen h ⊢
  have HA := Lib.hid h
  have HM := Lib.hid hm
  have HAD := Lib.hid had
  have HACT := Lib.hid hact
  clear had hact hm h
  obtain ⟨tl, htl⟩ : ∃ tl, tooL l = tl := ⟨_, rfl⟩
  have HTL := Lib.hid htl
  have cT := tooLarge_is W _ l HA.out
  rw [htl] at cT
  have CT := Lib.hid cT
  clear htl cT
  go_enter Try.func4, Try.ntmps4
  go_wp2_with fail
  refine CT.out.mono ?_
  rintro e w0 ⟨rfl, hb0⟩
  have HB0 := Lib.hid hb0
  clear hb0 CT
  cases tl with
  | true =>
    go_wp2_with fail
    refine (alive_is w0).mono ?_
    rintro e w1 ⟨rfl, hb⟩
    have HR := Lib.hid (HB0.out.trans (hb.mono HB0.out.size))
    clear hb
    go_wp2_with fail
    go_ret
    exact ⟨rfl, HR.out⟩
  | false =>
    have HOK := Lib.hid (HA.out.ok HTL.out)
    have HGD := Lib.hid (gd_take HOK.out.sm HOK.out.len)
    go_wp2_with fail
    refine (new_fs w0).mono ?_
    rintro e w1 ⟨F, p0, rfl, hF, hB, -⟩
    have HF1 := Lib.hid (And.intro hF hB)
    clear hF hB
    go_wp2_with fail
    refine (rnew_is w1).mono ?_
    rintro e w2 ⟨o0, rfl, hR, hB2, -⟩
    have HT := Lib.hid (two_new HF1.out.1 HF1.out.2 hR hB2)
    obtain ⟨G, hG⟩ : ∃ G, o0.G = G := ⟨_, rfl⟩
    have HG0 := Lib.hid hG
    have cS := Lib.hid (same_is w0 w2 F 0 o0 AS.new p0 ⟨#[97]⟩ HT.out AS.Gd.new (by decide) (by decide))
    rw [hG] at cS ⊢
    clear hR hB2 HF1 hG
    go_wp2_with fail
    refine cS.out.mono ?_
    rintro e w3 ⟨rfl, hb3⟩
    have HT3 := Lib.hid (HT.out.under hb3)
    clear hb3 HT cS
    go_wp2_with fail
    go_loopw [24] (fun i wr => ∃ (k : Nat), k ≤ m ∧ i = .int .i64 k ∧ Hid (∃ o p, o.G = G ∧ Two w0 wr F o (AS.acts (l.take k) AS.new) p)) (fun i _ => m - (intOf i).toNat)
    case atStart => exact ⟨0, Nat.zero_le _, rfl, ⟨o0, p0, HG0.out, HT3.out⟩⟩
    case round =>
      obtain ⟨k, hk, rfl, hT⟩ := hrel
      by_cases hlt : k < m
      · obtain ⟨rfl, hg⟩ := HAD.out (by omega)
        have hkl : k < l.length := by rw [HM.out]; exact hlt
        obtain ⟨v1, v2, ha, ho⟩ := HACT.out k hkl
        obtain ⟨o, p, hoG, ht⟩ := hT.out
        have hbw : Below W.heap.size W wr := HB0.out.trans (ht.below.mono HB0.out.size)
        have ha := ha.below hg hbw
        have HST := Lib.hid (acts_take l AS.new k hkl)
        have HSU := Lib.hid (HOK.out.sum _ (List.getElem_mem hkl))
        have HSM := Lib.hid (HOK.out.sm _ (List.getElem_mem hkl))
        have HGK := Lib.hid (HGD.out (k + 1))
        obtain ⟨c, hc⟩ : ∃ c, l[k] = c := ⟨_, rfl⟩
        rw [hc] at ha ho HST HSU HSM
        have HO := Lib.hid (ho.below HB0.out)
        rw [HST.out] at HGK
        obtain ⟨x0, x1, x2, x3, x4, x5, x6, x7⟩ := ha
        have HBa := Lib.hid ((Below.refl wr.heap.size wr).alloc (Nat.le_refl _) (.cells (actCells c v1 v2) 44))
        have HX := Lib.hid (heap_alloc_new wr (.cells (actCells c v1 v2) 44))
        have HT0 := Lib.hid (ht.under HBa.out)
        have HCP := Lib.hid (fun (w : World) (t : Two w0 w F o (AS.acts (l.take k) AS.new) p) => perform_is w0 w F 5000 o (AS.acts (l.take k) AS.new) p c v1 v2 t (HGD.out k).rk (by decide) HO.out HSU.out)
        rw [hoG] at HCP
        have HBX : Hid (∀ k, (p k ∨ rfoot o k) → k < wr.heap.size) := fun k hk => by rcases hk with hk | hk; exact (ht.f.lt k hk).1; exact (ht.g.lt hk).1
        obtain ⟨r, hr⟩ : ∃ r, (AS.act c (AS.acts (l.take k) AS.new)).1 = r := ⟨_, rfl⟩
        rw [hr] at HCP
        obtain ⟨g1, o1, a1, c1, rfl, -⟩ := id HO.out.b1
        obtain ⟨g2, o2, a2, c2, rfl, -⟩ := id HO.out.b2
        obtain ⟨kd, nm, nw, dt, af, er, ch, ls⟩ := c
        have HCN : Hid (nm.size ≤ 1000000) := HSM.out.name
        unfold actCells at *
        simp only at x0 x1 x2 x3 x4 x5 x6 x7 HBa HT0 HCP
        clear hT ht ho hoG hc hr hbw
        have HB1 : Hid ((wr.alloc (.cells #[.int .i64 kd, .string nm, .string nw, .string dt, .int .i64 af, .int .i64 er, .slice a1 ch.length c1, .slice a2 ls.length c2] 44)).cell? ⟨wr.heap.size, 1, none⟩ = some (.string nm)) := by
          unfold World.cell?
          simp only [HX.out]
          rfl
        go_wp2_with fail
        refine (HCP.out _ HT0.out).mono ?_
        rintro e w4 ⟨rfl, o', p', hG', hT', hFr⟩
        have hx1 := cell_fr HB1.out hFr (fun e => Nat.lt_irrefl _ (HBX.out _ e))
        have cS := same_is w0 w4 F 5000 o' _ p' nm hT' HGK.out (by decide) HCN.out
        rw [hG'] at cS
        have CS := Lib.hid cS
        have HT4 := Lib.hid (And.intro hG' hT')
        clear hG' hT' hFr cS x0 x1 x2 x3 x4 x5 x6 x7
        go_wp2_with fail
        refine CS.out.mono ?_
        rintro e w5 ⟨rfl, hb5⟩
        have HT5 := Lib.hid (HT4.out.2.under hb5)
        clear hb5 hx1
        go_wp2_with fail
        go_roundw
        case rel => exact ⟨k + 1, by omega, by go_num, ⟨o', p', HT4.out.1, by rw [HST.out]; exact HT5.out⟩⟩
        case measure => simp [intOf]; omega
      · have gl : decide ((k : Int) < (m : Int)) = false := decide_eq_false (by omega)
        have HBr : Hid (Below W.heap.size W wr) := by
          obtain ⟨o, p, -, ht⟩ := hT.out
          exact HB0.out.trans (ht.below.mono HB0.out.size)
        clear hT
        go_wp2_with fail
        refine (alive_is wr).mono ?_
        rintro e w1 ⟨rfl, hb⟩
        have HR := Lib.hid (HBr.out.trans (hb.mono HBr.out.size))
        clear hb
        go_wp2_with fail
        go_ret
        exact ⟨rfl, HR.out⟩
end Go.Proofs.Ytcobjjaicckgpaa.Vf
namespace Go.Proofs.Ytcobjjaicckgpaa.vfsMatchesReference
open Go.ChangeShapes Go.WideShapes Go.ChangeAt Go.RowKit
open Go.ChangeMaps (open_string shut_string)
set_option linter.unusedVariables false

theorem own : ownKnob Try.prog.godebug = none := by kernel_rfl
theorem laidOut : laidOutB Try.prog = true := by kernel_rfl
set_option maxRecDepth 100000 in
theorem lifted (os : Os) (started : os.Started) (H : Type) (enc : TypeId × Value → H) :
    ReturnsInHanded {} Try.checked os 4 .any (Rows.vfsMatchesReferenceSpec.pre6 enc Try.prog Try.f4 Rows.vfsMatchesReferenceRow.domain false) (Rows.vfsMatchesReferenceSpec.post enc Try.prog Try.f4 false true false false) := by
  refine returnsInHanded_of_change_sized (C := Try.checked) own started (by kernel_rfl) Try.func4
    (ChangeSpec.witness6 (enc := enc) (C := Try.checked) false ⟨#[], #[.slice none 0 0], []⟩ 8 (by kernel_rfl) (by kernel_rfl) (by kernel_rfl) (by kernel_rfl)) ?_
  intro W base args ds gs before hval0 hW hcnd hsz _
  have hval : ∀ (j : Nat) t v, Try.f4.params[j]? = some t → args[j]? = some v → Value.okWide Try.prog W .any base t v := hval0
  have hW' := hW
  obtain ⟨p, q, hA0, hV, rfl, hfz, hnd⟩ := hW
  have hA : DataW.TrodAll enc Try.prog W 0 (fun _ => true) true Try.f4.params.toList args.toList ds p := hA0
  rw [Try.params4] at hA hval
  obtain ⟨v0, vs0, d0, ds0, p0, q0, hargs, rfl, rfl, h0, r0⟩ := trodAll_cons hA
  obtain ⟨rfl, rfl, rfl⟩ := trodAll_nil r0
  obtain rfl : args = #[v0] := by cases args; simp_all
  obtain ⟨rfl, rfl⟩ := trodVars_none hV
  have lt0 : ∀ x ∈ p0, x.block < W.heap.size := by obtain ⟨m, hm⟩ := h0; exact DataW.trod_lt m _ _ _ hm
  obtain ⟨l0, b0⟩ := VfO.acts_at (hval 0 38 v0 rfl rfl) h0 (j := 0) (ts := (Try.f4.params.toList ++ Rows.vfsMatchesReferenceSpec.plain.varTypes Try.prog)) rfl rfl hsz
  clear hA0 hval0
  refine (Vf.matches_law W v0 l0 b0).mono fun e W' ⟨he, bel⟩ => ?_
  subst he
  exact ⟨_, rfl, _, _, _, [], _, [], hW', trodAll_mk1 (shut_bool Try.underlying4 _), (trodAll_cons_mk (Below.trod laidOut (by kernel_rfl) (of_decide_eq_true (by kernel_rfl)) h0 bel lt0) trodAll_mk0), rfl, bel.frame _, fun h => by cases h⟩

theorem over : Rows.vfsMatchesReferenceRow.holds Try.pinned (OpenSpec.ofChange Rows.vfsMatchesReferenceSpec) :=
  OpenClaim.holds_of_wide 4 Try.f4 rfl rfl rfl rfl rfl rfl rfl ⟨rfl, rfl, rfl, rfl, rfl⟩ rfl rfl rfl rfl rfl (by kernel_rfl) Try.func4 (by kernel_rfl)
    (of_decide_eq_true (by kernel_rfl)) (by unfold Func.isWrapper; first | (rw [if_pos (by decide +kernel)]; kernel_rfl) | (rw [if_neg (by decide +kernel)]; exact ⟨rfl, rfl⟩))
    (fun os started H enc _ => lifted os started H enc)

/-- The given statement. -/
theorem proved : Rows.VfsMatchesReferenceSaid := over
#print axioms proved
end Go.Proofs.Ytcobjjaicckgpaa.vfsMatchesReference
