/- Write's closures; the flags. -/
import Derived.Test.YtcobjjaicckgpaaVfW15
namespace Go.Proofs.Ytcobjjaicckgpaa.Vf
open Go Go.RowKit Go.Maps Go.Proofs.Ytcobjjaicckgpaa Go.Proofs.Ytcobjjaicckgpaa.Bs
set_option linter.unusedVariables false

set_option maxRecDepth 100000 in
set_option maxHeartbeats 4000000 in
theorem write1_is (B F p q r : Nat) (o : Loc) (s : St) (a : AS) (k : ByteArray) (v : Value) (l : List UInt8) (W : World) (h : Is W B o s) (ha : Ab a s) (hw : a.Wf) (hs : a.Sm) (hF : o.F = F) (hp : W.cell? ⟨p, 0, none⟩ = some (.pointer (some ⟨F, 0, none⟩))) (hq : W.cell? ⟨q, 0, none⟩ = some (.string k)) (hr : W.cell? ⟨r, 0, none⟩ = some v) (hk : k.size ≤ 1000000) (hl : l.length ≤ 1000000) (hv : Rd W v l) :
    Calls Try.prog 31 #[.pointer (some ⟨p, 0, none⟩), .pointer (some ⟨q, 0, none⟩), .pointer (some ⟨r, 0, none⟩)] W (Did B o s W (AS.put k l) a) := by
  have cP := Lib.hid (put_is B F o s a k v l W h ha hw hs hF hk hl hv)
  obtain ⟨a1, n1, p1, hdv⟩ := hv.slice
  subst hdv
  clear h ha hw hs hv
  go_enter Try.func31, Try.ntmps31
  go_wp2_with fail
  refine cP.out.mono ?_
  rintro e w1 ⟨r, s', o', rfl, hR⟩
  have HR := Lib.hid hR
  clear hR
  go_wp2_with fail
  go_ret
  exact ⟨r, s', o', rfl, HR.out⟩
theorem Did.from {B : Nat} {o : Loc} {s : St} {W W1 w' : World} {p : AS → Int × AS} {a : AS} {e : Ending} (hf : Fr W W1 (foot o s)) (h : Did B o s W1 p a e w') : Did B o s W p a e w' := by
  obtain ⟨r, s', o', h0, h1, h2, h3, h4, h5, h6⟩ := h
  exact ⟨r, s', o', h0, h1, h2, h3, h4, hf.trans h5 (fun _ _ e => e), fun k hk => (h6 k hk).imp id (fun e => Nat.le_trans hf.size e)⟩
theorem Rd.half {w : World} {ad : Option Addr} {n c : Nat} {l : List UInt8} (h : Rd w (.slice ad n c) l) : n = l.length ∧ n ≤ c ∧ Rd w (.slice ad (n / 2) c) (l.take (l.length / 2)) := by
  rcases h with ⟨h1, rfl⟩ | ⟨g, cap, cur, fr, h1, h2, h3, h4⟩
  · injection h1 with e1 e2 e3
    subst e1 e2 e3
    exact ⟨rfl, Nat.le_refl _, .inl ⟨rfl, rfl⟩⟩
  · injection h1 with e1 e2 e3
    subst e1 e2 e3
    refine ⟨rfl, h3, .inr ⟨g, c, cur, fr, ?_, h2, ?_, ?_⟩⟩
    · rw [List.length_take, Nat.min_eq_left (Nat.div_le_self _ _)]
    · rw [List.length_take]; omega
    · rw [List.length_take, Nat.min_eq_left (Nat.div_le_self _ _)]
      have := congrArg (List.take (l.length / 2)) h4
      rw [List.take_take, Nat.min_eq_left (Nat.div_le_self _ _)] at this
      rw [this]
      simp [Lib.byteCells, List.map_take]
set_option maxRecDepth 100000 in
set_option maxHeartbeats 4000000 in
theorem write2_is (B F p q r : Nat) (o : Loc) (s : St) (a : AS) (k : ByteArray) (v : Value) (l : List UInt8) (W : World) (h : Is W B o s) (ha : Ab a s) (hw : a.Wf) (hs : a.Sm) (hF : o.F = F) (hp : W.cell? ⟨p, 0, none⟩ = some (.pointer (some ⟨F, 0, none⟩))) (hq : W.cell? ⟨q, 0, none⟩ = some (.string k)) (hr : W.cell? ⟨r, 0, none⟩ = some v) (hk : k.size ≤ 1000000) (hl : l.length ≤ 1000000) (hv : Rd W v l) :
    Calls Try.prog 33 #[.pointer (some ⟨p, 0, none⟩), .pointer (some ⟨q, 0, none⟩), .pointer (some ⟨r, 0, none⟩)] W fun e w' => e = .returned (.tuple #[]) ∧ ∃ e', Did B o s W (AS.put k (l.take (l.length / 2))) a e' w' := by
  obtain ⟨a1, n1, p1, hdv⟩ := hv.slice
  subst hdv
  obtain ⟨hn, hc, hv2⟩ := hv.half
  have hv3 : Rd W.drew (.slice a1 (n1 / 2) p1) (l.take (l.length / 2)) := hv2.kept (fun _ _ _ _ => rfl)
  have cP := Lib.hid (put_is B F o s a k (.slice a1 (n1 / 2) p1) (l.take (l.length / 2)) W.drew (h.drewN 1) ha hw hs hF hk (by rw [List.length_take]; omega) hv3)
  obtain ⟨m, hm⟩ : ∃ m, n1 / 2 = m := ⟨_, rfl⟩
  rw [hm] at cP
  have i4 : IntKind.i64.wrap ((n1 : Int) / 2) = (m : Int) := by
    rw [IntKind.wrap_i64]
    omega
  have i1 : (0 : Int) ≤ (m : Int) := by omega
  have i2 : (m : Int) ≤ (p1 : Int) := by omega
  clear h ha hw hs hv hn hv2 hv3 hm hl hc
  go_enter Try.func33, Try.ntmps33
  go_still_tail 7, (by kernel_rfl)
  change wpList _ _ _ _ _ W.drew
  go_wp2_with fail
  refine cP.out.mono ?_
  rintro e w1 ⟨r, s', o', rfl, hR⟩
  have HR := Lib.hid hR
  clear hR
  go_wp2_with fail
  go_end0
  exact ⟨rfl, _, Did.from (Fr.drewN W 1 _) ⟨r, s', o', rfl, HR.out⟩⟩
end Go.Proofs.Ytcobjjaicckgpaa.Vf
