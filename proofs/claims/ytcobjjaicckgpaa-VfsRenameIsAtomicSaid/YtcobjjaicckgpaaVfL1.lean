/- VfsRenameIsAtomic: what its calls compute. -/
import Derived.Test.YtcobjjaicckgpaaVf4
namespace Go.Proofs.Ytcobjjaicckgpaa.Vf
open Go Go.RowKit Go.Maps Go.Proofs.Ytcobjjaicckgpaa Go.Proofs.Ytcobjjaicckgpaa.Bs
set_option linter.unusedVariables false

section
variable (x y : List UInt8)
def rn1 : AS := ⟨[⟨x, [], false⟩], [([102], 0)], [], [⟨⟨#[]⟩, ⟨#[102]⟩, 0⟩], false, false, 0, 0⟩
def rn2 : AS := ⟨[⟨x, x, true⟩], [([102], 0)], [], [⟨⟨#[]⟩, ⟨#[102]⟩, 0⟩], false, false, 0, 0⟩
def rn3 : AS := ⟨[⟨x, x, true⟩], [([102], 0)], [([102], 0)], [], false, false, 0, 0⟩
def rn4 : AS := ⟨[⟨x, x, true⟩, ⟨y, [], false⟩], [([102], 0), ([116], 1)], [([102], 0)], [⟨⟨#[]⟩, ⟨#[116]⟩, 1⟩], false, false, 0, 0⟩
def rn5 : AS := ⟨[⟨x, x, true⟩, ⟨y, y, true⟩], [([102], 0), ([116], 1)], [([102], 0)], [⟨⟨#[]⟩, ⟨#[116]⟩, 1⟩], false, false, 0, 0⟩
def rn6 : AS := ⟨[⟨x, x, true⟩, ⟨y, y, true⟩], [([102], 1)], [([102], 0)], [⟨⟨#[]⟩, ⟨#[116]⟩, 1⟩, ⟨⟨#[116]⟩, ⟨#[102]⟩, 1⟩], false, false, 0, 0⟩
theorem rn_put1 (q : AS → AS) : AS.op (AS.put ⟨#[102]⟩ x) q AS.new = (0, rn1 x) := put_first ⟨#[102]⟩ _ AS.new rfl rfl (nonempty 102 []) rfl q
theorem rn_sync1 (q : AS → AS) : AS.op (AS.sync ⟨#[102]⟩) q (rn1 x) = (0, rn2 x) := sync_one ⟨#[102]⟩ (rn1 x) rfl rfl 0 rfl q
theorem rn_syncdir (q : AS → AS) : AS.op AS.syncdir q (rn2 x) = (0, rn3 x) := op_plain rfl rfl
theorem rn_put2 (q : AS → AS) : AS.op (AS.put ⟨#[116]⟩ y) q (rn3 x) = (0, rn4 x y) := put_first ⟨#[116]⟩ _ (rn3 x) rfl rfl (nonempty 116 []) rfl q
theorem rn_sync2 (q : AS → AS) : AS.op (AS.sync ⟨#[116]⟩) q (rn4 x y) = (0, rn5 x y) := sync_one ⟨#[116]⟩ (rn4 x y) rfl rfl 1 rfl q
theorem rn_rename (q : AS → AS) : AS.op (AS.rename ⟨#[116]⟩ ⟨#[102]⟩) q (rn5 x y) = (0, rn6 x y) := by
  rw [op_plain rfl rfl]
  have h1 : findS (rn5 x y).names (⟨#[116]⟩ : ByteArray).data.toList = some 1 := rfl
  have h2 : ((⟨#[116]⟩ : ByteArray).toList == (⟨#[102]⟩ : ByteArray).toList) = false := by rw [Lib.toList_data, Lib.toList_data]; rfl
  unfold AS.rename
  rw [h1]
  simp only [nonempty 102 [], h2, Bool.false_eq_true, if_false, AS.record, applyS, nonempty 116 []]
  rfl
theorem ap1 (m : Nm) (i : Nat) : applyS m ⟨#[]⟩ ⟨#[116]⟩ i = putS m [116] i := by
  unfold applyS
  simp only [empty_is, nonempty 116 [], if_true, Bool.false_eq_true, if_false]
theorem ap2 (m : Nm) (i : Nat) : applyS m ⟨#[116]⟩ ⟨#[102]⟩ i = putS (delS m [116]) [102] i := by
  unfold applyS
  simp only [nonempty 102 [], nonempty 116 [], Bool.false_eq_true, if_false]
theorem rn_read (ch : List Bool) (ls : List Int) : ((rn6 x y).crash ch ls).read ⟨#[102]⟩ = (if ch.getD 1 false = true then y else x, 0) := by
  have hf : (rn6 x y).filesK ls 2 = [⟨x, x, true⟩, ⟨y, y, true⟩] := rfl
  have hd : (rn6 x y).durK ch 2 = if ch.getD 1 false = true then applyS (if ch.getD 0 false = true then applyS [([102], 0)] ⟨#[]⟩ ⟨#[116]⟩ 1 else [([102], 0)]) ⟨#[116]⟩ ⟨#[102]⟩ 1 else (if ch.getD 0 false = true then applyS [([102], 0)] ⟨#[]⟩ ⟨#[116]⟩ 1 else [([102], 0)]) := rfl
  have hc : (rn6 x y).crash ch ls = ⟨[⟨x, x, true⟩, ⟨y, y, true⟩], (rn6 x y).durK ch 2, (rn6 x y).durK ch 2, [], false, false, 0, 0⟩ := rfl
  rw [hc, hd]
  simp only [ap1, ap2]
  cases ch.getD 1 false <;> cases ch.getD 0 false <;> rfl
theorem rn_ok1 (hx : x.length ≤ 2000) : (rn1 x).Ok 1 := by
  have := AS.Ok.new.write ⟨#[102]⟩ x (show (⟨#[102]⟩ : ByteArray).size ≤ 1000000 by decide) (by omega)
  rw [rn_put1] at this
  exact this
theorem rn_ok2 (hx : x.length ≤ 2000) : (rn2 x).Ok 2 := by
  have := (rn_ok1 x hx).opsync ⟨#[102]⟩
  rw [rn_sync1] at this
  exact this
theorem rn_ok3 (hx : x.length ≤ 2000) : (rn3 x).Ok 3 := by
  have := (rn_ok2 x hx).opsyncdir
  rw [rn_syncdir] at this
  exact this
theorem rn_ok4 (hx : x.length ≤ 2000) (hy : y.length ≤ 2000) : (rn4 x y).Ok 4 := by
  have := (rn_ok3 x hx).write ⟨#[116]⟩ y (show (⟨#[116]⟩ : ByteArray).size ≤ 1000000 by decide) (by omega)
  rw [rn_put2] at this
  exact this
theorem rn_ok5 (hx : x.length ≤ 2000) (hy : y.length ≤ 2000) : (rn5 x y).Ok 5 := by
  have := (rn_ok4 x y hx hy).opsync ⟨#[116]⟩
  rw [rn_sync2] at this
  exact this
theorem rn_ok6 (hx : x.length ≤ 2000) (hy : y.length ≤ 2000) : (rn6 x y).Ok 6 := by
  have := (rn_ok5 x y hx hy).oprename ⟨#[116]⟩ ⟨#[102]⟩ (show (⟨#[116]⟩ : ByteArray).size ≤ 1000000 by decide) (show (⟨#[102]⟩ : ByteArray).size ≤ 1000000 by decide)
  rw [rn_rename] at this
  exact this
theorem rn_ok7 (hx : x.length ≤ 2000) (hy : y.length ≤ 2000) (ch : List Bool) (ls : List Int) : ((rn6 x y).crash ch ls).Ok 6 := (rn_ok6 x y hx hy).crash ch ls
end
end Go.Proofs.Ytcobjjaicckgpaa.Vf
