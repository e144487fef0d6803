/- Three file systems side by side; what the chapter's examples compute. -/
import Derived.Test.YtcobjjaicckgpaaVfW30
namespace Go.Proofs.Ytcobjjaicckgpaa.Vf
open Go Go.RowKit Go.Maps Go.Proofs.Ytcobjjaicckgpaa Go.Proofs.Ytcobjjaicckgpaa.Bs
set_option linter.unusedVariables false

theorem Is.base {w : World} {B B' : Nat} {o : Loc} {s : St} (h : Is w B o s) (hB : B' ≤ B) : Is w B' o s :=
  ⟨h.fs, h.names, h.dur, h.nd, own_base h.files hB, own_base h.pend hB, h.each, h.zl, h.dist, Nat.le_trans hB h.bF, Nat.le_trans hB h.bn, Nat.le_trans hB h.bd, fun f hf => Nat.le_trans hB (h.bf f hf)⟩
theorem Fs.base {w : World} {B B' F : Nat} {Z p : Nat → Prop} {a : AS} (h : Fs w B F Z a p) (hB : B' ≤ B) : Fs w B' F Z a p := by
  obtain ⟨o, s, h1, h2, hI, hA, hp⟩ := h
  exact ⟨o, s, h1, h2, hI.base hB, hA, hp⟩
abbrev Zn : Nat → Prop := fun _ => False
/-- Three file systems that share no block. -/
structure Tri (W w : World) (f g h : Nat) (a b c : AS) (p q r : Nat → Prop) : Prop where
  f : Fs w W.heap.size f Zn a p
  g : Fs w W.heap.size g Zn b q
  h : Fs w W.heap.size h Zn c r
  fg : ∀ k, p k → ¬ q k
  fh : ∀ k, p k → ¬ r k
  gh : ∀ k, q k → ¬ r k
  below : Below W.heap.size W w
theorem Tri.rot {W w : World} {f g h : Nat} {a b c : AS} {p q r : Nat → Prop} (t : Tri W w f g h a b c p q r) : Tri W w g h f b c a q r p :=
  ⟨t.g, t.h, t.f, t.gh, fun k h1 h2 => t.fg k h2 h1, fun k h1 h2 => t.fh k h2 h1, t.below⟩
theorem Tri.next {W w w' : World} {f g h : Nat} {a b c a' : AS} {p q r p' : Nat → Prop} (t : Tri W w f g h a b c p q r) (hf : Fs w' W.heap.size f Zn a' p') (hr : Fr w w' p) (hp : ∀ k, p' k → p k ∨ w.heap.size ≤ k) : Tri W w' f g h a' b c p' q r where
  f := hf
  g := t.g.apart t.f (fun k h1 h2 => t.fg k h2 h1) hr
  h := t.h.apart t.f (fun k h1 h2 => t.fh k h2 h1) hr
  fg := fun k h1 h2 => by
    rcases hp k h1 with e | e
    · exact t.fg k e h2
    · have := (t.g.lt k h2).1; omega
  fh := fun k h1 h2 => by
    rcases hp k h1 with e | e
    · exact t.fh k e h2
    · have := (t.h.lt k h2).1; omega
  gh := t.gh
  below := t.below.trans (hr.below (fun k hk => (t.f.lt k hk).2) t.below.size)
theorem Tri.under {W w w' : World} {f g h : Nat} {a b c : AS} {p q r : Nat → Prop} (t : Tri W w f g h a b c p q r) (hb : Below w.heap.size w w') : Tri W w' f g h a b c p q r :=
  ⟨t.f.below hb, t.g.below hb, t.h.below hb, t.fg, t.fh, t.gh, t.below.trans (hb.mono t.below.size)⟩
theorem Fs.rd {w w' : World} {B F : Nat} {Z p : Nat → Prop} {a : AS} {v : Value} {l : List UInt8} (h : Fs w B F Z a p) (hr : Fr w w' p) (hv : Rd w v l) : Rd w' v l :=
  hv.kept fun g cur fr hg => hr.block g (lt_of_heap hg) fun e => h.ne_bytes e cur fr hg
theorem Rd.below {w w' : World} {v : Value} {l : List UInt8} (hv : Rd w v l) (hb : Below w.heap.size w w') : Rd w' v l := hv.kept fun g cur fr hg => hb.block g (lt_of_heap hg)

/-! ### in plain words -/
theorem op_plain {p : AS → Int × AS} {q : AS → AS} {a : AS} (h1 : a.down = false) (h2 : a.armed = false) : AS.op p q a = p a := by
  unfold AS.op
  rw [h1, h2]
  rfl
theorem nonempty (c : UInt8) (l : List UInt8) : (⟨⟨c :: l⟩⟩ : ByteArray).toList.isEmpty = false := by rw [Lib.toList_data]; rfl
theorem empty_is : (⟨#[]⟩ : ByteArray).toList.isEmpty = true := by rw [Lib.toList_data]; rfl
theorem put_first (k : ByteArray) (l : List UInt8) (a : AS) (h1 : a.down = false) (h2 : a.armed = false) (k0 : k.toList.isEmpty = false) (hf : findS a.names k.data.toList = none) (q : AS → AS) :
    AS.op (AS.put k l) q a = (0, ⟨a.files ++ [⟨l, [], false⟩], putS a.names k.data.toList a.files.length, a.dur, a.pend ++ [⟨⟨#[]⟩, k, a.files.length⟩], false, false, a.after, a.err⟩) := by
  rw [op_plain h1 h2]
  unfold AS.put
  rw [k0, hf]
  simp only [AS.record, applyS, empty_is, k0, Bool.false_eq_true, if_false, if_true, h1, h2]
theorem sync_one (k : ByteArray) (a : AS) (h1 : a.down = false) (h2 : a.armed = false) (i : Nat) (hf : findS a.names k.data.toList = some i) (q : AS → AS) :
    AS.op (AS.sync k) q a = (0, { a with files := a.files.modify i fun f => { f with dur := f.data, synced := true } }) := by
  rw [op_plain h1 h2]
  unfold AS.sync
  rw [hf]
/-- What the examples' file system holds. -/
def ex1 : AS := ⟨[⟨[120, 121, 122], [], false⟩], [([97], 0)], [], [⟨⟨#[]⟩, ⟨#[97]⟩, 0⟩], false, false, 0, 0⟩
def ex2 : AS := ⟨[⟨[120, 121, 122], [120, 121, 122], true⟩], [([97], 0)], [], [⟨⟨#[]⟩, ⟨#[97]⟩, 0⟩], false, false, 0, 0⟩
def ex3 : AS := ⟨[⟨[120, 121, 122], [120, 121, 122], true⟩], [([97], 0)], [([97], 0)], [], false, false, 0, 0⟩
def exG : AS := ⟨[⟨[], [], true⟩], [], [], [], false, false, 0, 0⟩
def exH : AS := ⟨[⟨[120, 121], [120, 121], true⟩], [([97], 0)], [([97], 0)], [], false, false, 0, 0⟩
theorem ex_put (q : AS → AS) : AS.op (AS.put ⟨#[97]⟩ [120, 121, 122]) q AS.new = (0, ex1) := put_first ⟨#[97]⟩ _ AS.new rfl rfl (nonempty 97 []) rfl q
theorem ex_crashG : ex1.crash [] [] = exG := rfl
theorem ex_crashH : ex1.crash [true] [2] = exH := by
  unfold AS.crash
  have h : ex1.durK [true] ex1.pend.length = [([97], 0)] := by
    show applyS [] ⟨#[]⟩ ⟨#[97]⟩ 0 = _
    unfold applyS
    simp only [empty_is, nonempty 97 [], if_true, Bool.false_eq_true, if_false]
    rfl
  simp only [h]
  rfl
theorem ex_sync (q : AS → AS) : AS.op (AS.sync ⟨#[97]⟩) q ex1 = (0, ex2) := sync_one ⟨#[97]⟩ ex1 rfl rfl 0 rfl q
theorem ex_syncdir (q : AS → AS) : AS.op AS.syncdir q ex2 = (0, ex3) := op_plain rfl rfl
theorem ex_crashF : ex3.crash [] [] = ex3 := rfl
theorem ex_readH : exH.read ⟨#[97]⟩ = ([120, 121], 0) := rfl
theorem ex_readF : ex3.read ⟨#[97]⟩ = ([120, 121, 122], 0) := rfl
theorem ex_list : exG.list = [] := rfl
theorem ok_of {a : AS} (n : Nat) (h1 : ∀ p ∈ a.names, p.2 < a.files.length) (h2 : ∀ p ∈ a.dur, p.2 < a.files.length) (h3 : ∀ c ∈ a.pend, c.file < a.files.length) (h4 : So a.names) (h5 : So a.dur) (h6 : a.after = 0) (h7 : a.files.length ≤ n) (h8 : a.names.length ≤ n) (h9 : a.dur.length + a.pend.length ≤ n) (h11 : ∀ c ∈ a.pend, c.src.size ≤ 1000000 ∧ c.dst.size ≤ 1000000) (h12 : ∀ f ∈ a.files, f.data.length ≤ 1000000 ∧ f.dur.length ≤ 1000000) : a.Ok n :=
  ⟨⟨h1, h2, fun c hc _ => h3 c hc⟩, h4, h5, ⟨by rw [h6]; decide, by rw [h6]; decide⟩, h7, h8, h9, h11, h12⟩
theorem ok1 : ex1.Ok 1 := ok_of 1 (by decide) (by decide) (by decide) (List.pairwise_singleton _ _) List.Pairwise.nil rfl (by decide) (by decide) (by decide) (by decide) (by decide)
theorem ok2 : ex2.Ok 1 := ok_of 1 (by decide) (by decide) (by decide) (List.pairwise_singleton _ _) List.Pairwise.nil rfl (by decide) (by decide) (by decide) (by decide) (by decide)
theorem ok3 : ex3.Ok 1 := ok_of 1 (by decide) (by decide) (by decide) (List.pairwise_singleton _ _) (List.pairwise_singleton _ _) rfl (by decide) (by decide) (by decide) (by decide) (by decide)
theorem okG : exG.Ok 1 := ok_of 1 (by decide) (by decide) (by decide) List.Pairwise.nil List.Pairwise.nil rfl (by decide) (by decide) (by decide) (by decide) (by decide)
theorem okH : exH.Ok 1 := ok_of 1 (by decide) (by decide) (by decide) (List.pairwise_singleton _ _) (List.pairwise_singleton _ _) rfl (by decide) (by decide) (by decide) (by decide) (by decide)
theorem Bl.emp (w : World) : Bl w (.slice none 0 0) [] := ⟨0, 0, _, _, rfl, fun h => absurd h (by decide), fun j hj => absurd hj (by simp)⟩
theorem Il.emp (w : World) : Il w (.slice none 0 0) [] := ⟨0, 0, _, _, rfl, Nat.le_refl _, fun h => absurd h (by decide), fun j hj => absurd hj (by simp)⟩
end Go.Proofs.Ytcobjjaicckgpaa.Vf
