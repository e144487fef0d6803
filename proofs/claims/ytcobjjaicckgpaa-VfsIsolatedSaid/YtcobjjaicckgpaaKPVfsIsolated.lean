/- The law VfsIsolated (feedvault/feedvaultlaw21.VfsIsolated): for every input it returns true, and each argument reads afterwards as before. No condition. -/
import Derived.Test.YtcobjjaicckgpaaRows
import Derived.WalkKit
import Derived.ProofKit
import Derived.OpenShut
import Derived.ShutString
import Derived.ChangeOld
import Derived.Below
import Derived.SizedLaws
import Derived.Laws.IdiomArrays
import Derived.Lib.SmallJoins
import Derived.Test.YtcobjjaicckgpaaK06
/- Bytes that no file reads: what VfsIsolated writes to. -/
namespace Go.Proofs.Ytcobjjaicckgpaa.Vf
open Go Go.RowKit Go.Maps Go.Proofs.Ytcobjjaicckgpaa Go.Proofs.Ytcobjjaicckgpaa.Bs
set_option linter.unusedVariables false

set_option maxRecDepth 100000 in
set_option maxHeartbeats 4000000 in
theorem clone_own (v : Value) (l : List UInt8) (W : World) (hl : l.length ≤ 1000000) (hv : Rd W v l) :
    Calls Try.prog 41 #[v] W fun e w' => ∃ v', e = .returned v' ∧ w'.ownsRow W.heap.size 5 1 v' l.length (Lib.byteCells l) ∧ Below W.heap.size W w' := by
  have hnil : ∀ (w : World) (a : Option Addr) (n c : Nat), (binOp .eql 30 (.slice a n c) (.slice none 0 0)).run Try.prog w = .ok (.bool a.isNone) w := fun w a n c => Lib.run_eql_slice_nil w _ _ a n c 0 0 Try.underlying30
  rcases hv with ⟨rfl, rfl⟩ | ⟨g, cap, cur, fr, rfl, hg, hc, ht⟩
  · go_enter Try.func41, Try.ntmps41
    go_wp2_with fail
    go_ret
    exact ⟨_, rfl, ⟨rfl, .inl ⟨rfl, rfl⟩⟩, Below.refl _ _⟩
  · obtain ⟨i0, hi, hz0, hz1, hz2⟩ := info_parts infoU
    have hg' : (W.alloc (.cells #[] 5)).heap[g]? = some (.cells cur 5 fr) := by rw [old_block _ _ _ (lt_of_heap hg)]; exact hg
    have ho := own_none W 5 1 (by decide)
    have HB0 := Lib.hid ((Below.refl W.heap.size W).alloc (Nat.le_refl _) (.cells #[] 5))
    have hsz : W.heap.size ≤ (W.alloc (.cells #[] 5)).heap.size := HB0.out.size
    go_enter Try.func41, Try.ntmps41
    go_wp2_with (at_builtin; refine wpList_append_own _ rfl _ _ 30 rfl W.heap.size 5 i0 (.int .u8 0) 1 1 Try.underlying30 hi hz0 hz1 hz2 rfl (by decide) _ _ _ rfl ho ⟨g, 0, none⟩ l.length cap (Lib.byteCells l) rfl (by simp [Lib.byteCells]) (Rd.cells hg' ht) ?a2 ?a3 ?a4 ?a5 ?_)
    case a2 => intro u hu; simp only [Lib.byteCells, List.mem_map] at hu; obtain ⟨c, _, rfl⟩ := hu; rfl
    case a3 => unfold maxLen; omega
    case a4 => omega
    case a5 => exact hsz
    intro v1 w1 hown hgrow _
    have HB1 := Lib.hid (HB0.out.grown hgrow hsz (fun k hk => (ho.lt k hk).1))
    have HR : Hid (w1.ownsRow W.heap.size 5 1 v1 l.length (Lib.byteCells l)) := by
      show w1.ownsRow W.heap.size 5 1 v1 l.length (Lib.byteCells l)
      simpa using hown
    clear hown
    go_wp2_with fail
    go_ret
    exact ⟨_, rfl, HR.out, HB1.out⟩
set_option maxRecDepth 100000 in
set_option maxHeartbeats 4000000 in
theorem read_own1 (B b : Nat) (o : Loc) (s : St) (k : ByteArray) (f : Fl) (W : World) (h : Is W B o s) (hd : s.down = false) (hk : k.size ≤ 1000000) (hf : findS s.names k.data.toList = some b) (hm : f ∈ s.files) (hb : f.blk = b) (hl : f.data.length ≤ 1000000) :
    Calls Try.prog 14 #[.pointer (some ⟨o.F, 0, none⟩), .string k] W fun e w' => ∃ v, e = .returned (.tuple #[v, .int .i64 0]) ∧ w'.ownsRow W.heap.size 5 1 v f.data.length (Lib.byteCells f.data) ∧ Below W.heap.size W w' := by
  obtain ⟨-, -, c4, -⟩ := fs_flags h.fs
  rw [hd] at c4
  have h0 := fs_at0 h.fs
  obtain ⟨dv, rv, hc, hr, -⟩ := h.each f hm
  rw [hb] at hc
  obtain ⟨c0, -, -, -⟩ := file_cells hc
  have HR := Lib.hid hr.1
  have HN := Lib.hid h.names
  have HF := Lib.hid hf
  obtain ⟨a1, n1, p1, hdv⟩ := hr.1.slice
  subst hdv
  clear h hf hc hr
  go_enter Try.func14, Try.ntmps14
  go_wp2_with fail
  refine (lookup_is o.F 0 o.nb k s.names W hk h0 HN.out).mono ?_
  rintro e w1 ⟨rfl, rfl⟩
  rw [HF.out]
  simp only [fptrO, fptr, Option.isSome_some]
  go_wp2_with fail
  refine (clone_own _ f.data _ hl HR.out).mono ?_
  rintro e w2 ⟨v2, rfl, hr2, hb2⟩
  have HR2 := Lib.hid hr2
  have HB2 := Lib.hid hb2
  clear hr2 hb2
  go_wp2_with fail
  go_ret2
  exact ⟨v2, rfl, HR2.out, HB2.out⟩
theorem read_own {W : World} {B F n i : Nat} {Z p : Nat → Prop} {a : AS} (h : Fs W B F Z a p) (ok : a.Ok n) (k : ByteArray) (hk : k.size ≤ 1000000) (hd : a.down = false) (e : findS a.names k.data.toList = some i) :
    Calls Try.prog 14 #[.pointer (some ⟨F, 0, none⟩), .string k] W fun e w' => ∃ v, e = .returned (.tuple #[v, .int .i64 0]) ∧ w'.ownsRow W.heap.size 5 1 v (a.read k).1.length (Lib.byteCells (a.read k).1) ∧ Below W.heap.size W w' := by
  obtain ⟨o, s, rfl, rfl, hI, ⟨bl, rfl⟩, rfl⟩ := h
  obtain ⟨f, hm, hb, hf⟩ := Ab.fileD (bl := bl) (ok.wf.find e)
  have hi := ok.wf.find e
  have hlen : f.data.length ≤ 1000000 := by
    rw [hf, List.getD_eq_getElem?_getD, List.getElem?_eq_getElem hi]
    exact (ok.data _ (List.getElem_mem _)).1
  have hr : (a.read k).1 = f.data := by
    unfold AS.read
    rw [if_neg (by rw [hd]; decide), e, hf]
  rw [hr]
  exact read_own1 B (bl i) o _ k f W hI hd hk (Ab.find_some e) hm hb hlen
/-! ### blocks that no file reads -/
theorem Rd.kept1 {w w' : World} {v : Value} {l : List UInt8} (h : Rd w v l) (hk : ∀ g, v.ownBlock = some g → w'.heap[g]? = w.heap[g]?) : Rd w' v l := by
  rcases h with h | ⟨g, cap, cur, fr, rfl, h2, h3, h4⟩
  · exact .inl h
  · exact .inr ⟨g, cap, cur, fr, rfl, by rw [hk g rfl]; exact h2, h3, h4⟩
theorem Rd.lt {w : World} {v : Value} {l : List UInt8} (h : Rd w v l) : ∀ g, v.ownBlock = some g → g < w.heap.size := by
  rcases h with ⟨rfl, _⟩ | ⟨g, cap, cur, fr, rfl, h2, h3, h4⟩
  · intro g hg; simp [Value.ownBlock] at hg
  · intro g' hg
    obtain rfl : g = g' := by simpa [Value.ownBlock] using hg
    exact lt_of_heap h2
/-- Blocks of bytes that no file reads turn, nothing else; blocks may be laid. -/
theorem Fs.zkept {w w' : World} {B F : Nat} {Z Z' p : Nat → Prop} {a : AS} (h : Fs w B F Z a p) (hZ : ∀ k, Z' k → Z k ∨ w.heap.size ≤ k) (hk : ∀ k, ¬ Z k → k < w.heap.size → w'.heap[k]? = w.heap[k]?) (hz : ∀ k, Z' k → ∃ cur fr, w'.heap[k]? = some (Obj.cells cur 5 fr)) : Fs w' B F Z' a p := by
  have hlt := fun k => (h.lt k)
  have hne := fun k (hp : p k) => h.ne_bytes hp
  obtain ⟨o, s, rfl, rfl, hI, hA, rfl⟩ := h
  have hkf : ∀ k, foot o s k → w'.heap[k]? = w.heap[k]? := fun k hf => hk k (fun hz => by
    obtain ⟨cur, fr, hc⟩ := hI.zl k hz
    exact hne k hf cur fr hc) (hlt k hf).1
  have hRz : ∀ (v : Value) (l : List UInt8), Rz o.Z w v l → Rz Z' w' v l := fun v l hr => ⟨hr.1.kept1 fun g hg => hk g (hr.2 g hg) (hr.1.lt g hg), fun g hg hz => by
    rcases hZ g hz with h1 | h1
    · exact hr.2 g hg h1
    · have := hr.1.lt g hg; omega⟩
  refine ⟨{ o with Z := Z' }, s, rfl, rfl, ?_, hA, rfl⟩
  exact
    { fs := by rw [hkf _ (.inl rfl)]; exact hI.fs
      names := hI.names.of_block (hkf _ (.inr (.inl rfl)))
      dur := hI.dur.of_block (hkf _ (.inr (.inr (.inl rfl))))
      nd := hI.nd
      files := own_kept hI.files fun g hg => hkf g (.inr (.inr (.inr (.inl hg))))
      pend := own_kept hI.pend fun g hg => hkf g (.inr (.inr (.inr (.inr (.inl hg)))))
      each := fun f hf => by
        obtain ⟨dv, rv, h1, h2, h3⟩ := hI.each f hf
        exact ⟨dv, rv, by rw [hkf _ (.inr (.inr (.inr (.inr (.inr ⟨f, hf, rfl⟩)))))]; exact h1, hRz _ _ h2, hRz _ _ h3⟩
      zl := hz
      dist := hI.dist
      bF := hI.bF
      bn := hI.bn
      bd := hI.bd
      bf := hI.bf }
/-- A block of n bytes that may be written. -/
def Br (w : World) (g n : Nat) : Prop := ∃ cur fr, w.heap[g]? = some (Obj.cells cur 5 fr) ∧ n ≤ fr.1 + n * (if fr = (0, 0) then 1 else 0) ∧ n ≤ cur.size ∧ ∀ j, j < n → ∃ z : Int, cur[j]? = some (.int .u8 z)
theorem Br.at {w : World} {g n j : Nat} (h : Br w g n) (hj : j < n) : ∃ z : Int, w.cell? ⟨g, j, none⟩ = some (.int .u8 z) ∧ w.frozen? ⟨g, j, none⟩ = false := by
  obtain ⟨cur, fr, h1, h0, h2, h3⟩ := h
  obtain ⟨z, hz⟩ := h3 j hj
  refine ⟨z, ?_, ?_⟩
  · unfold World.cell?; simp only [h1]; exact hz
  · unfold World.frozen?
    simp only [h1]
    by_cases e : fr = (0, 0)
    · subst e; simp
    · rw [if_neg e] at h0
      simp
      omega
theorem Br.set {w : World} {g n j : Nat} (h : Br w g n) (z : Int) : Br (w.setCell ⟨g, j, none⟩ (.int .u8 z)) g n := by
  obtain ⟨cur, fr, h1, h0, h2, h3⟩ := h
  refine ⟨cur.setIfInBounds j (.int .u8 z), fr, ?_, h0, by simpa using h2, fun i hi => ?_⟩
  · unfold World.setCell
    simp only
    rw [Array.getElem?_modify, if_pos rfl, h1]
    rfl
  obtain ⟨y, hy⟩ := h3 i hi
  by_cases e : j = i
  · subst e
    refine ⟨z, ?_⟩
    rw [Array.getElem?_setIfInBounds_self_of_lt (by omega)]
  · exact ⟨y, by rw [Array.getElem?_setIfInBounds_ne e]; exact hy⟩
theorem Br.kept {w w' : World} {g n : Nat} (h : Br w g n) (hk : w'.heap[g]? = w.heap[g]?) : Br w' g n := by
  obtain ⟨cur, fr, h1, h0⟩ := h
  exact ⟨cur, fr, by rw [hk]; exact h1, h0⟩
/-- A file system, and a block of bytes beside it that no file reads. -/
structure Bes (W w : World) (B F g n : Nat) (a : AS) (p : Nat → Prop) : Prop where
  fs : Fs w B F (fun k => 0 < n ∧ k = g) a p
  br : 0 < n → Br w g n
  below : Below W.heap.size W w
  hg : 0 < n → W.heap.size ≤ g
  bB : W.heap.size ≤ B
theorem Bes.set {W w : World} {B F g n j : Nat} {a : AS} {p : Nat → Prop} (h : Bes W w B F g n a p) (h0 : 0 < n) (z : Int) : Bes W (w.setCell ⟨g, j, none⟩ (.int .u8 z)) B F g n a p := by
  have hb := (h.br h0).set (j := j) z
  refine ⟨h.fs.zkept (fun k hk => .inl hk) (fun k hk _ => heap_setCell_other _ _ _ _ (fun e => hk ⟨h0, e⟩)) (fun k hk => ?_), fun _ => hb, ?_, h.hg, h.bB⟩
  · obtain ⟨-, rfl⟩ := hk
    obtain ⟨cur, fr, h1, -⟩ := hb
    exact ⟨cur, _, h1⟩
  · exact h.below.setCell (p := ⟨g, j, none⟩) (h.hg h0) _
/-- Where the block comes from: a fresh row of bytes. -/
theorem Bes.of_own {W w w' : World} {B F : Nat} {v : Value} {Z : Nat → Prop} {a : AS} {p : Nat → Prop} {l : List UInt8} (h : Fs w B F Z a p) (hB : W.heap.size ≤ B) (hb : Below W.heap.size W w) (hb' : Below w.heap.size w w') (ho : w'.ownsRow w.heap.size 5 1 v l.length (Lib.byteCells l)) :
    ∃ g ad cap, v = .slice ad l.length cap ∧ l.length ≤ cap ∧ (0 < l.length → ad = some ⟨g, 0, none⟩) ∧ Bes W w' B F g l.length a p := by
  rcases ho.2 with ⟨e, h0⟩ | ⟨g', cap', cur, e, h1, h2, h3, h4, h5, h6⟩
  · refine ⟨0, none, 0, by rw [e, h0], by omega, fun hp => by omega, h.zkept (fun k hk => by have := hk.1; omega) (fun k _ hk => hb'.block k hk) (fun k hk => by have := hk.1; omega), fun hp => by omega, hb.trans (hb'.mono hb.size), fun hp => by omega, hB⟩
  · refine ⟨g', _, cap', e, h3, fun _ => rfl, h.zkept (fun k hk => .inr (by obtain ⟨-, rfl⟩ := hk; exact h1)) (fun k _ hk => hb'.block k hk) (fun k hk => by obtain ⟨-, rfl⟩ := hk; exact ⟨_, _, h2⟩), fun _ => ⟨cur, (0, 0), h2, by simp, by omega, fun j hj => ?_⟩, hb.trans (hb'.mono hb.size), fun _ => Nat.le_trans hb.size h1, hB⟩
    have h7 := congrArg (fun m : List Value => m[j]?) h6
    simp only [Nat.mul_one, List.getElem?_take, if_pos hj] at h7
    have h8 : (Lib.byteCells l)[j]? = some (.int .u8 (l[j]).toNat) := by
      unfold Lib.byteCells
      rw [List.getElem?_map, List.getElem?_eq_getElem hj]
      rfl
    rw [h8] at h7
    exact ⟨_, by simpa using h7⟩
/-- .. or a string, made into bytes. -/
theorem Bes.of_conv {W w : World} {B F : Nat} {Z : Nat → Prop} {a : AS} {p : Nat → Prop} (s : ByteArray) (h : Fs w B F Z a p) (hB : W.heap.size ≤ B) (hb : Below W.heap.size W w) : Bes W (Lib.bytesWorld w 5 s) B F w.heap.size s.size a p := by
  have hb' := world_belowV w 5 s
  have hn := Lib.bytesWorld_at_new w 5 s
  have hsz : s.size ≤ (Lib.bytesCells w 5 s).size := by
    unfold Lib.bytesCells
    simp
  refine ⟨h.zkept (fun k hk => .inr (by obtain ⟨-, rfl⟩ := hk; exact Nat.le_refl _)) (fun k _ hk => hb'.block k hk) (fun k hk => by obtain ⟨-, rfl⟩ := hk; exact ⟨_, _, hn⟩), fun _ => ⟨_, _, hn, by simp; omega, hsz, fun j hj => ?_⟩, hb.trans (hb'.mono hb.size), fun _ => hb.size, hB⟩
  have h1 := Lib.bytesWorld_cell w 5 s j hj
  unfold World.cell? at h1
  simp only [hn] at h1
  exact ⟨_, h1⟩
/-- A call on the file system leaves the block alone. -/
theorem Bes.next {W w w' : World} {B F g n : Nat} {a a' : AS} {p p' : Nat → Prop} (h : Bes W w B F g n a p) (hf : Fs w' B F (fun k => 0 < n ∧ k = g) a' p') (hr : Fr w w' p) : Bes W w' B F g n a' p' := by
  refine ⟨hf, fun h0 => ?_, h.below.trans (hr.below (fun k hk => Nat.le_trans h.bB (h.fs.lt k hk).2) h.below.size), h.hg, h.bB⟩
  have hb := h.br h0
  obtain ⟨cur, fr, h1, -⟩ := id hb
  exact hb.kept (hr.block g (lt_of_heap h1) fun e => h.fs.ne_bytes e _ _ h1)
theorem read_put {a : AS} {n : Nat} (ok : a.Ok n) (k : ByteArray) (l : List UInt8) (h0 : k.toList.isEmpty = false) (hd : a.down = false) : (AS.put k l a).2.down = false ∧ (∃ i, findS (AS.put k l a).2.names k.data.toList = some i) ∧ AS.read k (AS.put k l a).2 = (l, 0) := by
  unfold AS.put
  rw [h0]
  simp only [Bool.false_eq_true, if_false]
  cases e : findS a.names k.data.toList with
  | some i =>
    refine ⟨hd, ⟨i, e⟩, ?_⟩
    unfold AS.read
    rw [if_neg (by show ¬ a.down = true; rw [hd]; decide)]
    show (match findS a.names k.data.toList with | none => _ | some i => _) = _
    rw [e]
    have hi := ok.wf.find e
    show (((a.files.modify i fun f => { f with data := l, synced := false }).getD i ⟨[], [], true⟩).data, (0 : Int)) = (l, 0)
    rw [List.getD_eq_getElem?_getD, List.getElem?_modify, List.getElem?_eq_getElem hi]
    simp
  | none =>
    have hn : findS (AS.record { a with files := a.files ++ [⟨l, [], false⟩] } ⟨⟨#[]⟩, k, a.files.length⟩).names k.data.toList = some a.files.length := by
      show findS (applyS a.names ⟨#[]⟩ k a.files.length) k.data.toList = _
      unfold applyS
      rw [show (⟨#[]⟩ : ByteArray).toList.isEmpty = true by kernel_rfl, h0]
      simp only [Bool.false_eq_true, if_false, if_true]
      rw [find_put, if_pos rfl]
    refine ⟨hd, ⟨_, hn⟩, ?_⟩
    unfold AS.read
    rw [if_neg (by show ¬ a.down = true; rw [hd]; decide), hn]
    show (((a.files ++ [(⟨l, [], false⟩ : AF)]).getD a.files.length ⟨[], [], true⟩).data, (0 : Int)) = (l, 0)
    rw [List.getD_eq_getElem?_getD, List.getElem?_append_right (Nat.le_refl _)]
    simp
end Go.Proofs.Ytcobjjaicckgpaa.Vf
/- VfsIsolated: its walk. -/
namespace Go.Proofs.Ytcobjjaicckgpaa.Vf
open Go Go.RowKit Go.Maps Go.Proofs.Ytcobjjaicckgpaa Go.Proofs.Ytcobjjaicckgpaa.Bs
set_option linter.unusedVariables false

theorem bs_is (A : ByteArray) : (⟨A.data.toList.toArray⟩ : ByteArray) = A := ba_of rfl
set_option maxRecDepth 100000 in
set_option maxHeartbeats 16000000 in
theorem isolated_law (W : World) (v : Value) (l : List Ac) (data : ByteArray) (h : Acts W v l) (hd : data.size ≤ 140737488355328) :
    Calls Try.prog 6 #[v, .string data] W fun e w' => e = .returned (.bool true) ∧ Below W.heap.size W w' := by
  have HA := Lib.hid h
  obtain ⟨g, off, ad, cap, rfl, -, -, -⟩ := id h
  obtain ⟨m, hm⟩ : ∃ m, l.length = m := ⟨_, rfl⟩
  rw [hm] at HA ⊢
  obtain ⟨t1, ht1⟩ : ∃ t1, tooL l = t1 := ⟨_, rfl⟩
  have HT1 := Lib.hid ht1
  obtain ⟨dn, hdn⟩ : ∃ dn, data.size = dn := ⟨_, rfl⟩
  have HDN := Lib.hid hdn
  rw [hdn] at hd
  clear h ht1 hm
  have kc : ∀ u : World, (convert 9 30 (.string data)).run Try.prog u = .ok (.slice (some ⟨u.heap.size, 0, none⟩) dn (grownCap u dn 0 5)) (Lib.bytesWorld u 5 data) := fun u => by
    have := Lib.run_convert_string_bytes (P := Try.prog) u 9 30 5 data (u := .string) Try.underlying9 Try.underlying30 Try.underlying5
    rw [hdn] at this
    exact this
  have HKC := Lib.hid kc
  clear kc
  go_enter Try.func6, Try.ntmps6
  go_wp2_with fail
  refine (read_nils ⟨#[97]⟩ W).mono ?_
  rintro e w' ⟨rfl, hw⟩
  rw [hw]
  clear hw w'
  go_wp2_with fail
  refine (pending_none W).mono ?_
  rintro e w' ⟨rfl, hw⟩
  rw [hw]
  clear hw w'
  go_wp2_with fail
  refine (crash_none _ _ W).mono ?_
  rintro e w' ⟨rfl, hw⟩
  rw [hw]
  clear hw w'
  go_wp2_with fail
  refine (write_none ⟨#[97]⟩ W).mono ?_
  rintro e u1 ⟨rfl, hb⟩
  have Hu1 := Lib.hid (hb)
  clear hb
  go_wp2_with fail
  refine (sync_none ⟨#[97]⟩ u1).mono ?_
  rintro e u2 ⟨rfl, hb⟩
  have Hu2 := Lib.hid (Hu1.out.trans (hb.mono Hu1.out.size))
  clear hb
  go_wp2_with fail
  refine (rename_none ⟨#[97]⟩ ⟨#[98]⟩ u2).mono ?_
  rintro e u3 ⟨rfl, hb⟩
  have Hu3 := Lib.hid (Hu2.out.trans (hb.mono Hu2.out.size))
  clear hb
  go_wp2_with fail
  refine (remove_none ⟨#[97]⟩ u3).mono ?_
  rintro e u4 ⟨rfl, hb⟩
  have Hu4 := Lib.hid (Hu3.out.trans (hb.mono Hu3.out.size))
  clear hb
  go_wp2_with fail
  refine (syncdir_none u4).mono ?_
  rintro e u5 ⟨rfl, hb⟩
  have Hu5 := Lib.hid (Hu4.out.trans (hb.mono Hu4.out.size))
  clear hb
  go_wp2_with fail
  refine (arm_none 0 25 u5).mono ?_
  rintro e w' ⟨rfl, hw⟩
  rw [hw]
  clear hw w'
  go_wp2_with fail
  refine (down_none u5).mono ?_
  rintro e w' ⟨rfl, hw⟩
  rw [hw]
  clear hw w'
  go_wp2_with fail
  refine (clone_none u5).mono ?_
  rintro e u6 ⟨rfl, hb⟩
  have Hu6 := Lib.hid (Hu5.out.trans (hb.mono Hu5.out.size))
  clear hb
  go_wp2_with fail
  refine (list_none u6).mono ?_
  rintro e w' ⟨rfl, hw⟩
  rw [hw]
  clear hw w'
  go_wp2_with fail
  refine (alive_is u6).mono ?_
  rintro e u7 ⟨rfl, hb⟩
  have Hu7 := Lib.hid (Hu6.out.trans (hb.mono Hu6.out.size))
  clear hb
  go_wp2_with fail
  have cT := tooLarge_is u7 _ l (HA.out.below Hu7.out)
  rw [HT1.out] at cT
  refine cT.mono ?_
  rintro e u8 ⟨rfl, hb⟩
  have Hu8 := Lib.hid (Hu7.out.trans (hb.mono Hu7.out.size))
  clear hb cT
  cases t1 with
  | true =>
    go_wp2_with fail
    go_ret
    exact ⟨rfl, Hu8.out⟩
  | false =>
    by_cases hbig : 1000 < dn
    · have g1 : decide ((1000 : Int) < (dn : Int)) = true := decide_eq_true (by omega)
      clear hbig
      go_wp2_with fail
      go_ret
      exact ⟨rfl, Hu8.out⟩
    have g1 : decide ((1000 : Int) < (dn : Int)) = false := decide_eq_false (by omega)
    have hd2 : dn ≤ 1000 := by omega
    clear hbig
    have HOK := Lib.hid ((HA.out.ok HT1.out).below Hu8.out)
    have HGA : Hid ((AS.acts l AS.new).Gd 5000) := (AS.Gd.new.acts l HOK.out.sm).mono (by have := HOK.out.len; omega)
    go_wp2_with fail
    refine (run_is u8 _ l HOK.out).mono ?_
    rintro e wd ⟨f, o, p, rfl, ht⟩
    have HTD := Lib.hid ht
    obtain ⟨A, hA⟩ : ∃ A, AS.acts l AS.new = A := ⟨_, rfl⟩
    rw [hA] at HTD HGA
    obtain ⟨G, hG⟩ : ∃ G, o.G = G := ⟨_, rfl⟩
    have HG := Lib.hid hG
    rw [hG]
    clear ht hA HOK hG
    go_wp2_with fail
    -- c := f.Clone()
    refine (clone_fs HTD.out.f HGA.out.rk.ok (by decide)).mono ?_
    rintro e w1 ⟨q1, rfl, hC, hb, -⟩
    have HC1 := Lib.hid (And.intro hC hb)
    generalize wd.heap.size + 2 = C at HC1 ⊢
    clear hC hb
    go_wp2_with fail
    -- c.Crash(nil, nil)
    refine (crash_fs0 HC1.out.1 HGA.out.rk.ok (by decide) (.slice none 0 0) (.slice none 0 0) [] [] (Bl.emp _) (Il.emp _) (fun h => absurd h (by decide)) (fun h => absurd h (by decide)) (by decide) (by decide)).mono ?_
    rintro e w2 ⟨rfl, q2, hC, hr, -⟩
    have HC2 := Lib.hid (And.intro hC (HC1.out.2.trans (hr.below (fun k hk => (HC1.out.1.lt k hk).2) HC1.out.2.size)))
    have HGA1 := Lib.hid (HGA.out.crash [] [])
    have ha1 : Hid ((A.crash [] []).armed = false) := rfl
    have hd1 : Hid ((A.crash [] []).down = false) := rfl
    generalize A.crash [] [] = A1 at HC2 HGA1 ha1 hd1
    clear hC hr HC1
    -- b := []byte(data)
    have kc := HKC.out w2
    have HB3 := Lib.hid (Bes.of_conv data HC2.out.1 (Nat.le_refl _) HC2.out.2)
    have HRV : Hid (Rd (Lib.bytesWorld w2 5 data) (.slice (some ⟨w2.heap.size, 0, none⟩) dn (grownCap w2 dn 0 5)) data.data.toList) := by
      have h1 := rd_conv w2 data
      rw [HDN.out] at h1
      exact h1
    rw [HDN.out] at HB3
    have hcap : dn ≤ grownCap w2 dn 0 5 := grownCap_ge _ _ _ _
    go_wp2_with fail
    clear kc HC2
    generalize Lib.bytesWorld w2 5 data = w3 at HB3 HRV ⊢
    generalize grownCap w2 dn 0 5 = bc at hcap HRV ⊢
    generalize w2.heap.size = bg at HB3 HRV ⊢
    -- c.Write("zz", b)
    have hdl : data.data.toList.length ≤ 1000000 := by have h1 : data.data.toList.length = data.size := (by simp); have h2 := HDN.out; omega
    have hop : AS.op (AS.put ⟨#[122, 122]⟩ data.data.toList) (AS.tear ⟨#[122, 122]⟩ data.data.toList) A1 = AS.put ⟨#[122, 122]⟩ data.data.toList A1 := by
      unfold AS.op
      rw [if_neg (by rw [hd1.out]; decide), if_pos ha1.out]
    have cW := write_fs HB3.out.fs HGA1.out.rk.ok (by decide) ⟨#[122, 122]⟩ _ data.data.toList (by decide) hdl HRV.out
    rw [hop] at cW
    have HP2 := Lib.hid (read_put HGA1.out.rk.ok ⟨#[122, 122]⟩ data.data.toList (by rw [Lib.toList_data]; rfl) hd1.out)
    have HOK2 := Lib.hid (HGA1.out.rk.ok.put ⟨#[122, 122]⟩ data.data.toList (by decide) hdl)
    generalize (AS.put ⟨#[122, 122]⟩ data.data.toList A1).2 = A2 at cW HP2 HOK2
    generalize (AS.put ⟨#[122, 122]⟩ data.data.toList A1).1 = rW at cW
    refine cW.mono ?_
    rintro e w4 ⟨rfl, q4, hC, hr, -⟩
    have HB4 := Lib.hid (HB3.out.next hC hr)
    clear cW hop hC hr hdl HRV HB3
    go_wp2_with fail
    go_loopw [118] (fun i wr => ∃ k : Nat, k ≤ dn ∧ i = .int .i64 k ∧ Hid (Bes wd wr wd.heap.size C bg dn A2 q4)) (fun i _ => dn - (intOf i).toNat)
    case atStart => exact ⟨0, Nat.zero_le _, rfl, HB4.out⟩
    case round =>
      obtain ⟨k, hk, rfl, hB⟩ := hrel
      by_cases hlt : k < dn
      · obtain ⟨z, hc, hf⟩ := (hB.out.br (by omega)).at hlt
        have HB := Lib.hid hB.out
        clear hB
        go_wp2_with fail
        go_roundw
        case rel => exact ⟨k + 1, by omega, by go_num, HB.out.set (by omega) _⟩
        case measure => simp [intOf]; omega
      · have gl : decide ((k : Int) < (dn : Int)) = false := decide_eq_false (by omega)
        have HB5 := Lib.hid hB.out
        clear hB HB4
        obtain ⟨i0, hi0⟩ := HP2.out.2.1
        have cR := read_own HB5.out.fs HOK2.out ⟨#[122, 122]⟩ (by decide) HP2.out.1 hi0
        rw [HP2.out.2.2] at cR
        have CR := Lib.hid cR
        clear cR hi0
        go_wp2_with fail
        refine CR.out.mono ?_
        rintro e w6 ⟨vx, rfl, hvx, hbx⟩
        obtain ⟨xg, xad, xcp, rfl, hxc, hxa, hB6⟩ := Bes.of_own HB5.out.fs HB5.out.bB HB5.out.below hbx hvx
        have hxl : data.data.toList.length = dn := by rw [← HDN.out]; simp
        rw [hxl] at hxc hxa hB6 ⊢
        have HB6 := Lib.hid hB6
        have HXA := Lib.hid hxa
        clear hvx hbx hB6 hxa hxl CR HB5
        go_wp2_with fail
        go_loopw [135] (fun i wr => ∃ k : Nat, k ≤ dn ∧ i = .int .i64 k ∧ Hid (Bes wd wr wd.heap.size C xg dn A2 q4)) (fun i _ => dn - (intOf i).toNat)
        case atStart => exact ⟨0, Nat.zero_le _, rfl, HB6.out⟩
        case round =>
          obtain ⟨k2, hk2, rfl, hB⟩ := hrel
          by_cases hlt2 : k2 < dn
          · obtain ⟨z, hc, hf⟩ := (hB.out.br (by omega)).at hlt2
            obtain rfl := HXA.out (by omega)
            have HB := Lib.hid hB.out
            clear hB
            go_wp2_with fail
            go_roundw
            case rel => exact ⟨k2 + 1, by omega, by go_num, HB.out.set (by omega) _⟩
            case measure => simp [intOf]; omega
          · have gl2 : decide ((k2 : Int) < (dn : Int)) = false := decide_eq_false (by omega)
            have HB7 := Lib.hid hB.out
            clear hB HB6
            have cR := read_fs HB7.out.fs HOK2.out ⟨#[122, 122]⟩ (by decide)
            rw [HP2.out.2.2] at cR
            have CR := Lib.hid cR
            clear cR
            go_wp2_with fail
            refine CR.out.mono ?_
            rintro e w8 ⟨vy, rfl, hvy, -, hby⟩
            have hcv := hvy.conv
            rw [bs_is] at hcv
            have HT8 := Lib.hid (HTD.out.under (HB7.out.below.trans (hby.mono HB7.out.below.size)))
            obtain ⟨ya, yn, yc, rfl⟩ := hvy.slice
            have cS := same_is u8 w8 f 5000 o A p ⟨#[122, 122]⟩ HT8.out HGA.out (by decide) (by decide)
            rw [HG.out] at cS
            have CS := Lib.hid cS
            clear hvy hby cS CR HB7
            go_wp2_with fail
            refine CS.out.mono ?_
            rintro e w9 ⟨rfl, hb9⟩
            have HR := Lib.hid (Hu8.out.trans ((HT8.out.under hb9).below.mono Hu8.out.size))
            clear hb9
            go_wp2_with fail
            go_ret
            exact ⟨rfl, HR.out⟩
end Go.Proofs.Ytcobjjaicckgpaa.Vf
namespace Go.Proofs.Ytcobjjaicckgpaa.vfsIsolated
open Go.ChangeShapes Go.WideShapes Go.ChangeAt Go.RowKit
open Go.ChangeMaps (open_string shut_string)
set_option linter.unusedVariables false

theorem own : ownKnob Try.prog.godebug = none := by kernel_rfl
theorem laidOut : laidOutB Try.prog = true := by kernel_rfl
set_option maxRecDepth 100000 in
theorem lifted (os : Os) (started : os.Started) (H : Type) (enc : TypeId × Value → H) :
    ReturnsInHanded {} Try.checked os 6 .any (Rows.vfsIsolatedSpec.pre6 enc Try.prog Try.f6 Rows.vfsIsolatedRow.domain false) (Rows.vfsIsolatedSpec.post enc Try.prog Try.f6 false true false false) := by
  refine returnsInHanded_of_change_sized (C := Try.checked) own started (by kernel_rfl) Try.func6
    (ChangeSpec.witness6 (enc := enc) (C := Try.checked) false ⟨#[], #[.slice none 0 0, .string ⟨#[]⟩], []⟩ 8 (by kernel_rfl) (by kernel_rfl) (by kernel_rfl) (by kernel_rfl)) ?_
  intro W base args ds gs before hval0 hW hcnd hsz _
  have hval : ∀ (j : Nat) t v, Try.f6.params[j]? = some t → args[j]? = some v → Value.okWide Try.prog W .any base t v := hval0
  have hW' := hW
  obtain ⟨p, q, hA0, hV, rfl, hfz, hnd⟩ := hW
  have hA : DataW.TrodAll enc Try.prog W 0 (fun _ => true) true Try.f6.params.toList args.toList ds p := hA0
  rw [Try.params6] at hA hval
  obtain ⟨v0, vs0, d0, ds0, p0, q0, hargs, rfl, rfl, h0, r0⟩ := trodAll_cons hA
  obtain ⟨v1, vs1, d1, ds1, p1, q1, rfl, rfl, rfl, h1, r1⟩ := trodAll_cons r0
  obtain ⟨rfl, rfl, rfl⟩ := trodAll_nil r1
  obtain rfl : args = #[v0, v1] := by cases args; simp_all
  obtain ⟨rfl, rfl⟩ := trodVars_none hV
  have lt0 : ∀ x ∈ p0, x.block < W.heap.size := by obtain ⟨m, hm⟩ := h0; exact DataW.trod_lt m _ _ _ hm
  obtain ⟨l0, b0⟩ := VfO.acts_at (hval 0 38 v0 rfl rfl) h0 (j := 0) (ts := (Try.f6.params.toList ++ Rows.vfsIsolatedSpec.plain.varTypes Try.prog)) rfl rfl hsz
  have lt1 : ∀ x ∈ p1, x.block < W.heap.size := by obtain ⟨m, hm⟩ := h1; exact DataW.trod_lt m _ _ _ hm
  have k1 := h1
  obtain ⟨a1, rfl, rfl, rfl, w1⟩ := open_string Try.underlying9 (hval 1 9 v1 rfl rfl) h1
  have b1 : a1.size ≤ 140737488355328 := by have h1 := sized_string hsz (j := 1) (t := 9) (ts := (Try.f6.params.toList ++ Rows.vfsIsolatedSpec.plain.varTypes Try.prog)) rfl rfl; have h2 : reachBytes = 140737488351232 := (by kernel_rfl); have h3 : a1.data.toList.length = a1.size := (by simp); omega
  clear hA0 hval0
  refine (Vf.isolated_law W v0 l0 a1 b0 b1).mono fun e W' ⟨he, bel⟩ => ?_
  subst he
  exact ⟨_, rfl, _, _, _, [], _, [], hW', trodAll_mk1 (shut_bool Try.underlying4 _), (trodAll_cons_mk (Below.trod laidOut (by kernel_rfl) (of_decide_eq_true (by kernel_rfl)) h0 bel lt0) (trodAll_cons_mk (Below.trod laidOut (by kernel_rfl) (of_decide_eq_true (by kernel_rfl)) k1 bel lt1) trodAll_mk0)), rfl, bel.frame _, fun h => by cases h⟩

theorem over : Rows.vfsIsolatedRow.holds Try.pinned (OpenSpec.ofChange Rows.vfsIsolatedSpec) :=
  OpenClaim.holds_of_wide 6 Try.f6 rfl rfl rfl rfl rfl rfl rfl ⟨rfl, rfl, rfl, rfl, rfl⟩ rfl rfl rfl rfl rfl (by kernel_rfl) Try.func6 (by kernel_rfl)
    (of_decide_eq_true (by kernel_rfl)) (by unfold Func.isWrapper; first | (rw [if_pos (by decide +kernel)]; kernel_rfl) | (rw [if_neg (by decide +kernel)]; exact ⟨rfl, rfl⟩))
    (fun os started H enc _ => lifted os started H enc)

/-- The given statement. -/
theorem proved : Rows.VfsIsolatedSaid := over
#print axioms proved
end Go.Proofs.Ytcobjjaicckgpaa.vfsIsolated
