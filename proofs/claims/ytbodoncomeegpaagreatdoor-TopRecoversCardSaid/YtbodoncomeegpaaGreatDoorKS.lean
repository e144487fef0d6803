/- Parts of this proof, joined: Blz, StW1, StW2, StW3, StW4, StW5, StP, StW6, StW7, StW8, StB, StL1, StL2, StL3, StO, Pairs, StLaid. -/
import Derived.Test.YtbodoncomeegpaaGreatDoorProg
import Derived.Test.YtbodoncomeegpaaGreatDoorShelf
import Derived.WalkKit
import Derived.OwnWalk
import Derived.Below
import Derived.Lib.Hide
import Derived.Lib.Builder
import Derived.Lib.AppendStr
import Derived.Lib.UnsafeStr
import Derived.Laws.Externs
import Derived.StillTailTactics
import Derived.Test.YtbodoncomeegpaaGreatDoorBld
import Derived.Test.YtbodoncomeegpaaGreatDoorKJ
import Derived.Test.YtbodoncomeegpaaGreatDoorKV
import Derived.Laws.Concat
import Derived.Test.YtbodoncomeegpaaGreatDoorMoE6
import Derived.Lib.ItoaLen
import Derived.Test.YtbodoncomeegpaaGreatDoorMoW1
import Derived.ProofKit
import Derived.OpenShut
import Derived.ShutString
import Derived.ChangeOld
import Derived.SizedLaws
import Derived.ChangeSlices
import Derived.Deep.Grids
import Derived.Laws.IdiomArrays
import Derived.Lib.SmallJoins
import Derived.Lib.LaidU8
import Derived.Lib.LaidTab
import Derived.Test.YtbodoncomeegpaaGreatDoorRows
import Derived.Lib.LaidU8T
import Derived.KernelRfl
/- Printed by genbldw.py from XBld.lean: walks of strings.Builder's writers. Walks of strings.Builder's writing methods over this program (the copy check's own panic is refused by the loader here, so the shelf's layings do not fit): a builder that the call has made itself. -/
namespace Go.Proofs.YtbodoncomeegpaaGreatDoor.Blz
open Go Go.RowKit Go.Proofs.YtbodoncomeegpaaGreatDoor

abbrev TB : TypeId := 60
abbrev TU : TypeId := 5

theorem sizeB : (Tryz.prog.info? 60).map (·.size) = some 2 := by kernel_rfl
theorem liesB : liesAt Tryz.prog Tryz.prog.depth 60 (2 / Tryz.prog.cellsOf 60) 0 60 1 = true := by kernel_rfl
theorem infoU : (Tryz.prog.info? 5).map (fun i => (i.zero, i.size, i.bytes)) = some (some (.int .u8 0), 1, 1) := by kernel_rfl

/-! ### what is kept -/
theorem own_below {w w' : World} {base : Nat} {e : TypeId} {v : Value} {n : Nat} {xs : List Value} (h : w.ownsRow base e 1 v n xs) (hb : Below w.heap.size w w') : w'.ownsRow base e 1 v n xs :=
  h.kept (row := none) ⟨hb.os, hb.tape, hb.output, hb.size, fun k hk _ => hb.block k hk⟩ (by
    rcases h.2 with ⟨rfl, _⟩ | ⟨g, cap, cur, rfl, _⟩
    · left; rfl
    · right; simp [Value.ownBlock])
theorem at_below {B b : Nat} {p : Value} {bs : List Value} {w w' : World} (h : Lib.BuilderAt TB TU B b p bs w) (hb : Below w.heap.size w w') : Lib.BuilderAt TB TU B b p bs w' := by
  obtain ⟨h1, v, h2, h3, h4⟩ := h
  exact ⟨h1, v, by rw [hb.block b ((Array.getElem?_eq_some_iff.1 h2).1)]; exact h2, own_below h3 hb, h4⟩
theorem is_below {B b : Nat} {bs : List Value} {w w' : World} (h : Lib.IsBuilder TB TU B b bs w) (hb : Below w.heap.size w w') : Lib.IsBuilder TB TU B b bs w' := by
  rcases h with h | h
  · exact .inl (at_below h hb)
  · exact .inr (at_below h hb)
theorem is_lt {B b : Nat} {bs : List Value} {w : World} (h : Lib.IsBuilder TB TU B b bs w) : B ≤ b ∧ b < w.heap.size := by
  rcases h with h | h
  · exact ⟨h.1, h.lt⟩
  · exact ⟨h.1, h.lt⟩

/-- Blocks other than the writer's, that hold no bytes, are as they were. -/
def Fz (b : Nat) (w w' : World) : Prop := ∀ k cs t fr, w.heap[k]? = some (Obj.cells cs t fr) → k ≠ b → t ≠ TU → w'.heap[k]? = w.heap[k]?
theorem Fz.refl (b : Nat) (w : World) : Fz b w w := fun _ _ _ _ _ _ _ => rfl
theorem Fz.trans {b : Nat} {u v w : World} (h : Fz b u v) (k : Fz b v w) : Fz b u w := fun i cs t fr h1 h2 h3 => by
  have e := h i cs t fr h1 h2 h3
  rw [k i cs t fr (by rw [e]; exact h1) h2 h3, e]
theorem Fz.of_below {b : Nat} {u v : World} (h : Below u.heap.size u v) : Fz b u v := fun i cs t fr h1 _ _ => h.block i (by rcases Nat.lt_or_ge i u.heap.size with g | g; exact g; rw [Array.getElem?_eq_none g] at h1; cases h1)
theorem Fz.set {b : Nat} {u v : World} (h : Fz b u v) (j : Nat) (x : Value) : Fz b u (v.setCell ⟨b, j, none⟩ x) := fun i cs t fr h1 h2 h3 => by
  rw [heap_setCell_other _ _ _ _ h2]
  exact h i cs t fr h1 h2 h3
theorem Fz.grow {B b n : Nat} {u v w : World} {s : Value} {xs : List Value} (h : Fz b u v) (ho : v.ownsRow B TU 1 s n xs) (hg : v.grownBy w s.ownBlock) : Fz b u w := fun i cs t fr h1 h2 h3 => by
  have e := h i cs t fr h1 h2 h3
  have hv : v.heap[i]? = some (Obj.cells cs t fr) := by rw [e]; exact h1
  have hlt : i < v.heap.size := by
    rcases Nat.lt_or_ge i v.heap.size with g | g
    · exact g
    · rw [Array.getElem?_eq_none g] at hv; cases hv
  rw [hg.block i hlt ?_, e]
  intro e2
  rcases ho.2 with ⟨rfl, _⟩ | ⟨g, cap, cur, rfl, _, hc, _⟩
  · cases e2
  · cases e2
    rw [hv] at hc
    cases hc
    exact h3 rfl

/-! ### copyCheck -/
set_option maxRecDepth 100000 in
set_option maxHeartbeats 1000000 in
theorem check_used (b : Nat) (w : World) (h0 : w.cell? ⟨b, 0, none⟩ = some (.pointer (some ⟨b, 0, none⟩))) :
    Calls Tryz.prog 53 #[.pointer (some ⟨b, 0, none⟩)] w fun e w' => e = .returned (.tuple #[]) ∧ w' = w := by
  obtain ⟨j, hj, _⟩ := Option.map_eq_some_iff.1 sizeB
  go_enter Tryz.func53, Tryz.ntmps53
  go_wp2
  rw [Lib.run_neq_ptr_same w _ Tryz.underlying58 hj]
  go_wp2
  go_end0
  exact ⟨rfl, rfl⟩
set_option maxRecDepth 100000 in
set_option maxHeartbeats 1000000 in
theorem check_fresh (b : Nat) (w : World) (h0 : w.cell? ⟨b, 0, none⟩ = some (.pointer none)) (hsh : w.shape? b = some (TB, 2)) (hfz : w.frozen? ⟨b, 0, none⟩ = false) :
    Calls Tryz.prog 53 #[.pointer (some ⟨b, 0, none⟩)] w fun e w' => e = .returned (.tuple #[]) ∧ w' = w.setCell ⟨b, 0, none⟩ (.pointer (some ⟨b, 0, none⟩)) := by
  obtain ⟨j, hj, hjs⟩ := Option.map_eq_some_iff.1 sizeB
  go_enter Tryz.func53, Tryz.ntmps53
  go_wp2
  rw [Lib.run_to_unsafe w ⟨b, 0, none⟩ Tryz.underlying58 Tryz.underlying144 hj (by rw [hjs]; decide) hsh (Nat.zero_lt_succ 1)]
  simp only [Result.andThen]
  rw [Oper.upon_value]
  go_wp2
  rw [run_callFunc_extern Tryz.func87 (by kernel_rfl) (by kernel_rfl) (by kernel_rfl) (e := Extern.AbiNoEscape.same) (by kernel_rfl)]
  rw [Lib.run_noEscape]
  simp only [Result.andThen]
  rw [Oper.upon_value]
  go_wp2
  rw [Lib.run_from_unsafe w ⟨b, 0, none⟩ Tryz.underlying144 Tryz.underlying58 hj hsh liesB]
  simp only [Result.andThen]
  rw [Oper.upon_value]
  go_wp2
  go_end0
  exact ⟨rfl, rfl⟩
theorem check_any (B b : Nat) (bs : List Value) (w : World) (h : Lib.IsBuilder TB TU B b bs w) :
    Calls Tryz.prog 53 #[.pointer (some ⟨b, 0, none⟩)] w fun e w' => e = .returned (.tuple #[]) ∧ (Lib.BuilderAt TB TU B b (.pointer (some ⟨b, 0, none⟩)) bs w' ∧ Below B w w' ∧ Fz b w w') := by
  rcases h with h | h
  · refine (check_fresh b w h.cell0 h.shape h.frozen0).mono ?_
    rintro e w' ⟨rfl, rfl⟩
    exact ⟨rfl, h.used _, (Below.refl B w).setCell (p := ⟨b, 0, none⟩) h.1 _, (Fz.refl b w).set 0 _⟩
  · refine (check_used b w h.cell0).mono ?_
    rintro e w' ⟨rfl, rfl⟩
    exact ⟨rfl, h, Below.refl B _, Fz.refl b _⟩

/-! ### the writers -/
set_option maxRecDepth 100000 in
set_option maxHeartbeats 2000000 in
theorem writeByte (B b : Nat) (bs : List Value) (c : Int) (w : World) (h : Lib.IsBuilder TB TU B b bs w) (hlen : bs.length + 1 ≤ 140737488355328) (hBw : B ≤ w.heap.size) :
    Calls Tryz.prog 135 #[.pointer (some ⟨b, 0, none⟩), .int .u8 c] w fun e w' => e = .returned .nilIface ∧ (Lib.IsBuilder TB TU B b (bs ++ [.int .u8 c]) w' ∧ Below B w w' ∧ Fz b w w') := by
  obtain ⟨i0, hi, hz0, hz1, hz2⟩ := info_parts infoU
  go_enter Tryz.func135, Tryz.ntmps135
  go_wp2_with fail
  refine (check_any B b bs _ h).mono ?_
  rintro e w1 ⟨rfl, h1, hb1, hf1⟩
  obtain ⟨hB, v, hbk, hown, hne⟩ := h1
  have c0 : w1.cell? ⟨b, 0, none⟩ = some (.pointer (some ⟨b, 0, none⟩)) := by rw [Lib.cell_of_heap hbk]; rfl
  have c1 : w1.cell? ⟨b, 1, none⟩ = some v := by rw [Lib.cell_of_heap hbk]; rfl
  have hz := hb1.size
  go_wp2_with (at_builtin; refine wpList_append_own _ rfl _ _ 36 rfl B 5 i0 (.int .u8 0) 1 1 Tryz.underlying36 hi hz0 hz1 hz2 rfl (by decide) _ _ _ rfl (hown.alloc _) ⟨w1.heap.size, 0, none⟩ 1 1 [.int .u8 c] rfl rfl ?c1 ?c2 ?c3 ?c4 ?c5 ?_)
  case c1 =>
    intro j u hj
    match j, hj with
    | 0, hj => simp at hj; subst hj; simp [Addr.add]
  case c2 => intro u hu; simp at hu; subst hu; rfl
  case c3 => unfold maxLen; omega
  case c4 => omega
  case c5 => simp; omega
  intro v' w2 hown' hgrow _
  have hlt : b < w1.heap.size := (Array.getElem?_eq_some_iff.1 hbk).1
  have hb2 : w2.heap[b]? = some (.cells #[.pointer (some ⟨b, 0, none⟩), v] TB (0, 0)) := by
    rw [hgrow.block b (by simp; omega) (fun e => hne e.symm), Lib.alloc_old w1 _ b hlt]
    exact hbk
  have d0 : w2.cell? ⟨b, 0, none⟩ = some (.pointer (some ⟨b, 0, none⟩)) := by rw [Lib.cell_of_heap hb2]; rfl
  have d1 : w2.cell? ⟨b, 1, none⟩ = some v := by rw [Lib.cell_of_heap hb2]; rfl
  have f1 : w2.frozen? ⟨b, 1, none⟩ = false := Lib.frozen_of_heap hb2 1
  obtain ⟨g, cap, rfl⟩ : ∃ g cap, v' = .slice (some ⟨g, 0, none⟩) (bs.length + 1) cap := by
    rcases hown'.2 with ⟨_, h0⟩ | ⟨g, cap, cur, hv, _⟩
    · omega
    · exact ⟨g, cap, hv⟩
  go_wp2
  go_ret
  refine ⟨rfl, .inr ?_, ?_, ?_⟩
  · exact Lib.BuilderAt.put (T := TB) (e := TU) hB hb2 (bs' := bs ++ [.int .u8 c]) (by simpa using hown') (by decide)
  · exact ((hb1.alloc (by omega) _).grown hgrow (by simp; omega) (fun k hk => (hown.lt k hk).1)).setCell (p := ⟨b, 1, none⟩) hB _
  · exact ((hf1.trans (Fz.of_below ((Below.refl w1.heap.size w1).alloc (Nat.le_refl _) _))).grow (hown.alloc _) hgrow).set 1 _
set_option maxRecDepth 100000 in
set_option maxHeartbeats 2000000 in
theorem writeString (B b : Nat) (bs : List Value) (s : ByteArray) (w : World) (h : Lib.IsBuilder TB TU B b bs w) (hlen : bs.length + s.size ≤ 140737488355328) (hBw : B ≤ w.heap.size) :
    Calls Tryz.prog 23 #[.pointer (some ⟨b, 0, none⟩), .string s] w fun e w' => e = .returned (.tuple #[.int .i64 s.size, .nilIface]) ∧ (Lib.IsBuilder TB TU B b (bs ++ Lib.strCells s) w' ∧ Below B w w' ∧ Fz b w w') := by
  obtain ⟨i0, hi, hz0, hz1, hz2⟩ := info_parts infoU
  go_enter Tryz.func23, Tryz.ntmps23
  go_wp2_with fail
  refine (check_any B b bs _ h).mono ?_
  rintro e w1 ⟨rfl, h1, hb1, hf1⟩
  obtain ⟨hB, v, hbk, hown, hne⟩ := h1
  have c0 : w1.cell? ⟨b, 0, none⟩ = some (.pointer (some ⟨b, 0, none⟩)) := by rw [Lib.cell_of_heap hbk]; rfl
  have c1 : w1.cell? ⟨b, 1, none⟩ = some v := by rw [Lib.cell_of_heap hbk]; rfl
  have hz := hb1.size
  go_wp2_with (at_builtin; refine Lib.wpList_append_own_string _ rfl _ _ 36 9 rfl B 5 i0 Tryz.underlying36 Tryz.underlying9 hi hz0 hz1 hz2 _ _ _ rfl hown s rfl ?c3 ?c4 ?c5 ?_)
  case c3 => unfold maxLen; omega
  case c4 => omega
  case c5 => omega
  intro v' w2 hown' hgrow _
  have hlt : b < w1.heap.size := (Array.getElem?_eq_some_iff.1 hbk).1
  have hb2 : w2.heap[b]? = some (.cells #[.pointer (some ⟨b, 0, none⟩), v] TB (0, 0)) := by
    rw [hgrow.block b hlt (fun e => hne e.symm)]
    exact hbk
  have d0 : w2.cell? ⟨b, 0, none⟩ = some (.pointer (some ⟨b, 0, none⟩)) := by rw [Lib.cell_of_heap hb2]; rfl
  have d1 : w2.cell? ⟨b, 1, none⟩ = some v := by rw [Lib.cell_of_heap hb2]; rfl
  have f1 : w2.frozen? ⟨b, 1, none⟩ = false := Lib.frozen_of_heap hb2 1
  obtain ⟨ao, n', cap, rfl⟩ : ∃ ao n' cap, v' = .slice ao n' cap := by
    rcases hown'.2 with ⟨hv, _⟩ | ⟨g, cap, cur, hv, _⟩
    · exact ⟨_, _, _, hv⟩
    · exact ⟨_, _, _, hv⟩
  go_wp2
  go_ret2
  refine ⟨rfl, .inr ?_, ?_, ?_⟩
  · exact Lib.BuilderAt.put (T := TB) (e := TU) hB hb2 (bs' := bs ++ Lib.strCells s) (by simpa [Lib.strCells_length] using hown') (by decide)
  · exact (hb1.grown hgrow (by omega) (fun k hk => (hown.lt k hk).1)).setCell (p := ⟨b, 1, none⟩) hB _
  · exact (hf1.grow hown hgrow).set 1 _
end Go.Proofs.YtbodoncomeegpaaGreatDoor.Blz
/- strings.Trim at a name of one letter, and the store's IsName, walked. Printed by genstw1.py. -/
namespace Go.Proofs.YtbodoncomeegpaaGreatDoor.Ms
open Go Go.RowKit Go.Proofs.YtbodoncomeegpaaGreatDoor Go.Proofs.YtbodoncomeegpaaGreatDoor.Rw Go.Proofs.YtbodoncomeegpaaGreatDoor.Vf Go.Proofs.YtbodoncomeegpaaGreatDoor.Mw Go.Proofs.YtbodoncomeegpaaGreatDoor.Me
set_option linter.unusedVariables false

set_option maxRecDepth 100000
set_option maxHeartbeats 16000000
def strSize : Value → Nat
  | .string s => s.size
  | _ => 0
def letters : ByteArray := ⟨#[97, 98, 99, 100, 101, 102, 103, 104, 105, 106, 107, 108, 109, 110, 111, 112, 113, 114, 115, 116, 117, 118, 119, 120, 121, 122, 48, 49, 50, 51, 52, 53, 54, 55, 56, 57, 45, 95]⟩
theorem letters_ascii : ∀ (j : Nat) b, letters.data.toList[j]? = some b → b.toNat < 128 := by
  have h : ∀ b ∈ letters.data.toList, b.toNat < 128 := by decide +kernel
  exact fun j b e => h b (List.mem_of_getElem? e)
theorem trimR_x (b : Nat) (w : World) (hc : w.cell? ⟨b, 120, none⟩ = some (.bool true)) :
    Calls Tryz.prog 65 #[.string ⟨#[120]⟩, .pointer (some ⟨b, 0, none⟩)] w fun e w' => e = .returned (.string ⟨#[]⟩) ∧ w' = w := by
  have CC := Lib.hid (Tryz.asciiSet_contains b 120 true w hc)
  clear hc
  go_enter Tryz.func65, Tryz.ntmps65
  go_wp2_with fail
  go_loopw [0] (fun x wr => (x = .string ⟨#[120]⟩ ∨ x = .string ⟨#[]⟩) ∧ wr = w) (fun x _ => strSize x)
  case atStart => exact ⟨.inl rfl, rfl⟩
  case round =>
    obtain ⟨rfl | rfl, rfl⟩ := hrel
    · go_wp2_with fail
      refine CC.out.mono ?_
      rintro e w1 ⟨rfl, rfl⟩
      go_wp2_with fail
      go_roundw
      case rel => exact ⟨.inr rfl, trivial⟩
      case measure => decide
    · go_wp2_with fail
      go_ret
      exact ⟨rfl, rfl⟩
theorem trimR_a (b : Nat) (w : World) (hc : w.cell? ⟨b, 97, none⟩ = some (.bool true)) :
    Calls Tryz.prog 65 #[.string ⟨#[97]⟩, .pointer (some ⟨b, 0, none⟩)] w fun e w' => e = .returned (.string ⟨#[]⟩) ∧ w' = w := by
  have CC := Lib.hid (Tryz.asciiSet_contains b 97 true w hc)
  clear hc
  go_enter Tryz.func65, Tryz.ntmps65
  go_wp2_with fail
  go_loopw [0] (fun x wr => (x = .string ⟨#[97]⟩ ∨ x = .string ⟨#[]⟩) ∧ wr = w) (fun x _ => strSize x)
  case atStart => exact ⟨.inl rfl, rfl⟩
  case round =>
    obtain ⟨rfl | rfl, rfl⟩ := hrel
    · go_wp2_with fail
      refine CC.out.mono ?_
      rintro e w1 ⟨rfl, rfl⟩
      go_wp2_with fail
      go_roundw
      case rel => exact ⟨.inr rfl, trivial⟩
      case measure => decide
    · go_wp2_with fail
      go_ret
      exact ⟨rfl, rfl⟩
theorem trimL_none (b : Nat) (w : World) :
    Calls Tryz.prog 64 #[.string ⟨#[]⟩, .pointer (some ⟨b, 0, none⟩)] w fun e w' => e = .returned (.string ⟨#[]⟩) ∧ w' = w := by
  go_enter Tryz.func64, Tryz.ntmps64
  go_wp2_with fail
  go_loopw [0] (fun x wr => x = .string ⟨#[]⟩ ∧ wr = w) (fun x _ => strSize x)
  case atStart => exact ⟨rfl, rfl⟩
  case round =>
    obtain ⟨rfl, rfl⟩ := hrel
    go_wp2_with fail
    go_ret
    exact ⟨rfl, rfl⟩
theorem hv118 : ∀ w, (zeroValue 118).run Tryz.prog w = .ok (.agg (Array.replicate 256 (.bool false))) w := fun w => by kernel_rfl
theorem trim_x (w : World) :
    Calls Tryz.prog 40 #[.string ⟨#[120]⟩, .string letters] w fun e w' => e = .returned (.string ⟨#[]⟩) ∧ Below w.heap.size w w' := by
  have CM := Lib.hid (Tryz.strings_makeASCIISet hv118 letters w (by decide) letters_ascii)
  unfold letters at *
  go_enter Tryz.func40, Tryz.ntmps40
  obtain ⟨A, hA⟩ : ∃ A, Lib.setCells [97, 98, 99, 100, 101, 102, 103, 104, 105, 106, 107, 108, 109, 110, 111, 112, 113, 114, 115, 116, 117, 118, 119, 120, 121, 122, 48, 49, 50, 51, 52, 53, 54, 55, 56, 57, 45, 95] = A := ⟨_, rfl⟩
  have HA := Lib.hid (show A.size = 256 ∧ A[120]? = some (.bool true) ∧ A.all (·.oneCell') = true from by rw [← hA]; exact ⟨by decide +kernel, by rfl, by decide +kernel⟩)
  have hz := hv118
  go_wp2_with fail
  refine CM.out.mono ?_
  rintro e w1 ⟨rfl, hw1⟩
  have HB1 := Lib.hid (show Below w.heap.size w w1 from by rw [hw1]; exact (Below.refl _ _).alloc (Nat.le_refl _) _)
  simp only [hA]
  clear hw1 CM hA
  have HN := Lib.hid (heap_alloc_new w1 (.cells (Array.replicate 256 (.bool false)) 118))
  go_wp2_with (refine wpList_store_row rfl 118 _ _ rfl w1.heap.size A rfl rfl 118 (Array.replicate 256 (.bool false)) HN.out (by rw [HA.out.1]; kernel_rfl) (by rw [HA.out.1, Array.size_replicate]) HA.out.2.2 ?_)
  have hc := (cell_setRow_same _ w1.heap.size 120 _ A _ _ HN.out).trans HA.out.2.1
  have HB2 := Lib.hid (Me.below_setRow (below_seq HB1.out ((Below.refl w1.heap.size w1).alloc (Nat.le_refl _) (.cells (Array.replicate 256 (.bool false)) 118))) HB1.out.size A)
  have CR := Lib.hid (trimR_x _ _ hc)
  clear hc HN HA
  generalize (w1.alloc (.cells (Array.replicate 256 (.bool false)) 118)).setRow w1.heap.size A = w2 at HB2 CR ⊢
  refine CR.out.mono ?_
  rintro e w3 ⟨rfl, rfl⟩
  go_wp2_with fail
  refine (trimL_none _ _).mono ?_
  rintro e w4 ⟨rfl, rfl⟩
  go_wp2_with fail
  go_ret
  exact ⟨rfl, HB2.out⟩
theorem isname_x (w : World) :
    Calls Tryz.prog 17 #[.string ⟨#[120]⟩] w fun e w' => e = .returned (.bool true) ∧ Below w.heap.size w w' := by
  have CT := Lib.hid (trim_x w)
  unfold letters at CT
  have ne : (⟨#[120]⟩ : ByteArray).size = 1 := rfl
  go_enter Tryz.func17, Tryz.ntmps17
  go_wp2_with fail
  refine CT.out.mono ?_
  rintro e w1 ⟨rfl, hb1⟩
  have HB1 := Lib.hid hb1
  clear hb1 CT
  go_wp2_with fail
  go_ret
  exact ⟨rfl, HB1.out⟩
theorem trim_a (w : World) :
    Calls Tryz.prog 40 #[.string ⟨#[97]⟩, .string letters] w fun e w' => e = .returned (.string ⟨#[]⟩) ∧ Below w.heap.size w w' := by
  have CM := Lib.hid (Tryz.strings_makeASCIISet hv118 letters w (by decide) letters_ascii)
  unfold letters at *
  go_enter Tryz.func40, Tryz.ntmps40
  obtain ⟨A, hA⟩ : ∃ A, Lib.setCells [97, 98, 99, 100, 101, 102, 103, 104, 105, 106, 107, 108, 109, 110, 111, 112, 113, 114, 115, 116, 117, 118, 119, 120, 121, 122, 48, 49, 50, 51, 52, 53, 54, 55, 56, 57, 45, 95] = A := ⟨_, rfl⟩
  have HA := Lib.hid (show A.size = 256 ∧ A[97]? = some (.bool true) ∧ A.all (·.oneCell') = true from by rw [← hA]; exact ⟨by decide +kernel, by rfl, by decide +kernel⟩)
  have hz := hv118
  go_wp2_with fail
  refine CM.out.mono ?_
  rintro e w1 ⟨rfl, hw1⟩
  have HB1 := Lib.hid (show Below w.heap.size w w1 from by rw [hw1]; exact (Below.refl _ _).alloc (Nat.le_refl _) _)
  simp only [hA]
  clear hw1 CM hA
  have HN := Lib.hid (heap_alloc_new w1 (.cells (Array.replicate 256 (.bool false)) 118))
  go_wp2_with (refine wpList_store_row rfl 118 _ _ rfl w1.heap.size A rfl rfl 118 (Array.replicate 256 (.bool false)) HN.out (by rw [HA.out.1]; kernel_rfl) (by rw [HA.out.1, Array.size_replicate]) HA.out.2.2 ?_)
  have hc := (cell_setRow_same _ w1.heap.size 97 _ A _ _ HN.out).trans HA.out.2.1
  have HB2 := Lib.hid (Me.below_setRow (below_seq HB1.out ((Below.refl w1.heap.size w1).alloc (Nat.le_refl _) (.cells (Array.replicate 256 (.bool false)) 118))) HB1.out.size A)
  have CR := Lib.hid (trimR_a _ _ hc)
  clear hc HN HA
  generalize (w1.alloc (.cells (Array.replicate 256 (.bool false)) 118)).setRow w1.heap.size A = w2 at HB2 CR ⊢
  refine CR.out.mono ?_
  rintro e w3 ⟨rfl, rfl⟩
  go_wp2_with fail
  refine (trimL_none _ _).mono ?_
  rintro e w4 ⟨rfl, rfl⟩
  go_wp2_with fail
  go_ret
  exact ⟨rfl, HB2.out⟩
theorem isname_a (w : World) :
    Calls Tryz.prog 17 #[.string ⟨#[97]⟩] w fun e w' => e = .returned (.bool true) ∧ Below w.heap.size w w' := by
  have CT := Lib.hid (trim_a w)
  unfold letters at CT
  have ne : (⟨#[97]⟩ : ByteArray).size = 1 := rfl
  go_enter Tryz.func17, Tryz.ntmps17
  go_wp2_with fail
  refine CT.out.mono ?_
  rintro e w1 ⟨rfl, hb1⟩
  have HB1 := Lib.hid hb1
  clear hb1 CT
  go_wp2_with fail
  go_ret
  exact ⟨rfl, HB1.out⟩
end Go.Proofs.YtbodoncomeegpaaGreatDoor.Ms
/- The store's swap, walked: the closures, steps. -/
namespace Go.Proofs.YtbodoncomeegpaaGreatDoor.Ms
open Go Go.RowKit Go.Proofs.YtbodoncomeegpaaGreatDoor Go.Proofs.YtbodoncomeegpaaGreatDoor.Rw Go.Proofs.YtbodoncomeegpaaGreatDoor.Vf
set_option linter.unusedVariables false

set_option maxRecDepth 100000
set_option maxHeartbeats 16000000
/-- From W0 on, only the file system (p0, and what it laid since) has turned; it is now a. -/
def Now (W0 w : World) (B F : Nat) (Z p0 : Nat → Prop) (a : AS) : Prop := ∃ p', Fs w B F Z a p' ∧ Fr W0 w p0 ∧ ∀ k, p' k → p0 k ∨ W0.heap.size ≤ k
section
variable {W0 w w' : World} {B F : Nat} {Z p0 p : Nat → Prop} {a a' : AS}
theorem Now.refl (h : Fs w B F Z a p) : Now w w B F Z p a := ⟨p, h, Fr.of_below (Below.refl _ _) _, fun k hk => .inl hk⟩
theorem Now.below (h : Now W0 w B F Z p0 a) (hb : Below w.heap.size w w') : Now W0 w' B F Z p0 a := by
  obtain ⟨p', h1, h2, h3⟩ := h
  exact ⟨p', h1.below hb, h2.trans (Fr.of_below hb _) (fun _ _ e => e), h3⟩
theorem Now.call (h : Now W0 w B F Z p0 a) {f : FuncId} {args : Array Value} {r : Value} (c : ∀ p', Fs w B F Z a p' → Calls Tryz.prog f args w (Aft w B F Z p' r a')) : Calls Tryz.prog f args w fun e w' => e = .returned r ∧ Now W0 w' B F Z p0 a' := by
  obtain ⟨p', h1, h2, h3⟩ := h
  refine (c p' h1).mono ?_
  rintro e w' ⟨rfl, q, h4, h5, h6⟩
  refine ⟨rfl, q, h4, h2.trans h5 (fun k hk hq => (h3 k hq).elim id (fun g => absurd hk (by omega))), fun k hk => ?_⟩
  rcases h6 k hk with g | g
  · exact h3 k g
  · exact .inr (Nat.le_trans h2.size g)
theorem Now.cell (h : Now W0 w B F Z p0 a) {adr : Addr} {v : Value} (hc : W0.cell? adr = some v) (hn : ¬ p0 adr.block) : w.cell? adr = some v := by
  obtain ⟨p', h1, h2, h3⟩ := h
  have hlt := Rw.lt_of_cell hc
  unfold World.cell? at hc ⊢
  rw [h2.block _ hlt hn]
  exact hc
end
def fnW (d t x : Nat) : Value := .func (.func 80) #[] #[.pointer (some ⟨d, 0, none⟩), .pointer (some ⟨t, 0, none⟩), .pointer (some ⟨x, 0, none⟩)]
def fnS (d t : Nat) : Value := .func (.func 81) #[] #[.pointer (some ⟨d, 0, none⟩), .pointer (some ⟨t, 0, none⟩)]
def fnR (d t m : Nat) : Value := .func (.func 83) #[] #[.pointer (some ⟨d, 0, none⟩), .pointer (some ⟨t, 0, none⟩), .pointer (some ⟨m, 0, none⟩)]
def fnD (F : Nat) : Value := .func (.func 31) #[.pointer (some ⟨F, 0, none⟩)] #[]
def sJson : ByteArray := ⟨#[46, 106, 115, 111, 110]⟩
def sTmp : ByteArray := ⟨#[46, 116, 109, 112]⟩
theorem size_json (s : ByteArray) : (s ++ sJson).size = s.size + 5 := by rw [ByteArray.size_append]; rfl
theorem size_tmp (s : ByteArray) : (s ++ sTmp).size = s.size + 4 := by rw [ByteArray.size_append]; rfl
section
variable {W0 w : World} {B F n d t x m : Nat} {Z p0 : Nat → Prop} {a : AS} {tn data nm : ByteArray}
theorem clW (h : Now W0 w B F Z p0 a) (q : Qs a n) (hn : n ≤ 300000) (ht : tn.toList.isEmpty = false) (ht2 : tn.size ≤ 1000000) (hd : data.size ≤ 1000000) (hf : findS a.names tn.data.toList = none)
    (c0 : w.cell? ⟨d, 0, none⟩ = some (.pointer (some ⟨F, 0, none⟩))) (c1 : w.cell? ⟨t, 0, none⟩ = some (.string tn)) (c2 : w.cell? ⟨x, 0, none⟩ = some (.string data)) :
    Calls Tryz.prog 80 #[.pointer (some ⟨d, 0, none⟩), .pointer (some ⟨t, 0, none⟩), .pointer (some ⟨x, 0, none⟩)] w fun e w' => e = .returned (.int .i64 0) ∧ Now W0 w' B F Z p0 (a.wrote tn data.data.toList) := by
  obtain ⟨cap, w1, hcv, hrd, hb1⟩ := conv_str w data
  have e0 : AS.op (AS.put tn data.data.toList) (AS.tear tn data.data.toList) a = (0, a.wrote tn data.data.toList) := (op_rest q.dn q.ar _ _).trans (swap_put q ht hf)
  have CW := (h.below hb1).call (r := .int .i64 0) (a' := a.wrote tn data.data.toList) (f := 10) (args := #[.pointer (some ⟨F, 0, none⟩), .string tn, .slice (some ⟨w.heap.size, 0, none⟩) data.size cap]) (fun p' hp => by
    have := write_fs hp q.ok (by omega) tn _ data.data.toList ht2 (by simpa using hd) hrd
    rw [e0] at this
    exact this)
  have HC := Lib.hid CW
  clear CW hrd hb1 e0 h hf q
  go_enter Tryz.func80, Tryz.ntmps80
  go_wp2_with fail
  refine HC.out.mono ?_
  rintro e w2 ⟨rfl, h2⟩
  have H2 := Lib.hid h2
  clear h2 HC
  go_wp2_with fail
  go_ret
  exact ⟨rfl, H2.out⟩
theorem clS {a1 a2 : AS} (h : Now W0 w B F Z p0 a1) (ok : a1.Ok n) (hn : n ≤ 300000) (ht2 : tn.size ≤ 1000000) (e0 : AS.op (AS.sync tn) id a1 = (0, a2))
    (c0 : w.cell? ⟨d, 0, none⟩ = some (.pointer (some ⟨F, 0, none⟩))) (c1 : w.cell? ⟨t, 0, none⟩ = some (.string tn)) :
    Calls Tryz.prog 81 #[.pointer (some ⟨d, 0, none⟩), .pointer (some ⟨t, 0, none⟩)] w fun e w' => e = .returned (.int .i64 0) ∧ Now W0 w' B F Z p0 a2 := by
  have CW := h.call (r := .int .i64 0) (a' := a2) (f := 82) (args := #[.pointer (some ⟨F, 0, none⟩), .string tn]) (fun p' hp => by
    have := sync_fs hp ok (by omega) tn ht2
    rw [e0] at this
    exact this)
  have HC := Lib.hid CW
  clear CW e0 h ok
  go_enter Tryz.func81, Tryz.ntmps81
  go_wp2_with fail
  refine HC.out.mono ?_
  rintro e w2 ⟨rfl, h2⟩
  have H2 := Lib.hid h2
  clear h2 HC
  go_wp2_with fail
  go_ret
  exact ⟨rfl, H2.out⟩
theorem clR {a1 a2 : AS} (h : Now W0 w B F Z p0 a1) (ok : a1.Ok n) (hn : n ≤ 300000) (ht2 : tn.size ≤ 1000000) (hx2 : (nm ++ sJson).size ≤ 1000000) (e0 : AS.op (AS.rename tn (nm ++ sJson)) id a1 = (0, a2))
    (c0 : w.cell? ⟨d, 0, none⟩ = some (.pointer (some ⟨F, 0, none⟩))) (c1 : w.cell? ⟨t, 0, none⟩ = some (.string tn)) (c2 : w.cell? ⟨m, 0, none⟩ = some (.string nm)) :
    Calls Tryz.prog 83 #[.pointer (some ⟨d, 0, none⟩), .pointer (some ⟨t, 0, none⟩), .pointer (some ⟨m, 0, none⟩)] w fun e w' => e = .returned (.int .i64 0) ∧ Now W0 w' B F Z p0 a2 := by
  have CW := h.call (r := .int .i64 0) (a' := a2) (f := 84) (args := #[.pointer (some ⟨F, 0, none⟩), .string tn, .string (nm ++ sJson)]) (fun p' hp => by
    have := rename_fs hp ok (by omega) tn (nm ++ sJson) ht2 hx2
    rw [e0] at this
    exact this)
  have HC := Lib.hid CW
  clear CW e0 h ok
  have hsz : nm.size + 5 ≤ 9223372036854775807 := by
    have h1 := size_json nm
    omega
  have hadd := fun w => run_string_add_sum (P := Tryz.prog) w nm ⟨#[46, 106, 115, 111, 110]⟩ hsz
  unfold sJson at HC
  go_enter Tryz.func83, Tryz.ntmps83
  go_wp2_with fail
  refine HC.out.mono ?_
  rintro e w2 ⟨rfl, h2⟩
  have H2 := Lib.hid h2
  clear h2 HC
  go_wp2_with fail
  go_ret
  exact ⟨rfl, H2.out⟩
theorem clD {a1 a2 : AS} (h : Now W0 w B F Z p0 a1) (ok : a1.Ok n) (hn : n ≤ 300000) (e0 : AS.op AS.syncdir id a1 = (0, a2)) :
    Calls Tryz.prog 31 #[.pointer (some ⟨F, 0, none⟩)] w fun e w' => e = .returned (.int .i64 0) ∧ Now W0 w' B F Z p0 a2 :=
  h.call (fun p' hp => by
    have := syncdir_fs hp ok (by omega)
    rw [e0] at this
    exact this)
end
end Go.Proofs.YtbodoncomeegpaaGreatDoor.Ms
/- The store's steps over swap's closures, and swap, walked. -/
namespace Go.Proofs.YtbodoncomeegpaaGreatDoor.Ms
open Go Go.RowKit Go.Proofs.YtbodoncomeegpaaGreatDoor Go.Proofs.YtbodoncomeegpaaGreatDoor.Rw Go.Proofs.YtbodoncomeegpaaGreatDoor.Vf
set_option linter.unusedVariables false

set_option maxRecDepth 100000
set_option maxHeartbeats 16000000
section
variable {W0 : World} {B F n d t x m R : Nat} {Z p0 : Nat → Prop} {a : AS} {tn data nm : ByteArray}
/-- The states of swap, step by step. -/
def stepA (a : AS) (tn xn : ByteArray) (l : List UInt8) : Nat → AS
  | 0 => a
  | 1 => a.wrote tn l
  | 2 => a.wrote2 tn l
  | 3 => a.wrote3 tn xn l
  | _ => a.swapped xn l
theorem steps_swap (h : Fs W0 B F Z a p0) (q : Qs a n) (hn : n ≤ 200000) (ht : tn.toList.isEmpty = false) (hx : (nm ++ sJson).toList.isEmpty = false) (htx : (tn.toList == (nm ++ sJson).toList) = false) (ht2 : tn.size ≤ 1000000) (hx2 : (nm ++ sJson).size ≤ 1000000) (hd : data.size ≤ 1000000) (hf : findS a.names tn.data.toList = none)
    (c0 : W0.cell? ⟨d, 0, none⟩ = some (.pointer (some ⟨F, 0, none⟩))) (c1 : W0.cell? ⟨t, 0, none⟩ = some (.string tn)) (c2 : W0.cell? ⟨x, 0, none⟩ = some (.string data)) (c3 : W0.cell? ⟨m, 0, none⟩ = some (.string nm))
    (r0 : W0.cell? ⟨R, 0, none⟩ = some (fnW d t x)) (r1 : W0.cell? ⟨R, 1, none⟩ = some (fnS d t)) (r2 : W0.cell? ⟨R, 2, none⟩ = some (fnR d t m)) (r3 : W0.cell? ⟨R, 3, none⟩ = some (fnD F))
    (nd : ¬ p0 d) (nt : ¬ p0 t) (nx : ¬ p0 x) (nm' : ¬ p0 m) (nR : ¬ p0 R) :
    Calls Tryz.prog 48 #[.slice (some ⟨R, 0, none⟩) 4 4] W0 fun e w' => e = .returned (.tuple #[.int .i64 4, .int .i64 0]) ∧ Now W0 w' B F Z p0 (a.swapped (nm ++ sJson) data.data.toList) := by
  have e1 : AS.op (AS.sync tn) id (a.wrote tn data.data.toList) = (0, a.wrote2 tn data.data.toList) := (op_rest (a := a.wrote tn data.data.toList) q.dn q.ar _ _).trans (swap_sync q)
  have e2 : AS.op (AS.rename tn (nm ++ sJson)) id (a.wrote2 tn data.data.toList) = (0, a.wrote3 tn (nm ++ sJson) data.data.toList) := (op_rest (a := a.wrote2 tn data.data.toList) q.dn q.ar _ _).trans (swap_rename q ht hx htx hf)
  have e3 : AS.op AS.syncdir id (a.wrote3 tn (nm ++ sJson) data.data.toList) = (0, a.swapped (nm ++ sJson) data.data.toList) := (op_rest (a := a.wrote3 tn (nm ++ sJson) data.data.toList) q.dn q.ar _ _).trans swap_dir
  have o1 : (a.wrote tn data.data.toList).Ok (n + 1) := by
    have := q.ok.put tn data.data.toList ht2 (by simpa using hd)
    rw [swap_put q ht hf] at this
    exact this
  have o2 : (a.wrote2 tn data.data.toList).Ok (n + 1 + 1) := by
    have := o1.opsync tn
    rw [e1] at this
    exact this
  have o3 : (a.wrote3 tn (nm ++ sJson) data.data.toList).Ok (n + 1 + 1 + 1) := by
    have := o2.oprename tn (nm ++ sJson) ht2 hx2
    rw [e2] at this
    exact this
  have C0 := Lib.hid (fun w (hw : Now W0 w B F Z p0 a) => clW hw q (by omega) ht ht2 hd hf (hw.cell c0 nd) (hw.cell c1 nt) (hw.cell c2 nx))
  have C1 := Lib.hid (fun w (hw : Now W0 w B F Z p0 (a.wrote tn data.data.toList)) => clS hw o1 (by omega) ht2 e1 (hw.cell c0 nd) (hw.cell c1 nt))
  have C2 := Lib.hid (fun w (hw : Now W0 w B F Z p0 (a.wrote2 tn data.data.toList)) => clR hw o2 (by omega) ht2 hx2 e2 (hw.cell c0 nd) (hw.cell c1 nt) (hw.cell c3 nm'))
  have C3 := Lib.hid (fun w (hw : Now W0 w B F Z p0 (a.wrote3 tn (nm ++ sJson) data.data.toList)) => clD hw o3 (by omega) e3)
  have HR := Lib.hid (fun w (b : AS) (hw : Now W0 w B F Z p0 b) => And.intro (hw.cell r0 nR) (And.intro (hw.cell r1 nR) (And.intro (hw.cell r2 nR) (hw.cell r3 nR))))
  have H0 := Lib.hid (Now.refl h)
  clear h q e1 e2 e3 o1 o2 o3 c0 c1 c2 c3 r0 r1 r2 r3 hf ht hx htx ht2 hx2 hd nd nt nx nm' nR
  generalize data.data.toList = l at C0 C1 C2 C3 ⊢
  generalize nm ++ sJson = xn at C1 C2 C3 ⊢
  go_enter Tryz.func48, Tryz.ntmps48
  go_wp2_with fail
  go_loopw [9] (fun v wr => ∃ k : Nat, k ≤ 4 ∧ v = .int .i64 k ∧ Hid (Now W0 wr B F Z p0 (stepA a tn xn l k))) (fun v _ => 4 - (intOf v).toNat)
  case atStart => exact ⟨0, by omega, rfl, H0⟩
  case round =>
    obtain ⟨k, hk, rfl, hw⟩ := hrel
    obtain ⟨q0, q1, q2, q3⟩ := HR.out wr _ hw.out
    unfold fnW at q0
    unfold fnS at q1
    unfold fnR at q2
    unfold fnD at q3
    obtain rfl | rfl | rfl | rfl | rfl : k = 0 ∨ k = 1 ∨ k = 2 ∨ k = 3 ∨ k = 4 := by omega
    · have CC := Lib.hid (C0.out wr hw.out)
      go_wp2_with fail
      refine CC.out.mono ?_
      rintro e w2 ⟨rfl, h2⟩
      have H2 := Lib.hid h2
      clear h2 CC q0 q1 q2 q3
      go_wp2_with fail
      go_roundw
      case rel => exact ⟨1, by omega, by go_num, H2⟩
      case measure => simp [intOf]
    · have CC := Lib.hid (C1.out wr hw.out)
      go_wp2_with fail
      refine CC.out.mono ?_
      rintro e w2 ⟨rfl, h2⟩
      have H2 := Lib.hid h2
      clear h2 CC q0 q1 q2 q3
      go_wp2_with fail
      go_roundw
      case rel => exact ⟨2, by omega, by go_num, H2⟩
      case measure => simp [intOf]
    · have CC := Lib.hid (C2.out wr hw.out)
      go_wp2_with fail
      refine CC.out.mono ?_
      rintro e w2 ⟨rfl, h2⟩
      have H2 := Lib.hid h2
      clear h2 CC q0 q1 q2 q3
      go_wp2_with fail
      go_roundw
      case rel => exact ⟨3, by omega, by go_num, H2⟩
      case measure => simp [intOf]
    · have CC := Lib.hid (C3.out wr hw.out)
      go_wp2_with fail
      refine CC.out.mono ?_
      rintro e w2 ⟨rfl, h2⟩
      have H2 := Lib.hid h2
      clear h2 CC q0 q1 q2 q3
      go_wp2_with fail
      go_roundw
      case rel => exact ⟨4, by omega, by go_num, H2⟩
      case measure => simp [intOf]
    · go_wp2_with fail
      go_ret2
      exact ⟨rfl, hw.out⟩
end
end Go.Proofs.YtbodoncomeegpaaGreatDoor.Ms
/- The store's swap and replace, walked. -/
namespace Go.Proofs.YtbodoncomeegpaaGreatDoor.Ms
open Go Go.RowKit Go.Proofs.YtbodoncomeegpaaGreatDoor Go.Proofs.YtbodoncomeegpaaGreatDoor.Rw Go.Proofs.YtbodoncomeegpaaGreatDoor.Vf
set_option linter.unusedVariables false

set_option maxRecDepth 100000
set_option maxHeartbeats 16000000
theorem ne_of_size {s : ByteArray} (h : 0 < s.size) : s.toList.isEmpty = false := by
  rw [ByteArray.toList_eq]
  have : s.data.toList.length = s.size := by simp
  cases e : s.data.toList with
  | nil => rw [e] at this; simp at this; omega
  | cons x r => rfl
theorem ne_tmp (s : ByteArray) : (s ++ sTmp).toList.isEmpty = false := ne_of_size (by rw [size_tmp]; omega)
theorem ne_json (s : ByteArray) : (s ++ sJson).toList.isEmpty = false := ne_of_size (by rw [size_json]; omega)
theorem tmp_ne_json (s : ByteArray) : ((s ++ sTmp).toList == (s ++ sJson).toList) = false := by
  rw [ByteArray.toList_eq, ByteArray.toList_eq]
  have h1 : (s ++ sTmp).data.toList.length = s.size + 4 := by rw [← size_tmp]; simp
  have h2 : (s ++ sJson).data.toList.length = s.size + 5 := by rw [← size_json]; simp
  rw [beq_eq_false_iff_ne]
  intro e
  rw [e] at h1
  omega
theorem heap5 (W : World) (o0 o1 o2 o3 o4 : Obj) : (((((W.alloc o0).alloc o1).alloc o2).alloc o3).alloc o4).heap[W.heap.size]? = some o0 ∧ (((((W.alloc o0).alloc o1).alloc o2).alloc o3).alloc o4).heap[W.heap.size + 1]? = some o1 ∧ (((((W.alloc o0).alloc o1).alloc o2).alloc o3).alloc o4).heap[W.heap.size + 1 + 1]? = some o2 ∧ (((((W.alloc o0).alloc o1).alloc o2).alloc o3).alloc o4).heap[W.heap.size + 1 + 1 + 1]? = some o3 ∧ (((((W.alloc o0).alloc o1).alloc o2).alloc o3).alloc o4).heap[W.heap.size + 1 + 1 + 1 + 1]? = some o4 := by
  have e : (((((W.alloc o0).alloc o1).alloc o2).alloc o3).alloc o4).heap = ((((W.heap.push o0).push o1).push o2).push o3).push o4 := rfl
  rw [e]
  refine ⟨?_, ?_, ?_, ?_, ?_⟩
  all_goals
    simp only [Array.getElem?_push, Array.size_push]
    repeat (first | rw [if_pos (by omega)] | rw [if_neg (by omega)])
    try simp
theorem below5 (W : World) (o0 o1 o2 o3 o4 : Obj) : Below W.heap.size W (((((W.alloc o0).alloc o1).alloc o2).alloc o3).alloc o4) := by
  have h0 := (Below.refl W.heap.size W).alloc (Nat.le_refl _) o0
  have h1 := h0.alloc h0.size o1
  have h2 := h1.alloc h1.size o2
  have h3 := h2.alloc h2.size o3
  exact h3.alloc h3.size o4
theorem Now.of_below {W V w' : World} {B F : Nat} {Z p : Nat → Prop} {a : AS} (hb : Below W.heap.size W V) (h : Now V w' B F Z p a) : Now W w' B F Z p a := by
  obtain ⟨p', h1, h2, h3⟩ := h
  exact ⟨p', h1, (Fr.of_below hb p).trans h2 (fun _ _ e => e), fun k hk => (h3 k hk).imp id (fun g => Nat.le_trans hb.size g)⟩
section
variable {W : World} {B F n : Nat} {Z p : Nat → Prop} {a : AS} {data nm : ByteArray}
theorem swap_ok (h : Fs W B F Z a p) (q : Qs a n) (hn : n ≤ 200000) (hm : nm.size ≤ 100) (hd : data.size ≤ 1000000) (hf : findS a.names (nm ++ sTmp).data.toList = none) :
    Calls Tryz.prog 47 #[.agg #[.pointer (some ⟨F, 0, none⟩)], .string nm, .string data] W fun e w' => e = .returned (.tuple #[.int .i64 4, .int .i64 0]) ∧ Now W w' B F Z p (a.swapped (nm ++ sJson) data.data.toList) := by
  have hst := size_tmp nm
  have hadd := fun w => run_string_add_sum (P := Tryz.prog) w nm ⟨#[46, 116, 109, 112]⟩ (show nm.size + 4 ≤ 9223372036854775807 by omega)
  go_enter Tryz.func47, Tryz.ntmps47
  go_wp2_with fail
  obtain ⟨y0, y1, y2, y3, y4⟩ := heap5 W (.cells #[.pointer (some ⟨F, 0, none⟩)] 54) (.cells #[.string nm] 9) (.cells #[.string data] 9) (.cells #[.string (nm ++ ⟨#[46, 116, 109, 112]⟩)] 9) (.cells #[fnW W.heap.size (W.heap.size + 1 + 1 + 1) (W.heap.size + 1 + 1), fnS W.heap.size (W.heap.size + 1 + 1 + 1), fnR W.heap.size (W.heap.size + 1 + 1 + 1) (W.heap.size + 1), fnD F] 37)
  have hb := below5 W (.cells #[.pointer (some ⟨F, 0, none⟩)] 54) (.cells #[.string nm] 9) (.cells #[.string data] 9) (.cells #[.string (nm ++ ⟨#[46, 116, 109, 112]⟩)] 9) (.cells #[fnW W.heap.size (W.heap.size + 1 + 1 + 1) (W.heap.size + 1 + 1), fnS W.heap.size (W.heap.size + 1 + 1 + 1), fnR W.heap.size (W.heap.size + 1 + 1 + 1) (W.heap.size + 1), fnD F] 37)
  have hlt := fun k hk => (h.lt k hk).1
  have CS := Lib.hid (steps_swap (tn := nm ++ sTmp) (data := data) (nm := nm) (h.below hb) q hn (ne_tmp nm) (ne_json nm) (tmp_ne_json nm) (by omega) (by have := size_json nm; omega) hd hf (Me.box_at y0 rfl) (Me.box_at y3 rfl) (Me.box_at y2 rfl) (Me.box_at y1 rfl) (Me.box_at (j := 0) y4 rfl) (Me.box_at (j := 1) y4 rfl) (Me.box_at (j := 2) y4 rfl) (Me.box_at (j := 3) y4 rfl) (fun e => by have := hlt _ e; omega) (fun e => by have := hlt _ e; omega) (fun e => by have := hlt _ e; omega) (fun e => by have := hlt _ e; omega) (fun e => by have := hlt _ e; omega))
  have HB := Lib.hid hb
  clear y0 y1 y2 y3 y4 hb hlt h q hf
  refine CS.out.mono ?_
  rintro e w2 ⟨rfl, h2⟩
  have H2 := Lib.hid (h2.of_below HB.out)
  clear h2 CS HB
  go_wp2_with fail
  go_ret2
  exact ⟨rfl, H2.out⟩
end
end Go.Proofs.YtbodoncomeegpaaGreatDoor.Ms
/- The store's replace, Put and Open, and open, walked. -/
namespace Go.Proofs.YtbodoncomeegpaaGreatDoor.Ms
open Go Go.RowKit Go.Proofs.YtbodoncomeegpaaGreatDoor Go.Proofs.YtbodoncomeegpaaGreatDoor.Rw Go.Proofs.YtbodoncomeegpaaGreatDoor.Vf
set_option linter.unusedVariables false

set_option maxRecDepth 100000
set_option maxHeartbeats 16000000
theorem Rd.slice {w : World} {v : Value} {l : List UInt8} (h : Rd w v l) : ∃ ad n c, v = .slice ad n c := by
  rcases h with ⟨rfl, -⟩ | ⟨g, cap, cur, fr, rfl, -⟩
  · exact ⟨_, _, _, rfl⟩
  · exact ⟨_, _, _, rfl⟩
section
variable {W : World} {B F n : Nat} {Z p : Nat → Prop} {a : AS} {data nm : ByteArray}
theorem replace_ok (h : Fs W B F Z a p) (q : Qs a n) (hn : n ≤ 200000) (hm : nm.size ≤ 100) (hd : data.size ≤ 1000000) (hf : findS a.names (nm ++ sTmp).data.toList = none) :
    Calls Tryz.prog 20 #[.agg #[.pointer (some ⟨F, 0, none⟩)], .string nm, .string data] W fun e w' => e = .returned (.int .i64 0) ∧ Now W w' B F Z p (a.swapped (nm ++ sJson) data.data.toList) := by
  have hb0 : Below W.heap.size W ((W.alloc (.cells #[.pointer (some ⟨F, 0, none⟩)] 54)).alloc (.cells #[.string nm] 9)) := ((Below.refl _ _).alloc (Nat.le_refl _) _).alloc ((Below.refl W.heap.size W).alloc (Nat.le_refl _) _).size _
  have x0 : ((W.alloc (.cells #[.pointer (some ⟨F, 0, none⟩)] 54)).alloc (.cells #[.string nm] 9)).cell? ⟨W.heap.size, 0, none⟩ = some (.pointer (some ⟨F, 0, none⟩)) := Me.box_at (heap_alloc2_old _ _ _) rfl
  have x1 : ((W.alloc (.cells #[.pointer (some ⟨F, 0, none⟩)] 54)).alloc (.cells #[.string nm] 9)).cell? ⟨W.heap.size + 1, 0, none⟩ = some (.string nm) := Me.box_at (heap_alloc2_new _ _ _) rfl
  have hsz := size_json nm
  have hadd := fun w => run_string_add_sum (P := Tryz.prog) w nm ⟨#[46, 106, 115, 111, 110]⟩ (show nm.size + 5 ≤ 9223372036854775807 by omega)
  have CR := Lib.hid (read_fs (h.below hb0) q.ok (nm ++ sJson) (by omega))
  have CS := Lib.hid (fun u (hu : Below W.heap.size W u) => swap_ok (h.below hu) q hn hm hd hf)
  have HB := Lib.hid hb0
  unfold sJson at CR
  clear hb0 h q hf hsz
  go_enter Tryz.func20, Tryz.ntmps20
  go_wp2_with fail
  refine CR.out.mono ?_
  rintro e w1 ⟨v, rfl, hv, -, hb1⟩
  obtain ⟨ad, vn, vc, rfl⟩ := Rd.slice hv
  have HB1 := Lib.hid (below_seq HB.out hb1)
  replace x0 := cell_under x0 hb1
  replace x1 := cell_under x1 hb1
  clear hv hb1 CR HB
  generalize (a.read (nm ++ ⟨#[46, 106, 115, 111, 110]⟩)).2 = er
  go_wp2_with fail
  refine (CS.out _ HB1.out).mono ?_
  rintro e w2 ⟨rfl, h2⟩
  have H2 := Lib.hid (h2.of_below HB1.out)
  clear h2 CS x0 x1
  go_wp2_with fail
  go_ret
  exact ⟨rfl, H2.out⟩
/-- The store in block s over the file system in block F. -/
def Sto (w : World) (s F : Nat) : Prop := w.cell? ⟨s, 0, none⟩ = some (.pointer (some ⟨F, 0, none⟩))
theorem open_is (w : World) (F : Nat) :
    Calls Tryz.prog 14 #[.pointer (some ⟨F, 0, none⟩)] w fun e w' => e = .returned (.tuple #[.pointer (some ⟨w.heap.size, 0, none⟩), .int .i64 0]) ∧ Sto w' w.heap.size F ∧ Below w.heap.size w w' := by
  go_enter Tryz.func14, Tryz.ntmps14
  go_wp2_with fail
  go_ret2
  exact ⟨rfl, Me.box_at (heap_alloc_new _ _) rfl, (Below.refl _ _).alloc (Nat.le_refl _) _⟩
theorem topen_is (W : World) :
    Calls Tryz.prog 4 #[] W fun e w' => ∃ F s p, e = .returned (.tuple #[.pointer (some ⟨s, 0, none⟩), .pointer (some ⟨F, 0, none⟩), .int .i64 1]) ∧ Fs w' W.heap.size F (fun _ => False) AS.new p ∧ Sto w' s F ∧ ¬ p s ∧ Below W.heap.size W w' ∧ ∀ k, p k → W.heap.size ≤ k := by
  have CN := Lib.hid (new_fs W)
  go_enter Tryz.func4, Tryz.ntmps4
  go_wp2_with fail
  refine CN.out.mono ?_
  rintro e w1 ⟨F, p, rfl, hF, hb1, hp⟩
  have HF := Lib.hid (And.intro hF (And.intro hb1 hp))
  clear hF hb1 hp CN
  go_wp2_with fail
  refine (open_is w1 F).mono ?_
  rintro e w2 ⟨rfl, hs, hb2⟩
  have HS := Lib.hid (And.intro hs (And.intro hb2 (show ¬ p w1.heap.size from fun e => by have := (HF.out.1.lt _ e).1; omega)))
  clear hs hb2
  go_wp2_with fail
  go_ret3
  exact ⟨F, _, p, rfl, HF.out.1.below HS.out.2.1, HS.out.1, HS.out.2.2, below_seq HF.out.2.1 HS.out.2.1, HF.out.2.2⟩
end
/-- What Put asks of an archive in memory. -/
structure PutOk (W : World) (v : Value) (ar : List Mo.Fd) : Prop where
  mem : ArIs W v ar
  enc : Me.Enc ar
  js : Me.JB (Jv.jA ar)
  wt : Me.WT W
  sp : ∀ u, Below W.heap.size W u → Me.Spaces u
  len : (Jv.enc (Jv.jA ar)).length ≤ 1000000
theorem jA_js (ar : List Mo.Fd) : Me.JS (Jv.jA ar) := by
  have hs : ∀ s : ByteArray, Me.JS (.str s) := fun s => by simp [Me.JS]
  have hi : ∀ n : Int, Me.JS (.int n) := fun n => by simp [Me.JS]
  unfold Jv.jA
  unfold Me.JS
  rw [Me.JSL_iff]
  intro x hx
  obtain ⟨f, -, rfl⟩ := List.mem_map.1 hx
  unfold Jv.jF
  unfold Me.JS
  simp only [Me.JSM, Me.JSP]
  refine ⟨?_, hs _, hs _, hs _, hi _, ?_, trivial⟩
  · unfold Me.JS
    rw [Me.JSL_iff]
    intro y hy
    obtain ⟨s, -, rfl⟩ := List.mem_map.1 hy
    exact hs s
  · unfold Me.JS
    rw [Me.JSL_iff]
    intro y hy
    obtain ⟨e, -, rfl⟩ := List.mem_map.1 hy
    unfold Jv.jE
    unfold Me.JS
    simp only [Me.JSM, Me.JSP]
    exact ⟨hs _, hs _, hs _, hs _, hi _, trivial⟩
theorem encodeA_ok (W : World) (v : Value) (ar : List Mo.Fd) (h : PutOk W v ar) :
    Calls Tryz.prog 18 #[.agg #[v]] W fun e w' => e = .returned (.tuple #[.string ⟨(Jv.enc (Jv.jA ar)).toArray⟩, .int .i64 0]) ∧ Below W.heap.size W w' := by
  refine Me.encode_is W v ar h.mem h.wt.u8 h.sp h.enc ⟨(Jv.enc (Jv.jA ar)).toArray⟩ (fun u ad cap hu hv => ?_)
  have hj : Jv u (Jv.jA ar) (vCells 4 false 0 ⟨#[]⟩ (.slice ad ar.length cap) nilV 0) := hv u (fun _ _ _ _ => rfl)
  exact Me.write_ok (ar.map Jv.jF) ad ar.length cap u (Jv.jA_ok h.enc.ok) h.js (jA_js ar) hj (h.wt.below hu) h.len
end Go.Proofs.YtbodoncomeegpaaGreatDoor.Ms
/- Recovering, in plain words: the temporary files go, one by one. -/
namespace Go.Proofs.YtbodoncomeegpaaGreatDoor.Ms
open Go Go.RowKit Go.Proofs.YtbodoncomeegpaaGreatDoor Go.Proofs.YtbodoncomeegpaaGreatDoor.Vf
set_option linter.unusedVariables false

def sufT : List UInt8 := [46, 116, 109, 112]
def tmpB (k : List UInt8) : Bool := Lib.hasSuffix k sufT
/-- The names that are left when the first k of l are done. -/
def left (m : Nm) (l : List (List UInt8)) (k : Nat) : Nm := m.filter fun p => !(tmpB p.1 && (l.take k).contains p.1)
theorem left_zero (m : Nm) (l : List (List UInt8)) : left m l 0 = m := by
  unfold left
  rw [List.filter_eq_self]
  intro p _
  simp
theorem take_contains {l : List (List UInt8)} {k : Nat} (hk : k < l.length) (x : List UInt8) : (l.take (k + 1)).contains x = ((l.take k).contains x || l[k] == x) := by
  rw [List.take_add_one, List.getElem?_eq_getElem hk, Option.toList_some]
  by_cases h1 : x ∈ l.take k
  · have e1 : (l.take k).contains x = true := List.contains_iff_mem.2 h1
    have e2 : (l.take k ++ [l[k]]).contains x = true := List.contains_iff_mem.2 (List.mem_append_left _ h1)
    rw [e1, e2]; rfl
  · have e1 : (l.take k).contains x = false := by rw [Bool.eq_false_iff]; exact fun e => h1 (List.contains_iff_mem.1 e)
    rw [e1, Bool.false_or]
    by_cases h2 : l[k] = x
    · have e2 : (l.take k ++ [l[k]]).contains x = true := List.contains_iff_mem.2 (List.mem_append_right _ (by rw [h2]; simp))
      rw [e2, h2]; simp
    · have e2 : (l.take k ++ [l[k]]).contains x = false := by
        rw [Bool.eq_false_iff]
        intro e
        rcases List.mem_append.1 (List.contains_iff_mem.1 e) with g | g
        · exact h1 g
        · exact h2 (List.mem_singleton.1 g).symm
      rw [e2]
      simpa using h2
theorem left_skip {m : Nm} {l : List (List UInt8)} {k : Nat} (hk : k < l.length) (ht : tmpB l[k] = false) : left m l (k + 1) = left m l k := by
  unfold left
  congr 1
  funext p
  rw [take_contains hk]
  by_cases e : l[k] = p.1
  · rw [e] at ht
    simp [ht]
  · have : (l[k] == p.1) = false := by simpa using e
    rw [this, Bool.or_false]
theorem left_del {m : Nm} {l : List (List UInt8)} {k : Nat} (hk : k < l.length) (ht : tmpB l[k] = true) : left m l (k + 1) = delS (left m l k) l[k] := by
  unfold left delS
  rw [List.filter_filter]
  congr 1
  funext p
  rw [take_contains hk]
  by_cases e : l[k] = p.1
  · rw [← e, ht]
    simp
  · have h1 : (l[k] == p.1) = false := by simpa using e
    have h2 : (p.1 == l[k]) = false := by simpa using fun h => e h.symm
    rw [h1, h2]
    simp
theorem before_irrefl : ∀ x : List UInt8, bytesBefore x x = false := by
  intro x
  induction x with
  | nil => rfl
  | cons a r ih => simp [bytesBefore, ih]
theorem So.notin {m : Nm} (h : So m) {k : Nat} (hk : k < (m.map (·.1)).length) : (m.map (·.1))[k] ∉ (m.map (·.1)).take k := by
  intro hm
  rw [List.mem_take_iff_getElem] at hm
  obtain ⟨i, hi, e⟩ := hm
  rw [List.length_map] at hk hi
  have := (List.pairwise_iff_getElem.1 h) i k (by omega) hk (by omega)
  rw [List.getElem_map, List.getElem_map] at e
  rw [e, before_irrefl] at this
  cases this
theorem left_find {m : Nm} (h : So m) {k : Nat} (hk : k < (m.map (·.1)).length) : ∃ i, findS (left m (m.map (·.1)) k) (m.map (·.1))[k] = some i := by
  have hkm : k < m.length := by rw [List.length_map] at hk; exact hk
  have hin : m[k] ∈ left m (m.map (·.1)) k := by
    unfold left
    rw [List.mem_filter]
    refine ⟨List.getElem_mem hkm, ?_⟩
    have h1 := So.notin h hk
    rw [List.getElem_map] at h1
    have : ((m.map (·.1)).take k).contains m[k].1 = false := by rw [Bool.eq_false_iff]; exact fun e => h1 (List.contains_iff_mem.1 e)
    rw [this]
    simp
  have hs : So (left m (m.map (·.1)) k) := List.Pairwise.filter _ h
  exact ⟨m[k].2, by rw [List.getElem_map]; exact hs.find hin⟩
theorem left_all (m : Nm) : ∀ p ∈ left m (m.map (·.1)) (m.map (·.1)).length, tmpB p.1 = false := by
  intro p hp
  unfold left at hp
  rw [List.mem_filter, List.take_of_length_le (Nat.le_refl _)] at hp
  have h1 : (m.map (·.1)).contains p.1 = true := List.contains_iff_mem.2 (List.mem_map.2 ⟨p, hp.1, rfl⟩)
  have h2 := hp.2
  rw [h1] at h2
  simpa using h2
theorem tmp_ne {k : ByteArray} (h : tmpB k.data.toList = true) : k.toList.isEmpty = false := by
  rw [ByteArray.toList_eq]
  cases e : k.data.toList with
  | nil => rw [e] at h; exact absurd h (by decide)
  | cons x r => rfl
end Go.Proofs.YtbodoncomeegpaaGreatDoor.Ms
/- The store's Put and Recover, walked. -/
namespace Go.Proofs.YtbodoncomeegpaaGreatDoor.Ms
open Go Go.RowKit Go.Proofs.YtbodoncomeegpaaGreatDoor Go.Proofs.YtbodoncomeegpaaGreatDoor.Rw Go.Proofs.YtbodoncomeegpaaGreatDoor.Vf
set_option linter.unusedVariables false

set_option maxRecDepth 100000
set_option maxHeartbeats 16000000
section
variable {W : World} {B F n s : Nat} {Z p : Nat → Prop} {a a0 : AS} {nm : ByteArray}
theorem put_ok (hN : ∀ u, Calls Tryz.prog 17 #[.string nm] u fun e w' => e = .returned (.bool true) ∧ Below u.heap.size u w') (hm : nm.size ≤ 100) (h : Fs W B F Z a p) (q : Qs a n) (hn : n ≤ 200000) (hs : Sto W s F) (np : ¬ p s) (v : Value) (ar : List Mo.Fd) (po : PutOk W v ar) (hf : findS a.names (nm ++ sTmp).data.toList = none) :
    Calls Tryz.prog 8 #[.pointer (some ⟨s, 0, none⟩), .string nm, .agg #[v]] W fun e w' => e = .returned (.int .i64 0) ∧ Now W w' B F Z p (a.swapped (nm ++ sJson) (Jv.enc (Jv.jA ar))) := by
  have hb0 := (Below.refl W.heap.size W).alloc (Nat.le_refl _) (.cells #[v] 24)
  have x0 := Me.box_at (j := 0) (heap_alloc_new W (.cells #[v] 24)) rfl
  have CE := Lib.hid (fun u (hu : Below W.heap.size W u) => encodeA_ok u v ar ⟨po.mem.under hu, po.enc, po.js, po.wt.below hu, fun w hw => po.sp w (below_seq hu hw), po.len⟩)
  have HL := Lib.hid po.len
  obtain ⟨-, -, ad, cap, rfl, -, -⟩ := Mw.feeds_at po.mem
  obtain ⟨q0, hq0⟩ : ∃ q, Jv.enc (Jv.jA ar) = q := ⟨_, rfl⟩
  rw [hq0] at CE HL ⊢
  have HQS := Lib.hid (show (⟨q0.toArray⟩ : ByteArray).size = q0.length by simp [ByteArray.size])
  have HQL := Lib.hid (show (⟨q0.toArray⟩ : ByteArray).data.toList = q0 by simp)
  generalize (⟨q0.toArray⟩ : ByteArray) = Q at CE HQS HQL
  have HB := Lib.hid hb0
  have HS := Lib.hid hs
  have HH := Lib.hid h
  have HN := Lib.hid (fun u => hN u)
  have CD := Lib.hid (fun u (hu : Below W.heap.size W u) => by have := down_fs (h.below hu); rw [q.dn] at this; exact this)
  have CR := Lib.hid (fun u (hu : Below W.heap.size W u) => replace_ok (data := Q) (h.below hu) q hn hm (by rw [HQS.out]; exact HL.out) hf)
  rw [HQL.out] at CR
  clear hb0 hs h hN po q hf hq0
  go_enter Tryz.func8, Tryz.ntmps8
  go_wp2_with fail
  refine (HN.out _).mono ?_
  rintro e w1 ⟨rfl, hb1⟩
  have HB1 := Lib.hid (below_seq HB.out hb1)
  replace x0 := cell_under x0 hb1
  clear hb1 HB HN
  go_wp2_with fail
  refine (CE.out _ HB1.out).mono ?_
  rintro e w2 ⟨rfl, hb2⟩
  have HB2 := Lib.hid (below_seq HB1.out hb2)
  have y0 : w2.cell? ⟨s, 0, none⟩ = some (.pointer (some ⟨F, 0, none⟩)) := cell_under HS.out HB2.out
  clear hb2 CE x0
  go_wp2_with fail
  refine (CD.out _ HB2.out).mono ?_
  rintro e w3 ⟨rfl, rfl⟩
  go_wp2_with fail
  refine (CR.out _ HB2.out).mono ?_
  rintro e w4 ⟨rfl, h4⟩
  have H4 := Lib.hid (h4.of_below HB2.out)
  clear h4 CR CD y0
  go_wp2_with fail
  go_ret
  exact ⟨rfl, H4.out⟩
theorem names_rw {w : World} {base n : Nat} {v : Value} {l : List (List UInt8)} (h : w.ownsRow base 9 1 v n (l.map encStr)) (hn : l.length = n) : Rw w v 1 ((l.map fun k => (⟨k.toArray⟩ : ByteArray)).map sCell) := by
  subst hn
  refine Rw.of_own h (by simp) (fun j hj k hk => ?_) (fun j hj => by simp [sCell])
  obtain rfl : k = 0 := by omega
  have hjl : j < l.length := by simpa using hj
  simp [sCell, encStr, hjl]
theorem recover_ok (h : Fs W B F Z a p) (hs : Sto W s F) (np : ¬ p s) (rc : Rc tmpB a0 a n) (h0 : ∀ q ∈ a0.names, tmpB q.1 = false ∧ q.2 < a0.files.length) (hs0 : So a0.names) (hsz : ∀ q ∈ a.names, q.1.length ≤ 1000) (hn : n + a.names.length ≤ 200000) :
    Calls Tryz.prog 11 #[.pointer (some ⟨s, 0, none⟩)] W fun e w' => e = .returned (.int .i64 0) ∧ ∃ a', Now W w' B F Z p a' ∧ Rc tmpB a0 a' (n + a.names.length + 1) ∧ a'.names = a0.names ∧ a'.dur = a0.names ∧ a'.pend = [] := by
  have CD := Lib.hid (by have := down_fs h; rw [rc.dn] at this; exact this)
  have CL := Lib.hid (list_fs h rc.ok (by omega))
  have el : a.list = a.names.map (·.1) := by unfold AS.list; rw [if_neg (by rw [rc.dn]; decide)]
  rw [el] at CL
  have HP := Lib.hid (fun k hk => (h.lt k hk).1)
  have HH := Lib.hid h
  have HRC := Lib.hid rc
  have HSO := Lib.hid rc.ok.sn
  have HSZ := Lib.hid hsz
  have H00 := Lib.hid (And.intro h0 hs0)
  obtain ⟨l, hl⟩ : ∃ l, a.names.map (·.1) = l := ⟨_, rfl⟩
  have HLL := Lib.hid hl
  obtain ⟨m, hm⟩ : ∃ m, l.length = m := ⟨_, rfl⟩
  have HM := Lib.hid hm
  have HMN := Lib.hid (show a.names.length = m by rw [← hm, ← hl, List.length_map])
  rw [hl, hm] at CL
  rw [HMN.out] at hn ⊢
  have y0 : W.cell? ⟨s, 0, none⟩ = some (.pointer (some ⟨F, 0, none⟩)) := hs
  have HNP := Lib.hid np
  clear h rc hsz h0 hs0 hl hm el hs np
  go_enter Tryz.func11, Tryz.ntmps11
  go_wp2_with fail
  refine CD.out.mono ?_
  rintro e w0 ⟨rfl, rfl⟩
  go_wp2_with fail
  refine CL.out.mono ?_
  rintro e w1 ⟨v, rfl, hv, hb1⟩
  have hrw := names_rw hv HM.out
  have hlt : ∀ g, v.ownBlock = some g → w0.heap.size ≤ g := fun g e => (Me.own_lt hv e).1
  obtain ⟨g, off, ad, cap, rfl, had, hc⟩ := Mw.path_at hrw
  rw [List.length_map, HM.out] at had hlt ⊢
  have HAD := Lib.hid had
  have HC := Lib.hid hc
  have HGL := Lib.hid hlt
  have HB1 := Lib.hid hb1
  have y1 := cell_under y0 hb1
  have H1 := Lib.hid (Now.refl (HH.out.below hb1))
  have HSL := Lib.hid (Rw.lt_of_cell y0)
  clear hv hrw had hc hlt hb1 CL CD
  go_wp2_with fail
  go_loopw [23] (fun x wr => ∃ k : Nat, k ≤ m ∧ x = .int .i64 k ∧ Hid (∃ ak, Now w1 wr B F Z p ak ∧ Rc tmpB a0 ak (n + k) ∧ ak.names = left a.names l k)) (fun x _ => m - (intOf x).toNat)
  case atStart => exact ⟨0, Nat.zero_le _, rfl, Lib.hid ⟨a, H1.out, HRC.out, (left_zero _ _).symm⟩⟩
  case round =>
    obtain ⟨k, hk, rfl, hst⟩ := hrel
    obtain ⟨ak, hnow, hrc, hnm⟩ := hst.out
    have z0 := hnow.cell y1 HNP.out
    have HNW := Lib.hid hnow
    have HRK := Lib.hid hrc
    have HNM := Lib.hid hnm
    clear hst hnow hrc hnm
    by_cases hlt : k < m
    · obtain rfl := HAD.out (by omega)
      have hkl : k < l.length := by rw [HM.out]; exact hlt
      have hkl2 : k < (l.map fun k => (⟨k.toArray⟩ : ByteArray)).length := by rw [List.length_map]; exact hkl
      have hgp : ¬ p g := fun e => by have := HP.out _ e; have := HGL.out g rfl; omega
      have c0 := HNW.out.cell (HC.out k hkl2) hgp
      rw [List.getElem_map] at c0
      have i1 : (k : Int) < (m : Int) := by omega
      have i0 : (0 : Int) ≤ (k : Int) := by omega
      have HQL := Lib.hid (show (⟨l[k].toArray⟩ : ByteArray).data.toList = l[k] by simp)
      have hin : l[k] ∈ a.names.map (·.1) := by rw [HLL.out]; exact List.getElem_mem hkl
      have HKS := Lib.hid (show (⟨l[k].toArray⟩ : ByteArray).size ≤ 1000 by
        obtain ⟨q, hq, e⟩ := List.mem_map.1 hin
        have := HSZ.out q hq
        rw [e] at this
        simpa [ByteArray.size] using this)
      have CS := Lib.hid (Tryz.strings_HasSuffix ⟨l[k].toArray⟩ ⟨#[46, 116, 109, 112]⟩ wr (by have := HKS.out; omega))
      have HSK := Lib.hid (fun e => left_skip (m := a.names) hkl e)
      have HDL := Lib.hid (fun e => left_del (m := a.names) hkl e)
      have hkm : k < (a.names.map (·.1)).length := by rw [HLL.out]; exact hkl
      have HFD := Lib.hid (show ∃ i, findS (left a.names l k) l[k] = some i by
        have := left_find HSO.out hkm
        simpa only [HLL.out] using this)
      generalize (⟨l[k].toArray⟩ : ByteArray) = fl at c0 HQL HKS CS
      generalize l[k] = fk at HQL HSK HDL HFD
      rw [HQL.out] at CS
      obtain ⟨tb, htb⟩ : ∃ b, tmpB fk = b := ⟨_, rfl⟩
      have HTB := Lib.hid htb
      have htb2 : Lib.hasSuffix fk (⟨#[46, 116, 109, 112]⟩ : ByteArray).data.toList = tb := htb
      rw [htb2] at CS
      clear htb htb2 hin
      cases tb with
      | false =>
        go_wp2_with fail
        refine CS.out.mono ?_
        rintro e w2 ⟨rfl, rfl⟩
        have HN2 := Lib.hid (⟨ak, HNW.out, HRK.out.mono (Nat.le_succ _), HNM.out.trans (HSK.out HTB.out).symm⟩ : ∃ ak, Now w1 w2 B F Z p ak ∧ Rc tmpB a0 ak (n + (k + 1)) ∧ ak.names = left a.names l (k + 1))
        clear CS c0 z0
        go_wp2_with fail
        go_roundw
        case rel => exact ⟨k + 1, by omega, by go_num, HN2⟩
        case measure => simp [intOf]; omega
      | true =>
        have hfd : ∃ i, findS ak.names fl.data.toList = some i := by rw [HNM.out, HQL.out]; exact HFD.out
        obtain ⟨i, hi⟩ := hfd
        have ht : tmpB fl.data.toList = true := by rw [HQL.out]; exact HTB.out
        obtain ⟨r1, r2, r3⟩ := HRK.out.remove H00.out.1 (tmp_ne ht) ht (by have := HKS.out; omega) hi
        have e0 : AS.op (AS.remove fl) id ak = (0, (AS.remove fl ak).2) := by rw [op_rest HRK.out.dn HRK.out.ar, ← r1]
        have CM := Lib.hid (HNW.out.call (r := .int .i64 0) (a' := (AS.remove fl ak).2) (f := 30) (args := #[.pointer (some ⟨F, 0, none⟩), .string fl]) (fun p' hp => by
          have := remove_fs hp HRK.out.ok (by omega) fl (by have := HKS.out; omega)
          rw [e0] at this
          exact this))
        have HR2 : Hid (Rc tmpB a0 (AS.remove fl ak).2 (n + k + 1) ∧ (AS.remove fl ak).2.names = left a.names l (k + 1)) := Lib.hid ⟨r3, r2.trans (by rw [HNM.out, HQL.out, HDL.out HTB.out])⟩
        clear hi ht r1 r2 r3 e0
        go_wp2_with fail
        refine CS.out.mono ?_
        rintro e w2 ⟨rfl, rfl⟩
        go_wp2_with fail
        refine CM.out.mono ?_
        rintro e w3 ⟨rfl, h3⟩
        have HN2 := Lib.hid (⟨_, h3, HR2.out.1, HR2.out.2⟩ : ∃ ak, Now w1 w3 B F Z p ak ∧ Rc tmpB a0 ak (n + (k + 1)) ∧ ak.names = left a.names l (k + 1))
        clear CS CM c0 z0 h3
        go_wp2_with fail
        go_roundw
        case rel => exact ⟨k + 1, by omega, by go_num, HN2⟩
        case measure => simp [intOf]; omega
    · have gl : decide ((k : Int) < (m : Int)) = false := decide_eq_false (by omega)
      obtain rfl : k = m := by omega
      have hall : ak.names = a0.names := by
        refine HRK.out.done H00.out.2 ?_
        rw [HNM.out, ← HM.out, ← HLL.out]
        exact left_all a.names
      obtain ⟨t1, t2, t3, t4, t5⟩ := HRK.out.syncdir
      have e0 : AS.op AS.syncdir id ak = (0, (AS.syncdir ak).2) := by rw [op_rest HRK.out.dn HRK.out.ar, ← t2]
      have CM := Lib.hid (HNW.out.call (r := .int .i64 0) (a' := (AS.syncdir ak).2) (f := 31) (args := #[.pointer (some ⟨F, 0, none⟩)]) (fun p' hp => by
        have := syncdir_fs hp HRK.out.ok (by omega)
        rw [e0] at this
        exact this))
      have HE := Lib.hid (And.intro t1 (And.intro (t3.trans hall) (And.intro (t4.trans hall) t5)))
      clear hall t1 t2 t3 t4 t5 e0
      go_wp2_with fail
      refine CM.out.mono ?_
      rintro e w3 ⟨rfl, h3⟩
      have HN3 := Lib.hid (h3.of_below HB1.out)
      clear h3 CM
      go_wp2_with fail
      go_ret
      exact ⟨rfl, _, HN3.out, HE.out.1, HE.out.2.1, HE.out.2.2.1, HE.out.2.2.2⟩
end
end Go.Proofs.YtbodoncomeegpaaGreatDoor.Ms
/- The law's files: the names and the contents of all files. -/
namespace Go.Proofs.YtbodoncomeegpaaGreatDoor.Ms
open Go Go.RowKit Go.Proofs.YtbodoncomeegpaaGreatDoor Go.Proofs.YtbodoncomeegpaaGreatDoor.Rw Go.Proofs.YtbodoncomeegpaaGreatDoor.Vf
set_option linter.unusedVariables false

set_option maxRecDepth 100000
set_option maxHeartbeats 16000000
def item (a : AS) (k : List UInt8) : List UInt8 := k ++ 10 :: ((a.read ⟨k.toArray⟩).1 ++ [10])
theorem ftext_eq (a : AS) : ftext a = (a.list.map (item a)).flatten := rfl
theorem read_len {a : AS} {n : Nat} (ok : a.Ok n) (k : ByteArray) : (a.read k).1.length ≤ 1000000 := by
  unfold AS.read
  split
  · simp
  · split
    · simp
    · rename_i i e
      simp only
      by_cases hi : i < a.files.length
      · rw [List.getD_eq_getElem?_getD, List.getElem?_eq_getElem hi]
        exact (ok.data _ (List.getElem_mem hi)).1
      · rw [List.getD_eq_getElem?_getD, List.getElem?_eq_none (by omega)]
        simp
theorem flat_take (f : List UInt8 → List UInt8) (l : List (List UInt8)) {k : Nat} (hk : k < l.length) : ((l.take (k + 1)).map f).flatten = ((l.take k).map f).flatten ++ f l[k] := by
  rw [Me.take_map f l hk, List.flatten_append]
  simp
section
variable {W : World} {B F n : Nat} {Z p : Nat → Prop} {a : AS}
theorem files_is (h : Fs W B F Z a p) (ok : a.Ok n) (hd : a.down = false) (hn : n ≤ 400000) (hsz : ∀ q ∈ a.names, q.1.length ≤ 1000) :
    Calls Tryz.prog 9 #[.pointer (some ⟨F, 0, none⟩)] W fun e w' => e = .returned (.string ⟨(ftext a).toArray⟩) ∧ Below W.heap.size W w' := by
  have el : a.list = a.names.map (·.1) := by unfold AS.list; rw [if_neg (by rw [hd]; decide)]
  have hba := (Below.refl W.heap.size W).alloc (Nat.le_refl _) (.cells #[.pointer none, .slice none 0 0] 60)
  have HB := Lib.hid hba
  have HI := Lib.hid (Lib.fresh_isBuilder Blz.TB Blz.TU W)
  have CL := Lib.hid (list_fs (h.below hba) ok hn)
  have CR := Lib.hid (fun u (hu : Below W.heap.size W u) (k : ByteArray) (hk : k.size ≤ 1000000) => read_fs (h.below hu) ok k hk)
  have HLE := Lib.hid (fun k => read_len ok k)
  rw [ftext_eq]
  obtain ⟨l, hl⟩ : ∃ l, a.list = l := ⟨_, rfl⟩
  rw [hl] at CL el ⊢
  have HLL := Lib.hid el
  have HSZ := Lib.hid hsz
  obtain ⟨m, hm⟩ : ∃ m, l.length = m := ⟨_, rfl⟩
  have HM := Lib.hid hm
  have HMN := Lib.hid (show m ≤ 400000 by rw [← hm, el, List.length_map]; exact Nat.le_trans ok.names hn)
  rw [hm] at CL
  clear h ok hd hsz hl hm el hba
  go_enter Tryz.func9, Tryz.ntmps9
  go_wp2_with fail
  refine CL.out.mono ?_
  rintro e w1 ⟨v, rfl, hv, hb1⟩
  have hrw := names_rw hv HM.out
  have HOV := Lib.hid hv
  obtain ⟨g, off, ad, cap, rfl, had, hc⟩ := Mw.path_at hrw
  rw [List.length_map, HM.out] at had ⊢
  have HAD := Lib.hid had
  have HC := Lib.hid hc
  have HB1 := Lib.hid (below_seq HB.out hb1)
  have HI1 := Lib.hid (Blz.is_below HI.out hb1)
  have HBK : Hid (0 < m → ∃ cur, w1.heap[g]? = some (Obj.cells cur 9 (0, 0)) ∧ g ≠ W.heap.size) := Lib.hid (fun h0 => by
    have e := had h0
    subst e
    obtain ⟨cur, hcur⟩ := own_block HOV.out (g := g) rfl
    refine ⟨cur, hcur, fun e => ?_⟩
    have h1 := (Me.own_lt HOV.out (g := g) rfl).1
    have h2 : W.heap.size < (W.alloc (.cells #[.pointer none, .slice none 0 0] 60)).heap.size := Rw.lt_of_heap (heap_alloc_new _ _)
    have h3 : (W.alloc (.cells #[.pointer none, .slice none 0 0] 60)).heap.size ≤ g := h1
    omega)
  clear hv hrw had hc hb1 CL HI HB HOV
  go_wp2_with fail
  go_loopw [11] (fun x wr => ∃ k : Nat, k ≤ m ∧ x = .int .i64 k ∧ Hid (Lib.IsBuilder Blz.TB Blz.TU W.heap.size W.heap.size (Lib.byteCells ((l.take k).map (item a)).flatten) wr) ∧ Hid ((((l.take k).map (item a)).flatten).length ≤ k * 1002000) ∧ Hid (Below W.heap.size W wr) ∧ Hid (Blz.Fz W.heap.size w1 wr)) (fun x _ => m - (intOf x).toNat)
  case atStart => exact ⟨0, Nat.zero_le _, rfl, HI1, Lib.hid (by simp), HB1, Lib.hid (Blz.Fz.refl _ _)⟩
  case round =>
    obtain ⟨k, hk, rfl, hi, hlen, hb, hf⟩ := hrel
    have hm4 := HMN.out
    by_cases hlt : k < m
    · obtain rfl := HAD.out (by omega)
      have hkl : k < l.length := by rw [HM.out]; exact hlt
      have hkl2 : k < (l.map fun k => (⟨k.toArray⟩ : ByteArray)).length := by rw [List.length_map]; exact hkl
      obtain ⟨cur, hcur, hgn⟩ := HBK.out (by omega)
      have hkeep := hf.out g cur _ _ hcur hgn (by decide)
      have c0 : wr.cell? ⟨g, off + k, none⟩ = some (.string (l.map fun k => (⟨k.toArray⟩ : ByteArray))[k]) := by
        have := HC.out k hkl2
        unfold World.cell? at this ⊢
        rw [hkeep]
        exact this
      rw [List.getElem_map] at c0
      have i1 : (k : Int) < (m : Int) := by omega
      have i0 : (0 : Int) ≤ (k : Int) := by omega
      have hin : l[k] ∈ a.names.map (·.1) := by rw [← HLL.out]; exact List.getElem_mem hkl
      have HKS := Lib.hid (show l[k].length ≤ 1000 by
        obtain ⟨q, hq, e⟩ := List.mem_map.1 hin
        have := HSZ.out q hq
        rw [e] at this
        exact this)
      have HFT := Lib.hid (flat_take (item a) l hkl)
      have HFS := Lib.hid (show (⟨l[k].toArray⟩ : ByteArray).size = l[k].length by simp [ByteArray.size])
      have HFL := Lib.hid (show (⟨l[k].toArray⟩ : ByteArray).data.toList = l[k] by simp)
      have HIT := Lib.hid (show item a l[k] = l[k] ++ 10 :: ((a.read ⟨l[k].toArray⟩).1 ++ [10]) from rfl)
      clear hin hkeep hcur
      generalize (⟨l[k].toArray⟩ : ByteArray) = fl at c0 HFS HFL HIT
      generalize item a l[k] = it at HFT HIT
      generalize l[k] = fk at HFS HFL HIT HKS
      have CC := Lib.hid (CR.out wr hb.out fl (by rw [HFS.out]; have := HKS.out; omega))
      have HLX := Lib.hid (HLE.out fl)
      go_wp2_with fail
      refine CC.out.mono ?_
      rintro e w2 ⟨x, rfl, hx, -, hb2⟩
      obtain ⟨ax, xn, xc, rfl⟩ := Rd.slice hx
      have hcv := hx.conv
      have HB2 := Lib.hid (below_seq hb.out hb2)
      have HI2 := Lib.hid (Blz.is_below hi.out hb2)
      have HF2 := Lib.hid (hf.out.trans (Blz.Fz.of_below hb2))
      generalize (a.read fl).1 = xl at hcv HLX HIT
      have HXS := Lib.hid (show (⟨xl.toArray⟩ : ByteArray).size = xl.length by simp [ByteArray.size])
      have HXL := Lib.hid (show (⟨xl.toArray⟩ : ByteArray).data.toList = xl by simp)
      generalize (⟨xl.toArray⟩ : ByteArray) = X at hcv HXS HXL
      generalize (a.read fl).2 = er
      have hs1 : (⟨#[10]⟩ : ByteArray).size = 1 := rfl
      have hq1 : (fl ++ (⟨#[10]⟩ : ByteArray)).size = fk.length + 1 := by rw [ByteArray.size_append, HFS.out]; rfl
      have hq2 : (fl ++ (⟨#[10]⟩ : ByteArray) ++ X).size = fk.length + 1 + xl.length := by rw [ByteArray.size_append, hq1, HXS.out]
      have hq3 : (fl ++ (⟨#[10]⟩ : ByteArray) ++ X ++ (⟨#[10]⟩ : ByteArray)).size = fk.length + 1 + xl.length + 1 := by rw [ByteArray.size_append, hq2]; rfl
      have HA1 := Lib.hid (run_string_add_sum (P := Tryz.prog) w2 fl ⟨#[10]⟩ (by rw [HFS.out, hs1]; have := HKS.out; omega))
      have HA2 := Lib.hid (run_string_add_sum (P := Tryz.prog) w2 (fl ++ ⟨#[10]⟩) X (by rw [hq1, HXS.out]; have := HKS.out; have := HLX.out; omega))
      have HA3 := Lib.hid (run_string_add_sum (P := Tryz.prog) w2 (fl ++ ⟨#[10]⟩ ++ X) ⟨#[10]⟩ (by rw [hq2, hs1]; have := HKS.out; have := HLX.out; omega))
      have HQ3 := Lib.hid hq3
      have HQL : Hid ((fl ++ (⟨#[10]⟩ : ByteArray) ++ X ++ (⟨#[10]⟩ : ByteArray)).data.toList = it) := Lib.hid (by
        rw [HIT.out]
        simp [HFL.out, HXL.out])
      have ha1 := HA1.out
      have ha2 := HA2.out
      have ha3 := HA3.out
      clear hx hb2 CC c0 hs1 hq1 hq2 hq3
      have CW := Lib.hid (Blz.writeString W.heap.size W.heap.size _ (fl ++ ⟨#[10]⟩ ++ X ++ ⟨#[10]⟩) w2 HI2.out (by rw [Lib.byteCells_length, HQ3.out]; have := hlen.out; have := HKS.out; have := HLX.out; have := HMN.out; omega) HB2.out.size)
      have HKK := Lib.hid hlen.out
      have HITL := Lib.hid (show it.length ≤ 1002000 by rw [HIT.out]; simp; have := HKS.out; have := HLX.out; omega)
      clear HA1 HA2 HA3
      go_wp2_with fail
      refine CW.out.mono ?_
      rintro e w3 ⟨rfl, hi3, hb3, hf3⟩
      rw [Lib.strCells_eq, HQL.out, ← Lib.byteCells_append, ← HFT.out] at hi3
      have HI3 := Lib.hid hi3
      have HB3 := Lib.hid (HB2.out.trans hb3)
      have HF3 := Lib.hid (HF2.out.trans hf3)
      have HL3 := Lib.hid (show (((l.take (k + 1)).map (item a)).flatten).length ≤ (k + 1) * 1002000 by rw [HFT.out, List.length_append, Nat.succ_mul]; have := HKK.out; have := HITL.out; omega)
      clear hi3 hb3 hf3 CW ha1 ha2 ha3 hcv
      go_wp2_with fail
      go_roundw
      case rel => exact ⟨k + 1, by omega, by go_num, HI3, HL3, HB3, HF3⟩
      case measure => simp [intOf]; omega
    · have gl : decide ((k : Int) < (m : Int)) = false := decide_eq_false (by omega)
      have HT : Hid (l.take k = l) := Lib.hid (List.take_of_length_le (by rw [HM.out]; omega))
      have hi2 := hi.out
      rw [HT.out] at hi2
      have CS := Lib.hid (Tryz.Builder_String_any W.heap.size W.heap.size ((l.map (item a)).flatten) wr hi2 hb.out.size)
      clear hi2
      go_wp2_with fail
      refine CS.out.mono ?_
      rintro e w2 ⟨rfl, hb2⟩
      have HB2 := Lib.hid (hb.out.trans hb2)
      clear hb2 CS
      go_wp2_with fail
      go_ret
      exact ⟨rfl, HB2.out⟩
end
end Go.Proofs.YtbodoncomeegpaaGreatDoor.Ms
/- The law's stores: a small archive can be stored. -/
namespace Go.Proofs.YtbodoncomeegpaaGreatDoor.Ms
open Go Go.RowKit Go.Proofs.YtbodoncomeegpaaGreatDoor Go.Proofs.YtbodoncomeegpaaGreatDoor.Rw Go.Proofs.YtbodoncomeegpaaGreatDoor.Vf
set_option linter.unusedVariables false

set_option maxRecDepth 100000
set_option maxHeartbeats 16000000
def nX : ByteArray := ⟨#[120]⟩
def nA : ByteArray := ⟨#[97]⟩
theorem new_q : Qs AS.new 0 := Qs.new
theorem empty_enc : Jv.enc (Jv.jA []) = [91, 93] := by simp [Jv.jA, Jv.enc, Jv.encL, Jv.joinC]
theorem putok_nil (W : World) (hw : Me.WT W) (sp : ∀ u, Below W.heap.size W u → Me.Spaces u) : PutOk W (.slice none 0 0) [] where
  mem := ⟨[], rfl, Rw.nil _ _, fun j hj => absurd hj (by simp)⟩
  enc := ⟨rfl, ⟨by simp, fun f hf => absurd hf (by simp)⟩, by simp, fun f hf => absurd hf (by simp), fun f hf => absurd hf (by simp)⟩
  js := by simp [Jv.jA, Me.JB, Me.JBL]
  wt := hw
  sp := sp
  len := by rw [empty_enc]; decide
theorem swapped_new_text : ftext (AS.new.swapped (nA ++ sJson) [91, 93]) = [97, 46, 106, 115, 111, 110, 10, 91, 93, 10] := by rfl
theorem swapped_names (a : AS) (x : ByteArray) (l : List UInt8) : (a.swapped x l).names = putS a.names x.data.toList a.files.length := rfl
theorem stores_ok (W : World) (hw : Me.WT W) (sp : ∀ u, Below W.heap.size W u → Me.Spaces u) :
    Calls Tryz.prog 7 #[] W fun e w' => e = .returned (.bool true) ∧ Below W.heap.size W w' := by
  have CO := Lib.hid (topen_is W)
  have HP := Lib.hid (fun u (hu : Below W.heap.size W u) => putok_nil u (hw.below hu) (fun v hv => sp v (below_seq hu hv)))
  clear hw sp
  go_enter Tryz.func7, Tryz.ntmps7
  go_wp2_with fail
  refine CO.out.mono ?_
  rintro e w1 ⟨F, s, p, rfl, hF, hs, hnp, hb1, hpk⟩
  have CP := Lib.hid (put_ok (nm := nA) isname_a (by decide) hF new_q (by omega) hs hnp (.slice none 0 0) [] (HP.out w1 hb1) rfl)
  rw [empty_enc] at CP
  have HPK := Lib.hid hpk
  have HB1 := Lib.hid hb1
  clear hF hs hnp hb1 hpk CO HP
  unfold nA at CP
  go_wp2_with fail
  refine CP.out.mono ?_
  rintro e w2 ⟨rfl, p', h2, hfr, hpp⟩
  have CF := Lib.hid (files_is h2 ((Qs.swapped new_q (by decide) (by decide) : Qs (AS.new.swapped (nA ++ sJson) [91, 93]) 1)).ok rfl (by omega) (by
    intro q hq
    have : q ∈ [(([97, 46, 106, 115, 111, 110] : List UInt8), 0)] := hq
    rcases List.mem_singleton.1 this with rfl
    decide))
  have HB2 := Lib.hid (show Below W.heap.size W w2 from HB1.out.trans (hfr.below HPK.out HB1.out.size))
  have e2 : (ftext (AS.new.swapped ((⟨#[97]⟩ : ByteArray) ++ sJson) [91, 93])) = [97, 46, 106, 115, 111, 110, 10, 91, 93, 10] := rfl
  rw [e2] at CF
  clear h2 hfr hpp CP e2
  go_wp2_with fail
  refine CF.out.mono ?_
  rintro e w3 ⟨rfl, hb3⟩
  have HB3 := Lib.hid (below_seq HB2.out hb3)
  clear hb3 CF
  go_wp2_with fail
  go_ret
  exact ⟨rfl, HB3.out⟩
end Go.Proofs.YtbodoncomeegpaaGreatDoor.Ms
/- How long the text of a small archive is, in plain words. -/
namespace Go.Proofs.YtbodoncomeegpaaGreatDoor.Ms
open Go Go.Proofs.YtbodoncomeegpaaGreatDoor
set_option linter.unusedVariables false

theorem mem_sum {α : Type} (f : α → Nat) : ∀ {l : List α} {x : α}, x ∈ l → f x ≤ (l.map f).sum
  | y :: r, x, h => by
    rw [List.map_cons, List.sum_cons]
    rcases List.mem_cons.1 h with rfl | h
    · omega
    · have := mem_sum f h
      omega
theorem len_sum {α : Type} (f : α → Nat) (h1 : ∀ x, 1 ≤ f x) : ∀ l : List α, l.length ≤ (l.map f).sum
  | [] => by simp
  | y :: r => by
    rw [List.map_cons, List.sum_cons, List.length_cons]
    have := len_sum f h1 r
    have := h1 y
    omega
theorem sum_le {α : Type} (f g : α → Nat) (c : Nat) : ∀ (l : List α), (∀ x ∈ l, f x ≤ c * g x) → (l.map f).sum ≤ c * (l.map g).sum
  | [], _ => by simp
  | y :: r, h => by
    rw [List.map_cons, List.sum_cons, List.map_cons, List.sum_cons, Nat.mul_add]
    have h1 := sum_le f g c r (fun x hx => h x (List.mem_cons_of_mem _ hx))
    have h2 := h y (List.mem_cons_self ..)
    omega
theorem quote_len (s : ByteArray) : (Js.quote s.data.toList).length ≤ 6 * s.size + 2 := by
  have h := (Js.body_len s.data.toList).2
  have e : s.data.toList.length = s.size := by simp
  unfold Js.quote
  rw [e] at h
  simp only [List.length_cons, List.length_append, List.length_nil]
  omega
theorem k_len : (Js.quote Jv.kId.data.toList).length = 4 ∧ (Js.quote Jv.kTitle.data.toList).length = 7 ∧ (Js.quote Jv.kLink.data.toList).length = 6 ∧ (Js.quote Jv.kContent.data.toList).length = 9 ∧ (Js.quote Jv.kUpdated.data.toList).length = 9 ∧ (Js.quote Jv.kPath.data.toList).length = 6 ∧ (Js.quote Jv.kEntries.data.toList).length = 9 := by decide +kernel
theorem wtE_pos (e : Mo.En) : 1 ≤ Mo.wtE e := by unfold Mo.wtE; omega
theorem wtP_pos (p : ByteArray) : 1 ≤ Mo.wtP p := by unfold Mo.wtP; omega
theorem wtF_pos (f : Mo.Fd) : 1 ≤ Mo.wtF f := by unfold Mo.wtF; omega
def upOk (u : Int) : Prop := -9223372036854775808 ≤ u ∧ u ≤ 9223372036854775807
theorem encE_len (e : Mo.En) (h : Mo.wtE e ≤ 5000) (hu : upOk e.upd) : (Jv.enc (Jv.jE e)).length + 1 ≤ 76 * Mo.wtE e := by
  obtain ⟨k1, k2, k3, k4, k5, -, -⟩ := k_len
  have d := Lib.itoa_length_le e.upd hu.1 hu.2
  have q1 := quote_len e.id
  have q2 := quote_len e.title
  have q3 := quote_len e.link
  have q4 := quote_len e.content
  unfold Mo.wtE at h ⊢
  have hs : e.id.size + e.title.size + e.link.size + e.content.size ≤ 5000 := by omega
  rw [Nat.min_eq_left (by omega)]
  unfold Jv.jE
  simp only [Jv.enc, Jv.encM, Jv.encP, Jv.joinC, Jv.dig, List.length_cons, List.length_append, List.length_nil, k1, k2, k3, k4, k5]
  omega
theorem encF_len (f : Mo.Fd) (h : Mo.wtF f ≤ 5000) (hu : upOk f.upd) (he : ∀ e ∈ f.ents, upOk e.upd) : (Jv.enc (Jv.jF f)).length + 1 ≤ 87 * Mo.wtF f := by
  obtain ⟨k1, k2, k3, -, k5, k6, k7⟩ := k_len
  have d := Lib.itoa_length_le f.upd hu.1 hu.2
  have q1 := quote_len f.id
  have q2 := quote_len f.title
  have q3 := quote_len f.link
  have hP : (Jv.joinC (Jv.encL (f.path.map Jv.J.str))).length ≤ 6 * (f.path.map Mo.wtP).sum := by
    refine Nat.le_trans (Jv.joinC_len _) ?_
    rw [Jv.encL_map, List.map_map, List.map_map]
    refine sum_le _ Mo.wtP 6 f.path (fun p hp => ?_)
    have h1 := mem_sum Mo.wtP hp
    have h2 : Mo.wtP p ≤ 5000 := by unfold Mo.wtF at h; omega
    have h3 := quote_len p
    unfold Mo.wtP at h2 ⊢
    rw [Nat.min_eq_left (by omega)]
    simp only [Function.comp, Jv.enc]
    omega
  have hE : (Jv.joinC (Jv.encL (f.ents.map Jv.jE))).length ≤ 76 * (f.ents.map Mo.wtE).sum := by
    refine Nat.le_trans (Jv.joinC_len _) ?_
    rw [Jv.encL_map, List.map_map, List.map_map]
    refine sum_le _ Mo.wtE 76 f.ents (fun e he' => ?_)
    have h1 := mem_sum Mo.wtE he'
    exact encE_len e (by unfold Mo.wtF at h; omega) (he e he')
  unfold Mo.wtF at h ⊢
  have hs : f.id.size + f.title.size + f.link.size ≤ 5000 := by omega
  rw [Nat.min_eq_left (by omega)]
  unfold Jv.jF
  simp only [Jv.enc, Jv.encM, Jv.encP, Jv.joinC, Jv.dig, List.length_cons, List.length_append, List.length_nil, k1, k2, k3, k5, k6, k7]
  omega
theorem encA_len (a : List Mo.Fd) (h : Mo.wtA a ≤ 5000) (hu : ∀ f ∈ a, upOk f.upd ∧ ∀ e ∈ f.ents, upOk e.upd) : (Jv.enc (Jv.jA a)).length ≤ 1000000 := by
  have hE : (Jv.joinC (Jv.encL (a.map Jv.jF))).length ≤ 87 * (a.map Mo.wtF).sum := by
    refine Nat.le_trans (Jv.joinC_len _) ?_
    rw [Jv.encL_map, List.map_map, List.map_map]
    refine sum_le _ Mo.wtF 87 a (fun f hf => ?_)
    have h1 := mem_sum Mo.wtF hf
    exact encF_len f (by unfold Mo.wtA at h; omega) (hu f hf).1 (hu f hf).2
  unfold Mo.wtA at h
  unfold Jv.jA
  simp only [Jv.enc, List.length_cons, List.length_append, List.length_nil]
  omega
theorem str_jb {s : ByteArray} (h : s.size ≤ 1000000) : Me.JB (.str s) := by unfold Me.JB; exact h
theorem int_jb {n : Int} (h : upOk n) : Me.JB (.int n) := by unfold Me.JB; exact h
theorem key_ok : Jv.kId.size ≤ 1000000 ∧ Jv.kTitle.size ≤ 1000000 ∧ Jv.kLink.size ≤ 1000000 ∧ Jv.kContent.size ≤ 1000000 ∧ Jv.kUpdated.size ≤ 1000000 ∧ Jv.kPath.size ≤ 1000000 ∧ Jv.kEntries.size ≤ 1000000 := by decide +kernel
theorem jA_jb (a : List Mo.Fd) (h : Mo.wtA a ≤ 5000) (hu : ∀ f ∈ a, upOk f.upd ∧ ∀ e ∈ f.ents, upOk e.upd) : Me.JB (Jv.jA a) := by
  obtain ⟨k1, k2, k3, k4, k5, k6, k7⟩ := key_ok
  have hl := len_sum Mo.wtF wtF_pos a
  unfold Mo.wtA at h
  unfold Jv.jA
  unfold Me.JB
  rw [Me.JBL_iff]
  refine ⟨by rw [List.length_map]; omega, fun x hx => ?_⟩
  obtain ⟨f, hf, rfl⟩ := List.mem_map.1 hx
  have hw := mem_sum Mo.wtF hf
  have hwf : Mo.wtF f ≤ 5000 := by omega
  have hp := len_sum Mo.wtP wtP_pos f.path
  have he := len_sum Mo.wtE wtE_pos f.ents
  have hq := hwf
  unfold Mo.wtF at hq
  unfold Jv.jF
  unfold Me.JB
  simp only [Me.JBM, Me.JBP]
  refine ⟨by simp, ⟨k6, ?_⟩, ⟨k1, str_jb (by omega)⟩, ⟨k2, str_jb (by omega)⟩, ⟨k3, str_jb (by omega)⟩, ⟨k5, int_jb (hu f hf).1⟩, ⟨k7, ?_⟩, trivial⟩
  · unfold Me.JB
    rw [Me.JBL_iff]
    refine ⟨by rw [List.length_map]; omega, fun y hy => ?_⟩
    obtain ⟨s, hs, rfl⟩ := List.mem_map.1 hy
    have h1 := mem_sum Mo.wtP hs
    have h2 : Mo.wtP s ≤ 5000 := by omega
    unfold Mo.wtP at h2
    exact str_jb (by omega)
  · unfold Me.JB
    rw [Me.JBL_iff]
    refine ⟨by rw [List.length_map]; omega, fun y hy => ?_⟩
    obtain ⟨e, he', rfl⟩ := List.mem_map.1 hy
    have h1 := mem_sum Mo.wtE he'
    have h2 : Mo.wtE e ≤ 5000 := by omega
    unfold Mo.wtE at h2
    unfold Jv.jE
    unfold Me.JB
    simp only [Me.JBM, Me.JBP]
    exact ⟨by simp, ⟨k1, str_jb (by omega)⟩, ⟨k2, str_jb (by omega)⟩, ⟨k3, str_jb (by omega)⟩, ⟨k4, str_jb (by omega)⟩, ⟨k5, int_jb ((hu f hf).2 e he')⟩, trivial⟩
end Go.Proofs.YtbodoncomeegpaaGreatDoor.Ms
/- TopRecovers where there is nothing to recover: the law answers by stores. -/
namespace Go.Proofs.YtbodoncomeegpaaGreatDoor.Ms
open Go Go.RowKit Go.Proofs.YtbodoncomeegpaaGreatDoor Go.Proofs.YtbodoncomeegpaaGreatDoor.Rw Go.Proofs.YtbodoncomeegpaaGreatDoor.Vf
set_option linter.unusedVariables false

set_option maxRecDepth 100000
set_option maxHeartbeats 16000000
/-- What a machine's memory bounds. -/
structure LawIn (W : World) (va vn : Value) (ar : List Mo.Fd) (ns : List ByteArray) : Prop where
  mem : ArIs W va ar
  bd : Mw.ArB ar
  nm : Rw W vn 1 (ns.map sCell)
  wt : Me.WT W
  sp : ∀ u, Below W.heap.size W u → Me.Spaces u
section
variable {W : World} {va vn : Value} {ar : List Mo.Fd} {ns : List ByteArray}
theorem law_too (h : LawIn W va vn ar ns) (hc : 5000 < Mo.wtA ar) :
    Calls Tryz.prog 3 #[.agg #[va], vn] W fun e w' => e = .returned (.bool true) ∧ Below W.heap.size W w' := by
  have hba := (Below.refl W.heap.size W).alloc (Nat.le_refl _) (.cells #[va] 24)
  have x0 := Me.box_at (j := 0) (heap_alloc_new W (.cells #[va] 24)) rfl
  have HB := Lib.hid hba
  have CO := Lib.hid (topen_is (W.alloc (.cells #[va] 24)))
  have CT := Lib.hid (fun u (hu : Below W.heap.size W u) => Mw.tooLarge_is u va ar (h.mem.under hu) h.bd)
  rw [Mw.tooA_big hc] at CT
  have CS := Lib.hid (fun u (hu : Below W.heap.size W u) => stores_ok u (h.wt.below hu) (fun w hw => h.sp w (below_seq hu hw)))
  obtain ⟨-, -, ad, cap, rfl, -, -⟩ := Mw.feeds_at h.mem
  clear hba h hc
  go_enter Tryz.func3, Tryz.ntmps3
  go_wp2_with fail
  refine CO.out.mono ?_
  rintro e w1 ⟨F, s, p, rfl, -, -, -, hb1, -⟩
  have HB1 := Lib.hid (below_seq HB.out hb1)
  replace x0 := cell_under x0 hb1
  clear hb1 HB CO
  go_wp2_with fail
  refine (CT.out _ HB1.out).mono ?_
  rintro e w2 ⟨rfl, hb2⟩
  have HB2 := Lib.hid (below_seq HB1.out hb2)
  clear hb2 CT x0
  go_wp2_with fail
  refine (CS.out _ HB2.out).mono ?_
  rintro e w3 ⟨rfl, hb3⟩
  have HB3 := Lib.hid (below_seq HB2.out hb3)
  clear hb3 CS
  go_wp2_with fail
  go_ret
  exact ⟨rfl, HB3.out⟩
theorem law_bad (h : LawIn W va vn ar ns) (hc : ¬ 5000 < Mo.wtA ar) (hk : Mo.okA ar = false) :
    Calls Tryz.prog 3 #[.agg #[va], vn] W fun e w' => e = .returned (.bool true) ∧ Below W.heap.size W w' := by
  have hba := (Below.refl W.heap.size W).alloc (Nat.le_refl _) (.cells #[va] 24)
  have x0 := Me.box_at (j := 0) (heap_alloc_new W (.cells #[va] 24)) rfl
  have HB := Lib.hid hba
  have CO := Lib.hid (topen_is (W.alloc (.cells #[va] 24)))
  have CT := Lib.hid (fun u (hu : Below W.heap.size W u) => Mw.tooLarge_is u va ar (h.mem.under hu) h.bd)
  rw [show Mw.tooA ar = 0 from by unfold Mw.tooA; rw [if_neg hc]] at CT
  have CK := Lib.hid (fun u (hu : Below W.heap.size W u) => Mw.rcheckA_is u va ar (h.mem.under hu) h.bd)
  rw [hk] at CK
  change Hid (∀ u (hu : Below W.heap.size W u), Calls _ _ _ _ (fun e w' => e = .returned (.int .i64 22) ∧ _)) at CK
  have CS := Lib.hid (fun u (hu : Below W.heap.size W u) => stores_ok u (h.wt.below hu) (fun w hw => h.sp w (below_seq hu hw)))
  obtain ⟨-, -, ad, cap, rfl, -, -⟩ := Mw.feeds_at h.mem
  clear hba h hc hk
  go_enter Tryz.func3, Tryz.ntmps3
  go_wp2_with fail
  refine CO.out.mono ?_
  rintro e w1 ⟨F, s, p, rfl, -, -, -, hb1, -⟩
  have HB1 := Lib.hid (below_seq HB.out hb1)
  replace x0 := cell_under x0 hb1
  clear hb1 HB CO
  go_wp2_with fail
  refine (CT.out _ HB1.out).mono ?_
  rintro e w2 ⟨rfl, hb2⟩
  have HB2 := Lib.hid (below_seq HB1.out hb2)
  replace x0 := cell_under x0 hb2
  clear hb2 CT
  go_wp2_with fail
  refine (CK.out _ HB2.out).mono ?_
  rintro e w4 ⟨rfl, hb4⟩
  have HB4 := Lib.hid (below_seq HB2.out hb4)
  clear hb4 CK x0
  go_wp2_with fail
  refine (CS.out _ HB4.out).mono ?_
  rintro e w3 ⟨rfl, hb3⟩
  have HB3 := Lib.hid (below_seq HB4.out hb3)
  clear hb3 CS
  go_wp2_with fail
  go_ret
  exact ⟨rfl, HB3.out⟩
theorem law_many (h : LawIn W va vn ar ns) (hc : ¬ 5000 < Mo.wtA ar) (hk : Mo.okA ar = true) (hn : 20 < ns.length) :
    Calls Tryz.prog 3 #[.agg #[va], vn] W fun e w' => e = .returned (.bool true) ∧ Below W.heap.size W w' := by
  have hba := (Below.refl W.heap.size W).alloc (Nat.le_refl _) (.cells #[va] 24)
  have x0 := Me.box_at (j := 0) (heap_alloc_new W (.cells #[va] 24)) rfl
  have HB := Lib.hid hba
  have CO := Lib.hid (topen_is (W.alloc (.cells #[va] 24)))
  have CT := Lib.hid (fun u (hu : Below W.heap.size W u) => Mw.tooLarge_is u va ar (h.mem.under hu) h.bd)
  rw [show Mw.tooA ar = 0 from by unfold Mw.tooA; rw [if_neg hc]] at CT
  have CK := Lib.hid (fun u (hu : Below W.heap.size W u) => Mw.rcheckA_is u va ar (h.mem.under hu) h.bd)
  rw [hk] at CK
  change Hid (∀ u (hu : Below W.heap.size W u), Calls _ _ _ _ (fun e w' => e = .returned (.int .i64 0) ∧ _)) at CK
  have CS := Lib.hid (fun u (hu : Below W.heap.size W u) => stores_ok u (h.wt.below hu) (fun w hw => h.sp w (below_seq hu hw)))
  obtain ⟨-, -, na, nc, rfl, -, -⟩ := Mw.path_at h.nm
  obtain ⟨-, -, ad, cap, rfl, -, -⟩ := Mw.feeds_at h.mem
  have g1 : (20 : Int) < (ns.length : Int) := by omega
  obtain ⟨nl, hnl⟩ : ∃ n, ns.length = n := ⟨_, rfl⟩
  rw [hnl] at g1 ⊢
  clear hba h hc hk hn hnl
  go_enter Tryz.func3, Tryz.ntmps3
  go_wp2_with fail
  refine CO.out.mono ?_
  rintro e w1 ⟨F, s, p, rfl, -, -, -, hb1, -⟩
  have HB1 := Lib.hid (below_seq HB.out hb1)
  replace x0 := cell_under x0 hb1
  clear hb1 HB CO
  go_wp2_with fail
  refine (CT.out _ HB1.out).mono ?_
  rintro e w2 ⟨rfl, hb2⟩
  have HB2 := Lib.hid (below_seq HB1.out hb2)
  replace x0 := cell_under x0 hb2
  clear hb2 CT
  go_wp2_with fail
  refine (CK.out _ HB2.out).mono ?_
  rintro e w4 ⟨rfl, hb4⟩
  have HB4 := Lib.hid (below_seq HB2.out hb4)
  clear hb4 CK x0
  go_wp2_with fail
  refine (CS.out _ HB4.out).mono ?_
  rintro e w3 ⟨rfl, hb3⟩
  have HB3 := Lib.hid (below_seq HB4.out hb3)
  clear hb3 CS
  go_wp2_with fail
  go_ret
  exact ⟨rfl, HB3.out⟩
end
end Go.Proofs.YtbodoncomeegpaaGreatDoor.Ms
/- TopRecovers: the way that recovers. -/
namespace Go.Proofs.YtbodoncomeegpaaGreatDoor.Ms
open Go Go.RowKit Go.Proofs.YtbodoncomeegpaaGreatDoor Go.Proofs.YtbodoncomeegpaaGreatDoor.Rw Go.Proofs.YtbodoncomeegpaaGreatDoor.Vf
set_option linter.unusedVariables false

set_option maxRecDepth 100000
set_option maxHeartbeats 16000000
theorem putok_of {W : World} {va vn : Value} {ar : List Mo.Fd} {ns : List ByteArray} (h : LawIn W va vn ar ns) (hc : ¬ 5000 < Mo.wtA ar) (hk : Mo.okA ar = true) : PutOk W va ar := by
  have hw : Mo.wtA ar ≤ 5000 := by omega
  have hu : ∀ f ∈ ar, upOk f.upd ∧ ∀ e ∈ f.ents, upOk e.upd := fun f hf => ⟨(h.bd.each f hf).upd, fun e he => ((h.bd.each f hf).ents e he).upd⟩
  have hl := len_sum Mo.wtF wtF_pos ar
  unfold Mo.wtA at hw
  refine ⟨h.mem, ⟨hk, h.bd, by omega, fun f hf => ?_, fun f hf => ?_⟩, jA_jb ar (by unfold Mo.wtA; exact hw) hu, h.wt, h.sp, encA_len ar (by unfold Mo.wtA; exact hw) hu⟩
  · have h1 := mem_sum Mo.wtF hf
    have h2 := len_sum Mo.wtE wtE_pos f.ents
    unfold Mo.wtF at h1 hw
    omega
  · have h1 := mem_sum Mo.wtF hf
    have h2 := len_sum Mo.wtP wtP_pos f.path
    unfold Mo.wtF at h1 hw
    omega
theorem tmp_suffix (s : ByteArray) : tmpB (s ++ sTmp).data.toList = true := by
  unfold tmpB Lib.hasSuffix
  rw [List.isSuffixOf_iff_suffix]
  exact ⟨s.data.toList, by simp [sTmp, sufT]⟩
theorem put_names {a : AS} {k : ByteArray} {l : List UInt8} : ∀ q ∈ (AS.put k l a).2.names, q ∈ a.names ∨ q.1 = k.data.toList := by
  intro q hq
  unfold AS.put at hq
  split at hq
  · exact .inl hq
  · rename_i hk
    split at hq
    · exact .inl hq
    · have hq2 : q ∈ applyS a.names ⟨#[]⟩ k a.files.length := hq
      rw [apply_new _ _ _ (by simpa using hk)] at hq2
      rcases mem_put hq2 with rfl | h
      · exact .inr rfl
      · exact .inl h
/-- The state behind a put into a new file system. -/
def A0 (l : List UInt8) : AS := AS.new.swapped (nX ++ sJson) l
theorem a0_names (l : List UInt8) : (A0 l).names = [([120, 46, 106, 115, 111, 110], 0)] := rfl
theorem a0_q {l : List UInt8} (h : l.length ≤ 1000000) : Qs (A0 l) 1 := Qs.swapped new_q (by decide) h
theorem a0_tmp (l : List UInt8) : ∀ q ∈ (A0 l).names, tmpB q.1 = false ∧ q.2 < (A0 l).files.length := by
  intro q hq
  rw [a0_names] at hq
  rcases List.mem_singleton.1 hq with rfl
  exact ⟨by decide, by show 0 < 1; omega⟩
theorem a0_sync (l : List UInt8) : ∀ f ∈ (A0 l).files, f.synced = true := by
  intro f hf
  have hf2 : f ∈ [(⟨l, l, true⟩ : AF)] := hf
  rcases List.mem_singleton.1 hf2 with rfl
  rfl
/-- Names are short. -/
def Sh (a : AS) : Prop := ∀ q ∈ a.names, q.1.length ≤ 1000
theorem a0_sh (l : List UInt8) : Sh (A0 l) := by
  intro q hq
  rw [a0_names] at hq
  rcases List.mem_singleton.1 hq with rfl
  decide
theorem Sh.of {a b : AS} (h : Sh a) (e : b.names = a.names) : Sh b := fun q hq => h q (by rw [← e]; exact hq)
section
variable {W0 w w' : World} {B F s : Nat} {Z p0 : Nat → Prop} {a a' : AS}
theorem Now.via (h : Now W0 w B F Z p0 a) (hs : ¬ p0 s) (hlt : s < W0.heap.size) {f : FuncId} {args : Array Value} {r : Value} {P : AS → Prop} (c : ∀ p', Fs w B F Z a p' → ¬ p' s → Calls Tryz.prog f args w fun e w' => e = .returned r ∧ ∃ a', Now w w' B F Z p' a' ∧ P a') :
    Calls Tryz.prog f args w fun e w' => e = .returned r ∧ ∃ a', Now W0 w' B F Z p0 a' ∧ P a' := by
  obtain ⟨p', h1, h2, h3⟩ := h
  refine (c p' h1 (fun e => (h3 s e).elim hs (fun g => by omega))).mono ?_
  rintro e w' ⟨rfl, a', ⟨q, h4, h5, h6⟩, hP⟩
  refine ⟨rfl, a', ⟨q, h4, h2.trans h5 (fun k hk hq => (h3 k hq).elim id (fun g => absurd hk (by omega))), fun k hk => ?_⟩, hP⟩
  rcases h6 k hk with g | g
  · exact h3 k g
  · exact .inr (Nat.le_trans h2.size g)
theorem Now.under (h : Now W0 w B F Z p0 a) (hB : ∀ k, p0 k → B ≤ k) (hs : B ≤ W0.heap.size) : Below B W0 w := by
  obtain ⟨p', h1, h2, h3⟩ := h
  exact h2.below hB hs
theorem files_now {n : Nat} (h : Now W0 w B F Z p0 a) (ok : a.Ok n) (hd : a.down = false) (hn : n ≤ 400000) (hsh : Sh a) :
    Calls Tryz.prog 9 #[.pointer (some ⟨F, 0, none⟩)] w fun e w' => e = .returned (.string ⟨(ftext a).toArray⟩) ∧ Now W0 w' B F Z p0 a := by
  obtain ⟨p', h1, h2, h3⟩ := id h
  refine (files_is h1 ok hd hn hsh).mono ?_
  rintro e w' ⟨rfl, hb⟩
  exact ⟨rfl, h.below hb⟩
theorem crash_now {n : Nat} (h : Now W0 w B F Z p0 a) (ok : a.Ok n) (hn : n ≤ 400000) :
    Calls Tryz.prog 12 #[.pointer (some ⟨F, 0, none⟩), .slice none 0 0, .slice none 0 0] w fun e w' => e = .returned (.tuple #[]) ∧ Now W0 w' B F Z p0 (a.crash [] []) :=
  h.call (fun p' hp => crash_fs0 hp ok hn _ _ [] [] ⟨0, 0, none, 0, rfl, fun h => absurd h (by simp), fun j hj => absurd hj (by simp)⟩ ⟨0, 0, none, 0, rfl, Nat.le_refl _, fun h => absurd h (by simp), fun j hj => absurd hj (by simp)⟩ (fun h => absurd h (by simp)) (fun h => absurd h (by simp)) (by simp) (by simp))
theorem recover_now {n : Nat} {a0 : AS} (h : Now W0 w B F Z p0 a) (hs : Sto W0 s F) (np : ¬ p0 s) (rc : Rc tmpB a0 a n) (h0 : ∀ q ∈ a0.names, tmpB q.1 = false ∧ q.2 < a0.files.length) (hs0 : So a0.names) (hsz : Sh a) (hn : n + a.names.length ≤ 200000) :
    Calls Tryz.prog 11 #[.pointer (some ⟨s, 0, none⟩)] w fun e w' => e = .returned (.int .i64 0) ∧ ∃ a', Now W0 w' B F Z p0 a' ∧ (Rc tmpB a0 a' (n + a.names.length + 1) ∧ a'.names = a0.names ∧ a'.dur = a0.names ∧ a'.pend = []) :=
  h.via np (Rw.lt_of_cell hs) (P := fun a' => Rc tmpB a0 a' (n + a.names.length + 1) ∧ a'.names = a0.names ∧ a'.dur = a0.names ∧ a'.pend = []) (fun p' hp hnp => recover_ok hp (h.cell hs np) hnp rc h0 hs0 hsz hn)
end
end Go.Proofs.YtbodoncomeegpaaGreatDoor.Ms
/- TopRecovers, walked: the way that recovers. -/
namespace Go.Proofs.YtbodoncomeegpaaGreatDoor.Ms
open Go Go.RowKit Go.Proofs.YtbodoncomeegpaaGreatDoor Go.Proofs.YtbodoncomeegpaaGreatDoor.Rw Go.Proofs.YtbodoncomeegpaaGreatDoor.Vf
set_option linter.unusedVariables false

set_option maxRecDepth 100000
set_option maxHeartbeats 16000000
section
variable {W : World} {va vn : Value} {ar : List Mo.Fd} {ns : List ByteArray}
theorem LawIn.under (h : LawIn W va vn ar ns) {u : World} (hu : Below W.heap.size W u) : LawIn u va vn ar ns := ⟨h.mem.under hu, h.bd, h.nm.under hu, h.wt.below hu, fun w hw => h.sp w (below_seq hu hw)⟩
theorem law_main (h : LawIn W va vn ar ns) (hc : ¬ 5000 < Mo.wtA ar) (hk : Mo.okA ar = true) (hn : ¬ 20 < ns.length) :
    Calls Tryz.prog 3 #[.agg #[va], vn] W fun e w' => e = .returned (.bool true) ∧ Below W.heap.size W w' := by
  have hba := (Below.refl W.heap.size W).alloc (Nat.le_refl _) (.cells #[va] 24)
  have x0 := Me.box_at (j := 0) (heap_alloc_new W (.cells #[va] 24)) rfl
  have HB := Lib.hid hba
  have CO := Lib.hid (topen_is (W.alloc (.cells #[va] 24)))
  have CT := Lib.hid (fun u (hu : Below W.heap.size W u) => Mw.tooLarge_is u va ar (h.mem.under hu) h.bd)
  rw [show Mw.tooA ar = 0 from by unfold Mw.tooA; rw [if_neg hc]] at CT
  have CK := Lib.hid (fun u (hu : Below W.heap.size W u) => Mw.rcheckA_is u va ar (h.mem.under hu) h.bd)
  rw [hk] at CK
  change Hid (∀ u (hu : Below W.heap.size W u), Calls _ _ _ _ (fun e w' => e = .returned (.int .i64 0) ∧ _)) at CK
  have CS := Lib.hid (fun u (hu : Below W.heap.size W u) => stores_ok u (h.wt.below hu) (fun w hw => h.sp w (below_seq hu hw)))
  have PO := Lib.hid (fun u (hu : Below W.heap.size W u) => putok_of (h.under hu) hc hk)
  have HL := Lib.hid (putok_of h hc hk).len
  obtain ⟨g, off, na, nc, rfl, hna, hnc⟩ := Mw.path_at h.nm
  obtain ⟨-, -, ad, cap, rfl, -, -⟩ := Mw.feeds_at h.mem
  obtain ⟨nl, hnl⟩ : ∃ n, ns.length = n := ⟨_, rfl⟩
  rw [hnl] at hn hna ⊢
  have HNA := Lib.hid hna
  have HNC := Lib.hid hnc
  have HNL := Lib.hid hnl
  have g1 : decide ((20 : Int) < (nl : Int)) = false := decide_eq_false (by omega)
  have g2 : nl ≤ 20 := by omega
  obtain ⟨q, hq⟩ : ∃ q, Jv.enc (Jv.jA ar) = q := ⟨_, rfl⟩
  have HQ := Lib.hid hq
  have HQ0 := Lib.hid (a0_q (l := q) (by rw [← hq]; exact HL.out))
  clear hba h hc hk hn hna hnc hnl hq HL
  go_enter Tryz.func3, Tryz.ntmps3
  go_wp2_with fail
  refine CO.out.mono ?_
  rintro e w1 ⟨F, s, p, rfl, hF, hs, np, hb1, hpk⟩
  have HB1 := Lib.hid (below_seq HB.out hb1)
  have HBL := Lib.hid HB.out.size
  have HBW := Lib.hid hb1.size
  replace x0 := cell_under x0 hb1
  generalize (W.alloc (.cells #[.slice ad ar.length cap] 24)).heap.size = B at hF hpk HBL HBW
  have HF := Lib.hid hF
  have HS := Lib.hid hs
  have HNP := Lib.hid np
  have HPK := Lib.hid hpk
  clear hb1 HB CO hF hs np hpk
  go_wp2_with fail
  refine (CT.out _ HB1.out).mono ?_
  rintro e w2 ⟨rfl, hb2⟩
  have HB2 := Lib.hid (below_seq HB1.out hb2)
  have HF2 := Lib.hid (HF.out.below hb2)
  have HS2 := Lib.hid (show Sto w2 s F from cell_under HS.out hb2)
  have HW2 := Lib.hid (Nat.le_trans HBW.out hb2.size)
  replace x0 := cell_under x0 hb2
  clear hb2 CT HF HS HBW
  go_wp2_with fail
  refine (CK.out _ HB2.out).mono ?_
  rintro e w3 ⟨rfl, hb3⟩
  have HB3 := Lib.hid (below_seq HB2.out hb3)
  have HS3 := Lib.hid (show Sto w3 s F from cell_under HS2.out hb3)
  have HW3 := Lib.hid (Nat.le_trans HW2.out hb3.size)
  have CP := Lib.hid (put_ok (nm := nX) isname_x (by decide) (HF2.out.below hb3) new_q (by omega) HS3.out HNP.out _ ar (PO.out w3 HB3.out) rfl)
  rw [HQ.out] at CP
  change Hid (Calls _ _ _ _ (fun e w' => _ ∧ Now w3 w' B F (fun _ => False) p (A0 q))) at CP
  replace x0 := cell_under x0 hb3
  clear hb3 CK HF2 HS2 HW2 PO
  unfold nX at CP
  go_wp2_with fail
  refine CP.out.mono ?_
  rintro e w4 ⟨rfl, h4⟩
  have CF := Lib.hid (files_now h4 HQ0.out.ok rfl (by omega) (a0_sh q))
  clear h4 CP x0
  obtain ⟨Q, hQ⟩ : ∃ Q : ByteArray, (⟨(ftext (A0 q)).toArray⟩ : ByteArray) = Q := ⟨_, rfl⟩
  have HTX := Lib.hid hQ
  rw [hQ] at CF
  clear hQ
  go_wp2_with fail
  refine CF.out.mono ?_
  rintro e w5 ⟨rfl, h5⟩
  have H5 := Lib.hid h5
  clear h5 CF
  go_wp2_with fail
  go_loopw [40] (fun x wr => ∃ k : Nat, k ≤ nl ∧ x = .int .i64 k ∧ Hid (∃ ak, Now w3 wr B F (fun _ => False) p ak ∧ Rc tmpB (A0 q) ak (1 + k) ∧ Sh ak)) (fun x _ => nl - (intOf x).toNat)
  case atStart => exact ⟨0, Nat.zero_le _, rfl, Lib.hid ⟨A0 q, H5.out, Rc.refl HQ0.out, a0_sh q⟩⟩
  case round =>
    obtain ⟨k, hk, rfl, hst⟩ := hrel
    obtain ⟨ak, hnow, hrc, hsh⟩ := hst.out
    have HNW := Lib.hid hnow
    have HRK := Lib.hid hrc
    have HSH := Lib.hid hsh
    have HBR := Lib.hid (HB3.out.trans ((hnow.under HPK.out HW3.out).mono HBL.out))
    clear hst hnow hrc hsh
    by_cases hlt : k < nl
    · obtain rfl := HNA.out (by omega)
      have hkl : k < ns.length := by rw [HNL.out]; exact hlt
      have c0 := cell_under (HNC.out k hkl) HBR.out
      have i1 : (k : Int) < (nl : Int) := by omega
      have i0 : (0 : Int) ≤ (k : Int) := by omega
      generalize ns[k] = nm at c0
      by_cases hsz : nm.size < 100
      · have i2 : (nm.size : Int) < 100 := by omega
        obtain ⟨cp, w6, hcv, hrd, hb6⟩ := conv_str wr nm
        have hst := size_tmp nm
        have hln : nm.data.toList.length ≤ 1000000 := by
          have : nm.data.toList.length = nm.size := by simp
          omega
        have hadd := fun w => run_string_add_sum (P := Tryz.prog) w nm ⟨#[46, 116, 109, 112]⟩ (show nm.size + 4 ≤ 9223372036854775807 by omega)
        have e0 : AS.op (AS.put (nm ++ sTmp) nm.data.toList) (AS.tear (nm ++ sTmp) nm.data.toList) ak = AS.put (nm ++ sTmp) nm.data.toList ak := op_rest HRK.out.dn HRK.out.ar _ _
        have CW := Lib.hid ((HNW.out.below hb6).call (r := .int .i64 (AS.put (nm ++ sTmp) nm.data.toList ak).1) (a' := (AS.put (nm ++ sTmp) nm.data.toList ak).2) (f := 10) (args := #[.pointer (some ⟨F, 0, none⟩), .string (nm ++ sTmp), .slice (some ⟨wr.heap.size, 0, none⟩) nm.size cp]) (fun p' hp => by
          have := write_fs hp HRK.out.ok (by omega) (nm ++ sTmp) _ nm.data.toList (by omega) hln hrd
          rw [e0] at this
          exact this))
        have HN2 : Hid (Rc tmpB (A0 q) (AS.put (nm ++ sTmp) nm.data.toList ak).2 (1 + k + 1) ∧ Sh (AS.put (nm ++ sTmp) nm.data.toList ak).2) := Lib.hid ⟨HRK.out.put (a0_tmp q) (ne_tmp nm) (tmp_suffix nm) (by omega) hln, fun x hx => by
          rcases put_names x hx with g | g
          · exact HSH.out x g
          · rw [g]
            have : (nm ++ sTmp).data.toList.length = (nm ++ sTmp).size := by simp
            omega⟩
        generalize (AS.put (nm ++ sTmp) nm.data.toList ak).1 = er at CW
        generalize (AS.put (nm ++ sTmp) nm.data.toList ak).2 = an at CW HN2
        unfold sTmp at CW
        clear hrd hb6 e0 hst
        go_wp2_with fail
        refine CW.out.mono ?_
        rintro e w7 ⟨rfl, h7⟩
        have HN7 := Lib.hid (⟨an, h7, HN2.out.1, HN2.out.2⟩ : ∃ ak, Now w3 w7 B F (fun _ => False) p ak ∧ Rc tmpB (A0 q) ak (1 + (k + 1)) ∧ Sh ak)
        clear h7 CW hcv hadd c0
        go_wp2_with fail
        go_roundw
        case rel => exact ⟨k + 1, by omega, by go_num, HN7⟩
        case measure => simp [intOf]; omega
      · have i2 : decide ((nm.size : Int) < 100) = false := decide_eq_false (by omega)
        have HN7 := Lib.hid (⟨ak, HNW.out, HRK.out.mono (Nat.le_succ _), HSH.out⟩ : ∃ ak, Now w3 wr B F (fun _ => False) p ak ∧ Rc tmpB (A0 q) ak (1 + (k + 1)) ∧ Sh ak)
        go_wp2_with fail
        go_roundw
        case rel => exact ⟨k + 1, by omega, by go_num, HN7⟩
        case measure => simp [intOf]; omega
    · have gl : decide ((k : Int) < (nl : Int)) = false := decide_eq_false (by omega)
      have CR := Lib.hid (recover_now HNW.out HS3.out HNP.out HRK.out (a0_tmp q) HQ0.out.ok.sn HSH.out (by have := HRK.out.ok.names; omega))
      have HLN := Lib.hid HRK.out.ok.names
      go_wp2_with fail
      refine CR.out.mono ?_
      rintro e w6 ⟨rfl, a1, h6, r1, n1, d1, p1⟩
      have HR1 := Lib.hid (And.intro r1 (And.intro n1 (And.intro d1 p1)))
      have CF1 := Lib.hid (files_now h6 r1.ok r1.dn (by have := HLN.out; omega) ((a0_sh q).of n1))
      rw [Rc.text HQ0.out.ok rfl r1 n1, HTX.out] at CF1
      clear h6 r1 n1 d1 p1 CR
      go_wp2_with fail
      refine CF1.out.mono ?_
      rintro e w7 ⟨rfl, h7⟩
      have CR2 := Lib.hid (recover_now h7 HS3.out HNP.out HR1.out.1 (a0_tmp q) HQ0.out.ok.sn ((a0_sh q).of HR1.out.2.1) (by rw [HR1.out.2.1, a0_names]; have := HLN.out; simp; omega))
      clear h7 CF1
      go_wp2_with fail
      refine CR2.out.mono ?_
      rintro e w8 ⟨rfl, a2, h8, r2, n2, d2, p2⟩
      rw [show a1.names.length = 1 by rw [HR1.out.2.1, a0_names]; rfl] at r2
      have HR2 := Lib.hid (And.intro r2 (And.intro n2 (And.intro d2 p2)))
      have CF2 := Lib.hid (files_now h8 r2.ok r2.dn (by have := HLN.out; omega) ((a0_sh q).of n2))
      rw [Rc.text HQ0.out.ok rfl r2 n2, HTX.out] at CF2
      clear h8 r2 n2 d2 p2 CR2
      go_wp2_with fail
      refine CF2.out.mono ?_
      rintro e w9 ⟨rfl, h9⟩
      have CC := Lib.hid (crash_now h9 HR2.out.1.ok (by have := HLN.out; omega))
      obtain ⟨r3, n3⟩ := HR2.out.1.crash (a0_sync q) (HR2.out.2.2.1.trans HR2.out.2.1.symm) HR2.out.2.2.2
      have HR3 := Lib.hid (And.intro r3 (n3.trans HR2.out.2.1))
      clear h9 CF2 r3 n3
      go_wp2_with fail
      refine CC.out.mono ?_
      rintro e w10 ⟨rfl, h10⟩
      have H10 := Lib.hid h10
      have HB10 := Lib.hid (HB3.out.trans ((h10.under HPK.out HW3.out).mono HBL.out))
      have CST := Lib.hid (CS.out w10 HB10.out)
      clear h10 CC CS
      go_wp2_with fail
      refine CST.out.mono ?_
      rintro e w11 ⟨rfl, hb11⟩
      have HB11 := Lib.hid (below_seq HB10.out hb11)
      have CF3 := Lib.hid (files_now (H10.out.below hb11) HR3.out.1.ok HR3.out.1.dn (by have := HLN.out; omega) ((a0_sh q).of HR3.out.2))
      rw [Rc.text HQ0.out.ok rfl HR3.out.1 HR3.out.2, HTX.out] at CF3
      clear hb11 CST
      go_wp2_with fail
      refine CF3.out.mono ?_
      rintro e w12 ⟨rfl, h12⟩
      have HB12 := Lib.hid (HB3.out.trans ((h12.under HPK.out HW3.out).mono HBL.out))
      clear h12 CF3
      go_wp2_with fail
      go_ret
      exact ⟨rfl, HB12.out⟩
theorem law_is (h : LawIn W va vn ar ns) :
    Calls Tryz.prog 3 #[.agg #[va], vn] W fun e w' => e = .returned (.bool true) ∧ Below W.heap.size W w' := by
  by_cases hc : 5000 < Mo.wtA ar
  · exact law_too h hc
  · cases hk : Mo.okA ar with
    | false => exact law_bad h hc hk
    | true =>
      by_cases hn : 20 < ns.length
      · exact law_many h hc hk hn
      · exact law_main h hc hk hn
end
end Go.Proofs.YtbodoncomeegpaaGreatDoor.Ms
/- How TopRecovers' arguments are opened: archives and rows of strings in memory. -/
namespace Go.Proofs.YtbodoncomeegpaaGreatDoor.StO
open Go Go.ChangeShapes Go.WideShapes Go.ChangeAt Go.RowKit Go.Proofs.YtbodoncomeegpaaGreatDoor Go.Proofs.YtbodoncomeegpaaGreatDoor.Rw
set_option linter.unusedVariables false

theorem spot_none {w : World} {a : Addr} {v : Value} (h : w.cell? a = some v) : a = ⟨a.block, a.off, none⟩ := by
  obtain ⟨g, off, spot⟩ := a
  cases spot with
  | none => rfl
  | some s =>
    unfold World.cell? at h
    cases hb : w.heap[g]? with
    | none => rw [hb] at h; simp at h
    | some o => rw [hb] at h; cases o <;> simp at h
theorem add_at {a : Addr} (h : a = ⟨a.block, a.off, none⟩) (i : Nat) : a.add i = ⟨a.block, a.off + i, none⟩ := by
  unfold Addr.add
  split
  · rename_i h0; rw [h0]; exact h
  · rfl
theorem weights_all {H : Type} {P : Program} {e : TypeId} : ∀ {l : List (DataW H)} {d : DataW H}, d ∈ l → ∀ n ∈ d.weights P e, n ∈ DataW.weightsAll P e l
  | a :: r, d, h, n, hn => by
    simp only [DataW.weightsAll, List.mem_append]
    rcases List.mem_cons.1 h with rfl | h
    · exact .inl hn
    · exact .inr (weights_all h n hn)
theorem slice_at {P : Program} {w : World} {r : Reach} {base : Nat} {t e : TypeId} {v : Value} (ht : P.underlying t = some (.slice e)) (h : Value.okWide P w r base t v) : v = .slice none 0 0 ∨ ∃ g off len cap, v = .slice (some ⟨g, off, none⟩) len cap ∧ g < w.heap.size := by
  simp only [Value.okWide, ht, Cell.okWide] at h
  cases v with
  | slice a len cap =>
    cases a with
    | none =>
      left
      simp only [Cell.ok, ht] at h
      split at h <;> simp_all
    | some a =>
      right
      simp only [Cell.ok, ht] at h
      obtain ⟨-, -, -, h2, row, cells, h3, -⟩ := h
      obtain ⟨g, off, spot⟩ := a
      simp only at h2
      subst h2
      refine ⟨g, off, len, cap, rfl, ?_⟩
      unfold World.shape? at h3
      cases hb : w.heap[g]? with
      | none => simp [hb] at h3
      | some o => exact Rw.lt_of_heap hb
  | _ => simp_all [Cell.ok]
section
variable {H : Type} {enc : TypeId × Value → H} {W : World}
set_option maxRecDepth 100000 in
theorem row_of {T E : TypeId} {sz : Nat} (hT : Tryz.prog.underlying T = some (.slice E)) (hc : Tryz.prog.cellsOf E = sz) (h0 : 0 < sz) {fuel : Nat} {cs : List Value} {x : DataW H × List MemPlace} (h : DataW.trod enc Tryz.prog W 0 (fun _ => true) true fuel T cs = some x) (hw : ∀ n ∈ x.1.weights Tryz.prog T, n ≤ reachBytes) :
    ∃ v L, cs = [v] ∧ Rw W v sz L ∧ (∀ c ∈ L, c.length = sz ∧ ∃ m x', DataW.trod enc Tryz.prog W 0 (fun _ => true) true m E c = some x' ∧ ∀ n ∈ x'.1.weights Tryz.prog E, n ≤ reachBytes) ∧ L.length * Tryz.prog.bytesOf E ≤ reachBytes := by
  rcases DataW.trod_slice hT h with ⟨hcs, hx⟩ | ⟨a, len, cap, elems, rest, m, -, hcs, hx, -, hl, hm, hel, he, -, -⟩
  · exact ⟨_, [], hcs, Rw.nil W sz, fun c hc => absurd hc (by simp), by simp⟩
  · obtain ⟨d, pl⟩ := x
    simp only [Prod.mk.injEq] at hx
    obtain ⟨rfl, -⟩ := hx
    have each : ∀ i (hi : i < len), ∃ c : List Value, c.length = sz ∧ (∀ k, k < sz → W.cell? ((a.add (i * sz)).add k) = c[k]?) ∧ ∃ m x', DataW.trod enc Tryz.prog W 0 (fun _ => true) true m E c = some x' ∧ ∀ n ∈ x'.1.weights Tryz.prog E, n ≤ reachBytes := by
      intro i hi
      have h1 := he i hi
      rw [hc, List.getElem?_eq_getElem (by omega)] at h1
      obtain ⟨c, hcc, ht⟩ := Option.bind_eq_some_iff.1 h1
      obtain ⟨-, h2, hcell⟩ := World.cells?_some hcc
      refine ⟨c, h2, hcell, m, _, ht, fun n hn => hw n ?_⟩
      simp only [DataW.weights, hT]
      exact List.mem_cons_of_mem _ (List.mem_append.2 (.inl (weights_all (List.mem_map_of_mem (List.getElem_mem (by omega : i < elems.length))) n hn)))
    have hall : ∃ L : List (List Value), L.length = len ∧ ∀ i (hi : i < L.length), L[i].length = sz ∧ (∀ k, k < sz → W.cell? ((a.add (i * sz)).add k) = L[i][k]?) ∧ ∃ m x', DataW.trod enc Tryz.prog W 0 (fun _ => true) true m E L[i] = some x' ∧ ∀ n ∈ x'.1.weights Tryz.prog E, n ≤ reachBytes := by
      refine ⟨(List.range len).attach.map fun i => Classical.choose (each i.1 (List.mem_range.1 i.2)), by simp, fun i hi => ?_⟩
      have hi2 : i < len := by simpa using hi
      have := Classical.choose_spec (each i hi2)
      simpa using this
    obtain ⟨L, hLn, hL⟩ := hall
    have ha : 0 < L.length → a = ⟨a.block, a.off, none⟩ := fun hp => by
      obtain ⟨h1, h2, -⟩ := hL 0 hp
      have h3 := h2 0 h0
      rw [List.getElem?_eq_getElem (by omega)] at h3
      have h5 : ((a.add (0 * sz)).add 0) = a := by rw [Nat.zero_mul]; unfold Addr.add; simp
      rw [h5] at h3
      exact spot_none h3
    refine ⟨_, L, hcs, ⟨a.block, a.off, some a, cap, by rw [hLn], fun hp => by rw [← ha hp], fun j hj k hk => ?_⟩, fun c hcL => ?_, ?_⟩
    · obtain ⟨h1, h2, -⟩ := hL j hj
      have h3 := h2 k hk
      have hk2 : k < L[j].length := by omega
      refine ⟨L[j][k], List.getElem?_eq_getElem hk2, ?_⟩
      rw [List.getElem?_eq_getElem hk2, add_at (ha (by omega)), add_at rfl] at h3
      exact h3
    · obtain ⟨i, hi, rfl⟩ := List.getElem_of_mem hcL
      exact ⟨(hL i hi).1, (hL i hi).2.2⟩
    · have h3 := hw _ (by simp only [DataW.weights, hT]; exact List.mem_cons_self ..)
      rw [hLn]
      refine Nat.le_trans (Nat.mul_le_mul_right _ ?_) h3
      simp only [List.length_map, hel]
      omega
theorem hreach : reachBytes = 140737488351232 := by kernel_rfl
theorem sCell_of {c : List Value} {m : Nat} {x : DataW H × List MemPlace} (h : DataW.trod enc Tryz.prog W 0 (fun _ => true) true m 9 c = some x) (hw : ∀ n ∈ x.1.weights Tryz.prog 9, n ≤ reachBytes) : ∃ s : ByteArray, c = sCell s ∧ s.size ≤ 140737488355327 := by
  obtain ⟨s, e, g, -⟩ := DataW.trod_string Tryz.underlying9 h
  have h1 := sized_string (P := Tryz.prog) (ts := [9]) (ds := [x.1]) (by rw [List.all_eq_true]; intro n hn; simp only [DataW.weightsEach, List.append_nil] at hn; exact decide_eq_true (hw n hn)) (j := 0) (t := 9) rfl (show _ = some (DataW.lit (.string s.data.toList)) by rw [g]; rfl)
  have h2 := hreach
  have h3 : s.data.toList.length = s.size := by simp
  exact ⟨s, e, by omega⟩
theorem i64_in {n : Int} (h : (Lit.int .i64 n).wf = true) : -9223372036854775808 ≤ n ∧ n ≤ 9223372036854775807 := by
  simp only [Lit.wf, IntKind.min, IntKind.max, IntKind.signed, IntKind.bits, Bool.and_eq_true, decide_eq_true_eq, if_true] at h
  omega
/-- A row of strings. -/
theorem strs_of {fuel : Nat} {cs : List Value} {x : DataW H × List MemPlace} (h : DataW.trod enc Tryz.prog W 0 (fun _ => true) true fuel 25 cs = some x) (hw : ∀ n ∈ x.1.weights Tryz.prog 25, n ≤ reachBytes) :
    ∃ (v : Value) (l : List ByteArray), cs = [v] ∧ Rw W v 1 (l.map sCell) ∧ (∀ s ∈ l, s.size ≤ 140737488355327) ∧ l.length ≤ 8796093022208 := by
  obtain ⟨v, L, hcs, hR, hE, hl⟩ := row_of Tryz.underlying25 (sz := 1) (by kernel_rfl) (by omega) h hw
  have hall : ∃ l : List ByteArray, L = l.map sCell ∧ ∀ s ∈ l, s.size ≤ 140737488355327 := by
    clear hR hl hcs h hw
    induction L with
    | nil => exact ⟨[], rfl, fun s hs => absurd hs (by simp)⟩
    | cons c r ih =>
      obtain ⟨l, e, hs⟩ := ih (fun c hc => hE c (List.mem_cons_of_mem _ hc))
      obtain ⟨-, m, x', h1, h2⟩ := hE c (List.mem_cons_self ..)
      obtain ⟨s, e2, h3⟩ := sCell_of h1 h2
      exact ⟨s :: l, by rw [e, e2]; rfl, fun t ht => by rcases List.mem_cons.1 ht with rfl | ht; exact h3; exact hs t ht⟩
  obtain ⟨l, rfl, hs⟩ := hall
  have hby : Tryz.prog.bytesOf 9 = 16 := by kernel_rfl
  have h2 := hreach
  rw [hby, List.length_map] at hl
  exact ⟨v, l, hcs, hR, hs, by omega⟩
theorem list5 {α : Type} {l : List α} (h : l.length = 5) : ∃ a b c d e, l = [a, b, c, d, e] := by
  match l, h with
  | [a, b, c, d, e], _ => exact ⟨a, b, c, d, e, rfl⟩
theorem list6 {α : Type} {l : List α} (h : l.length = 6) : ∃ a b c d e f, l = [a, b, c, d, e, f] := by
  match l, h with
  | [a, b, c, d, e, f], _ => exact ⟨a, b, c, d, e, f, rfl⟩
theorem list1 {α : Type} {l : List α} (h : l.length = 1) : ∃ a, l = [a] := by
  match l, h with
  | [a], _ => exact ⟨a, rfl⟩
set_option maxRecDepth 100000 in
theorem entry_of {m : Nat} {c : List Value} {x : DataW H × List MemPlace} (h : DataW.trod enc Tryz.prog W 0 (fun _ => true) true m 47 c = some x) (hsz : ∀ n ∈ x.1.weights Tryz.prog 47, n ≤ reachBytes) : ∃ e : Mo.En, c = eCells e ∧ Mw.EnB e := by
  obtain ⟨xs, m, -, rfl, hlen, hxs, hf⟩ := DataW.trod_struct Tryz.underlying47 h
  have c1 : Tryz.prog.cellsOf 2 = 1 := by kernel_rfl
  have c2 : Tryz.prog.cellsOf 9 = 1 := by kernel_rfl
  have c8 : Tryz.prog.cellsOf 47 = 5 := by kernel_rfl
  rw [c8] at hlen
  have hxs5 : xs.length = 5 := hxs
  obtain ⟨a0, a1, a2, a3, a4, rfl⟩ := list5 hlen
  obtain ⟨y0, y1, y2, y3, y4, rfl⟩ := list5 hxs5
  have f0 : DataW.trod enc Tryz.prog W 0 (fun _ => true) true m 9 (List.take (Tryz.prog.cellsOf 9) [a0, a1, a2, a3, a4]) = some y0 := hf 0 _ rfl
  rw [c2] at f0
  replace f0 : DataW.trod enc Tryz.prog W 0 (fun _ => true) true m 9 [a0] = some y0 := f0
  have f1 : DataW.trod enc Tryz.prog W 0 (fun _ => true) true m 9 (List.take (Tryz.prog.cellsOf 9) [a1, a2, a3, a4]) = some y1 := hf 1 _ rfl
  rw [c2] at f1
  replace f1 : DataW.trod enc Tryz.prog W 0 (fun _ => true) true m 9 [a1] = some y1 := f1
  have f2 : DataW.trod enc Tryz.prog W 0 (fun _ => true) true m 9 (List.take (Tryz.prog.cellsOf 9) [a2, a3, a4]) = some y2 := hf 2 _ rfl
  rw [c2] at f2
  replace f2 : DataW.trod enc Tryz.prog W 0 (fun _ => true) true m 9 [a2] = some y2 := f2
  have f3 : DataW.trod enc Tryz.prog W 0 (fun _ => true) true m 9 (List.take (Tryz.prog.cellsOf 9) [a3, a4]) = some y3 := hf 3 _ rfl
  rw [c2] at f3
  replace f3 : DataW.trod enc Tryz.prog W 0 (fun _ => true) true m 9 [a3] = some y3 := f3
  have f4 : DataW.trod enc Tryz.prog W 0 (fun _ => true) true m 2 (List.take (Tryz.prog.cellsOf 2) [a4]) = some y4 := hf 4 _ rfl
  rw [c1] at f4
  replace f4 : DataW.trod enc Tryz.prog W 0 (fun _ => true) true m 2 [a4] = some y4 := f4
  have hw : ∀ n ∈ DataW.weightsEach Tryz.prog [9, 9, 9, 9, 2] [y0.1, y1.1, y2.1, y3.1, y4.1], n ≤ reachBytes := fun n hn => by
    refine hsz n ?_
    rw [show (DataW.weights Tryz.prog 47 (DataW.agg (List.map (fun x => x.1) [y0, y1, y2, y3, y4]) : DataW H)) = DataW.weightsEach Tryz.prog [9, 9, 9, 9, 2] [y0.1, y1.1, y2.1, y3.1, y4.1] by simp only [DataW.weights, Tryz.underlying47]; rfl]
    exact hn
  obtain ⟨s0, e0, z0⟩ := sCell_of f0 (fun n hn => hw n (DataW.weights_mem_each (j := 0) rfl rfl n hn))
  obtain ⟨s1, e1, z1⟩ := sCell_of f1 (fun n hn => hw n (DataW.weights_mem_each (j := 1) rfl rfl n hn))
  obtain ⟨s2, e2, z2⟩ := sCell_of f2 (fun n hn => hw n (DataW.weights_mem_each (j := 2) rfl rfl n hn))
  obtain ⟨s3, e3, z3⟩ := sCell_of f3 (fun n hn => hw n (DataW.weights_mem_each (j := 3) rfl rfl n hn))
  obtain ⟨n4, e4, -, w4⟩ := DataW.trod_int Tryz.underlying2 f4
  simp only [sCell, List.cons.injEq, and_true] at e0 e1 e2 e3 e4
  subst e0 e1 e2 e3 e4
  exact ⟨⟨s0, s1, s2, s3, n4⟩, rfl, z0, z1, z2, z3, i64_in w4⟩
/-- A row of entries. -/
theorem ents_of {fuel : Nat} {cs : List Value} {x : DataW H × List MemPlace} (h : DataW.trod enc Tryz.prog W 0 (fun _ => true) true fuel 43 cs = some x) (hw : ∀ n ∈ x.1.weights Tryz.prog 43, n ≤ reachBytes) :
    ∃ (v : Value) (l : List Mo.En), cs = [v] ∧ Rw W v 5 (l.map eCells) ∧ (∀ e ∈ l, Mw.EnB e) ∧ l.length ≤ 8796093022208 := by
  obtain ⟨v, L, hcs, hR, hE, hl⟩ := row_of Tryz.underlying43 (sz := 5) (by kernel_rfl) (by omega) h hw
  have hall : ∃ l : List Mo.En, L = l.map eCells ∧ ∀ e ∈ l, Mw.EnB e := by
    clear hR hl hcs h hw
    induction L with
    | nil => exact ⟨[], rfl, fun s hs => absurd hs (by simp)⟩
    | cons c r ih =>
      obtain ⟨l, e, hs⟩ := ih (fun c hc => hE c (List.mem_cons_of_mem _ hc))
      obtain ⟨-, m, x', h1, h2⟩ := hE c (List.mem_cons_self ..)
      obtain ⟨s, e2, h3⟩ := entry_of h1 h2
      exact ⟨s :: l, by rw [e, e2]; rfl, fun t ht => by rcases List.mem_cons.1 ht with rfl | ht; exact h3; exact hs t ht⟩
  obtain ⟨l, rfl, hs⟩ := hall
  have hby : Tryz.prog.bytesOf 47 = 72 := by kernel_rfl
  have h2 := hreach
  rw [hby, List.length_map] at hl
  exact ⟨v, l, hcs, hR, hs, by omega⟩
set_option maxRecDepth 100000 in
theorem feed_of {m : Nat} {c : List Value} {x : DataW H × List MemPlace} (h : DataW.trod enc Tryz.prog W 0 (fun _ => true) true m 45 c = some x) (hsz : ∀ n ∈ x.1.weights Tryz.prog 45, n ≤ reachBytes) : ∃ f : Mo.Fd, FdIs W f c ∧ Mw.FdB f := by
  obtain ⟨xs, m, -, rfl, hlen, hxs, hf⟩ := DataW.trod_struct Tryz.underlying45 h
  have c1 : Tryz.prog.cellsOf 2 = 1 := by kernel_rfl
  have c2 : Tryz.prog.cellsOf 9 = 1 := by kernel_rfl
  have c3 : Tryz.prog.cellsOf 25 = 1 := by kernel_rfl
  have c4 : Tryz.prog.cellsOf 43 = 1 := by kernel_rfl
  have c8 : Tryz.prog.cellsOf 45 = 6 := by kernel_rfl
  rw [c8] at hlen
  have hxs6 : xs.length = 6 := hxs
  obtain ⟨a0, a1, a2, a3, a4, a5, rfl⟩ := list6 hlen
  obtain ⟨y0, y1, y2, y3, y4, y5, rfl⟩ := list6 hxs6
  have f0 : DataW.trod enc Tryz.prog W 0 (fun _ => true) true m 25 (List.take (Tryz.prog.cellsOf 25) [a0, a1, a2, a3, a4, a5]) = some y0 := hf 0 _ rfl
  rw [c3] at f0
  replace f0 : DataW.trod enc Tryz.prog W 0 (fun _ => true) true m 25 [a0] = some y0 := f0
  have f1 : DataW.trod enc Tryz.prog W 0 (fun _ => true) true m 9 (List.take (Tryz.prog.cellsOf 9) [a1, a2, a3, a4, a5]) = some y1 := hf 1 _ rfl
  rw [c2] at f1
  replace f1 : DataW.trod enc Tryz.prog W 0 (fun _ => true) true m 9 [a1] = some y1 := f1
  have f2 : DataW.trod enc Tryz.prog W 0 (fun _ => true) true m 9 (List.take (Tryz.prog.cellsOf 9) [a2, a3, a4, a5]) = some y2 := hf 2 _ rfl
  rw [c2] at f2
  replace f2 : DataW.trod enc Tryz.prog W 0 (fun _ => true) true m 9 [a2] = some y2 := f2
  have f3 : DataW.trod enc Tryz.prog W 0 (fun _ => true) true m 9 (List.take (Tryz.prog.cellsOf 9) [a3, a4, a5]) = some y3 := hf 3 _ rfl
  rw [c2] at f3
  replace f3 : DataW.trod enc Tryz.prog W 0 (fun _ => true) true m 9 [a3] = some y3 := f3
  have f4 : DataW.trod enc Tryz.prog W 0 (fun _ => true) true m 2 (List.take (Tryz.prog.cellsOf 2) [a4, a5]) = some y4 := hf 4 _ rfl
  rw [c1] at f4
  replace f4 : DataW.trod enc Tryz.prog W 0 (fun _ => true) true m 2 [a4] = some y4 := f4
  have f5 : DataW.trod enc Tryz.prog W 0 (fun _ => true) true m 43 (List.take (Tryz.prog.cellsOf 43) [a5]) = some y5 := hf 5 _ rfl
  rw [c4] at f5
  replace f5 : DataW.trod enc Tryz.prog W 0 (fun _ => true) true m 43 [a5] = some y5 := f5
  have hw : ∀ n ∈ DataW.weightsEach Tryz.prog [25, 9, 9, 9, 2, 43] [y0.1, y1.1, y2.1, y3.1, y4.1, y5.1], n ≤ reachBytes := fun n hn => by
    refine hsz n ?_
    rw [show (DataW.weights Tryz.prog 45 (DataW.agg (List.map (fun x => x.1) [y0, y1, y2, y3, y4, y5]) : DataW H)) = DataW.weightsEach Tryz.prog [25, 9, 9, 9, 2, 43] [y0.1, y1.1, y2.1, y3.1, y4.1, y5.1] by simp only [DataW.weights, Tryz.underlying45]; rfl]
    exact hn
  obtain ⟨v0, l0, e0, r0, b0, n0⟩ := strs_of f0 (fun n hn => hw n (DataW.weights_mem_each (j := 0) rfl rfl n hn))
  obtain ⟨s1, e1, z1⟩ := sCell_of f1 (fun n hn => hw n (DataW.weights_mem_each (j := 1) rfl rfl n hn))
  obtain ⟨s2, e2, z2⟩ := sCell_of f2 (fun n hn => hw n (DataW.weights_mem_each (j := 2) rfl rfl n hn))
  obtain ⟨s3, e3, z3⟩ := sCell_of f3 (fun n hn => hw n (DataW.weights_mem_each (j := 3) rfl rfl n hn))
  obtain ⟨n4, e4, -, w4⟩ := DataW.trod_int Tryz.underlying2 f4
  obtain ⟨v5, l5, e5, r5, b5, n5⟩ := ents_of f5 (fun n hn => hw n (DataW.weights_mem_each (j := 5) rfl rfl n hn))
  simp only [sCell, List.cons.injEq, and_true] at e0 e1 e2 e3 e4 e5
  subst e0 e1 e2 e3 e4 e5
  exact ⟨⟨l0, s1, s2, s3, n4, l5⟩, ⟨_, _, rfl, r0, r5⟩, ⟨z1, z2, z3, n0, b0, n5, b5, i64_in w4⟩⟩
theorem arch_of {fuel : Nat} {cs : List Value} {x : DataW H × List MemPlace} (h : DataW.trod enc Tryz.prog W 0 (fun _ => true) true fuel 24 cs = some x) (hsz : ∀ n ∈ x.1.weights Tryz.prog 24, n ≤ reachBytes) :
    ∃ (v : Value) (a : List Mo.Fd), cs = [v] ∧ ArIs W v a ∧ Mw.ArB a := by
  obtain ⟨xs, m, -, rfl, hlen, hxs, hf⟩ := DataW.trod_struct Tryz.underlying24 h
  have c1 : Tryz.prog.cellsOf 22 = 1 := by kernel_rfl
  have c8 : Tryz.prog.cellsOf 24 = 1 := by kernel_rfl
  rw [c8] at hlen
  have hxs1 : xs.length = 1 := hxs
  obtain ⟨a0, rfl⟩ := list1 hlen
  obtain ⟨y0, rfl⟩ := list1 hxs1
  have f0 : DataW.trod enc Tryz.prog W 0 (fun _ => true) true m 22 (List.take (Tryz.prog.cellsOf 22) [a0]) = some y0 := hf 0 _ rfl
  rw [c1] at f0
  replace f0 : DataW.trod enc Tryz.prog W 0 (fun _ => true) true m 22 [a0] = some y0 := f0
  have hw : ∀ n ∈ DataW.weightsEach Tryz.prog [22] [y0.1], n ≤ reachBytes := fun n hn => by
    refine hsz n ?_
    rw [show (DataW.weights Tryz.prog 24 (DataW.agg (List.map (fun x => x.1) [y0]) : DataW H)) = DataW.weightsEach Tryz.prog [22] [y0.1] by simp only [DataW.weights, Tryz.underlying24]; rfl]
    exact hn
  obtain ⟨v, L, hcs, hR, hE, hl⟩ := row_of Tryz.underlying22 (sz := 6) (by kernel_rfl) (by omega) f0 (fun n hn => hw n (DataW.weights_mem_each (j := 0) rfl rfl n hn))
  have hall : ∃ l : List Mo.Fd, L.length = l.length ∧ (∀ j (hj : j < l.length) (hL : j < L.length), FdIs W l[j] L[j]) ∧ ∀ f ∈ l, Mw.FdB f := by
    clear hR hl hcs h hw f0 hf hlen hsz
    induction L with
    | nil => exact ⟨[], rfl, fun j hj => absurd hj (by simp), fun s hs => absurd hs (by simp)⟩
    | cons c r ih =>
      obtain ⟨l, e, hs, hb⟩ := ih (fun c hc => hE c (List.mem_cons_of_mem _ hc))
      obtain ⟨-, m, x', h1, h2⟩ := hE c (List.mem_cons_self ..)
      obtain ⟨f, h3, h4⟩ := feed_of h1 h2
      refine ⟨f :: l, by simp [e], fun j hj hL => ?_, fun t ht => by rcases List.mem_cons.1 ht with rfl | ht; exact h4; exact hb t ht⟩
      cases j with
      | zero => exact h3
      | succ j => exact hs j (by simpa using hj) (by simpa using hL)
  obtain ⟨l, h1, h2, h3⟩ := hall
  have hby : Tryz.prog.bytesOf 45 = 104 := by kernel_rfl
  have h5 := hreach
  rw [hby, h1] at hl
  exact ⟨v, l, hcs, ⟨L, h1, hR, h2⟩, ⟨by omega, h3⟩⟩
set_option maxRecDepth 100000 in
theorem arch_at {v : Value} {d : DataW H} {p : List MemPlace} {base : Nat} (hv : Value.okWide Tryz.prog W .any base 24 v) (h : DataW.Trod enc Tryz.prog W 0 (fun _ => true) true 24 v d p) {ts : List TypeId} {ds : List (DataW H)} {j : Nat} (hj : ts[j]? = some 24) (hd : ds[j]? = some d) (hsz : (DataW.weightsEach Tryz.prog ts ds).all (· ≤ reachBytes) = true) :
    ∃ (x : Value) (a : List Mo.Fd), v = .agg #[x] ∧ ArIs W x a ∧ Mw.ArB a := by
  obtain ⟨fuel, hf⟩ := h
  have hw : ∀ n ∈ d.weights Tryz.prog 24, n ≤ reachBytes := fun n hn => by simpa using List.all_eq_true.1 hsz n (DataW.weights_mem_each hj hd n hn)
  obtain ⟨cs, rfl, -⟩ : ∃ cs, v = .agg cs ∧ True := by
    unfold Value.okWide at hv
    rw [Tryz.underlying24] at hv
    obtain ⟨cs, h1, -⟩ := hv
    exact ⟨cs, h1, trivial⟩
  obtain ⟨x, a, hcs, h1, h2⟩ := arch_of hf hw
  refine ⟨x, a, ?_, h1, h2⟩
  have : cs.toList = (#[x] : Array Value).toList := by simpa [Value.cells] using hcs
  rw [Array.toList_inj.1 this]
set_option maxRecDepth 100000 in
theorem names_at {v : Value} {d : DataW H} {p : List MemPlace} {base : Nat} (hv : Value.okWide Tryz.prog W .any base 25 v) (h : DataW.Trod enc Tryz.prog W 0 (fun _ => true) true 25 v d p) {ts : List TypeId} {ds : List (DataW H)} {j : Nat} (hj : ts[j]? = some 25) (hd : ds[j]? = some d) (hsz : (DataW.weightsEach Tryz.prog ts ds).all (· ≤ reachBytes) = true) :
    ∃ l : List ByteArray, Rw W v 1 (l.map sCell) := by
  obtain ⟨fuel, hf⟩ := h
  have hw : ∀ n ∈ d.weights Tryz.prog 25, n ≤ reachBytes := fun n hn => by simpa using List.all_eq_true.1 hsz n (DataW.weights_mem_each hj hd n hn)
  obtain ⟨x, l, hcs, h1, -, -⟩ := strs_of hf hw
  obtain rfl : v = x := by
    rcases slice_at Tryz.underlying25 hv with rfl | ⟨g, off, len, cap, rfl, hg⟩ <;> simpa [Value.cells] using hcs
  exact ⟨l, h1⟩
end
end Go.Proofs.YtbodoncomeegpaaGreatDoor.StO
/- Plain facts on listed variables: a table of pairs that reads as listed holds just these cells. -/
namespace Go.Proofs.YtbodoncomeegpaaGreatDoor.Ld
open Go

theorem pairs_ext {l m : List Value} {n : Nat} (hl : l.length = 2 * n) (hm : m.length = 2 * n) (h : ∀ i, i < n → (l.drop (2 * i)).take 2 = (m.drop (2 * i)).take 2) : l = m := by
  apply List.ext_getElem?
  intro j
  by_cases hj : j < 2 * n
  · have e := congrArg (·[j % 2]?) (h (j / 2) (by omega))
    simp only [List.getElem?_take, List.getElem?_drop, if_pos (show j % 2 < 2 by omega), show 2 * (j / 2) + j % 2 = j by omega] at e
    exact e
  · rw [List.getElem?_eq_none (by omega), List.getElem?_eq_none (by omega)]
/-- An array of n pairs of one integer kind, read as the pairs of 'zs'. -/
theorem cells_of_pairs {H : Type} {enc : TypeId × Value → H} {P : Program} {w : World} {base : Nat} {sp : Nat → Bool} {held : Bool} {fuel : Nat} {t e i : TypeId} {n : Nat} {k : IntKind} {cs : List Value} {zs : List Int} {ds : List (DataW H)} {p : List MemPlace}
    (ht : P.underlying t = some (.array n e)) (he : P.underlying e = some (.array 2 i)) (hi : P.underlying i = some (.int k)) (hce : P.cellsOf e = 2) (hci : P.cellsOf i = 1) (hct : P.cellsOf t = 2 * n)
    (hz : zs.length = 2 * n) (hds : ∀ j, j < n → ds[j]? = some (Lib.tabData k [zs.getD (2 * j) 0, zs.getD (2 * j + 1) 0]))
    (h : DataW.trod enc P w base sp held fuel t cs = some (.agg ds, p)) : cs = zs.map fun z => Value.int k z := by
  have hlen : cs.length = 2 * n := by
    have h0 := h
    cases fuel with
    | zero => simp [DataW.trod] at h0
    | succ f =>
      simp only [DataW.trod, ht] at h0
      split at h0
      · rename_i hl
        rw [← hct]; exact hl
      · cases h0
  refine pairs_ext hlen (by simpa using hz) fun j hj => ?_
  obtain ⟨f', d, q, hd, htr⟩ := Lib.array_elem ht h j hj
  rw [hds j hj] at hd
  cases hd
  rw [hce] at htr
  have := Lib.cells_of_tab he hi hci hce htr
  rw [Nat.mul_comm] at this
  rw [this]
  have h1 : 2 * j < zs.length := by omega
  have h2 : 2 * j + 1 < zs.length := by omega
  rw [← List.map_drop, ← List.map_take, List.drop_eq_getElem_cons h1, List.take_succ_cons, List.drop_eq_getElem_cons h2, List.take_succ_cons, List.take_zero]
  simp [List.getD_eq_getElem?_getD, List.getElem?_eq_getElem h1, List.getElem?_eq_getElem h2]
theorem block_of_var {P : Program} {w : World} {n : String} {g : Nat} {cs : Array Value} (hg : P.globalNamed n = some g) (h : w.var? P n = some cs) : ∃ t fr, w.heap[g]? = some (.cells cs t fr) := by
  simp only [World.var?, hg, Option.bind_some] at h
  split at h
  · rename_i c t fr hb
    cases h
    exact ⟨t, fr, hb⟩
  · cases h
end Go.Proofs.YtbodoncomeegpaaGreatDoor.Ld
/- The package tables that TopRecovers reads, as the row lists them. -/
namespace Go.Proofs.YtbodoncomeegpaaGreatDoor.Ld
open Go Go.RowKit Go.Proofs.YtbodoncomeegpaaGreatDoor

theorem acc_eq : (Rows.laid_unicode_utf8_acceptRanges : DataW Unit) = Lib.acceptData := by kernel_rfl
theorem first_eq : (Rows.laid_unicode_utf8_first : DataW Unit) = Lib.firstData := by kernel_rfl
theorem u8_of {W : World} (h3 : Lib.VarReads Tryz.prog W "unicode/utf8.first" Rows.laid_unicode_utf8_first) (h4 : Lib.VarReads Tryz.prog W "unicode/utf8.acceptRanges" Rows.laid_unicode_utf8_acceptRanges) :
    Lib.Utf8Tabs 2 3 W := by
  rw [first_eq] at h3
  rw [acc_eq] at h4
  exact utf8Tabs_of_readsT (U8Types.of196 Tryz.lays196) ⟨by kernel_rfl, by kernel_rfl, by kernel_rfl, by kernel_rfl, by kernel_rfl, by kernel_rfl, by kernel_rfl⟩ h3 h4
theorem let_eq : (Rows.laid_feedvault_jsonstring_letters : DataW Unit) = .agg ((List.range 5).map fun j => Lib.tabData .u8 [Jw.letTab.getD (2 * j) 0, Jw.letTab.getD (2 * j + 1) 0]) := by kernel_rfl
theorem let_of {W : World} (h : Lib.VarReads Tryz.prog W "feedvault/jsonstring.letters" Rows.laid_feedvault_jsonstring_letters) : Jw.LetTab W := by
  obtain ⟨g, t, cs, fuel, p, hg, hty, hvar, hd⟩ := h
  obtain rfl := Option.some.inj ((show Tryz.prog.globalNamed "feedvault/jsonstring.letters" = some 6 by kernel_rfl).symm.trans hg)
  obtain rfl := Option.some.inj ((show (Tryz.prog.globals[6]?).map (·.type) = some 230 by kernel_rfl).symm.trans hty)
  rw [let_eq] at hd
  have hcs := cells_of_pairs (zs := Jw.letTab) Tryz.underlying230 Tryz.underlying229 Tryz.underlying5 (by kernel_rfl) (by kernel_rfl) (by kernel_rfl) rfl
    (fun j hj => by simp [List.getElem?_map, List.getElem?_range hj]) hd
  have : cs = Jw.letArr := by
    apply Array.toList_inj.1
    rw [hcs]; rfl
  rw [this] at hvar
  exact block_of_var hg hvar
theorem pow_eq : (Rows.laid_internal_strconv_uint64pow10 : DataW Unit) = Lib.tabData .u64 Lib.pow10Tab := by kernel_rfl
theorem pow_of {W : World} (h : Lib.VarReads Tryz.prog W "internal/strconv.uint64pow10" Rows.laid_internal_strconv_uint64pow10) : Me.Pow W := by
  obtain ⟨g, t, cs, fuel, p, hg, hty, hvar, hd⟩ := h
  obtain rfl := Option.some.inj ((show Tryz.prog.globalNamed "internal/strconv.uint64pow10" = some 5 by kernel_rfl).symm.trans hg)
  obtain rfl := Option.some.inj ((show (Tryz.prog.globals[5]?).map (·.type) = some 227 by kernel_rfl).symm.trans hty)
  rw [pow_eq] at hd
  have hcs := Lib.cells_of_tab Tryz.underlying227 Tryz.underlying207 (by kernel_rfl) (by kernel_rfl) hd
  unfold Me.Pow Lib.TabIs
  rw [hvar]
  congr 1
  apply Array.toList_inj.1
  rw [hcs]
theorem spc_eq : (Rows.laid_strings_asciiSpace : DataW Unit) = Lib.tabData .u8 Lib.asciiSpaceTab := by kernel_rfl
theorem spc_of {W : World} (h : Lib.VarReads Tryz.prog W "strings.asciiSpace" Rows.laid_strings_asciiSpace) : Me.Spaces W := by
  obtain ⟨g, t, cs, fuel, p, hg, hty, hvar, hd⟩ := h
  obtain rfl := Option.some.inj ((show Tryz.prog.globalNamed "strings.asciiSpace" = some 0 by kernel_rfl).symm.trans hg)
  obtain rfl := Option.some.inj ((show (Tryz.prog.globals[0]?).map (·.type) = some 159 by kernel_rfl).symm.trans hty)
  rw [spc_eq] at hd
  have hcs := Lib.cells_of_tab Tryz.underlying159 Tryz.underlying5 (by kernel_rfl) (by kernel_rfl) hd
  unfold Me.Spaces Lib.TabIs
  rw [hvar]
  congr 1
  apply Array.toList_inj.1
  rw [hcs]
theorem tabs_of {W : World} (h1 : Me.U8 W) (h2 : Jw.LetTab W) (h3 : Me.Pow W) (h4 : Me.Spaces W) : Me.WT W ∧ ∀ u, Below W.heap.size W u → Me.Spaces u :=
  ⟨⟨h1, h2, fun u hu => Joins.tab_stays (g := 5) (by kernel_rfl) h3 hu (Nat.le_refl _)⟩, fun u hu => Joins.tab_stays (g := 0) (by kernel_rfl) h4 hu (Nat.le_refl _)⟩
end Go.Proofs.YtbodoncomeegpaaGreatDoor.Ld
