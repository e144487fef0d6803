/- Parts of this proof, joined: Blz, StW5, StW6, StW7, StW8, StL1, StL2. -/
import Derived.Test.YtjaojenalodolaaGreatDoorProg
import Derived.Test.YtjaojenalodolaaGreatDoorShelf
import Derived.WalkKit
import Derived.OwnWalk
import Derived.Below
import Derived.Lib.Hide
import Derived.Lib.Builder
import Derived.Lib.AppendStr
import Derived.Lib.UnsafeStr
import Derived.Laws.Externs
import Derived.StillTailTactics
import Derived.Test.YtjaojenalodolaaGreatDoorKA
import Derived.Test.YtjaojenalodolaaGreatDoorKS
import Derived.Test.YtjaojenalodolaaGreatDoorMoE6
import Derived.Test.YtjaojenalodolaaGreatDoorKW
import Derived.Test.YtjaojenalodolaaGreatDoorKS0
import Derived.Test.YtjaojenalodolaaGreatDoorStB
/- Printed by genbldw.py from XBld.lean: walks of strings.Builder's writers. Walks of strings.Builder's writing methods over this program (the copy check's own panic is refused by the loader here, so the shelf's layings do not fit): a builder that the call has made itself. -/
namespace Go.Proofs.YtjaojenalodolaaGreatDoor.Blz
open Go Go.RowKit Go.Proofs.YtjaojenalodolaaGreatDoor
abbrev TB : TypeId := 88
abbrev TU : TypeId := 5
theorem sizeB : (Tryz.prog.info? 88).map (·.size) = some 2 := by kernel_rfl
theorem liesB : liesAt Tryz.prog Tryz.prog.depth 88 (2 / Tryz.prog.cellsOf 88) 0 88 1 = true := by kernel_rfl
theorem infoU : (Tryz.prog.info? 5).map (fun i => (i.zero, i.size, i.bytes)) = some (some (.int .u8 0), 1, 1) := by kernel_rfl
theorem own_below {w w' : World} {base : Nat} {e : TypeId} {v : Value} {n : Nat} {xs : List Value} (h : w.ownsRow base e 1 v n xs) (hb : Below w.heap.size w w') : w'.ownsRow base e 1 v n xs :=
  h.kept (row := none) ⟨hb.os, hb.tape, hb.output, hb.size, fun k hk _ => hb.block k hk⟩ (by
    rcases h.2 with ⟨rfl, _⟩ | ⟨g, cap, cur, rfl, _⟩
    · left; rfl
    · right; simp [Value.ownBlock])
theorem at_below {B b : Nat} {p : Value} {bs : List Value} {w w' : World} (h : Lib.BuilderAt TB TU B b p bs w) (hb : Below w.heap.size w w') : Lib.BuilderAt TB TU B b p bs w' := by
  obtain ⟨h1, v, h2, h3, h4⟩ := h
  exact ⟨h1, v, by rw [hb.block b ((Array.getElem?_eq_some_iff.1 h2).1)]; exact h2, own_below h3 hb, h4⟩
theorem is_below {B b : Nat} {bs : List Value} {w w' : World} (h : Lib.IsBuilder TB TU B b bs w) (hb : Below w.heap.size w w') : Lib.IsBuilder TB TU B b bs w' := by
  rcases h with h | h
  · exact .inl (at_below h hb)
  · exact .inr (at_below h hb)
theorem is_lt {B b : Nat} {bs : List Value} {w : World} (h : Lib.IsBuilder TB TU B b bs w) : B ≤ b ∧ b < w.heap.size := by
  rcases h with h | h
  · exact ⟨h.1, h.lt⟩
  · exact ⟨h.1, h.lt⟩
def Fz (b : Nat) (w w' : World) : Prop := ∀ k cs t fr, w.heap[k]? = some (Obj.cells cs t fr) → k ≠ b → t ≠ TU → w'.heap[k]? = w.heap[k]?
theorem Fz.refl (b : Nat) (w : World) : Fz b w w := fun _ _ _ _ _ _ _ => rfl
theorem Fz.trans {b : Nat} {u v w : World} (h : Fz b u v) (k : Fz b v w) : Fz b u w := fun i cs t fr h1 h2 h3 => by
  have e := h i cs t fr h1 h2 h3
  rw [k i cs t fr (by rw [e]; exact h1) h2 h3, e]
theorem Fz.of_below {b : Nat} {u v : World} (h : Below u.heap.size u v) : Fz b u v := fun i cs t fr h1 _ _ => h.block i (by rcases Nat.lt_or_ge i u.heap.size with g | g; exact g; rw [Array.getElem?_eq_none g] at h1; cases h1)
theorem Fz.set {b : Nat} {u v : World} (h : Fz b u v) (j : Nat) (x : Value) : Fz b u (v.setCell ⟨b, j, none⟩ x) := fun i cs t fr h1 h2 h3 => by
  rw [heap_setCell_other _ _ _ _ h2]
  exact h i cs t fr h1 h2 h3
theorem Fz.grow {B b n : Nat} {u v w : World} {s : Value} {xs : List Value} (h : Fz b u v) (ho : v.ownsRow B TU 1 s n xs) (hg : v.grownBy w s.ownBlock) : Fz b u w := fun i cs t fr h1 h2 h3 => by
  have e := h i cs t fr h1 h2 h3
  have hv : v.heap[i]? = some (Obj.cells cs t fr) := by rw [e]; exact h1
  have hlt : i < v.heap.size := by
    rcases Nat.lt_or_ge i v.heap.size with g | g
    · exact g
    · rw [Array.getElem?_eq_none g] at hv; cases hv
  rw [hg.block i hlt ?_, e]
  intro e2
  rcases ho.2 with ⟨rfl, _⟩ | ⟨g, cap, cur, rfl, _, hc, _⟩
  · cases e2
  · cases e2
    rw [hv] at hc
    cases hc
    exact h3 rfl
set_option maxRecDepth 100000 in
set_option maxHeartbeats 1000000 in
theorem check_used (b : Nat) (w : World) (h0 : w.cell? ⟨b, 0, none⟩ = some (.pointer (some ⟨b, 0, none⟩))) :
    Calls Tryz.prog 62 #[.pointer (some ⟨b, 0, none⟩)] w fun e w' => e = .returned (.tuple #[]) ∧ w' = w := by
  obtain ⟨j, hj, _⟩ := Option.map_eq_some_iff.1 sizeB
  go_enter Tryz.func62, Tryz.ntmps62
  go_wp2
  rw [Lib.run_neq_ptr_same w _ Tryz.underlying86 hj]
  go_wp2
  go_end0
  exact ⟨rfl, rfl⟩
set_option maxRecDepth 100000 in
set_option maxHeartbeats 1000000 in
theorem check_fresh (b : Nat) (w : World) (h0 : w.cell? ⟨b, 0, none⟩ = some (.pointer none)) (hsh : w.shape? b = some (TB, 2)) (hfz : w.frozen? ⟨b, 0, none⟩ = false) :
    Calls Tryz.prog 62 #[.pointer (some ⟨b, 0, none⟩)] w fun e w' => e = .returned (.tuple #[]) ∧ w' = w.setCell ⟨b, 0, none⟩ (.pointer (some ⟨b, 0, none⟩)) := by
  obtain ⟨j, hj, hjs⟩ := Option.map_eq_some_iff.1 sizeB
  go_enter Tryz.func62, Tryz.ntmps62
  go_wp2
  rw [Lib.run_to_unsafe w ⟨b, 0, none⟩ Tryz.underlying86 Tryz.underlying171 hj (by rw [hjs]; decide) hsh (Nat.zero_lt_succ 1)]
  simp only [Result.andThen]
  rw [Oper.upon_value]
  go_wp2
  rw [run_callFunc_extern Tryz.func104 (by kernel_rfl) (by kernel_rfl) (by kernel_rfl) (e := Extern.AbiNoEscape.same) (by kernel_rfl)]
  rw [Lib.run_noEscape]
  simp only [Result.andThen]
  rw [Oper.upon_value]
  go_wp2
  rw [Lib.run_from_unsafe w ⟨b, 0, none⟩ Tryz.underlying171 Tryz.underlying86 hj hsh liesB]
  simp only [Result.andThen]
  rw [Oper.upon_value]
  go_wp2
  go_end0
  exact ⟨rfl, rfl⟩
theorem check_any (B b : Nat) (bs : List Value) (w : World) (h : Lib.IsBuilder TB TU B b bs w) :
    Calls Tryz.prog 62 #[.pointer (some ⟨b, 0, none⟩)] w fun e w' => e = .returned (.tuple #[]) ∧ (Lib.BuilderAt TB TU B b (.pointer (some ⟨b, 0, none⟩)) bs w' ∧ Below B w w' ∧ Fz b w w') := by
  rcases h with h | h
  · refine (check_fresh b w h.cell0 h.shape h.frozen0).mono ?_
    rintro e w' ⟨rfl, rfl⟩
    exact ⟨rfl, h.used _, (Below.refl B w).setCell (p := ⟨b, 0, none⟩) h.1 _, (Fz.refl b w).set 0 _⟩
  · refine (check_used b w h.cell0).mono ?_
    rintro e w' ⟨rfl, rfl⟩
    exact ⟨rfl, h, Below.refl B _, Fz.refl b _⟩
set_option maxRecDepth 100000 in
set_option maxHeartbeats 2000000 in
theorem writeByte (B b : Nat) (bs : List Value) (c : Int) (w : World) (h : Lib.IsBuilder TB TU B b bs w) (hlen : bs.length + 1 ≤ 140737488355328) (hBw : B ≤ w.heap.size) :
    Calls Tryz.prog 168 #[.pointer (some ⟨b, 0, none⟩), .int .u8 c] w fun e w' => e = .returned .nilIface ∧ (Lib.IsBuilder TB TU B b (bs ++ [.int .u8 c]) w' ∧ Below B w w' ∧ Fz b w w') := by
  obtain ⟨i0, hi, hz0, hz1, hz2⟩ := info_parts infoU
  go_enter Tryz.func168, Tryz.ntmps168
  go_wp2_with fail
  refine (check_any B b bs _ h).mono ?_
  rintro e w1 ⟨rfl, h1, hb1, hf1⟩
  obtain ⟨hB, v, hbk, hown, hne⟩ := h1
  have c0 : w1.cell? ⟨b, 0, none⟩ = some (.pointer (some ⟨b, 0, none⟩)) := by rw [Lib.cell_of_heap hbk]; rfl
  have c1 : w1.cell? ⟨b, 1, none⟩ = some v := by rw [Lib.cell_of_heap hbk]; rfl
  have hz := hb1.size
  go_wp2_with (at_builtin; refine wpList_append_own _ rfl _ _ 74 rfl B 5 i0 (.int .u8 0) 1 1 Tryz.underlying74 hi hz0 hz1 hz2 rfl (by decide) _ _ _ rfl (hown.alloc _) ⟨w1.heap.size, 0, none⟩ 1 1 [.int .u8 c] rfl rfl ?c1 ?c2 ?c3 ?c4 ?c5 ?_)
  case c1 =>
    intro j u hj
    match j, hj with
    | 0, hj => simp at hj; subst hj; simp [Addr.add]
  case c2 => intro u hu; simp at hu; subst hu; rfl
  case c3 => unfold maxLen; omega
  case c4 => omega
  case c5 => simp; omega
  intro v' w2 hown' hgrow _
  have hlt : b < w1.heap.size := (Array.getElem?_eq_some_iff.1 hbk).1
  have hb2 : w2.heap[b]? = some (.cells #[.pointer (some ⟨b, 0, none⟩), v] TB (0, 0)) := by
    rw [hgrow.block b (by simp; omega) (fun e => hne e.symm), Lib.alloc_old w1 _ b hlt]
    exact hbk
  have d0 : w2.cell? ⟨b, 0, none⟩ = some (.pointer (some ⟨b, 0, none⟩)) := by rw [Lib.cell_of_heap hb2]; rfl
  have d1 : w2.cell? ⟨b, 1, none⟩ = some v := by rw [Lib.cell_of_heap hb2]; rfl
  have f1 : w2.frozen? ⟨b, 1, none⟩ = false := Lib.frozen_of_heap hb2 1
  obtain ⟨g, cap, rfl⟩ : ∃ g cap, v' = .slice (some ⟨g, 0, none⟩) (bs.length + 1) cap := by
    rcases hown'.2 with ⟨_, h0⟩ | ⟨g, cap, cur, hv, _⟩
    · omega
    · exact ⟨g, cap, hv⟩
  go_wp2
  go_ret
  refine ⟨rfl, .inr ?_, ?_, ?_⟩
  · exact Lib.BuilderAt.put (T := TB) (e := TU) hB hb2 (bs' := bs ++ [.int .u8 c]) (by simpa using hown') (by decide)
  · exact ((hb1.alloc (by omega) _).grown hgrow (by simp; omega) (fun k hk => (hown.lt k hk).1)).setCell (p := ⟨b, 1, none⟩) hB _
  · exact ((hf1.trans (Fz.of_below ((Below.refl w1.heap.size w1).alloc (Nat.le_refl _) _))).grow (hown.alloc _) hgrow).set 1 _
set_option maxRecDepth 100000 in
set_option maxHeartbeats 2000000 in
theorem writeString (B b : Nat) (bs : List Value) (s : ByteArray) (w : World) (h : Lib.IsBuilder TB TU B b bs w) (hlen : bs.length + s.size ≤ 140737488355328) (hBw : B ≤ w.heap.size) :
    Calls Tryz.prog 30 #[.pointer (some ⟨b, 0, none⟩), .string s] w fun e w' => e = .returned (.tuple #[.int .i64 s.size, .nilIface]) ∧ (Lib.IsBuilder TB TU B b (bs ++ Lib.strCells s) w' ∧ Below B w w' ∧ Fz b w w') := by
  obtain ⟨i0, hi, hz0, hz1, hz2⟩ := info_parts infoU
  go_enter Tryz.func30, Tryz.ntmps30
  go_wp2_with fail
  refine (check_any B b bs _ h).mono ?_
  rintro e w1 ⟨rfl, h1, hb1, hf1⟩
  obtain ⟨hB, v, hbk, hown, hne⟩ := h1
  have c0 : w1.cell? ⟨b, 0, none⟩ = some (.pointer (some ⟨b, 0, none⟩)) := by rw [Lib.cell_of_heap hbk]; rfl
  have c1 : w1.cell? ⟨b, 1, none⟩ = some v := by rw [Lib.cell_of_heap hbk]; rfl
  have hz := hb1.size
  go_wp2_with (at_builtin; refine Lib.wpList_append_own_string _ rfl _ _ 74 9 rfl B 5 i0 Tryz.underlying74 Tryz.underlying9 hi hz0 hz1 hz2 _ _ _ rfl hown s rfl ?c3 ?c4 ?c5 ?_)
  case c3 => unfold maxLen; omega
  case c4 => omega
  case c5 => omega
  intro v' w2 hown' hgrow _
  have hlt : b < w1.heap.size := (Array.getElem?_eq_some_iff.1 hbk).1
  have hb2 : w2.heap[b]? = some (.cells #[.pointer (some ⟨b, 0, none⟩), v] TB (0, 0)) := by
    rw [hgrow.block b hlt (fun e => hne e.symm)]
    exact hbk
  have d0 : w2.cell? ⟨b, 0, none⟩ = some (.pointer (some ⟨b, 0, none⟩)) := by rw [Lib.cell_of_heap hb2]; rfl
  have d1 : w2.cell? ⟨b, 1, none⟩ = some v := by rw [Lib.cell_of_heap hb2]; rfl
  have f1 : w2.frozen? ⟨b, 1, none⟩ = false := Lib.frozen_of_heap hb2 1
  obtain ⟨ao, n', cap, rfl⟩ : ∃ ao n' cap, v' = .slice ao n' cap := by
    rcases hown'.2 with ⟨hv, _⟩ | ⟨g, cap, cur, hv, _⟩
    · exact ⟨_, _, _, hv⟩
    · exact ⟨_, _, _, hv⟩
  go_wp2
  go_ret2
  refine ⟨rfl, .inr ?_, ?_, ?_⟩
  · exact Lib.BuilderAt.put (T := TB) (e := TU) hB hb2 (bs' := bs ++ Lib.strCells s) (by simpa [Lib.strCells_length] using hown') (by decide)
  · exact (hb1.grown hgrow (by omega) (fun k hk => (hown.lt k hk).1)).setCell (p := ⟨b, 1, none⟩) hB _
  · exact (hf1.grow hown hgrow).set 1 _
end Go.Proofs.YtjaojenalodolaaGreatDoor.Blz
/- The store's replace, Put and Open, and open, walked. -/
namespace Go.Proofs.YtjaojenalodolaaGreatDoor.Ms
open Go Go.RowKit Go.Proofs.YtjaojenalodolaaGreatDoor Go.Proofs.YtjaojenalodolaaGreatDoor.Rw Go.Proofs.YtjaojenalodolaaGreatDoor.Vf
set_option linter.unusedVariables false
set_option maxRecDepth 100000
set_option maxHeartbeats 16000000
theorem Rd.slice {w : World} {v : Value} {l : List UInt8} (h : Rd w v l) : ∃ ad n c, v = .slice ad n c := by
  rcases h with ⟨rfl, -⟩ | ⟨g, cap, cur, fr, rfl, -⟩
  · exact ⟨_, _, _, rfl⟩
  · exact ⟨_, _, _, rfl⟩
section
variable {W : World} {B F n : Nat} {Z p : Nat → Prop} {a : AS} {data nm : ByteArray}
theorem replace_ok (h : Fs W B F Z a p) (q : Qs a n) (hn : n ≤ 200000) (hm : nm.size ≤ 100) (hd : data.size ≤ 1000000) (hf : findS a.names (nm ++ sTmp).data.toList = none) :
    Calls Tryz.prog 21 #[.agg #[.pointer (some ⟨F, 0, none⟩)], .string nm, .string data] W fun e w' => e = .returned (.int .i64 0) ∧ Now W w' B F Z p (a.swapped (nm ++ sJson) data.data.toList) := by
  have hb0 : Below W.heap.size W ((W.alloc (.cells #[.pointer (some ⟨F, 0, none⟩)] 58)).alloc (.cells #[.string nm] 9)) := ((Below.refl _ _).alloc (Nat.le_refl _) _).alloc ((Below.refl W.heap.size W).alloc (Nat.le_refl _) _).size _
  have x0 : ((W.alloc (.cells #[.pointer (some ⟨F, 0, none⟩)] 58)).alloc (.cells #[.string nm] 9)).cell? ⟨W.heap.size, 0, none⟩ = some (.pointer (some ⟨F, 0, none⟩)) := Me.box_at (heap_alloc2_old _ _ _) rfl
  have x1 : ((W.alloc (.cells #[.pointer (some ⟨F, 0, none⟩)] 58)).alloc (.cells #[.string nm] 9)).cell? ⟨W.heap.size + 1, 0, none⟩ = some (.string nm) := Me.box_at (heap_alloc2_new _ _ _) rfl
  have hsz := size_json nm
  have hadd := fun w => run_string_add_sum (P := Tryz.prog) w nm ⟨#[46, 106, 115, 111, 110]⟩ (show nm.size + 5 ≤ 9223372036854775807 by omega)
  have CR := Lib.hid (read_fs (h.below hb0) q.ok (nm ++ sJson) (by omega))
  have CS := Lib.hid (fun u (hu : Below W.heap.size W u) => swap_ok (h.below hu) q hn hm hd hf)
  have HB := Lib.hid hb0
  unfold sJson at CR
  clear hb0 h q hf hsz
  go_enter Tryz.func21, Tryz.ntmps21
  go_wp2_with fail
  refine CR.out.mono ?_
  rintro e w1 ⟨v, rfl, hv, -, hb1⟩
  obtain ⟨ad, vn, vc, rfl⟩ := Rd.slice hv
  have HB1 := Lib.hid (below_seq HB.out hb1)
  replace x0 := cell_under x0 hb1
  replace x1 := cell_under x1 hb1
  clear hv hb1 CR HB
  generalize (a.read (nm ++ ⟨#[46, 106, 115, 111, 110]⟩)).2 = er
  go_wp2_with fail
  refine (CS.out _ HB1.out).mono ?_
  rintro e w2 ⟨rfl, h2⟩
  have H2 := Lib.hid (h2.of_below HB1.out)
  clear h2 CS x0 x1
  go_wp2_with fail
  go_ret
  exact ⟨rfl, H2.out⟩
def Sto (w : World) (s F : Nat) : Prop := w.cell? ⟨s, 0, none⟩ = some (.pointer (some ⟨F, 0, none⟩))
theorem open_is (w : World) (F : Nat) :
    Calls Tryz.prog 15 #[.pointer (some ⟨F, 0, none⟩)] w fun e w' => e = .returned (.tuple #[.pointer (some ⟨w.heap.size, 0, none⟩), .int .i64 0]) ∧ Sto w' w.heap.size F ∧ Below w.heap.size w w' := by
  go_enter Tryz.func15, Tryz.ntmps15
  go_wp2_with fail
  go_ret2
  exact ⟨rfl, Me.box_at (heap_alloc_new _ _) rfl, (Below.refl _ _).alloc (Nat.le_refl _) _⟩
theorem topen_is (W : World) :
    Calls Tryz.prog 4 #[] W fun e w' => ∃ F s p, e = .returned (.tuple #[.pointer (some ⟨s, 0, none⟩), .pointer (some ⟨F, 0, none⟩), .int .i64 1]) ∧ Fs w' W.heap.size F (fun _ => False) AS.new p ∧ Sto w' s F ∧ ¬ p s ∧ Below W.heap.size W w' ∧ ∀ k, p k → W.heap.size ≤ k := by
  have CN := Lib.hid (new_fs W)
  go_enter Tryz.func4, Tryz.ntmps4
  go_wp2_with fail
  refine CN.out.mono ?_
  rintro e w1 ⟨F, p, rfl, hF, hb1, hp⟩
  have HF := Lib.hid (And.intro hF (And.intro hb1 hp))
  clear hF hb1 hp CN
  go_wp2_with fail
  refine (open_is w1 F).mono ?_
  rintro e w2 ⟨rfl, hs, hb2⟩
  have HS := Lib.hid (And.intro hs (And.intro hb2 (show ¬ p w1.heap.size from fun e => by have := (HF.out.1.lt _ e).1; omega)))
  clear hs hb2
  go_wp2_with fail
  go_ret3
  exact ⟨F, _, p, rfl, HF.out.1.below HS.out.2.1, HS.out.1, HS.out.2.2, below_seq HF.out.2.1 HS.out.2.1, HF.out.2.2⟩
end
structure PutOk (W : World) (v : Value) (ar : List Mo.Fd) : Prop where
  mem : ArIs W v ar
  enc : Me.Enc ar
  js : Me.JB (Jv.jA ar)
  wt : Me.WT W
  sp : ∀ u, Below W.heap.size W u → Me.Spaces u
  len : (Jv.enc (Jv.jA ar)).length ≤ 1000000
theorem jA_js (ar : List Mo.Fd) : Me.JS (Jv.jA ar) := by
  have hs : ∀ s : ByteArray, Me.JS (.str s) := fun s => by simp [Me.JS]
  have hi : ∀ n : Int, Me.JS (.int n) := fun n => by simp [Me.JS]
  unfold Jv.jA
  unfold Me.JS
  rw [Me.JSL_iff]
  intro x hx
  obtain ⟨f, -, rfl⟩ := List.mem_map.1 hx
  unfold Jv.jF
  unfold Me.JS
  simp only [Me.JSM, Me.JSP]
  refine ⟨?_, hs _, hs _, hs _, hi _, ?_, trivial⟩
  · unfold Me.JS
    rw [Me.JSL_iff]
    intro y hy
    obtain ⟨s, -, rfl⟩ := List.mem_map.1 hy
    exact hs s
  · unfold Me.JS
    rw [Me.JSL_iff]
    intro y hy
    obtain ⟨e, -, rfl⟩ := List.mem_map.1 hy
    unfold Jv.jE
    unfold Me.JS
    simp only [Me.JSM, Me.JSP]
    exact ⟨hs _, hs _, hs _, hs _, hi _, trivial⟩
theorem encodeA_ok (W : World) (v : Value) (ar : List Mo.Fd) (h : PutOk W v ar) :
    Calls Tryz.prog 19 #[.agg #[v]] W fun e w' => e = .returned (.tuple #[.string ⟨(Jv.enc (Jv.jA ar)).toArray⟩, .int .i64 0]) ∧ Below W.heap.size W w' := by
  refine Me.encode_is W v ar h.mem h.wt.u8 h.sp h.enc ⟨(Jv.enc (Jv.jA ar)).toArray⟩ (fun u ad cap hu hv => ?_)
  have hj : Jv u (Jv.jA ar) (vCells 4 false 0 ⟨#[]⟩ (.slice ad ar.length cap) nilV 0) := hv u (fun _ _ _ _ => rfl)
  exact Me.write_ok (ar.map Jv.jF) ad ar.length cap u (Jv.jA_ok h.enc.ok) h.js (jA_js ar) hj (h.wt.below hu) h.len
end Go.Proofs.YtjaojenalodolaaGreatDoor.Ms
/- The store's Put and Recover, walked. -/
namespace Go.Proofs.YtjaojenalodolaaGreatDoor.Ms
open Go Go.RowKit Go.Proofs.YtjaojenalodolaaGreatDoor Go.Proofs.YtjaojenalodolaaGreatDoor.Rw Go.Proofs.YtjaojenalodolaaGreatDoor.Vf
set_option linter.unusedVariables false
set_option maxRecDepth 100000
set_option maxHeartbeats 16000000
section
variable {W : World} {B F n s : Nat} {Z p : Nat → Prop} {a a0 : AS} {nm : ByteArray}
theorem put_ok (hN : ∀ u, Calls Tryz.prog 18 #[.string nm] u fun e w' => e = .returned (.bool true) ∧ Below u.heap.size u w') (hm : nm.size ≤ 100) (h : Fs W B F Z a p) (q : Qs a n) (hn : n ≤ 200000) (hs : Sto W s F) (np : ¬ p s) (v : Value) (ar : List Mo.Fd) (po : PutOk W v ar) (hf : findS a.names (nm ++ sTmp).data.toList = none) :
    Calls Tryz.prog 8 #[.pointer (some ⟨s, 0, none⟩), .string nm, .agg #[v]] W fun e w' => e = .returned (.int .i64 0) ∧ Now W w' B F Z p (a.swapped (nm ++ sJson) (Jv.enc (Jv.jA ar))) := by
  have hb0 := (Below.refl W.heap.size W).alloc (Nat.le_refl _) (.cells #[v] 24)
  have x0 := Me.box_at (j := 0) (heap_alloc_new W (.cells #[v] 24)) rfl
  have CE := Lib.hid (fun u (hu : Below W.heap.size W u) => encodeA_ok u v ar ⟨po.mem.under hu, po.enc, po.js, po.wt.below hu, fun w hw => po.sp w (below_seq hu hw), po.len⟩)
  have HL := Lib.hid po.len
  obtain ⟨-, -, ad, cap, rfl, -, -⟩ := Mw.feeds_at po.mem
  obtain ⟨q0, hq0⟩ : ∃ q, Jv.enc (Jv.jA ar) = q := ⟨_, rfl⟩
  rw [hq0] at CE HL ⊢
  have HQS := Lib.hid (show (⟨q0.toArray⟩ : ByteArray).size = q0.length by simp [ByteArray.size])
  have HQL := Lib.hid (show (⟨q0.toArray⟩ : ByteArray).data.toList = q0 by simp)
  generalize (⟨q0.toArray⟩ : ByteArray) = Q at CE HQS HQL
  have HB := Lib.hid hb0
  have HS := Lib.hid hs
  have HH := Lib.hid h
  have HN := Lib.hid (fun u => hN u)
  have CD := Lib.hid (fun u (hu : Below W.heap.size W u) => by have := down_fs (h.below hu); rw [q.dn] at this; exact this)
  have CR := Lib.hid (fun u (hu : Below W.heap.size W u) => replace_ok (data := Q) (h.below hu) q hn hm (by rw [HQS.out]; exact HL.out) hf)
  rw [HQL.out] at CR
  clear hb0 hs h hN po q hf hq0
  go_enter Tryz.func8, Tryz.ntmps8
  go_wp2_with fail
  refine (HN.out _).mono ?_
  rintro e w1 ⟨rfl, hb1⟩
  have HB1 := Lib.hid (below_seq HB.out hb1)
  replace x0 := cell_under x0 hb1
  clear hb1 HB HN
  go_wp2_with fail
  refine (CE.out _ HB1.out).mono ?_
  rintro e w2 ⟨rfl, hb2⟩
  have HB2 := Lib.hid (below_seq HB1.out hb2)
  have y0 : w2.cell? ⟨s, 0, none⟩ = some (.pointer (some ⟨F, 0, none⟩)) := cell_under HS.out HB2.out
  clear hb2 CE x0
  go_wp2_with fail
  refine (CD.out _ HB2.out).mono ?_
  rintro e w3 ⟨rfl, rfl⟩
  go_wp2_with fail
  refine (CR.out _ HB2.out).mono ?_
  rintro e w4 ⟨rfl, h4⟩
  have H4 := Lib.hid (h4.of_below HB2.out)
  clear h4 CR CD y0
  go_wp2_with fail
  go_ret
  exact ⟨rfl, H4.out⟩
theorem names_rw {w : World} {base n : Nat} {v : Value} {l : List (List UInt8)} (h : w.ownsRow base 9 1 v n (l.map encStr)) (hn : l.length = n) : Rw w v 1 ((l.map fun k => (⟨k.toArray⟩ : ByteArray)).map sCell) := by
  subst hn
  refine Rw.of_own h (by simp) (fun j hj k hk => ?_) (fun j hj => by simp [sCell])
  obtain rfl : k = 0 := by omega
  have hjl : j < l.length := by simpa using hj
  simp [sCell, encStr, hjl]
end
end Go.Proofs.YtjaojenalodolaaGreatDoor.Ms
/- The law's files: the names and the contents of all files. -/
namespace Go.Proofs.YtjaojenalodolaaGreatDoor.Ms
open Go Go.RowKit Go.Proofs.YtjaojenalodolaaGreatDoor Go.Proofs.YtjaojenalodolaaGreatDoor.Rw Go.Proofs.YtjaojenalodolaaGreatDoor.Vf
set_option linter.unusedVariables false
set_option maxRecDepth 100000
set_option maxHeartbeats 16000000
def item (a : AS) (k : List UInt8) : List UInt8 := k ++ 10 :: ((a.read ⟨k.toArray⟩).1 ++ [10])
theorem ftext_eq (a : AS) : ftext a = (a.list.map (item a)).flatten := rfl
theorem read_len {a : AS} {n : Nat} (ok : a.Ok n) (k : ByteArray) : (a.read k).1.length ≤ 1000000 := by
  unfold AS.read
  split
  · simp
  · split
    · simp
    · rename_i i e
      simp only
      by_cases hi : i < a.files.length
      · rw [List.getD_eq_getElem?_getD, List.getElem?_eq_getElem hi]
        exact (ok.data _ (List.getElem_mem hi)).1
      · rw [List.getD_eq_getElem?_getD, List.getElem?_eq_none (by omega)]
        simp
theorem flat_take (f : List UInt8 → List UInt8) (l : List (List UInt8)) {k : Nat} (hk : k < l.length) : ((l.take (k + 1)).map f).flatten = ((l.take k).map f).flatten ++ f l[k] := by
  rw [Me.take_map f l hk, List.flatten_append]
  simp
section
variable {W : World} {B F n : Nat} {Z p : Nat → Prop} {a : AS}
theorem files_is (h : Fs W B F Z a p) (ok : a.Ok n) (hd : a.down = false) (hn : n ≤ 400000) (hsz : ∀ q ∈ a.names, q.1.length ≤ 1000) :
    Calls Tryz.prog 13 #[.pointer (some ⟨F, 0, none⟩)] W fun e w' => e = .returned (.string ⟨(ftext a).toArray⟩) ∧ Below W.heap.size W w' := by
  have el : a.list = a.names.map (·.1) := by unfold AS.list; rw [if_neg (by rw [hd]; decide)]
  have hba := (Below.refl W.heap.size W).alloc (Nat.le_refl _) (.cells #[.pointer none, .slice none 0 0] 88)
  have HB := Lib.hid hba
  have HI := Lib.hid (Lib.fresh_isBuilder Blz.TB Blz.TU W)
  have CL := Lib.hid (list_fs (h.below hba) ok hn)
  have CR := Lib.hid (fun u (hu : Below W.heap.size W u) (k : ByteArray) (hk : k.size ≤ 1000000) => read_fs (h.below hu) ok k hk)
  have HLE := Lib.hid (fun k => read_len ok k)
  rw [ftext_eq]
  obtain ⟨l, hl⟩ : ∃ l, a.list = l := ⟨_, rfl⟩
  rw [hl] at CL el ⊢
  have HLL := Lib.hid el
  have HSZ := Lib.hid hsz
  obtain ⟨m, hm⟩ : ∃ m, l.length = m := ⟨_, rfl⟩
  have HM := Lib.hid hm
  have HMN := Lib.hid (show m ≤ 400000 by rw [← hm, el, List.length_map]; exact Nat.le_trans ok.names hn)
  rw [hm] at CL
  clear h ok hd hsz hl hm el hba
  go_enter Tryz.func13, Tryz.ntmps13
  go_wp2_with fail
  refine CL.out.mono ?_
  rintro e w1 ⟨v, rfl, hv, hb1⟩
  have hrw := names_rw hv HM.out
  have HOV := Lib.hid hv
  obtain ⟨g, off, ad, cap, rfl, had, hc⟩ := Mw.path_at hrw
  rw [List.length_map, HM.out] at had ⊢
  have HAD := Lib.hid had
  have HC := Lib.hid hc
  have HB1 := Lib.hid (below_seq HB.out hb1)
  have HI1 := Lib.hid (Blz.is_below HI.out hb1)
  have HBK : Hid (0 < m → ∃ cur, w1.heap[g]? = some (Obj.cells cur 9 (0, 0)) ∧ g ≠ W.heap.size) := Lib.hid (fun h0 => by
    have e := had h0
    subst e
    obtain ⟨cur, hcur⟩ := own_block HOV.out (g := g) rfl
    refine ⟨cur, hcur, fun e => ?_⟩
    have h1 := (Me.own_lt HOV.out (g := g) rfl).1
    have h2 : W.heap.size < (W.alloc (.cells #[.pointer none, .slice none 0 0] 88)).heap.size := Rw.lt_of_heap (heap_alloc_new _ _)
    have h3 : (W.alloc (.cells #[.pointer none, .slice none 0 0] 88)).heap.size ≤ g := h1
    omega)
  clear hv hrw had hc hb1 CL HI HB HOV
  go_wp2_with fail
  go_loopw [11] (fun x wr => ∃ k : Nat, k ≤ m ∧ x = .int .i64 k ∧ Hid (Lib.IsBuilder Blz.TB Blz.TU W.heap.size W.heap.size (Lib.byteCells ((l.take k).map (item a)).flatten) wr) ∧ Hid ((((l.take k).map (item a)).flatten).length ≤ k * 1002000) ∧ Hid (Below W.heap.size W wr) ∧ Hid (Blz.Fz W.heap.size w1 wr)) (fun x _ => m - (intOf x).toNat)
  case atStart => exact ⟨0, Nat.zero_le _, rfl, HI1, Lib.hid (by simp), HB1, Lib.hid (Blz.Fz.refl _ _)⟩
  case round =>
    obtain ⟨k, hk, rfl, hi, hlen, hb, hf⟩ := hrel
    have hm4 := HMN.out
    by_cases hlt : k < m
    · obtain rfl := HAD.out (by omega)
      have hkl : k < l.length := by rw [HM.out]; exact hlt
      have hkl2 : k < (l.map fun k => (⟨k.toArray⟩ : ByteArray)).length := by rw [List.length_map]; exact hkl
      obtain ⟨cur, hcur, hgn⟩ := HBK.out (by omega)
      have hkeep := hf.out g cur _ _ hcur hgn (by decide)
      have c0 : wr.cell? ⟨g, off + k, none⟩ = some (.string (l.map fun k => (⟨k.toArray⟩ : ByteArray))[k]) := by
        have := HC.out k hkl2
        unfold World.cell? at this ⊢
        rw [hkeep]
        exact this
      rw [List.getElem_map] at c0
      have i1 : (k : Int) < (m : Int) := by omega
      have i0 : (0 : Int) ≤ (k : Int) := by omega
      have hin : l[k] ∈ a.names.map (·.1) := by rw [← HLL.out]; exact List.getElem_mem hkl
      have HKS := Lib.hid (show l[k].length ≤ 1000 by
        obtain ⟨q, hq, e⟩ := List.mem_map.1 hin
        have := HSZ.out q hq
        rw [e] at this
        exact this)
      have HFT := Lib.hid (flat_take (item a) l hkl)
      have HFS := Lib.hid (show (⟨l[k].toArray⟩ : ByteArray).size = l[k].length by simp [ByteArray.size])
      have HFL := Lib.hid (show (⟨l[k].toArray⟩ : ByteArray).data.toList = l[k] by simp)
      have HIT := Lib.hid (show item a l[k] = l[k] ++ 10 :: ((a.read ⟨l[k].toArray⟩).1 ++ [10]) from rfl)
      clear hin hkeep hcur
      generalize (⟨l[k].toArray⟩ : ByteArray) = fl at c0 HFS HFL HIT
      generalize item a l[k] = it at HFT HIT
      generalize l[k] = fk at HFS HFL HIT HKS
      have CC := Lib.hid (CR.out wr hb.out fl (by rw [HFS.out]; have := HKS.out; omega))
      have HLX := Lib.hid (HLE.out fl)
      go_wp2_with fail
      refine CC.out.mono ?_
      rintro e w2 ⟨x, rfl, hx, -, hb2⟩
      obtain ⟨ax, xn, xc, rfl⟩ := Rd.slice hx
      have hcv := hx.conv
      have HB2 := Lib.hid (below_seq hb.out hb2)
      have HI2 := Lib.hid (Blz.is_below hi.out hb2)
      have HF2 := Lib.hid (hf.out.trans (Blz.Fz.of_below hb2))
      generalize (a.read fl).1 = xl at hcv HLX HIT
      have HXS := Lib.hid (show (⟨xl.toArray⟩ : ByteArray).size = xl.length by simp [ByteArray.size])
      have HXL := Lib.hid (show (⟨xl.toArray⟩ : ByteArray).data.toList = xl by simp)
      generalize (⟨xl.toArray⟩ : ByteArray) = X at hcv HXS HXL
      generalize (a.read fl).2 = er
      have hs1 : (⟨#[10]⟩ : ByteArray).size = 1 := rfl
      have hq1 : (fl ++ (⟨#[10]⟩ : ByteArray)).size = fk.length + 1 := by rw [ByteArray.size_append, HFS.out]; rfl
      have hq2 : (fl ++ (⟨#[10]⟩ : ByteArray) ++ X).size = fk.length + 1 + xl.length := by rw [ByteArray.size_append, hq1, HXS.out]
      have hq3 : (fl ++ (⟨#[10]⟩ : ByteArray) ++ X ++ (⟨#[10]⟩ : ByteArray)).size = fk.length + 1 + xl.length + 1 := by rw [ByteArray.size_append, hq2]; rfl
      have HA1 := Lib.hid (run_string_add_sum (P := Tryz.prog) w2 fl ⟨#[10]⟩ (by rw [HFS.out, hs1]; have := HKS.out; omega))
      have HA2 := Lib.hid (run_string_add_sum (P := Tryz.prog) w2 (fl ++ ⟨#[10]⟩) X (by rw [hq1, HXS.out]; have := HKS.out; have := HLX.out; omega))
      have HA3 := Lib.hid (run_string_add_sum (P := Tryz.prog) w2 (fl ++ ⟨#[10]⟩ ++ X) ⟨#[10]⟩ (by rw [hq2, hs1]; have := HKS.out; have := HLX.out; omega))
      have HQ3 := Lib.hid hq3
      have HQL : Hid ((fl ++ (⟨#[10]⟩ : ByteArray) ++ X ++ (⟨#[10]⟩ : ByteArray)).data.toList = it) := Lib.hid (by
        rw [HIT.out]
        simp [HFL.out, HXL.out])
      have ha1 := HA1.out
      have ha2 := HA2.out
      have ha3 := HA3.out
      clear hx hb2 CC c0 hs1 hq1 hq2 hq3
      have CW := Lib.hid (Blz.writeString W.heap.size W.heap.size _ (fl ++ ⟨#[10]⟩ ++ X ++ ⟨#[10]⟩) w2 HI2.out (by rw [Lib.byteCells_length, HQ3.out]; have := hlen.out; have := HKS.out; have := HLX.out; have := HMN.out; omega) HB2.out.size)
      have HKK := Lib.hid hlen.out
      have HITL := Lib.hid (show it.length ≤ 1002000 by rw [HIT.out]; simp; have := HKS.out; have := HLX.out; omega)
      clear HA1 HA2 HA3
      go_wp2_with fail
      refine CW.out.mono ?_
      rintro e w3 ⟨rfl, hi3, hb3, hf3⟩
      rw [Lib.strCells_eq, HQL.out, ← Lib.byteCells_append, ← HFT.out] at hi3
      have HI3 := Lib.hid hi3
      have HB3 := Lib.hid (HB2.out.trans hb3)
      have HF3 := Lib.hid (HF2.out.trans hf3)
      have HL3 := Lib.hid (show (((l.take (k + 1)).map (item a)).flatten).length ≤ (k + 1) * 1002000 by rw [HFT.out, List.length_append, Nat.succ_mul]; have := HKK.out; have := HITL.out; omega)
      clear hi3 hb3 hf3 CW ha1 ha2 ha3 hcv
      go_wp2_with fail
      go_roundw
      case rel => exact ⟨k + 1, by omega, by go_num, HI3, HL3, HB3, HF3⟩
      case measure => simp [intOf]; omega
    · have gl : decide ((k : Int) < (m : Int)) = false := decide_eq_false (by omega)
      have HT : Hid (l.take k = l) := Lib.hid (List.take_of_length_le (by rw [HM.out]; omega))
      have hi2 := hi.out
      rw [HT.out] at hi2
      have CS := Lib.hid (Tryz.Builder_String_any W.heap.size W.heap.size ((l.map (item a)).flatten) wr hi2 hb.out.size)
      clear hi2
      go_wp2_with fail
      refine CS.out.mono ?_
      rintro e w2 ⟨rfl, hb2⟩
      have HB2 := Lib.hid (hb.out.trans hb2)
      clear hb2 CS
      go_wp2_with fail
      go_ret
      exact ⟨rfl, HB2.out⟩
end
end Go.Proofs.YtjaojenalodolaaGreatDoor.Ms
/- The law's stores: a small archive can be stored. -/
namespace Go.Proofs.YtjaojenalodolaaGreatDoor.Ms
open Go Go.RowKit Go.Proofs.YtjaojenalodolaaGreatDoor Go.Proofs.YtjaojenalodolaaGreatDoor.Rw Go.Proofs.YtjaojenalodolaaGreatDoor.Vf
set_option linter.unusedVariables false
set_option maxRecDepth 100000
set_option maxHeartbeats 16000000
def nX : ByteArray := ⟨#[120]⟩
def nA : ByteArray := ⟨#[97]⟩
theorem new_q : Qs AS.new 0 := Qs.new
theorem empty_enc : Jv.enc (Jv.jA []) = [91, 93] := by simp [Jv.jA, Jv.enc, Jv.encL, Jv.joinC]
theorem putok_nil (W : World) (hw : Me.WT W) (sp : ∀ u, Below W.heap.size W u → Me.Spaces u) : PutOk W (.slice none 0 0) [] where
  mem := ⟨[], rfl, Rw.nil _ _, fun j hj => absurd hj (by simp)⟩
  enc := ⟨rfl, ⟨by simp, fun f hf => absurd hf (by simp)⟩, by simp, fun f hf => absurd hf (by simp), fun f hf => absurd hf (by simp)⟩
  js := by simp [Jv.jA, Me.JB, Me.JBL]
  wt := hw
  sp := sp
  len := by rw [empty_enc]; decide
theorem stores_ok (W : World) (hw : Me.WT W) (sp : ∀ u, Below W.heap.size W u → Me.Spaces u) :
    Calls Tryz.prog 7 #[] W fun e w' => e = .returned (.bool true) ∧ Below W.heap.size W w' := by
  have CO := Lib.hid (topen_is W)
  have HP := Lib.hid (fun u (hu : Below W.heap.size W u) => putok_nil u (hw.below hu) (fun v hv => sp v (below_seq hu hv)))
  clear hw sp
  go_enter Tryz.func7, Tryz.ntmps7
  go_wp2_with fail
  refine CO.out.mono ?_
  rintro e w1 ⟨F, s, p, rfl, hF, hs, hnp, hb1, hpk⟩
  have CP := Lib.hid (put_ok (nm := nA) isname_a (by decide) hF new_q (by omega) hs hnp (.slice none 0 0) [] (HP.out w1 hb1) rfl)
  rw [empty_enc] at CP
  have HPK := Lib.hid hpk
  have HB1 := Lib.hid hb1
  clear hF hs hnp hb1 hpk CO HP
  unfold nA at CP
  go_wp2_with fail
  refine CP.out.mono ?_
  rintro e w2 ⟨rfl, p', h2, hfr, hpp⟩
  have CF := Lib.hid (files_is h2 ((Qs.swapped new_q (by decide) (by decide) : Qs (AS.new.swapped (nA ++ sJson) [91, 93]) 1)).ok rfl (by omega) (by
    intro q hq
    have : q ∈ [(([97, 46, 106, 115, 111, 110] : List UInt8), 0)] := hq
    rcases List.mem_singleton.1 this with rfl
    decide))
  have HB2 := Lib.hid (show Below W.heap.size W w2 from HB1.out.trans (hfr.below HPK.out HB1.out.size))
  have e2 : (ftext (AS.new.swapped ((⟨#[97]⟩ : ByteArray) ++ sJson) [91, 93])) = [97, 46, 106, 115, 111, 110, 10, 91, 93, 10] := rfl
  rw [e2] at CF
  clear h2 hfr hpp CP e2
  go_wp2_with fail
  refine CF.out.mono ?_
  rintro e w3 ⟨rfl, hb3⟩
  have HB3 := Lib.hid (below_seq HB2.out hb3)
  clear hb3 CF
  go_wp2_with fail
  go_ret
  exact ⟨rfl, HB3.out⟩
end Go.Proofs.YtjaojenalodolaaGreatDoor.Ms
/- TopRecovers where there is nothing to recover: the law answers by stores. -/
namespace Go.Proofs.YtjaojenalodolaaGreatDoor.Ms
open Go Go.RowKit Go.Proofs.YtjaojenalodolaaGreatDoor Go.Proofs.YtjaojenalodolaaGreatDoor.Rw Go.Proofs.YtjaojenalodolaaGreatDoor.Vf
set_option linter.unusedVariables false
set_option maxRecDepth 100000
set_option maxHeartbeats 16000000
structure LawIn (W : World) (va vn : Value) (ar : List Mo.Fd) (ns : List ByteArray) : Prop where
  mem : ArIs W va ar
  bd : Mw.ArB ar
  nm : Rw W vn 1 (ns.map sCell)
  wt : Me.WT W
  sp : ∀ u, Below W.heap.size W u → Me.Spaces u
section
variable {W : World} {va vn : Value} {ar : List Mo.Fd} {ns : List ByteArray}
end
end Go.Proofs.YtjaojenalodolaaGreatDoor.Ms
/- TopRecovers: the way that recovers. -/
namespace Go.Proofs.YtjaojenalodolaaGreatDoor.Ms
open Go Go.RowKit Go.Proofs.YtjaojenalodolaaGreatDoor Go.Proofs.YtjaojenalodolaaGreatDoor.Rw Go.Proofs.YtjaojenalodolaaGreatDoor.Vf
set_option linter.unusedVariables false
set_option maxRecDepth 100000
set_option maxHeartbeats 16000000
theorem putok_of {W : World} {va vn : Value} {ar : List Mo.Fd} {ns : List ByteArray} (h : LawIn W va vn ar ns) (hc : ¬ 5000 < Mo.wtA ar) (hk : Mo.okA ar = true) : PutOk W va ar := by
  have hw : Mo.wtA ar ≤ 5000 := by omega
  have hu : ∀ f ∈ ar, upOk f.upd ∧ ∀ e ∈ f.ents, upOk e.upd := fun f hf => ⟨(h.bd.each f hf).upd, fun e he => ((h.bd.each f hf).ents e he).upd⟩
  have hl := len_sum Mo.wtF wtF_pos ar
  unfold Mo.wtA at hw
  refine ⟨h.mem, ⟨hk, h.bd, by omega, fun f hf => ?_, fun f hf => ?_⟩, jA_jb ar (by unfold Mo.wtA; exact hw) hu, h.wt, h.sp, encA_len ar (by unfold Mo.wtA; exact hw) hu⟩
  · have h1 := mem_sum Mo.wtF hf
    have h2 := len_sum Mo.wtE wtE_pos f.ents
    unfold Mo.wtF at h1 hw
    omega
  · have h1 := mem_sum Mo.wtF hf
    have h2 := len_sum Mo.wtP wtP_pos f.path
    unfold Mo.wtF at h1 hw
    omega
def A0 (l : List UInt8) : AS := AS.new.swapped (nX ++ sJson) l
theorem a0_names (l : List UInt8) : (A0 l).names = [([120, 46, 106, 115, 111, 110], 0)] := rfl
theorem a0_q {l : List UInt8} (h : l.length ≤ 1000000) : Qs (A0 l) 1 := Qs.swapped new_q (by decide) h
def Sh (a : AS) : Prop := ∀ q ∈ a.names, q.1.length ≤ 1000
theorem a0_sh (l : List UInt8) : Sh (A0 l) := by
  intro q hq
  rw [a0_names] at hq
  rcases List.mem_singleton.1 hq with rfl
  decide
section
variable {W0 w w' : World} {B F s : Nat} {Z p0 : Nat → Prop} {a a' : AS}
theorem Now.under (h : Now W0 w B F Z p0 a) (hB : ∀ k, p0 k → B ≤ k) (hs : B ≤ W0.heap.size) : Below B W0 w := by
  obtain ⟨p', h1, h2, h3⟩ := h
  exact h2.below hB hs
theorem files_now {n : Nat} (h : Now W0 w B F Z p0 a) (ok : a.Ok n) (hd : a.down = false) (hn : n ≤ 400000) (hsh : Sh a) :
    Calls Tryz.prog 13 #[.pointer (some ⟨F, 0, none⟩)] w fun e w' => e = .returned (.string ⟨(ftext a).toArray⟩) ∧ Now W0 w' B F Z p0 a := by
  obtain ⟨p', h1, h2, h3⟩ := id h
  refine (files_is h1 ok hd hn hsh).mono ?_
  rintro e w' ⟨rfl, hb⟩
  exact ⟨rfl, h.below hb⟩
end
end Go.Proofs.YtjaojenalodolaaGreatDoor.Ms
