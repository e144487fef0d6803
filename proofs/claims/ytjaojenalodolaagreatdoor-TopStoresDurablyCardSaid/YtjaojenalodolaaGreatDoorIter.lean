/-
  DERIVED. MADE BY PROGRAM (lay-iter.mjs) off ytjaojenalodolaagreatdoor.cut.gsa: THE SHELF's CONTRACTS ON 'slices.Sorted(maps.Keys(m))' LAID AT THIS DUMP: 1 map type. NO WALK OF THE LIBRARY's TEXT: each is one application of a contract over any P and ρ (Derived/Shelf/SlIter/, Derived/Shelf/SortM/).
-/
import Derived.Shelf.SlIter.Nil
import Derived.Shelf.SortM.Plain
import Derived.Shelf.SortM.SortNone
import Derived.Test.YtjaojenalodolaaGreatDoorShelf
namespace Go.Proofs
open Go.RowKit Go.Maps Go.Sort Go.Shelf
-- maps.Keys[map[string]*feedvault/vfs.file,string,*feedvault/vfs.file] (function 103; its iterator 152) · slices.Sorted[string] (102) · slices.Sort[[]string,string] (151) · the map's type 62, the keys' 9
theorem Tryz.sorts102 (m : Nat) : AnyZ.SortsIn Tryz.prog Tryz.sorted102_ren Fence.wide m :=
  ⟨fun blk off cap ss W hH hblk hsz => callsIn_wide.2 (AnyM.slices_Sort_string Tryz.sort151 blk off cap ss W hH hblk hsz),
   fun p cap W => callsIn_wide.2 (AnyM.slices_Sort_string_none Tryz.sort151 p cap W)⟩
theorem Tryz.maps_Keys_103 (mb : Option Nat) (W : World) : CallsIn Fence.wide 5 Tryz.prog 103 #[.map mb] W fun e w' => e = .returned (.func (.func 152) #[] #[.pointer (some ⟨W.heap.size, 0, none⟩)]) ∧ w' = W.alloc (.cells #[.map mb] 62) :=
  AnyZ.keys_in Tryz.keys103 Fence.wide 5 trivial rfl mb W
set_option maxHeartbeats 1000000 in
theorem Tryz.slices_Sorted_keys_102_103 {H : Type} (b nn : Nat) (D0 : DataW H) (R : Value → Option (DataW H × List MemPlace)) (w : World) (hown : w.ownsMap Tryz.prog 9 R b nn D0) (hmax : Maps.size D0 ≤ maxLen) (hbytes : Maps.size D0 * 16 ≤ 140737488355328) :
    CallsIn Fence.wide 5 Tryz.prog 102 #[.func (.func 152) #[] #[.pointer (some ⟨w.heap.size, 0, none⟩)]] (w.alloc (.cells #[.map (some b)] 62)) fun e w' => ∃ (v : Value) (ss : List (List UInt8)), e = .returned v ∧ ss.Perm (strKeys D0) ∧
      w'.ownsRow (w.alloc (.cells #[.map (some b)] 62)).heap.size 9 1 v ss.length ((ss.mergeSort (fun x y => decide (x ≤ y))).map encStr) ∧ (v = .slice none 0 0 ↔ ss = []) ∧ Below (w.alloc (.cells #[.map (some b)] 62)).heap.size (w.alloc (.cells #[.map (some b)] 62)) w' := by
  have hbl := hown.lt
  have hseq : SeqGives Fence.wide 2 Tryz.prog 152 #[.pointer (some ⟨w.heap.size, 0, none⟩)] encStr (fun ss => ss.Perm (strKeys D0)) (Maps.size D0) (w.alloc (.cells #[.map (some b)] 62)) :=
    AnyZ.keys_gives (ρ := Tryz.keys103_ren) { Tryz.keys103 with } Fence.wide _ trivial rfl (by omega) w.heap.size b nn D0 _ (by simp) (by simp) (by
      obtain ⟨es, clock, hb, Ft, hs, hD⟩ := hown
      exact ⟨es, clock, (Below.heap_alloc _ _ b hbl).trans hb, Ft, hs, hD⟩)
  exact AnyZ.sorted_in Tryz.sorted102 Fence.wide 5 trivial trivial trivial trivial rfl (by omega) (Tryz.sorts102 _) (enters_of Tryz.func151 (by kernel_rfl) rfl) 152 #[.pointer (some ⟨w.heap.size, 0, none⟩)] trivial (enters_of Tryz.func152 (by kernel_rfl) rfl) _ _ hmax hbytes _ hseq
end Go.Proofs
