/-
  DERIVED: THE SHELF's CONTRACTS AT THIS DUMP, IN PLAIN WORDS (tools/lay-plain.mjs out of 'TryShelf.lean', which tools/lay-shelf.mjs wrote): THE SAME DECLARATIONS UNDER THE SAME NAMES: 'import', 'namespace', 'open', 'def', 'theorem' AND NOTHING ELSE: no command of the shelf's: FOR A HAND-IN. Each laying: the table of numbers ('.._ren') and one theorem, a field a fact of the dump's own or the kernel's comparison; each contract: ONE APPLICATION.
-/
import Derived.Shelf.Small.Bits
import Derived.Shelf.Strconv.Itoa0
import Derived.Shelf.Sort.Plain
import Derived.Shelf.Slices.Equal
import Derived.Shelf.Slices.In.SortNone
import Derived.Shelf.Slices.Empties2
import Derived.Shelf.SlIter.Nil
import Derived.Shelf.SortM.Plain
import Derived.Shelf.SortM.SortNone
import Derived.Shelf.SlMaps.Clone
import Derived.Ground.SlmcProg
import Derived.Ground.GgzProg
import Derived.Ground.SlgmProg
import Derived.Test.YtcobjjaicckgpaaProg
namespace Go.Proofs
open Go.Shelf
def Try.lays128_ren : Go.Shelf.Ren := ⟨fun | 128 => 75 | n => n, fun | 51 => 119 | 3 => 3 | 4 => 4 | 46 => 108 | 5 => 5 | 9 => 9 | n => n, fun | n => n⟩
theorem Try.lays128 : Go.Proofs.Lays.n128 Try.prog Try.lays128_ren := {
  mixed := by kernel_rfl
  f128 := Try.func75.trans (congrArg some (by kernel_rfl))
  t3 := Try.underlying3
  a3 := Try.isAgg3
  z3 := Try.sizeOf3
  v3 := Try.zeroValue3
  t4 := Try.underlying4
  a4 := Try.isAgg4
  z4 := Try.sizeOf4
  v4 := Try.zeroValue4
  t5 := Try.underlying5
  a5 := Try.isAgg5
  z5 := Try.sizeOf5
  v5 := Try.zeroValue5
  t9 := Try.underlying9
  a9 := Try.isAgg9
  z9 := Try.sizeOf9
  v9 := Try.zeroValue9
  t46 := Try.underlying108
  a46 := Try.isAgg108
  z46 := Try.sizeOf108
  v46 := Try.zeroValue108
  t51 := Try.underlying119
  a51 := Try.isAgg119
  z51 := Try.sizeOf119
  v51 := Try.zeroValue119 }
/-- bits.Len32: "Len32 returns the minimum number of bits required to represent x; the result is 0 for x == 0.": IT RETURNS 'Lib.bitLen x'; the world is as it was. ('h0', 'h1': x is a uint32.) (LAID: no walk: one application.) -/
theorem Try.bits_Len32 (x : Int) (w : World) (h0 : 0 ≤ x) (h1 : x ≤ 4294967295) :
    Calls Try.prog 75 #[.int .u32 x] w fun e w' => e = .returned (.int .i64 (Lib.bitLen x.toNat)) ∧ w' = w := Any.bits_Len32 Try.lays128 x w h0 h1
def Try.lays125_ren : Go.Shelf.Ren := ⟨fun | 125 => 65 | 128 => 75 | 129 => 76 | n => n, fun | 46 => 108 | 3 => 3 | 51 => 119 | 53 => 121 | 4 => 4 | 5 => 5 | 9 => 9 | n => n, fun | n => n⟩
theorem Try.lays125 : Go.Proofs.Lays.n125 Try.prog Try.lays125_ren := {
  mixed := by kernel_rfl
  f125 := Try.func65.trans (congrArg some (by kernel_rfl))
  f128 := Try.func75.trans (congrArg some (by kernel_rfl))
  f129 := Try.func76.trans (congrArg some (by kernel_rfl))
  t3 := Try.underlying3
  a3 := Try.isAgg3
  z3 := Try.sizeOf3
  v3 := Try.zeroValue3
  t4 := Try.underlying4
  a4 := Try.isAgg4
  z4 := Try.sizeOf4
  v4 := Try.zeroValue4
  t5 := Try.underlying5
  a5 := Try.isAgg5
  z5 := Try.sizeOf5
  v5 := Try.zeroValue5
  t9 := Try.underlying9
  a9 := Try.isAgg9
  z9 := Try.sizeOf9
  v9 := Try.zeroValue9
  t46 := Try.underlying108
  a46 := Try.isAgg108
  z46 := Try.sizeOf108
  v46 := Try.zeroValue108
  t51 := Try.underlying119
  a51 := Try.isAgg119
  z51 := Try.sizeOf119
  v51 := Try.zeroValue119
  t53 := Try.underlying121
  a53 := Try.isAgg121
  z53 := Try.sizeOf121
  v53 := Try.zeroValue121 }
/-- bits.Len: "Len returns the minimum number of bits required to represent x; the result is 0 for x == 0.": IT RETURNS 'Lib.bitLen x'; the world is as it was. (A uint has 64 bits in the model.) ITS CALLEE bits.Len64 IS MET BY ITS OWN CONTRACT OFF THE SHELF (lay that first). (LAID: no walk: one application.) -/
theorem Try.bits_Len (x : Int) (w : World) (h0 : 0 ≤ x) (h1 : x ≤ 18446744073709551615) :
    Calls Try.prog 65 #[.int .u64 x] w fun e w' => e = .returned (.int .i64 (Lib.bitLen x.toNat)) ∧ w' = w := Any.bits_Len Try.lays125 x w h0 h1
def Try.lays129_ren : Go.Shelf.Ren := ⟨fun | 129 => 76 | n => n, fun | 53 => 121 | 3 => 3 | 4 => 4 | 46 => 108 | 5 => 5 | 9 => 9 | n => n, fun | n => n⟩
theorem Try.lays129 : Go.Proofs.Lays.n129 Try.prog Try.lays129_ren := {
  mixed := by kernel_rfl
  f129 := Try.func76.trans (congrArg some (by kernel_rfl))
  t3 := Try.underlying3
  a3 := Try.isAgg3
  z3 := Try.sizeOf3
  v3 := Try.zeroValue3
  t4 := Try.underlying4
  a4 := Try.isAgg4
  z4 := Try.sizeOf4
  v4 := Try.zeroValue4
  t5 := Try.underlying5
  a5 := Try.isAgg5
  z5 := Try.sizeOf5
  v5 := Try.zeroValue5
  t9 := Try.underlying9
  a9 := Try.isAgg9
  z9 := Try.sizeOf9
  v9 := Try.zeroValue9
  t46 := Try.underlying108
  a46 := Try.isAgg108
  z46 := Try.sizeOf108
  v46 := Try.zeroValue108
  t53 := Try.underlying121
  a53 := Try.isAgg121
  z53 := Try.sizeOf121
  v53 := Try.zeroValue121 }
/-- bits.Len64: "Len64 returns the minimum number of bits required to represent x; the result is 0 for x == 0.": IT RETURNS 'Lib.bitLen x'; the world is as it was. ('h0', 'h1': x is a uint64.) (LAID: no walk: one application.) -/
theorem Try.bits_Len64 (x : Int) (w : World) (h0 : 0 ≤ x) (h1 : x ≤ 18446744073709551615) :
    Calls Try.prog 76 #[.int .u64 x] w fun e w' => e = .returned (.int .i64 (Lib.bitLen x.toNat)) ∧ w' = w := Any.bits_Len64 Try.lays129 x w h0 h1
def Try.lays190_ren : Go.Shelf.Ren := ⟨fun | 190 => 61 | 125 => 65 | 258 => 64 | 128 => 75 | 129 => 76 | 302 => 66 | 303 => 67 | 304 => 68 | 305 => 69 | 306 => 70 | 307 => 71 | 308 => 72 | 309 => 73 | 310 => 74 | 333 => 77 | 329 => 78 | 330 => 79 | 334 => 80 | 335 => 81 | 336 => 82 | 344 => 83 | n => n, fun | 31 => 52 | 9 => 9 | 3 => 3 | 46 => 108 | 0 => 0 | 51 => 119 | 53 => 121 | 4 => 4 | 183 => 111 | 182 => 110 | 131 => 116 | 5 => 5 | 218 => 122 | 222 => 126 | 228 => 128 | 229 => 45 | n => n, fun | n => n⟩
theorem Try.lays190 : Go.Proofs.Lays.n190 Try.prog Try.lays190_ren := {
  mixed := by kernel_rfl
  f125 := Try.func65.trans (congrArg some (by kernel_rfl))
  f128 := Try.func75.trans (congrArg some (by kernel_rfl))
  f129 := Try.func76.trans (congrArg some (by kernel_rfl))
  f190 := Try.func61.trans (congrArg some (by kernel_rfl))
  f258 := Try.func64.trans (congrArg some (by kernel_rfl))
  f302 := Try.func66.trans (congrArg some (by kernel_rfl))
  f303 := Try.func67.trans (congrArg some (by kernel_rfl))
  f304 := Try.func68.trans (congrArg some (by kernel_rfl))
  f305 := Try.func69.trans (congrArg some (by kernel_rfl))
  f306 := Try.func70.trans (congrArg some (by kernel_rfl))
  f307 := Try.func71.trans (congrArg some (by kernel_rfl))
  f308 := Try.func72.trans (congrArg some (by kernel_rfl))
  f309 := Try.func73.trans (congrArg some (by kernel_rfl))
  f310 := Try.func74.trans (congrArg some (by kernel_rfl))
  f329 := Try.func78.trans (congrArg some (by kernel_rfl))
  f330 := Try.func79.trans (congrArg some (by kernel_rfl))
  f333 := Try.func77.trans (congrArg some (by kernel_rfl))
  f334 := Try.func80.trans (congrArg some (by kernel_rfl))
  f335 := Try.func81.trans (congrArg some (by kernel_rfl))
  f336 := Try.func82.trans (congrArg some (by kernel_rfl))
  f344 := Try.func83.trans (congrArg some (by kernel_rfl))
  t0 := Try.underlying0
  a0 := Try.isAgg0
  z0 := Try.sizeOf0
  v0 := Try.zeroValue0
  t3 := Try.underlying3
  a3 := Try.isAgg3
  z3 := Try.sizeOf3
  v3 := Try.zeroValue3
  t4 := Try.underlying4
  a4 := Try.isAgg4
  z4 := Try.sizeOf4
  v4 := Try.zeroValue4
  t5 := Try.underlying5
  a5 := Try.isAgg5
  z5 := Try.sizeOf5
  v5 := Try.zeroValue5
  t9 := Try.underlying9
  a9 := Try.isAgg9
  z9 := Try.sizeOf9
  v9 := Try.zeroValue9
  t31 := Try.underlying52
  a31 := Try.isAgg52
  z31 := Try.sizeOf52
  v31 := Try.zeroValue52
  t46 := Try.underlying108
  a46 := Try.isAgg108
  z46 := Try.sizeOf108
  v46 := Try.zeroValue108
  t51 := Try.underlying119
  a51 := Try.isAgg119
  z51 := Try.sizeOf119
  v51 := Try.zeroValue119
  t53 := Try.underlying121
  a53 := Try.isAgg121
  z53 := Try.sizeOf121
  v53 := Try.zeroValue121
  t131 := Try.underlying116
  a131 := Try.isAgg116
  z131 := Try.sizeOf116
  v131 := Try.zeroValue116
  t182 := Try.underlying110
  a182 := Try.isAgg110
  z182 := Try.sizeOf110
  v182 := Try.zeroValue110
  t183 := Try.underlying111
  a183 := Try.isAgg111
  z183 := Try.sizeOf111
  v183 := Try.zeroValue111
  t218 := Try.underlying122
  a218 := Try.isAgg122
  z218 := Try.sizeOf122
  v218 := Try.zeroValue122
  t222 := Try.underlying126
  a222 := Try.isAgg126
  z222 := Try.sizeOf126
  v222 := Try.zeroValue126
  t228 := Try.underlying128
  a228 := Try.isAgg128
  z228 := Try.sizeOf128
  v228 := Try.zeroValue128
  t229 := Try.underlying45
  a229 := Try.isAgg45
  z229 := Try.sizeOf45
  v229 := Try.zeroValue45 }
open Go.Sort Go.RowKit in
theorem Try.slices_Sort_string (blk off cap : Nat) (ss : List (List UInt8)) (w : World) (hH : Holds encStr w blk off ss.toArray) (hblk : blk < w.heap.size) (hsz : ss.length < 4611686018427387904) :
    Calls Try.prog 61 #[.slice (some ⟨blk, off, none⟩) ss.length cap] w fun e w' =>
      e = .returned (.tuple #[]) ∧ ∃ n os, w' = grow (putRow encStr (Sort.ahead w n) blk off (ss.mergeSort fun x y => decide (x ≤ y)).toArray) os := Any.slices_Sort_string Try.lays190 blk off cap ss w hH hblk hsz
def Try.lays193_ren : Go.Shelf.Ren := ⟨fun | 193 => 26 | n => n, fun | 31 => 52 | 9 => 9 | 4 => 4 | 3 => 3 | 0 => 0 | n => n, fun | n => n⟩
theorem Try.lays193 : Go.Proofs.Lays.n193 Try.prog Try.lays193_ren := {
  mixed := by kernel_rfl
  f193 := Try.func26.trans (congrArg some (by kernel_rfl))
  t0 := Try.underlying0
  a0 := Try.isAgg0
  z0 := Try.sizeOf0
  v0 := Try.zeroValue0
  t3 := Try.underlying3
  a3 := Try.isAgg3
  z3 := Try.sizeOf3
  v3 := Try.zeroValue3
  t4 := Try.underlying4
  a4 := Try.isAgg4
  z4 := Try.sizeOf4
  v4 := Try.zeroValue4
  t9 := Try.underlying9
  a9 := Try.isAgg9
  z9 := Try.sizeOf9
  v9 := Try.zeroValue9
  t31 := Try.underlying52
  a31 := Try.isAgg52
  z31 := Try.sizeOf52
  v31 := Try.zeroValue52 }
open Go.RowKit Go.Lib in
/-- slices.Equal at []string: "Equal reports whether two slices are equal: the same length and all elements equal. If the lengths are different, Equal returns false. Otherwise, the elements are compared in increasing index order, and the comparison stops at the first unequal pair. Empty and nil slices are considered equal.": IT RETURNS WHETHER THE TWO LISTS OF ELEMENTS ARE ONE; the world is as it was but for the count of draws (the test 's1[i] != s2[i]' has two reads, whose order the model draws, once a round). 'xs', 'ys': what the cells behind the two addresses hold (the spare capacity too, if you have it); 'xs.take n', 'ys.take m': the elements. THE TWO SLICES MAY OVERLAP. (LAID: no walk: one application.) -/
theorem Try.slices_Equal_string (b1 o1 n c b2 o2 m d : Nat) (xs ys : List ByteArray) (w : World) (hx : n ≤ xs.length) (hy : m ≤ ys.length) (hbig : n ≤ 9223372036854775807) (hbig2 : m ≤ 9223372036854775807) (hc1 : ∀ j, j < xs.length → w.cell? ⟨b1, o1 + j, none⟩ = some (.string (xs.getD j ByteArray.empty))) (hc2 : ∀ j, j < ys.length → w.cell? ⟨b2, o2 + j, none⟩ = some (.string (ys.getD j ByteArray.empty))) :
    Calls Try.prog 26 #[.slice (some ⟨b1, o1, none⟩) n c, .slice (some ⟨b2, o2, none⟩) m d] w fun e w' => e = .returned (.bool (decide (xs.take n = ys.take m))) ∧ ∃ q, w' = w.drewN q := Any.slices_Equal_string Try.lays193 b1 o1 n c b2 o2 m d xs ys w hx hy hbig hbig2 hc1 hc2
open Go.RowKit Go.Lib in
/-- The same where the first is of length 0 (a nil one too): no cell is asked for. (LAID: no walk: one application.) -/
theorem Try.slices_Equal_string_empty (a1 a2 : Option Addr) (c m d : Nat) (w : World) (hbig2 : m ≤ 9223372036854775807) :
    Calls Try.prog 26 #[.slice a1 0 c, .slice a2 m d] w fun e w' => e = .returned (.bool (decide (m = 0))) ∧ w' = w := Any.slices_Equal_string_empty Try.lays193 a1 a2 c m d w hbig2
open Go.RowKit Go.Sort in
/-- .. and plain. (LAID: no walk: one application.) -/
theorem Try.slices_Sort_string_none (p : Option Addr) (cap : Nat) (w : World) :
    Calls Try.prog 61 #[.slice p 0 cap] w fun e w' => e = .returned (.tuple #[]) ∧ w' = w := Any.slices_Sort_string_none Try.lays190 p cap w
open Go.RowKit Go.Lib in
theorem Try.slices_Equal_string_lens (a1 a2 : Option Addr) (n c m d : Nat) (w : World) (hnm : n ≠ m) :
    Calls Try.prog 26 #[.slice a1 n c, .slice a2 m d] w fun e w' => e = .returned (.bool false) ∧ w' = w := Any.slices_Equal_string_lens Try.lays193 a1 a2 n c m d w hnm
def Try.clone37_ren : Go.Shelf.Ren := ⟨fun | 5 => 37 | 7 => 53 | n => n, fun | 23 => 58 | 25 => 9 | 3 => 66 | 4 => 4 | 20 => 20 | n => n, fun | n => n⟩
theorem Try.clone37 : Go.Proofs.SlLaysW.n5 Try.prog Try.clone37_ren := {
  mixed := by kernel_rfl
  f5 := ⟨Try.f37.name, by decide, Try.func37.trans (congrArg some (by kernel_rfl))⟩
  f7 := Try.func53.trans (congrArg some (by kernel_rfl))
  t4 := Try.underlying4
  a4 := Try.isAgg4
  z4 := Try.sizeOf4
  v4 := Try.zeroValue4
  t20 := Try.underlying20
  a20 := Try.isAgg20
  z20 := Try.sizeOf20
  v20 := Try.zeroValue20
  t23 := Try.underlying58
  a23 := Try.isAgg58
  z23 := Try.sizeOf58
  v23 := Try.zeroValue58 }
def Try.keys59_ren : Go.Shelf.Ren := ⟨fun | 7 => 59 | 10 => 62 | n => n, fun | 23 => 58 | 26 => 9 | 3 => 66 | 28 => 101 | 0 => 0 | 27 => 100 | 33 => 104 | 4 => 4 | n => n, fun | n => n⟩
theorem Try.keys59 : Go.Proofs.SlLaysZ.n7 Try.prog Try.keys59_ren := {
  mixed := by kernel_rfl
  f7 := ⟨Try.f59.name, by decide, Try.func59.trans (congrArg some (by kernel_rfl))⟩
  f10 := ⟨Try.f62.name, by decide, Try.func62.trans (congrArg some (by kernel_rfl))⟩
  t0 := Try.underlying0
  a0 := Try.isAgg0
  z0 := Try.sizeOf0
  v0 := Try.zeroValue0
  t4 := Try.underlying4
  a4 := Try.isAgg4
  z4 := Try.sizeOf4
  v4 := Try.zeroValue4
  t23 := Try.underlying58
  a23 := Try.isAgg58
  z23 := Try.sizeOf58
  v23 := Try.zeroValue58
  t26 := Try.underlying9
  a26 := Try.isAgg9
  z26 := Try.sizeOf9
  v26 := Try.zeroValue9
  t27 := Try.underlying100
  a27 := Try.isAgg100
  z27 := Try.sizeOf100
  v27 := Try.zeroValue100
  t28 := Try.underlying101
  a28 := Try.isAgg101
  z28 := Try.sizeOf101
  v28 := Try.zeroValue101
  t33 := Try.underlying104
  a33 := Try.isAgg104
  z33 := Try.sizeOf104
  v33 := Try.zeroValue104 }
def Try.sorted58_ren : Go.Shelf.Ren := ⟨fun | 6 => 58 | 8 => 60 | 9 => 61 | 11 => 63 | 13 => 65 | 12 => 64 | 23 => 75 | 24 => 76 | 14 => 66 | 15 => 67 | 16 => 68 | 17 => 69 | 18 => 70 | 19 => 71 | 20 => 72 | 21 => 73 | 22 => 74 | 25 => 77 | 26 => 78 | 27 => 79 | 28 => 80 | 29 => 81 | 30 => 82 | 31 => 83 | n => n, fun | 26 => 9 | 28 => 101 | 24 => 52 | 0 => 0 | 3 => 3 | 37 => 108 | 48 => 119 | 50 => 121 | 4 => 4 | 40 => 111 | 39 => 110 | 45 => 116 | 5 => 5 | 9 => 9 | 51 => 122 | 55 => 126 | 57 => 128 | 58 => 45 | 33 => 104 | n => n, fun | n => n⟩
theorem Try.sorted58 : Go.Proofs.SlLaysZ.n6 Try.prog Try.sorted58_ren := {
  mixed := by kernel_rfl
  f6 := ⟨Try.f58.name, by decide, Try.func58.trans (congrArg some (by kernel_rfl))⟩
  f8 := ⟨Try.f60.name, by decide, Try.func60.trans (congrArg some (by kernel_rfl))⟩
  f11 := ⟨Try.f63.name, by decide, Try.func63.trans (congrArg some (by kernel_rfl))⟩
  t0 := Try.underlying0
  a0 := Try.isAgg0
  z0 := Try.sizeOf0
  v0 := Try.zeroValue0
  t24 := Try.underlying52
  a24 := Try.isAgg52
  z24 := Try.sizeOf52
  v24 := Try.zeroValue52
  t26 := Try.underlying9
  a26 := Try.isAgg9
  z26 := Try.sizeOf9
  v26 := Try.zeroValue9
  t28 := Try.underlying101
  a28 := Try.isAgg101
  z28 := Try.sizeOf101
  v28 := Try.zeroValue101
  i26 := by kernel_rfl }
def Try.sort61_ren : Go.Shelf.Ren := ⟨fun | 6 => 61 | 8 => 65 | 9 => 64 | 19 => 75 | 20 => 76 | 21 => 66 | 22 => 67 | 23 => 68 | 24 => 69 | 25 => 70 | 26 => 71 | 27 => 72 | 28 => 73 | 29 => 74 | 36 => 77 | 31 => 78 | 32 => 79 | 37 => 80 | 38 => 81 | 39 => 82 | 41 => 83 | n => n, fun | 27 => 52 | 29 => 9 | 3 => 3 | 32 => 108 | 26 => 52 | 0 => 0 | 44 => 119 | 46 => 121 | 4 => 4 | 36 => 111 | 35 => 110 | 41 => 116 | 5 => 5 | 9 => 9 | 53 => 122 | 57 => 126 | 63 => 128 | 64 => 45 | n => n, fun | n => n⟩
theorem Try.sort61 : Go.Proofs.SlLaysM.n6 Try.prog Try.sort61_ren := {
  mixed := by kernel_rfl
  f6 := ⟨Try.f61.name, by decide, Try.func61.trans (congrArg some (by kernel_rfl))⟩
  f8 := Try.func65.trans (congrArg some (by kernel_rfl))
  f9 := ⟨Try.f64.name, by decide, Try.func64.trans (congrArg some (by kernel_rfl))⟩
  f19 := Try.func75.trans (congrArg some (by kernel_rfl))
  f20 := Try.func76.trans (congrArg some (by kernel_rfl))
  f21 := ⟨Try.f66.name, by decide, Try.func66.trans (congrArg some (by kernel_rfl))⟩
  f22 := ⟨Try.f67.name, by decide, Try.func67.trans (congrArg some (by kernel_rfl))⟩
  f23 := ⟨Try.f68.name, by decide, Try.func68.trans (congrArg some (by kernel_rfl))⟩
  f24 := ⟨Try.f69.name, by decide, Try.func69.trans (congrArg some (by kernel_rfl))⟩
  f25 := ⟨Try.f70.name, by decide, Try.func70.trans (congrArg some (by kernel_rfl))⟩
  f26 := ⟨Try.f71.name, by decide, Try.func71.trans (congrArg some (by kernel_rfl))⟩
  f27 := ⟨Try.f72.name, by decide, Try.func72.trans (congrArg some (by kernel_rfl))⟩
  f28 := ⟨Try.f73.name, by decide, Try.func73.trans (congrArg some (by kernel_rfl))⟩
  f29 := ⟨Try.f74.name, by decide, Try.func74.trans (congrArg some (by kernel_rfl))⟩
  f31 := Try.func78.trans (congrArg some (by kernel_rfl))
  f32 := Try.func79.trans (congrArg some (by kernel_rfl))
  f36 := ⟨Try.f77.name, by decide, Try.func77.trans (congrArg some (by kernel_rfl))⟩
  f37 := ⟨Try.f80.name, by decide, Try.func80.trans (congrArg some (by kernel_rfl))⟩
  f38 := ⟨Try.f81.name, by decide, Try.func81.trans (congrArg some (by kernel_rfl))⟩
  f39 := ⟨Try.f82.name, by decide, Try.func82.trans (congrArg some (by kernel_rfl))⟩
  f41 := ⟨Try.f83.name, by decide, Try.func83.trans (congrArg some (by kernel_rfl))⟩
  t0 := Try.underlying0
  a0 := Try.isAgg0
  z0 := Try.sizeOf0
  v0 := Try.zeroValue0
  t3 := Try.underlying3
  a3 := Try.isAgg3
  z3 := Try.sizeOf3
  v3 := Try.zeroValue3
  t4 := Try.underlying4
  a4 := Try.isAgg4
  z4 := Try.sizeOf4
  v4 := Try.zeroValue4
  t5 := Try.underlying5
  a5 := Try.isAgg5
  z5 := Try.sizeOf5
  v5 := Try.zeroValue5
  t9 := Try.underlying9
  a9 := Try.isAgg9
  z9 := Try.sizeOf9
  v9 := Try.zeroValue9
  t26 := Try.underlying52
  a26 := Try.isAgg52
  z26 := Try.sizeOf52
  v26 := Try.zeroValue52
  t27 := Try.underlying52
  a27 := Try.isAgg52
  z27 := Try.sizeOf52
  v27 := Try.zeroValue52
  t29 := Try.underlying9
  a29 := Try.isAgg9
  z29 := Try.sizeOf9
  v29 := Try.zeroValue9
  t32 := Try.underlying108
  a32 := Try.isAgg108
  z32 := Try.sizeOf108
  v32 := Try.zeroValue108
  t35 := Try.underlying110
  a35 := Try.isAgg110
  z35 := Try.sizeOf110
  v35 := Try.zeroValue110
  t36 := Try.underlying111
  a36 := Try.isAgg111
  z36 := Try.sizeOf111
  v36 := Try.zeroValue111
  t41 := Try.underlying116
  a41 := Try.isAgg116
  z41 := Try.sizeOf116
  v41 := Try.zeroValue116
  t44 := Try.underlying119
  a44 := Try.isAgg119
  z44 := Try.sizeOf119
  v44 := Try.zeroValue119
  t46 := Try.underlying121
  a46 := Try.isAgg121
  z46 := Try.sizeOf121
  v46 := Try.zeroValue121
  t53 := Try.underlying122
  a53 := Try.isAgg122
  z53 := Try.sizeOf122
  v53 := Try.zeroValue122
  t57 := Try.underlying126
  a57 := Try.isAgg126
  z57 := Try.sizeOf126
  v57 := Try.zeroValue126
  t63 := Try.underlying128
  a63 := Try.isAgg128
  z63 := Try.sizeOf128
  v63 := Try.zeroValue128
  t64 := Try.underlying45
  a64 := Try.isAgg45
  z64 := Try.sizeOf45
  v64 := Try.zeroValue45 }
end Go.Proofs
