/-
  No cell of these rows narrows 'for every input' (looked for: loops, veiled, ifaces, maps, wideKeys, modest, calm, conditions, laid).
  DERIVED. THE GIVEN ROWS OF THIS SEAT. 4 by the template 'for every input the law returns true; each argument reads behind the call as it read before'; 0 by the template 'total and deterministic' (their statements: YtcobjjaicckgpaaTotals.lean).
  GIVEN WITH THE SEED: the statements are not yours to turn. If you find one false, say at which input.
  Laid BY PROGRAM, IN A SANDBOX (cutbox-rows.mjs): the forced cells as the released guide's own fill.sh prints them over the translation 68be415a149638ae… (all of the seat's roots in one cut). By AI agents, Wed Nov 11 2026. No macro, syntax, notation, axiom, sorry.
-/
import Derived.Test.YtcobjjaicckgpaaChecked
import GoSem.Claim
import GoSem.ClaimJoined
import GoSem.ClaimMapViews
import Derived.JoinedTies
import Derived.KernelRfl
namespace Go.Proofs.Ytcobjjaicckgpaa
/- THE CELL 'sum', in the pinned program and in every row, IS THE sha256 OF THE DUMP (.gsa) THAT YtcobjjaicckgpaaProg.lean LOADS. Nothing in Lean hashes anything: it is a label: what it is worth is what the hold of that sum in a sandbox is worth. -/
noncomputable def Try.pinned : Pinned := { name := "ytcobjjaicckgpaa", sum := "68be415a149638aef948584a53d2f8c86f42142cf65770f44d29aa3f4f165f89", checked := Try.checked }
namespace Rows
def none {H : Type} : Left H := { results := [], args := [] }

/-- 'feedvaultlaw21.VfsRenameIsAtomic': WHATEVER THE INPUT: true; the input reads as it did. -/
def vfsRenameIsAtomicSpec : ChangeSpec := { name := "vfsRenameIsAtomic", fn := fun _ => fun
  | [d1, d2, d3] => { results := [.lit (.bool true)], args := [d1, d2, d3] }
  | _ => none }
def vfsRenameIsAtomicRow : OpenClaim := { program := "ytcobjjaicckgpaa", sum := "68be415a149638aef948584a53d2f8c86f42142cf65770f44d29aa3f4f165f89", func := "feedvault/feedvaultlaw21.VfsRenameIsAtomic", spec := "vfsRenameIsAtomic", inPlace := ["maps.clone"], unfollowed := true, recurses := true, apart := false }
def VfsRenameIsAtomicSaid : Prop := vfsRenameIsAtomicRow.holds Try.pinned (OpenSpec.ofChange vfsRenameIsAtomicSpec)

/-- ITS FALSE NEIGHBOUR: 'it returns false'. Refute it at one input. -/
def vfsRenameIsAtomicWrong : ChangeSpec := { name := "vfsRenameIsAtomic", fn := fun _ => fun
  | [d1, d2, d3] => { results := [.lit (.bool false)], args := [d1, d2, d3] }
  | _ => none }
def VfsRenameIsAtomicWrongFalsely : Prop := vfsRenameIsAtomicRow.holds Try.pinned (OpenSpec.ofChange vfsRenameIsAtomicWrong)

/-- 'feedvaultlaw21.VfsMatchesReference': WHATEVER THE INPUT: true; the input reads as it did. -/
def vfsMatchesReferenceSpec : ChangeSpec := { name := "vfsMatchesReference", fn := fun _ => fun
  | [d] => { results := [.lit (.bool true)], args := [d] }
  | _ => none }
def vfsMatchesReferenceRow : OpenClaim := { program := "ytcobjjaicckgpaa", sum := "68be415a149638aef948584a53d2f8c86f42142cf65770f44d29aa3f4f165f89", func := "feedvault/feedvaultlaw21.VfsMatchesReference", spec := "vfsMatchesReference", inPlace := ["maps.clone"], unfollowed := true, recurses := true, apart := false }
def VfsMatchesReferenceSaid : Prop := vfsMatchesReferenceRow.holds Try.pinned (OpenSpec.ofChange vfsMatchesReferenceSpec)

/-- ITS FALSE NEIGHBOUR: 'it returns false'. Refute it at one input. -/
def vfsMatchesReferenceWrong : ChangeSpec := { name := "vfsMatchesReference", fn := fun _ => fun
  | [d] => { results := [.lit (.bool false)], args := [d] }
  | _ => none }
def VfsMatchesReferenceWrongFalsely : Prop := vfsMatchesReferenceRow.holds Try.pinned (OpenSpec.ofChange vfsMatchesReferenceWrong)

/-- 'feedvaultlaw21.VfsFails': WHATEVER THE INPUT: true; the input reads as it did. -/
def vfsFailsSpec : ChangeSpec := { name := "vfsFails", fn := fun _ => fun
  | [d1, d2, d3] => { results := [.lit (.bool true)], args := [d1, d2, d3] }
  | _ => none }
def vfsFailsRow : OpenClaim := { program := "ytcobjjaicckgpaa", sum := "68be415a149638aef948584a53d2f8c86f42142cf65770f44d29aa3f4f165f89", func := "feedvault/feedvaultlaw21.VfsFails", spec := "vfsFails", inPlace := ["maps.clone"], unfollowed := true, recurses := true, apart := false }
def VfsFailsSaid : Prop := vfsFailsRow.holds Try.pinned (OpenSpec.ofChange vfsFailsSpec)

/-- ITS FALSE NEIGHBOUR: 'it returns false'. Refute it at one input. -/
def vfsFailsWrong : ChangeSpec := { name := "vfsFails", fn := fun _ => fun
  | [d1, d2, d3] => { results := [.lit (.bool false)], args := [d1, d2, d3] }
  | _ => none }
def VfsFailsWrongFalsely : Prop := vfsFailsRow.holds Try.pinned (OpenSpec.ofChange vfsFailsWrong)

/-- 'feedvaultlaw21.VfsIsolated': WHATEVER THE INPUT: true; the input reads as it did. -/
def vfsIsolatedSpec : ChangeSpec := { name := "vfsIsolated", fn := fun _ => fun
  | [d1, d2] => { results := [.lit (.bool true)], args := [d1, d2] }
  | _ => none }
def vfsIsolatedRow : OpenClaim := { program := "ytcobjjaicckgpaa", sum := "68be415a149638aef948584a53d2f8c86f42142cf65770f44d29aa3f4f165f89", func := "feedvault/feedvaultlaw21.VfsIsolated", spec := "vfsIsolated", inPlace := ["maps.clone"], unfollowed := true, recurses := true, apart := false }
def VfsIsolatedSaid : Prop := vfsIsolatedRow.holds Try.pinned (OpenSpec.ofChange vfsIsolatedSpec)

/-- ITS FALSE NEIGHBOUR: 'it returns false'. Refute it at one input. -/
def vfsIsolatedWrong : ChangeSpec := { name := "vfsIsolated", fn := fun _ => fun
  | [d1, d2] => { results := [.lit (.bool false)], args := [d1, d2] }
  | _ => none }
def VfsIsolatedWrongFalsely : Prop := vfsIsolatedRow.holds Try.pinned (OpenSpec.ofChange vfsIsolatedWrong)

/- THE SECOND FORM. 'bulk': how many values and letters a reading holds, each counted each time it is reached (what is shared counts as often as it is met; a slice's spare places count too). A statement '..UptoSaid' is the law's where the arguments, and the package variables that the reading takes, are together of bulk at most 1048576: NARROWER than '..Said'. Prove '..Said' where nothing that the law and all that it calls make is longer than what came in: it says more and counts as full. Else prove '..UptoSaid'. A law counts once. -/
mutual
def uptoBulk {H : Type} : DataW H → Nat
  | .lit (.string bytes) => bytes.length + 1
  | .lit _ => 1
  | .nil => 1
  | .ptr d => uptoBulk d + 1
  | .slice elems spare => uptoBulkAll elems + uptoBulkAll spare + 1
  | .agg parts => uptoBulkAll parts + 1
  | .iface _ d => uptoBulk d + 1
  | .map entries => uptoBulkEntries entries + 1
  | .held _ => 1
def uptoBulkAll {H : Type} : List (DataW H) → Nat
  | [] => 0
  | d :: r => uptoBulk d + uptoBulkAll r
def uptoBulkEntries {H : Type} : List (Lit × DataW H) → Nat
  | [] => 0
  | x :: r => uptoBulkEntry x + uptoBulkEntries r
def uptoBulkEntry {H : Type} : Lit × DataW H → Nat
  | (.string bytes, d) => bytes.length + uptoBulk d + 1
  | (_, d) => uptoBulk d + 1
 end
def uptoSmall : (H : Type) → List (DataW H) → Bool := fun _ ds => decide (uptoBulkAll ds ≤ 1048576)
def OpenSpec.upto (s : _root_.Go.ChangeSpec) : _root_.Go.OpenSpec := { _root_.Go.OpenSpec.ofChange s with cond := some uptoSmall }

/-- 'feedvaultlaw21.VfsRenameIsAtomic', WHERE WHAT IT READS IS OF BULK AT MOST 1048576: true; the input reads as it did. -/
def vfsRenameIsAtomicUptoRow : OpenClaim := { program := "ytcobjjaicckgpaa", sum := "68be415a149638aef948584a53d2f8c86f42142cf65770f44d29aa3f4f165f89", func := "feedvault/feedvaultlaw21.VfsRenameIsAtomic", spec := "vfsRenameIsAtomic", inPlace := ["maps.clone"], unfollowed := true, recurses := true, apart := false, narrowed := true }
def VfsRenameIsAtomicUptoSaid : Prop := vfsRenameIsAtomicUptoRow.holds Try.pinned (OpenSpec.upto vfsRenameIsAtomicSpec)

/-- 'feedvaultlaw21.VfsMatchesReference', WHERE WHAT IT READS IS OF BULK AT MOST 1048576: true; the input reads as it did. -/
def vfsMatchesReferenceUptoRow : OpenClaim := { program := "ytcobjjaicckgpaa", sum := "68be415a149638aef948584a53d2f8c86f42142cf65770f44d29aa3f4f165f89", func := "feedvault/feedvaultlaw21.VfsMatchesReference", spec := "vfsMatchesReference", inPlace := ["maps.clone"], unfollowed := true, recurses := true, apart := false, narrowed := true }
def VfsMatchesReferenceUptoSaid : Prop := vfsMatchesReferenceUptoRow.holds Try.pinned (OpenSpec.upto vfsMatchesReferenceSpec)

/-- 'feedvaultlaw21.VfsFails', WHERE WHAT IT READS IS OF BULK AT MOST 1048576: true; the input reads as it did. -/
def vfsFailsUptoRow : OpenClaim := { program := "ytcobjjaicckgpaa", sum := "68be415a149638aef948584a53d2f8c86f42142cf65770f44d29aa3f4f165f89", func := "feedvault/feedvaultlaw21.VfsFails", spec := "vfsFails", inPlace := ["maps.clone"], unfollowed := true, recurses := true, apart := false, narrowed := true }
def VfsFailsUptoSaid : Prop := vfsFailsUptoRow.holds Try.pinned (OpenSpec.upto vfsFailsSpec)

/-- 'feedvaultlaw21.VfsIsolated', WHERE WHAT IT READS IS OF BULK AT MOST 1048576: true; the input reads as it did. -/
def vfsIsolatedUptoRow : OpenClaim := { program := "ytcobjjaicckgpaa", sum := "68be415a149638aef948584a53d2f8c86f42142cf65770f44d29aa3f4f165f89", func := "feedvault/feedvaultlaw21.VfsIsolated", spec := "vfsIsolated", inPlace := ["maps.clone"], unfollowed := true, recurses := true, apart := false, narrowed := true }
def VfsIsolatedUptoSaid : Prop := vfsIsolatedUptoRow.holds Try.pinned (OpenSpec.upto vfsIsolatedSpec)

end Rows
end Go.Proofs.Ytcobjjaicckgpaa
