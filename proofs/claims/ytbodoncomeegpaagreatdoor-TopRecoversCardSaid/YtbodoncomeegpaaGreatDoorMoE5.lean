/- The store's Encode, walked: the parts of the values. -/
import Derived.Test.YtbodoncomeegpaaGreatDoorMoE4
import Derived.Deep.RegionHeld3
namespace Go.Proofs.YtbodoncomeegpaaGreatDoor.Me
open Go Go.RowKit Go.Proofs.YtbodoncomeegpaaGreatDoor Go.Proofs.YtbodoncomeegpaaGreatDoor.Rw Go.Proofs.YtbodoncomeegpaaGreatDoor.Vf Go.Proofs.YtbodoncomeegpaaGreatDoor.Mw
set_option linter.unusedVariables false

set_option maxRecDepth 100000
set_option maxHeartbeats 16000000
def sE : ByteArray := ⟨#[105, 100, 32, 116, 105, 116, 108, 101, 32, 108, 105, 110, 107, 32, 99, 111, 110, 116, 101, 110, 116, 32, 117, 112, 100, 97, 116, 101, 100]⟩
def sF : ByteArray := ⟨#[112, 97, 116, 104, 32, 105, 100, 32, 116, 105, 116, 108, 101, 32, 108, 105, 110, 107, 32, 117, 112, 100, 97, 116, 101, 100, 32, 101, 110, 116, 114, 105, 101, 115]⟩
def kE : List ByteArray := [Jv.kId, Jv.kTitle, Jv.kLink, Jv.kContent, Jv.kUpdated]
def kF : List ByteArray := [Jv.kPath, Jv.kId, Jv.kTitle, Jv.kLink, Jv.kUpdated, Jv.kEntries]
theorem sE_fields : (Lib.fields sE.data.toList).map (fun l => (⟨l.toArray⟩ : ByteArray)) = kE := by decide +kernel
theorem sF_fields : (Lib.fields sF.data.toList).map (fun l => (⟨l.toArray⟩ : ByteArray)) = kF := by decide +kernel
theorem sE_ascii : ∀ (j : Nat) b, sE.data.toList[j]? = some b → b.toNat < 128 := by
  have h : ∀ b ∈ sE.data.toList, b.toNat < 128 := by decide +kernel
  exact fun j b e => h b (List.mem_of_getElem? e)
theorem sF_ascii : ∀ (j : Nat) b, sF.data.toList[j]? = some b → b.toNat < 128 := by
  have h : ∀ b ∈ sF.data.toList, b.toNat < 128 := by decide +kernel
  exact fun j b e => h b (List.mem_of_getElem? e)
theorem objE_is (e : Mo.En) (S : Nat) (v : Value) (W : World) (h : VRow S W v [.str e.id, .str e.title, .str e.link, .str e.content, .int e.upd]) (hS : S ≤ W.heap.size) (htab : ∀ u, Below W.heap.size W u → Spaces u) :
    Calls Tryz.prog 42 #[.string sE, v] W fun x w' => (∃ a2 n2, x = .returned (.agg #[.int .i64 5, .bool false, .int .i64 0, .string ⟨#[]⟩, .slice none 0 0, .slice a2 5 n2, .int .i64 0]) ∧ Val S w' (Jv.jE e) (vCells 5 false 0 ⟨#[]⟩ nilV (.slice a2 5 n2) 0)) ∧ Below W.heap.size W w' :=
  obj_is sE kE S v _ W (by decide) sE_ascii sE_fields h rfl (by simp) hS htab
theorem objF_is (f : Mo.Fd) (S : Nat) (v : Value) (W : World) (h : VRow S W v [.arr (f.path.map .str), .str f.id, .str f.title, .str f.link, .int f.upd, .arr (f.ents.map Jv.jE)]) (hS : S ≤ W.heap.size) (htab : ∀ u, Below W.heap.size W u → Spaces u) :
    Calls Tryz.prog 42 #[.string sF, v] W fun x w' => (∃ a2 n2, x = .returned (.agg #[.int .i64 5, .bool false, .int .i64 0, .string ⟨#[]⟩, .slice none 0 0, .slice a2 6 n2, .int .i64 0]) ∧ Val S w' (Jv.jF f) (vCells 5 false 0 ⟨#[]⟩ nilV (.slice a2 6 n2) 0)) ∧ Below W.heap.size W w' :=
  obj_is sF kF S v _ W (by decide) sF_ascii sF_fields h rfl (by simp) hS htab
end Go.Proofs.YtbodoncomeegpaaGreatDoor.Me
