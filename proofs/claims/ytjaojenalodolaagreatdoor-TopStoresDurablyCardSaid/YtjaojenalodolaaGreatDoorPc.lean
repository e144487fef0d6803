/- A canonical JSON string read back, at any place of a text. -/
import Derived.Test.YtjaojenalodolaaGreatDoorKJ
import Derived.Test.YtjaojenalodolaaGreatDoorPa
namespace Go.Proofs.YtjaojenalodolaaGreatDoor.Pa
open Go Go.Proofs.YtjaojenalodolaaGreatDoor
set_option linter.unusedVariables false
theorem str_back {S s : ByteArray} {k : Nat} {post : List UInt8} (hv : Lib.validD s.data.toList = true) (h : S.data.toList.drop k = Js.quote s.data.toList ++ post) :
    Jw.pv S.data.toList (k : Int) = (s.data.toList, (((k + (Js.quote s.data.toList).length : Nat)) : Int), 0) := by
  have e : S.data.toList.drop k = 34 :: (Js.body s.data.toList ++ 34 :: post) := by rw [h, Js.quote]; simp
  obtain ⟨hk, h2⟩ := drop_at e
  rw [Jw.pv_in hk h2, drop_one e, Js.parse_quote _ _ hv]
  unfold Jw.fin
  have eq : (Js.quote s.data.toList).length = (Js.body s.data.toList).length + 2 := by simp [Js.quote]
  simp only [if_true]
  rw [eq]
  simp only [Prod.mk.injEq, true_and, and_true]
  omega
end Go.Proofs.YtjaojenalodolaaGreatDoor.Pa
