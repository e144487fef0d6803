/- Plain facts on JSON values: their depth; members by key. No program in sight. -/
import Derived.Test.YtjaojenalodolaaGreatDoorKB
namespace Go.Proofs.YtjaojenalodolaaGreatDoor.Pa
open Go Go.Proofs.YtjaojenalodolaaGreatDoor Go.Proofs.YtjaojenalodolaaGreatDoor.Jv
set_option linter.unusedVariables false
mutual
def dep : J → Nat
  | .arr l => depL l + 1
  | .obj l => depM l + 1
  | _ => 1
def depL : List J → Nat
  | [] => 0
  | a :: r => max (dep a) (depL r)
def depM : List (ByteArray × J) → Nat
  | [] => 0
  | a :: r => max (depP a) (depM r)
def depP : ByteArray × J → Nat
  | (_, a) => dep a
end
end Go.Proofs.YtjaojenalodolaaGreatDoor.Pa
