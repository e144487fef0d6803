/- A part of this proof. -/
import Derived.Test.YthbhmjdcfocphaaGreatDoorRows
import Derived.JoinedCond
import Derived.Test.YthbhmjdcfocphaaGreatDoorKz
namespace Go.Proofs.YthbhmjdcfocphaaGreatDoor.topMerges
set_option linter.unusedVariables false
theorem k1:laidOutB Tryz.pinned.checked.prog=true:=by kernel_rfl
theorem k2:mapsRowed Tryz.pinned.checked.prog=true:=by kernel_rfl
theorem k3:Tryz.pinned.checked.prog.stopsHeard=true:=by kernel_rfl
theorem k4:Tryz.pinned.checked.prog.mayEnter=true:=by kernel_rfl
theorem k5:(Rows.topMergesRow.plainKeys==Tryz.pinned.checked.prog.plainKeys)=true:=by kernel_rfl
theorem k6:(Rows.topMergesRow.lifted==Tryz.pinned.checked.prog.liftsFinal)=true:=by kernel_rfl
theorem k10:(Rows.topMergesRow.inPlace==Tryz.pinned.checked.prog.inPlace 3)=true:=by kernel_rfl
theorem k11:(Rows.topMergesRow.unfollowed==Tryz.pinned.checked.prog.unfollowed 3)=true:=by kernel_rfl
theorem k12:(Rows.topMergesRow.recurses==Tryz.pinned.checked.prog.recurses 3)=true:=by kernel_rfl
theorem k13:(Rows.topMergesRow.named==Tryz.pinned.checked.prog.varsNamed 3)=true:=by kernel_rfl
theorem closed:joinedFacts Tryz.pinned.checked.prog 3 Tryz.f3 (OpenSpec.ofChange Rows.topMergesSpec).bare Rows.topMergesRow=true:=by
 unfold joinedFacts;simp only[oz]
 and_intros
 all_goals first
  |with_reducible exact k1
  |with_reducible exact k2
  |with_reducible exact k3
  |with_reducible exact k4
  |with_reducible exact k5
  |with_reducible exact k6
  |with_reducible exact k10
  |with_reducible exact k11
  |with_reducible exact k12
  |with_reducible exact k13
  |kernel_rfl
end Go.Proofs.YthbhmjdcfocphaaGreatDoor.topMerges
