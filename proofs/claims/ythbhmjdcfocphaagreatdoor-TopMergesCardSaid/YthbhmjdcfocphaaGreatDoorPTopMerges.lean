/- The law TopMerges (feedvault/feedvaulttop.TopMerges): for every input it returns true, and each argument reads afterwards as before; the listed package-level variables are tied to the program's text by the given tie. No other condition. -/
import Derived.Test.YthbhmjdcfocphaaGreatDoorPtA
namespace Go.Proofs.YthbhmjdcfocphaaGreatDoor.topMerges
open Go.ChangeShapes Go.WideShapes Go.ChangeAt Go.RowKit
set_option linter.unusedVariables false
theorem plain(f:FuncId)(a:Func)(c:Tryz.pinned.checked.prog.funcNamed "feedvault/feedvaulttop.TopMerges"=some f)(d:Tryz.pinned.checked.prog.funcs[f]?=some a):
 true=Tryz.pinned.checked.prog.looks []/\∀(j:Nat) t,a.params[j]?=some t->Tryz.pinned.checked.prog.wantsStandIn t=false:=by
 obtain rfl:f=3:=nV ((show Tryz.prog.funcNamed "feedvault/feedvaulttop.TopMerges"=some 3 by kernel_rfl).symm.trans c)|>.symm;obtain rfl:a=Tryz.f3:=(nV (Tryz.func3.symm.trans d)).symm;refine⟨by kernel_rfl,λj t b=>?_⟩;rw[Tryz.params3] at b;obtain rfl:t=24:=by simpa using gU b
 exact(show Tryz.prog.wantsStandIn 24=false by kernel_rfl)
theorem w1:Rows.topMergesRow.wfByText (OpenSpec.ofChange Rows.topMergesSpec)=true:=by kernel_rfl
theorem w2:Tryz.pinned.checked.prog.mainIs=some (Rows.topMergesCard.stood.harness.1,Rows.topMergesCard.stood.harness.2.toList):=by kernel_rfl
theorem go0:Tryz.pinned.checked.prog.funcs.any Func.goes=false:=by kernel_rfl
theorem go1{P:Program}(h:P.funcs.any Func.goes=false)(f:FuncId):P.goes f=false:=by
 unfold Program.goes
 rw[h,Bool.and_false,Bool.or_false,List.any_eq_false]
 intro g _
 cases e:P.funcs[g]? with
 |none=>simp
 |some a=>
  obtain⟨i,rfl⟩:=Array.getElem?_eq_some_iff.1 e
  simpa using Array.any_eq_false.1 h g i
theorem go2{P:Program}{c:OpenClaim}(h:P.funcs.any Func.goes=false)(a:c.start=.entering):false=c.goesBy P:=by
 unfold OpenClaim.goesBy Program.goesAt Program.goesFrom
 rw[a]
 cases P.funcNamed c.func with
 |none=>rfl
 |some f=>show false=(P.goes f||false)
          rw[go1 h];rfl
theorem w3:false=Rows.topMergesRow.goesBy Tryz.pinned.checked.prog:=go2 go0 rfl
theorem proved:Rows.TopMergesCardSaid:=
 Claim7.holds_tied_plain_at .later [] _ _ _ _ said (λ_ a=>by cases a) w1 (λ_ a=>by cases a) topMerges_row_tie rfl ⟨rfl,rfl⟩ w2 rfl plain w3
#print axioms proved
end Go.Proofs.YthbhmjdcfocphaaGreatDoor.topMerges
