/- A part of the proof of RoundChanges. -/
import Derived.Test.YtnljpmbidnnlkaaGreatDoorRBi
set_option maxRecDepth 1000000
set_option linter.unusedVariables false
set_option linter.unusedSimpArgs false
namespace Go.Proofs.YtnljpmbidnnlkaaGreatDoor
open Go
theorem bBP:Tryz.prog.funcNamed "patrol/patrollaw05.RoundChanges"=some 4:=by kernel_rfl
theorem bCB:Tryz.prog.mainIs=some (true,"7e9b2c2b55ac0849a4a84a2f1ecccd5bb509b09162c724fbe0abac7d7ed0f99e".toList):=by kernel_rfl
theorem bBR:true=Tryz.prog.looks []:=by kernel_rfl
theorem bBW:([42,3,50,51].all fun u=> !Tryz.prog.wantsStandIn u)=true:=by kernel_rfl
theorem bBQ:OpenClaim.wfByText (OpenSpec.ofChange Rows.roundChangesSpec) Rows.roundChangesRow=true:=by kernel_rfl
end Go.Proofs.YtnljpmbidnnlkaaGreatDoor
