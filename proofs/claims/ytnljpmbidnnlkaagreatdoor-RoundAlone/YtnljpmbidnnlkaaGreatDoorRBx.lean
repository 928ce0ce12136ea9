/- A part of the proof of RoundAlone. -/
import Derived.Test.YtnljpmbidnnlkaaGreatDoorRBo
set_option maxRecDepth 1000000
set_option linter.unusedVariables false
set_option linter.unusedSimpArgs false
namespace Go.Proofs.YtnljpmbidnnlkaaGreatDoor
open Go
theorem vA:Tryz.prog.funcNamed "patrol/patrollaw05.RoundAlone"=some 5:=by kernel_rfl
theorem LX:Tryz.prog.mainIs=some (true,"7e9b2c2b55ac0849a4a84a2f1ecccd5bb509b09162c724fbe0abac7d7ed0f99e".toList):=by kernel_rfl
theorem Bp:true=Tryz.prog.looks []:=by kernel_rfl
theorem Gc:([42].all fun u=> !Tryz.prog.wantsStandIn u)=true:=by kernel_rfl
theorem Ar:OpenClaim.wfByText (OpenSpec.ofChange Rows.roundAloneSpec) Rows.roundAloneRow=true:=by kernel_rfl
end Go.Proofs.YtnljpmbidnnlkaaGreatDoor
