/- A part of the proof of RoundAlone. -/
import Derived.Test.YtnljpmbidnnlkaaGreatDoorRBo
set_option maxRecDepth 1000000
set_option linter.unusedVariables false
set_option linter.unusedSimpArgs false
namespace Go.Proofs.YtnljpmbidnnlkaaGreatDoor
open Go
theorem Hs:Tryz.prog.funcs.any Func.goes=false:=by kernel_rfl
end Go.Proofs.YtnljpmbidnnlkaaGreatDoor
