/- A part of the proof of RoundChanges. -/
import Derived.Test.YtnljpmbidnnlkaaGreatDoorRBi
set_option maxRecDepth 1000000
set_option linter.unusedVariables false
set_option linter.unusedSimpArgs false
namespace Go.Proofs.YtnljpmbidnnlkaaGreatDoor
open Go
theorem bBS:((Tryz.prog.closure 4).any fun g=>(Tryz.prog.funcs[g]?).any Func.goes)=false:=by kernel_rfl
end Go.Proofs.YtnljpmbidnnlkaaGreatDoor
