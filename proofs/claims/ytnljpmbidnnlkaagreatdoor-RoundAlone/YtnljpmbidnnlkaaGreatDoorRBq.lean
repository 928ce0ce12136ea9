/- A part of the proof of RoundAlone. -/
import Derived.Test.YtnljpmbidnnlkaaGreatDoorRBo
set_option maxRecDepth 1000000
set_option linter.unusedVariables false
set_option linter.unusedSimpArgs false
namespace Go.Proofs.YtnljpmbidnnlkaaGreatDoor
open Go Go.ChangeShapes Go.WideShapes Go.ChangeAt Go.WideMaps Go.WideElems Go.RowKit
theorem Qy:(Rows.roundAloneRow.inPlace==Tryz.prog.inPlace 5)=true:=by kernel_rfl
end Go.Proofs.YtnljpmbidnnlkaaGreatDoor
