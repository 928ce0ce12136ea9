/- A part of the proof of RoundChanges. -/
import Derived.Test.YtnljpmbidnnlkaaGreatDoorRBi
set_option maxRecDepth 1000000
set_option linter.unusedVariables false
set_option linter.unusedSimpArgs false
namespace Go.Proofs.YtnljpmbidnnlkaaGreatDoor
open Go Go.ChangeShapes Go.WideShapes Go.ChangeAt Go.WideMaps Go.WideElems Go.RowKit
theorem bCR:(Rows.roundChangesRow.unfollowed==Tryz.prog.unfollowed 4)=true:=by kernel_rfl
end Go.Proofs.YtnljpmbidnnlkaaGreatDoor
