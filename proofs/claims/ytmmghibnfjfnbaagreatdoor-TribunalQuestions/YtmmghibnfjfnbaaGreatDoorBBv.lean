/- A part of the proof of TribunalQuestions. -/
import Derived.Test.YtmmghibnfjfnbaaGreatDoorBBu
set_option linter.unusedVariables false
set_option linter.unusedSimpArgs false
namespace Go.Proofs.YtmmghibnfjfnbaaGreatDoor
open Go Go.ChangeShapes Go.WideShapes Go.ChangeAt Go.WideMaps Go.WideElems Go.RowKit
set_option maxRecDepth 1000000
theorem fact_25:Tryz.prog.mayEnter=true:=by kernel_rfl
end Go.Proofs.YtmmghibnfjfnbaaGreatDoor
