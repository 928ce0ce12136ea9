/- A part of the proof of TribunalBack. -/
import Derived.Test.YtmmghibnfjfnbaaGreatDoorBAq
set_option linter.unusedVariables false
set_option linter.unusedSimpArgs false
namespace Go.Q9
open Go.Ev Go.Proofs
set_option maxRecDepth 1000000
theorem s136 (k:Int) (h:TabOK Go.Proofs.Tryz.prog (G k) T136):TabOK Go.Proofs.Tryz.prog (G k) T137:= .cons (hG k) (hB k) h 100000 (by kernel_rfl)
theorem s137 (k:Int) (h:TabOK Go.Proofs.Tryz.prog (G k) T137):TabOK Go.Proofs.Tryz.prog (G k) T138:= .cons (hG k) (hB k) h 100000 (by kernel_rfl)
end Go.Q9
