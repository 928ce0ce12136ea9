/- A part of the proof of TribunalBack. -/
import Derived.Test.YtmmghibnfjfnbaaGreatDoorBAq
set_option linter.unusedVariables false
set_option linter.unusedSimpArgs false
namespace Go.Q9
open Go.Ev Go.Proofs
set_option maxRecDepth 1000000
theorem s117 (k:Int) (h:TabOK Go.Proofs.Tryz.prog (G k) T117):TabOK Go.Proofs.Tryz.prog (G k) T118:= .cons (hG k) (hB k) h 100000 (by kernel_rfl)
theorem s118 (k:Int) (h:TabOK Go.Proofs.Tryz.prog (G k) T118):TabOK Go.Proofs.Tryz.prog (G k) T119:= .cons (hG k) (hB k) h 100000 (by kernel_rfl)
end Go.Q9
