/- A part of the proof of TribunalBack. -/
import Derived.Test.YtmmghibnfjfnbaaGreatDoorBAq
set_option linter.unusedVariables false
set_option linter.unusedSimpArgs false
namespace Go.Q9
open Go.Ev Go.Proofs
set_option maxRecDepth 1000000
theorem s119 (k:Int) (h:TabOK Go.Proofs.Tryz.prog (G k) T119):TabOK Go.Proofs.Tryz.prog (G k) T120:= .cons (hG k) (hB k) h 100000 (by kernel_rfl)
theorem s120 (k:Int) (h:TabOK Go.Proofs.Tryz.prog (G k) T120):TabOK Go.Proofs.Tryz.prog (G k) T121:= .cons (hG k) (hB k) h 100000 (by kernel_rfl)
theorem s121 (k:Int) (h:TabOK Go.Proofs.Tryz.prog (G k) T121):TabOK Go.Proofs.Tryz.prog (G k) T122:= .cons (hG k) (hB k) h 100000 (by kernel_rfl)
end Go.Q9
