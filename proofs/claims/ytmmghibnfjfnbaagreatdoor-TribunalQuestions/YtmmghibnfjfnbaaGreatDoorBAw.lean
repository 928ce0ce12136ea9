/- A part of the proof of TribunalBack. -/
import Derived.Test.YtmmghibnfjfnbaaGreatDoorBAq
set_option linter.unusedVariables false
set_option linter.unusedSimpArgs false
namespace Go.Q9
open Go.Ev Go.Proofs
set_option maxRecDepth 1000000
theorem s96 (k:Int) (h:TabOK Go.Proofs.Tryz.prog (G k) T96):TabOK Go.Proofs.Tryz.prog (G k) T97:= .cons (hG k) (hB k) h 100000 (by kernel_rfl)
theorem s97 (k:Int) (h:TabOK Go.Proofs.Tryz.prog (G k) T97):TabOK Go.Proofs.Tryz.prog (G k) T98:= .cons (hG k) (hB k) h 100000 (by kernel_rfl)
theorem s98 (k:Int) (h:TabOK Go.Proofs.Tryz.prog (G k) T98):TabOK Go.Proofs.Tryz.prog (G k) T99:= .cons (hG k) (hB k) h 100000 (by kernel_rfl)
theorem s99 (k:Int) (h:TabOK Go.Proofs.Tryz.prog (G k) T99):TabOK Go.Proofs.Tryz.prog (G k) T100:= .cons (hG k) (hB k) h 100000 (by kernel_rfl)
theorem s100 (k:Int) (h:TabOK Go.Proofs.Tryz.prog (G k) T100):TabOK Go.Proofs.Tryz.prog (G k) T101:= .cons (hG k) (hB k) h 100000 (by kernel_rfl)
end Go.Q9
