/- A part of the proof of TribunalBack. -/
import Derived.Test.YtmmghibnfjfnbaaGreatDoorBAq
set_option linter.unusedVariables false
set_option linter.unusedSimpArgs false
namespace Go.Q9
open Go.Ev Go.Proofs
set_option maxRecDepth 1000000
theorem s129 (k:Int) (h:TabOK Go.Proofs.Tryz.prog (G k) T129):TabOK Go.Proofs.Tryz.prog (G k) T130:= .cons (hG k) (hB k) h 100000 (by kernel_rfl)
theorem s130 (k:Int) (h:TabOK Go.Proofs.Tryz.prog (G k) T130):TabOK Go.Proofs.Tryz.prog (G k) T131:= .cons (hG k) (hB k) h 100000 (by kernel_rfl)
theorem s131 (k:Int) (h:TabOK Go.Proofs.Tryz.prog (G k) T131):TabOK Go.Proofs.Tryz.prog (G k) T132:= .cons (hG k) (hB k) h 100000 (by kernel_rfl)
end Go.Q9
