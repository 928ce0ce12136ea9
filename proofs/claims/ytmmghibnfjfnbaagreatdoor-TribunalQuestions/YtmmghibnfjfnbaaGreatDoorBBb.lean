/- A part of the proof of TribunalBack. -/
import Derived.Test.YtmmghibnfjfnbaaGreatDoorBAq
set_option linter.unusedVariables false
set_option linter.unusedSimpArgs false
namespace Go.Q9
open Go.Ev Go.Proofs
set_option maxRecDepth 1000000
theorem s115 (k:Int) (h:TabOK Go.Proofs.Tryz.prog (G k) T115):TabOK Go.Proofs.Tryz.prog (G k) T116:= .cons (hG k) (hB k) h 100000 (by kernel_rfl)
theorem s116 (k:Int) (h:TabOK Go.Proofs.Tryz.prog (G k) T116):TabOK Go.Proofs.Tryz.prog (G k) T117:= .cons (hG k) (hB k) h 100000 (by kernel_rfl)
end Go.Q9
