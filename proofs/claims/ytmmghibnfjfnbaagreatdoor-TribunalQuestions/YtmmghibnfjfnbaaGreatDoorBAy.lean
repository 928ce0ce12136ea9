/- A part of the proof of TribunalBack. -/
import Derived.Test.YtmmghibnfjfnbaaGreatDoorBAq
set_option linter.unusedVariables false
set_option linter.unusedSimpArgs false
namespace Go.Q9
open Go.Ev Go.Proofs
set_option maxRecDepth 1000000
theorem s103 (k:Int) (h:TabOK Go.Proofs.Tryz.prog (G k) T103):TabOK Go.Proofs.Tryz.prog (G k) T104:= .cons (hG k) (hB k) h 100000 (by kernel_rfl)
theorem s104 (k:Int) (h:TabOK Go.Proofs.Tryz.prog (G k) T104):TabOK Go.Proofs.Tryz.prog (G k) T105:= .cons (hG k) (hB k) h 100000 (by kernel_rfl)
theorem s105 (k:Int) (h:TabOK Go.Proofs.Tryz.prog (G k) T105):TabOK Go.Proofs.Tryz.prog (G k) T106:= .cons (hG k) (hB k) h 100000 (by kernel_rfl)
theorem s106 (k:Int) (h:TabOK Go.Proofs.Tryz.prog (G k) T106):TabOK Go.Proofs.Tryz.prog (G k) T107:= .cons (hG k) (hB k) h 100000 (by kernel_rfl)
end Go.Q9
