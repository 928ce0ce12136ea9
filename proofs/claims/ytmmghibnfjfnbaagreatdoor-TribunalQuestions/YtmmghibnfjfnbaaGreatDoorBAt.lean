/- A part of the proof of TribunalBack. -/
import Derived.Test.YtmmghibnfjfnbaaGreatDoorBAq
set_option linter.unusedVariables false
set_option linter.unusedSimpArgs false
namespace Go.Q9
open Go.Ev Go.Proofs
set_option maxRecDepth 1000000
theorem s81 (k:Int) (h:TabOK Go.Proofs.Tryz.prog (G k) T81):TabOK Go.Proofs.Tryz.prog (G k) T82:= .cons (hG k) (hB k) h 100000 (by kernel_rfl)
theorem s82 (k:Int) (h:TabOK Go.Proofs.Tryz.prog (G k) T82):TabOK Go.Proofs.Tryz.prog (G k) T83:= .cons (hG k) (hB k) h 100000 (by kernel_rfl)
theorem s83 (k:Int) (h:TabOK Go.Proofs.Tryz.prog (G k) T83):TabOK Go.Proofs.Tryz.prog (G k) T84:= .cons (hG k) (hB k) h 100000 (by kernel_rfl)
theorem s84 (k:Int) (h:TabOK Go.Proofs.Tryz.prog (G k) T84):TabOK Go.Proofs.Tryz.prog (G k) T85:= .cons (hG k) (hB k) h 100000 (by kernel_rfl)
end Go.Q9
