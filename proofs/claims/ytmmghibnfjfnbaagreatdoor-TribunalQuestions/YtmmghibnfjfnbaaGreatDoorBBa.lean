/- A part of the proof of TribunalBack. -/
import Derived.Test.YtmmghibnfjfnbaaGreatDoorBAq
set_option linter.unusedVariables false
set_option linter.unusedSimpArgs false
namespace Go.Q9
open Go.Ev Go.Proofs
set_option maxRecDepth 1000000
theorem s112 (k:Int) (h:TabOK Go.Proofs.Tryz.prog (G k) T112):TabOK Go.Proofs.Tryz.prog (G k) T113:= .cons (hG k) (hB k) h 100000 (by kernel_rfl)
theorem s113 (k:Int) (h:TabOK Go.Proofs.Tryz.prog (G k) T113):TabOK Go.Proofs.Tryz.prog (G k) T114:= .cons (hG k) (hB k) h 100000 (by kernel_rfl)
theorem s114 (k:Int) (h:TabOK Go.Proofs.Tryz.prog (G k) T114):TabOK Go.Proofs.Tryz.prog (G k) T115:= .cons (hG k) (hB k) h 100000 (by kernel_rfl)
end Go.Q9
