/- A part of the proof of TribunalBack. -/
import Derived.Test.YtmmghibnfjfnbaaGreatDoorBAq
set_option linter.unusedVariables false
set_option linter.unusedSimpArgs false
namespace Go.Q9
open Go.Ev Go.Proofs
set_option maxRecDepth 1000000
theorem s107 (k:Int) (h:TabOK Go.Proofs.Tryz.prog (G k) T107):TabOK Go.Proofs.Tryz.prog (G k) T108:= .cons (hG k) (hB k) h 100000 (by kernel_rfl)
theorem s108 (k:Int) (h:TabOK Go.Proofs.Tryz.prog (G k) T108):TabOK Go.Proofs.Tryz.prog (G k) T109:= .cons (hG k) (hB k) h 100000 (by kernel_rfl)
theorem s109 (k:Int) (h:TabOK Go.Proofs.Tryz.prog (G k) T109):TabOK Go.Proofs.Tryz.prog (G k) T110:= .cons (hG k) (hB k) h 100000 (by kernel_rfl)
theorem s110 (k:Int) (h:TabOK Go.Proofs.Tryz.prog (G k) T110):TabOK Go.Proofs.Tryz.prog (G k) T111:= .cons (hG k) (hB k) h 100000 (by kernel_rfl)
theorem s111 (k:Int) (h:TabOK Go.Proofs.Tryz.prog (G k) T111):TabOK Go.Proofs.Tryz.prog (G k) T112:= .cons (hG k) (hB k) h 100000 (by kernel_rfl)
end Go.Q9
