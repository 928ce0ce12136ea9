/- A part of the proof of TribunalBack. -/
import Derived.Test.YtmmghibnfjfnbaaGreatDoorBAq
set_option linter.unusedVariables false
set_option linter.unusedSimpArgs false
namespace Go.Q9
open Go.Ev Go.Proofs
set_option maxRecDepth 1000000
theorem s122 (k:Int) (h:TabOK Go.Proofs.Tryz.prog (G k) T122):TabOK Go.Proofs.Tryz.prog (G k) T123:= .cons (hG k) (hB k) h 100000 (by kernel_rfl)
theorem s123 (k:Int) (h:TabOK Go.Proofs.Tryz.prog (G k) T123):TabOK Go.Proofs.Tryz.prog (G k) T124:= .cons (hG k) (hB k) h 100000 (by kernel_rfl)
theorem s124 (k:Int) (h:TabOK Go.Proofs.Tryz.prog (G k) T124):TabOK Go.Proofs.Tryz.prog (G k) T125:= .cons (hG k) (hB k) h 100000 (by kernel_rfl)
theorem s125 (k:Int) (h:TabOK Go.Proofs.Tryz.prog (G k) T125):TabOK Go.Proofs.Tryz.prog (G k) T126:= .cons (hG k) (hB k) h 100000 (by kernel_rfl)
theorem s126 (k:Int) (h:TabOK Go.Proofs.Tryz.prog (G k) T126):TabOK Go.Proofs.Tryz.prog (G k) T127:= .cons (hG k) (hB k) h 100000 (by kernel_rfl)
theorem s127 (k:Int) (h:TabOK Go.Proofs.Tryz.prog (G k) T127):TabOK Go.Proofs.Tryz.prog (G k) T128:= .cons (hG k) (hB k) h 100000 (by kernel_rfl)
theorem s128 (k:Int) (h:TabOK Go.Proofs.Tryz.prog (G k) T128):TabOK Go.Proofs.Tryz.prog (G k) T129:= .cons (hG k) (hB k) h 100000 (by kernel_rfl)
end Go.Q9
