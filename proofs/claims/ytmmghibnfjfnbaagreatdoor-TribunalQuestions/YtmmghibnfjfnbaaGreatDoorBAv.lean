/- A part of the proof of TribunalBack. -/
import Derived.Test.YtmmghibnfjfnbaaGreatDoorBAq
set_option linter.unusedVariables false
set_option linter.unusedSimpArgs false
namespace Go.Q9
open Go.Ev Go.Proofs
set_option maxRecDepth 1000000
theorem s87 (k:Int) (h:TabOK Go.Proofs.Tryz.prog (G k) T87):TabOK Go.Proofs.Tryz.prog (G k) T88:= .cons (hG k) (hB k) h 100000 (by kernel_rfl)
theorem s88 (k:Int) (h:TabOK Go.Proofs.Tryz.prog (G k) T88):TabOK Go.Proofs.Tryz.prog (G k) T89:= .cons (hG k) (hB k) h 100000 (by kernel_rfl)
theorem s89 (k:Int) (h:TabOK Go.Proofs.Tryz.prog (G k) T89):TabOK Go.Proofs.Tryz.prog (G k) T90:= .cons (hG k) (hB k) h 100000 (by kernel_rfl)
theorem s90 (k:Int) (h:TabOK Go.Proofs.Tryz.prog (G k) T90):TabOK Go.Proofs.Tryz.prog (G k) T91:= .cons (hG k) (hB k) h 100000 (by kernel_rfl)
theorem s91 (k:Int) (h:TabOK Go.Proofs.Tryz.prog (G k) T91):TabOK Go.Proofs.Tryz.prog (G k) T92:= .cons (hG k) (hB k) h 100000 (by kernel_rfl)
theorem s92 (k:Int) (h:TabOK Go.Proofs.Tryz.prog (G k) T92):TabOK Go.Proofs.Tryz.prog (G k) T93:= .cons (hG k) (hB k) h 100000 (by kernel_rfl)
theorem s93 (k:Int) (h:TabOK Go.Proofs.Tryz.prog (G k) T93):TabOK Go.Proofs.Tryz.prog (G k) T94:= .cons (hG k) (hB k) h 100000 (by kernel_rfl)
theorem s94 (k:Int) (h:TabOK Go.Proofs.Tryz.prog (G k) T94):TabOK Go.Proofs.Tryz.prog (G k) T95:= .cons (hG k) (hB k) h 100000 (by kernel_rfl)
theorem s95 (k:Int) (h:TabOK Go.Proofs.Tryz.prog (G k) T95):TabOK Go.Proofs.Tryz.prog (G k) T96:= .cons (hG k) (hB k) h 100000 (by kernel_rfl)
end Go.Q9
