/- A part of the proof of TribunalBack. -/
import Derived.Test.YtmmghibnfjfnbaaGreatDoorBAq
set_option linter.unusedVariables false
set_option linter.unusedSimpArgs false
namespace Go.Q9
open Go.Ev Go.Proofs
set_option maxRecDepth 1000000
theorem s73 (k:Int) (h:TabOK Go.Proofs.Tryz.prog (G k) T73):TabOK Go.Proofs.Tryz.prog (G k) T74:= .cons (hG k) (hB k) h 100000 (by kernel_rfl)
theorem s74 (k:Int) (h:TabOK Go.Proofs.Tryz.prog (G k) T74):TabOK Go.Proofs.Tryz.prog (G k) T75:= .cons (hG k) (hB k) h 100000 (by kernel_rfl)
theorem s75 (k:Int) (h:TabOK Go.Proofs.Tryz.prog (G k) T75):TabOK Go.Proofs.Tryz.prog (G k) T76:= .cons (hG k) (hB k) h 100000 (by kernel_rfl)
theorem s76 (k:Int) (h:TabOK Go.Proofs.Tryz.prog (G k) T76):TabOK Go.Proofs.Tryz.prog (G k) T77:= .cons (hG k) (hB k) h 100000 (by kernel_rfl)
theorem s77 (k:Int) (h:TabOK Go.Proofs.Tryz.prog (G k) T77):TabOK Go.Proofs.Tryz.prog (G k) T78:= .cons (hG k) (hB k) h 100000 (by kernel_rfl)
theorem s78 (k:Int) (h:TabOK Go.Proofs.Tryz.prog (G k) T78):TabOK Go.Proofs.Tryz.prog (G k) T79:= .cons (hG k) (hB k) h 100000 (by kernel_rfl)
theorem s79 (k:Int) (h:TabOK Go.Proofs.Tryz.prog (G k) T79):TabOK Go.Proofs.Tryz.prog (G k) T80:= .cons (hG k) (hB k) h 100000 (by kernel_rfl)
theorem s80 (k:Int) (h:TabOK Go.Proofs.Tryz.prog (G k) T80):TabOK Go.Proofs.Tryz.prog (G k) T81:= .cons (hG k) (hB k) h 100000 (by kernel_rfl)
end Go.Q9
