/- A part of the proof of RoundAlone. -/
import Derived.Test.YtnljpmbidnnlkaaGreatDoorRAq
set_option maxRecDepth 1000000
namespace Go.Q5
open Go.Ev Go.Proofs
theorem s77 (h:K T77):K T78:=bM.cons (hG 0) (hB 0) h 100000 (by kernel_rfl)
theorem s78 (h:K T78):K T79:=bM.cons (hG 0) (hB 0) h 100000 (by kernel_rfl)
end Go.Q5
