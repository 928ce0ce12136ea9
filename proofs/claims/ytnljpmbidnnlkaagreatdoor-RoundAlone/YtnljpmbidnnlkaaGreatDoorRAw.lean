/- A part of the proof of RoundAlone. -/
import Derived.Test.YtnljpmbidnnlkaaGreatDoorRAq
set_option maxRecDepth 1000000
namespace Go.Q5
open Go.Ev Go.Proofs
theorem s40 (h:K T40):K T41:=bM.cons (hG 0) (hB 0) h 100000 (by kernel_rfl)
theorem s41 (h:K T41):K T42:=bM.cons (hG 0) (hB 0) h 100000 (by kernel_rfl)
end Go.Q5
