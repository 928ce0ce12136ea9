/- A part of the proof of RoundAlone. -/
import Derived.Test.YtnljpmbidnnlkaaGreatDoorRAq
set_option maxRecDepth 1000000
namespace Go.Q5
open Go.Ev Go.Proofs
theorem s75 (h:K T75):K T76:=bM.cons (hG 0) (hB 0) h 100000 (by kernel_rfl)
theorem s76 (h:K T76):K T77:=bM.cons (hG 0) (hB 0) h 100000 (by kernel_rfl)
end Go.Q5
