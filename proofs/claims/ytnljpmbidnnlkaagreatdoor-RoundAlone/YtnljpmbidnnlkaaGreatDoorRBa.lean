/- A part of the proof of RoundAlone. -/
import Derived.Test.YtnljpmbidnnlkaaGreatDoorRAq
set_option maxRecDepth 1000000
namespace Go.Q5
open Go.Ev Go.Proofs
theorem s55 (h:K T55):K T56:=bM.cons (hG 0) (hB 0) h 100000 (by kernel_rfl)
theorem s56 (h:K T56):K T57:=bM.cons (hG 0) (hB 0) h 100000 (by kernel_rfl)
end Go.Q5
