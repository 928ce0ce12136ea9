/- A part of the proof of RoundAlone. -/
import Derived.Test.YtnljpmbidnnlkaaGreatDoorRAq
set_option maxRecDepth 1000000
namespace Go.Q5
open Go.Ev Go.Proofs
theorem s57 (h:K T57):K T58:=bM.cons (hG 0) (hB 0) h 100000 (by kernel_rfl)
theorem s58 (h:K T58):K T59:=bM.cons (hG 0) (hB 0) h 100000 (by kernel_rfl)
end Go.Q5
