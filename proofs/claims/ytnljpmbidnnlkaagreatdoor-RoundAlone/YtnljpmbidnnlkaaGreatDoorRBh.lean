/- A part of the proof of RoundAlone. -/
import Derived.Test.YtnljpmbidnnlkaaGreatDoorRAq
set_option maxRecDepth 1000000
namespace Go.Q5
open Go.Ev Go.Proofs
theorem s79 (h:K T79):K T80:=bM.cons (hG 0) (hB 0) h 100000 (by kernel_rfl)
theorem s80 (h:K T80):K T81:=bM.cons (hG 0) (hB 0) h 100000 (by kernel_rfl)
end Go.Q5
