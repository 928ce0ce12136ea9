/- A part of the proof of RoundAlone. -/
import Derived.Test.YtnljpmbidnnlkaaGreatDoorRAq
set_option maxRecDepth 1000000
namespace Go.Q5
open Go.Ev Go.Proofs
theorem s24 (h:K T24):K T25:=bM.cons (hG 0) (hB 0) h 100000 (by kernel_rfl)
theorem s25 (h:K T25):K T26:=bM.cons (hG 0) (hB 0) h 100000 (by kernel_rfl)
end Go.Q5
