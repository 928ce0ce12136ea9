/- A part of the proof of RoundAlone. -/
import Derived.Test.YtnljpmbidnnlkaaGreatDoorRAq
set_option maxRecDepth 1000000
namespace Go.Q5
open Go.Ev Go.Proofs
theorem s42 (h:K T42):K T43:=bM.cons (hG 0) (hB 0) h 100000 (by kernel_rfl)
theorem s43 (h:K T43):K T44:=bM.cons (hG 0) (hB 0) h 100000 (by kernel_rfl)
theorem s44 (h:K T44):K T45:=bM.cons (hG 0) (hB 0) h 100000 (by kernel_rfl)
theorem s45 (h:K T45):K T46:=bM.cons (hG 0) (hB 0) h 100000 (by kernel_rfl)
end Go.Q5
