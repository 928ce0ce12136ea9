/- A part of the proof of RoundAlone. -/
import Derived.Test.YtnljpmbidnnlkaaGreatDoorRAq
set_option maxRecDepth 1000000
namespace Go.Q5
open Go.Ev Go.Proofs
theorem s35 (h:K T35):K T36:=bM.cons (hG 0) (hB 0) h 100000 (by kernel_rfl)
theorem s36 (h:K T36):K T37:=bM.cons (hG 0) (hB 0) h 100000 (by kernel_rfl)
theorem s37 (h:K T37):K T38:=bM.cons (hG 0) (hB 0) h 100000 (by kernel_rfl)
theorem s38 (h:K T38):K T39:=bM.cons (hG 0) (hB 0) h 100000 (by kernel_rfl)
theorem s39 (h:K T39):K T40:=bM.cons (hG 0) (hB 0) h 100000 (by kernel_rfl)
end Go.Q5
