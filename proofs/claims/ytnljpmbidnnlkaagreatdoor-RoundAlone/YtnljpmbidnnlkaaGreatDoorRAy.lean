/- A part of the proof of RoundAlone. -/
import Derived.Test.YtnljpmbidnnlkaaGreatDoorRAq
set_option maxRecDepth 1000000
namespace Go.Q5
open Go.Ev Go.Proofs
theorem s46 (h:K T46):K T47:=bM.cons (hG 0) (hB 0) h 100000 (by kernel_rfl)
theorem s47 (h:K T47):K T48:=bM.cons (hG 0) (hB 0) h 100000 (by kernel_rfl)
theorem s48 (h:K T48):K T49:=bM.cons (hG 0) (hB 0) h 100000 (by kernel_rfl)
theorem s49 (h:K T49):K T50:=bM.cons (hG 0) (hB 0) h 100000 (by kernel_rfl)
theorem s50 (h:K T50):K T51:=bM.cons (hG 0) (hB 0) h 100000 (by kernel_rfl)
theorem s51 (h:K T51):K T52:=bM.cons (hG 0) (hB 0) h 100000 (by kernel_rfl)
end Go.Q5
