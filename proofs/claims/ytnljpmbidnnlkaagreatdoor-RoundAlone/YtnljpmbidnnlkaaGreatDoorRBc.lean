/- A part of the proof of RoundAlone. -/
import Derived.Test.YtnljpmbidnnlkaaGreatDoorRAq
set_option maxRecDepth 1000000
namespace Go.Q5
open Go.Ev Go.Proofs
theorem s59 (h:K T59):K T60:=bM.cons (hG 0) (hB 0) h 100000 (by kernel_rfl)
theorem s60 (h:K T60):K T61:=bM.cons (hG 0) (hB 0) h 100000 (by kernel_rfl)
theorem s61 (h:K T61):K T62:=bM.cons (hG 0) (hB 0) h 100000 (by kernel_rfl)
end Go.Q5
