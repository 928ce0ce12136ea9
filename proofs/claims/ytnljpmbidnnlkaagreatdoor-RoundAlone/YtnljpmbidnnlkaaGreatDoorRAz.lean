/- A part of the proof of RoundAlone. -/
import Derived.Test.YtnljpmbidnnlkaaGreatDoorRAq
set_option maxRecDepth 1000000
namespace Go.Q5
open Go.Ev Go.Proofs
theorem s52 (h:K T52):K T53:=bM.cons (hG 0) (hB 0) h 100000 (by kernel_rfl)
theorem s53 (h:K T53):K T54:=bM.cons (hG 0) (hB 0) h 100000 (by kernel_rfl)
theorem s54 (h:K T54):K T55:=bM.cons (hG 0) (hB 0) h 100000 (by kernel_rfl)
end Go.Q5
