/- A part of the proof of RoundAlone. -/
import Derived.Test.YtnljpmbidnnlkaaGreatDoorRAq
set_option maxRecDepth 1000000
namespace Go.Q5
open Go.Ev Go.Proofs
theorem s72 (h:K T72):K T73:=bM.cons (hG 0) (hB 0) h 100000 (by kernel_rfl)
theorem s73 (h:K T73):K T74:=bM.cons (hG 0) (hB 0) h 100000 (by kernel_rfl)
theorem s74 (h:K T74):K T75:=bM.cons (hG 0) (hB 0) h 100000 (by kernel_rfl)
end Go.Q5
