/- A part of the proof of RoundAlone. -/
import Derived.Test.YtnljpmbidnnlkaaGreatDoorRAq
set_option maxRecDepth 1000000
namespace Go.Q5
open Go.Ev Go.Proofs
theorem s19 (h:K T19):K T20:=bM.cons (hG 0) (hB 0) h 100000 (by kernel_rfl)
theorem s20 (h:K T20):K T21:=bM.cons (hG 0) (hB 0) h 100000 (by kernel_rfl)
theorem s21 (h:K T21):K T22:=bM.cons (hG 0) (hB 0) h 100000 (by kernel_rfl)
theorem s22 (h:K T22):K T23:=bM.cons (hG 0) (hB 0) h 100000 (by kernel_rfl)
theorem s23 (h:K T23):K T24:=bM.cons (hG 0) (hB 0) h 100000 (by kernel_rfl)
end Go.Q5
