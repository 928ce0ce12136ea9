/- A part of the proof of RoundAlone. -/
import Derived.Test.YtnljpmbidnnlkaaGreatDoorRAq
set_option maxRecDepth 1000000
namespace Go.Q5
open Go.Ev Go.Proofs
theorem s62 (h:K T62):K T63:=bM.cons (hG 0) (hB 0) h 100000 (by kernel_rfl)
theorem s63 (h:K T63):K T64:=bM.cons (hG 0) (hB 0) h 100000 (by kernel_rfl)
theorem s64 (h:K T64):K T65:=bM.cons (hG 0) (hB 0) h 100000 (by kernel_rfl)
theorem s65 (h:K T65):K T66:=bM.cons (hG 0) (hB 0) h 100000 (by kernel_rfl)
theorem s66 (h:K T66):K T67:=bM.cons (hG 0) (hB 0) h 100000 (by kernel_rfl)
theorem s67 (h:K T67):K T68:=bM.cons (hG 0) (hB 0) h 100000 (by kernel_rfl)
theorem s68 (h:K T68):K T69:=bM.cons (hG 0) (hB 0) h 100000 (by kernel_rfl)
theorem s69 (h:K T69):K T70:=bM.cons (hG 0) (hB 0) h 100000 (by kernel_rfl)
theorem s70 (h:K T70):K T71:=bM.cons (hG 0) (hB 0) h 100000 (by kernel_rfl)
theorem s71 (h:K T71):K T72:=bM.cons (hG 0) (hB 0) h 100000 (by kernel_rfl)
end Go.Q5
