/- A part of the proof of RoundAlone. -/
import Derived.Test.YtnljpmbidnnlkaaGreatDoorRAq
set_option maxRecDepth 1000000
namespace Go.Q5
open Go.Ev Go.Proofs
theorem s87 (h:K T87):K T88:=bM.cons (hG 0) (hB 0) h 100000 (by kernel_rfl)
theorem s88 (h:K T88):K T89:=bM.cons (hG 0) (hB 0) h 100000 (by kernel_rfl)
theorem s89 (h:K T89):K T90:=bM.cons (hG 0) (hB 0) h 100000 (by kernel_rfl)
theorem s90 (h:K T90):K T91:=bM.cons (hG 0) (hB 0) h 100000 (by kernel_rfl)
theorem s91 (h:K T91):K T92:=bM.cons (hG 0) (hB 0) h 100000 (by kernel_rfl)
theorem s92 (h:K T92):K T93:=bM.cons (hG 0) (hB 0) h 100000 (by kernel_rfl)
theorem s93 (h:K T93):K T94:=bM.cons (hG 0) (hB 0) h 100000 (by kernel_rfl)
theorem s94 (h:K T94):K T95:=bM.cons (hG 0) (hB 0) h 100000 (by kernel_rfl)
theorem s95 (h:K T95):K T96:=bM.cons (hG 0) (hB 0) h 100000 (by kernel_rfl)
theorem s96 (h:K T96):K T97:=bM.cons (hG 0) (hB 0) h 100000 (by kernel_rfl)
theorem s97 (h:K T97):K T98:=bM.cons (hG 0) (hB 0) h 100000 (by kernel_rfl)
theorem s98 (h:K T98):K T99:=bM.cons (hG 0) (hB 0) h 100000 (by kernel_rfl)
theorem s99 (h:K T99):K OR:=bM.cons (hG 0) (hB 0) h 100000 (by kernel_rfl)
theorem aEW (h:K OR):K P6:=bM.cons (hG 0) (hB 0) h 100000 (by kernel_rfl)
theorem aBI (h:K P6):K Vs:=bM.cons (hG 0) (hB 0) h 100000 (by kernel_rfl)
end Go.Q5
