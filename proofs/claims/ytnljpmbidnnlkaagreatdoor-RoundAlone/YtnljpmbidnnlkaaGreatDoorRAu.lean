/- A part of the proof of RoundAlone. -/
import Derived.Test.YtnljpmbidnnlkaaGreatDoorRAq
set_option maxRecDepth 1000000
namespace Go.Q5
open Go.Ev Go.Proofs
theorem s26 (h:K T26):K T27:=bM.cons (hG 0) (hB 0) h 100000 (by kernel_rfl)
theorem s27 (h:K T27):K T28:=bM.cons (hG 0) (hB 0) h 100000 (by kernel_rfl)
theorem s28 (h:K T28):K T29:=bM.cons (hG 0) (hB 0) h 100000 (by kernel_rfl)
theorem s29 (h:K T29):K T30:=bM.cons (hG 0) (hB 0) h 100000 (by kernel_rfl)
theorem s30 (h:K T30):K T31:=bM.cons (hG 0) (hB 0) h 100000 (by kernel_rfl)
theorem s31 (h:K T31):K T32:=bM.cons (hG 0) (hB 0) h 100000 (by kernel_rfl)
theorem s32 (h:K T32):K T33:=bM.cons (hG 0) (hB 0) h 100000 (by kernel_rfl)
theorem s33 (h:K T33):K T34:=bM.cons (hG 0) (hB 0) h 100000 (by kernel_rfl)
theorem s34 (h:K T34):K T35:=bM.cons (hG 0) (hB 0) h 100000 (by kernel_rfl)
end Go.Q5
