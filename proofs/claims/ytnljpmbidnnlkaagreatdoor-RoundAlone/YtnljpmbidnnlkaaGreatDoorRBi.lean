/- A part of the proof of RoundAlone. -/
import Derived.Test.YtnljpmbidnnlkaaGreatDoorRAq
set_option maxRecDepth 1000000
namespace Go.Q5
open Go.Ev Go.Proofs
theorem s81 (h:K T81):K T82:=bM.cons (hG 0) (hB 0) h 100000 (by kernel_rfl)
theorem s82 (h:K T82):K T83:=bM.cons (hG 0) (hB 0) h 100000 (by kernel_rfl)
theorem s83 (h:K T83):K T84:=bM.cons (hG 0) (hB 0) h 100000 (by kernel_rfl)
theorem s84 (h:K T84):K T85:=bM.cons (hG 0) (hB 0) h 100000 (by kernel_rfl)
theorem s85 (h:K T85):K T86:=bM.cons (hG 0) (hB 0) h 100000 (by kernel_rfl)
theorem s86 (h:K T86):K T87:=bM.cons (hG 0) (hB 0) h 100000 (by kernel_rfl)
end Go.Q5
