/- A part of the proof of RoundAlone. -/
import Derived.Test.YtnljpmbidnnlkaaGreatDoorRAq
set_option maxRecDepth 1000000
namespace Go.Q5
open Go.Ev Go.Proofs
theorem s0 (h:K T0):K T1:=bM.cons (hG 0) (hB 0) h 100000 (by kernel_rfl)
theorem s1 (h:K T1):K T2:=bM.cons (hG 0) (hB 0) h 100000 (by kernel_rfl)
theorem s2 (h:K T2):K T3:=bM.cons (hG 0) (hB 0) h 100000 (by kernel_rfl)
theorem s3 (h:K T3):K T4:=bM.cons (hG 0) (hB 0) h 100000 (by kernel_rfl)
theorem s4 (h:K T4):K T5:=bM.cons (hG 0) (hB 0) h 100000 (by kernel_rfl)
theorem s5 (h:K T5):K T6:=bM.cons (hG 0) (hB 0) h 100000 (by kernel_rfl)
theorem s6 (h:K T6):K T7:=bM.cons (hG 0) (hB 0) h 100000 (by kernel_rfl)
theorem s7 (h:K T7):K T8:=bM.cons (hG 0) (hB 0) h 100000 (by kernel_rfl)
theorem s8 (h:K T8):K T9:=bM.cons (hG 0) (hB 0) h 100000 (by kernel_rfl)
theorem s9 (h:K T9):K T10:=bM.cons (hG 0) (hB 0) h 100000 (by kernel_rfl)
theorem s10 (h:K T10):K T11:=bM.cons (hG 0) (hB 0) h 100000 (by kernel_rfl)
theorem s11 (h:K T11):K T12:=bM.cons (hG 0) (hB 0) h 100000 (by kernel_rfl)
theorem s12 (h:K T12):K T13:=bM.cons (hG 0) (hB 0) h 100000 (by kernel_rfl)
theorem s13 (h:K T13):K T14:=bM.cons (hG 0) (hB 0) h 100000 (by kernel_rfl)
theorem s14 (h:K T14):K T15:=bM.cons (hG 0) (hB 0) h 100000 (by kernel_rfl)
theorem s15 (h:K T15):K T16:=bM.cons (hG 0) (hB 0) h 100000 (by kernel_rfl)
theorem s16 (h:K T16):K T17:=bM.cons (hG 0) (hB 0) h 100000 (by kernel_rfl)
theorem s17 (h:K T17):K T18:=bM.cons (hG 0) (hB 0) h 100000 (by kernel_rfl)
theorem s18 (h:K T18):K T19:=bM.cons (hG 0) (hB 0) h 100000 (by kernel_rfl)
end Go.Q5
