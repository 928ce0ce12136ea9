/- A part of the proof of TribunalBack. -/
import Derived.Test.YtmmghibnfjfnbaaGreatDoorBAq
set_option linter.unusedVariables false
set_option linter.unusedSimpArgs false
namespace Go.Q9
open Go.Ev Go.Proofs
set_option maxRecDepth 1000000
theorem s138 (k:Int) (h:TabOK Go.Proofs.Tryz.prog (G k) T138):TabOK Go.Proofs.Tryz.prog (G k) T139:= .cons (hG k) (hB k) h 100000 (by kernel_rfl)
theorem s139 (k:Int) (h:TabOK Go.Proofs.Tryz.prog (G k) T139):TabOK Go.Proofs.Tryz.prog (G k) T140:= .cons (hG k) (hB k) h 100000 (by kernel_rfl)
theorem s140 (k:Int) (h:TabOK Go.Proofs.Tryz.prog (G k) T140):TabOK Go.Proofs.Tryz.prog (G k) T141:= .cons (hG k) (hB k) h 100000 (by kernel_rfl)
theorem s141 (k:Int) (h:TabOK Go.Proofs.Tryz.prog (G k) T141):TabOK Go.Proofs.Tryz.prog (G k) T142:= .cons (hG k) (hB k) h 100000 (by kernel_rfl)
theorem s142 (k:Int) (h:TabOK Go.Proofs.Tryz.prog (G k) T142):TabOK Go.Proofs.Tryz.prog (G k) T143:= .cons (hG k) (hB k) h 100000 (by kernel_rfl)
theorem s143 (k:Int) (h:TabOK Go.Proofs.Tryz.prog (G k) T143):TabOK Go.Proofs.Tryz.prog (G k) T144:= .cons (hG k) (hB k) h 100000 (by kernel_rfl)
theorem s144 (k:Int) (h:TabOK Go.Proofs.Tryz.prog (G k) T144):TabOK Go.Proofs.Tryz.prog (G k) T145:= .cons (hG k) (hB k) h 100000 (by kernel_rfl)
theorem s145 (k:Int) (h:TabOK Go.Proofs.Tryz.prog (G k) T145):TabOK Go.Proofs.Tryz.prog (G k) T146:=h.prim (pItoa k (by decide+kernel))
theorem s146 (k:Int) (h:TabOK Go.Proofs.Tryz.prog (G k) T146):TabOK Go.Proofs.Tryz.prog (G k) T147:=h.prim (pItoa k (by decide+kernel))
theorem s147 (k:Int) (h:TabOK Go.Proofs.Tryz.prog (G k) T147):TabOK Go.Proofs.Tryz.prog (G k) T148:= .cons (hG k) (hB k) h 100000 (by kernel_rfl)
theorem s148 (k:Int) (h:TabOK Go.Proofs.Tryz.prog (G k) T148):TabOK Go.Proofs.Tryz.prog (G k) T149:= .cons (hG k) (hB k) h 100000 (by kernel_rfl)
theorem s149 (k:Int) (h:TabOK Go.Proofs.Tryz.prog (G k) T149):TabOK Go.Proofs.Tryz.prog (G k) T150:=h.prim (pSplit k (by decide+kernel))
theorem s150 (k:Int) (h:TabOK Go.Proofs.Tryz.prog (G k) T150):TabOK Go.Proofs.Tryz.prog (G k) T151:=h.prim (pJoin k (by decide+kernel))
theorem s151 (k:Int) (h:TabOK Go.Proofs.Tryz.prog (G k) T151):TabOK Go.Proofs.Tryz.prog (G k) T152:= .cons (hG k) (hB k) h 100000 (by kernel_rfl)
theorem s152 (k:Int) (h:TabOK Go.Proofs.Tryz.prog (G k) T152):TabOK Go.Proofs.Tryz.prog (G k) T153:= .cons (hG k) (hB k) h 100000 (by kernel_rfl)
theorem s153 (k:Int) (h:TabOK Go.Proofs.Tryz.prog (G k) T153):TabOK Go.Proofs.Tryz.prog (G k) T154:= .cons (hG k) (hB k) h 100000 (by kernel_rfl)
theorem s154 (k:Int) (h:TabOK Go.Proofs.Tryz.prog (G k) T154):TabOK Go.Proofs.Tryz.prog (G k) T155:= .cons (hG k) (hB k) h 100000 (by kernel_rfl)
theorem s155 (k:Int) (h:TabOK Go.Proofs.Tryz.prog (G k) T155):TabOK Go.Proofs.Tryz.prog (G k) T156:= .cons (hG k) (hB k) h 100000 (by kernel_rfl)
theorem s156 (k:Int) (h:TabOK Go.Proofs.Tryz.prog (G k) T156):TabOK Go.Proofs.Tryz.prog (G k) T157:=h.prim (pSplit k (by decide+kernel))
theorem s157 (k:Int) (h:TabOK Go.Proofs.Tryz.prog (G k) T157):TabOK Go.Proofs.Tryz.prog (G k) T158:=h.prim (pAtoi k (by decide+kernel))
theorem s158 (k:Int) (h:TabOK Go.Proofs.Tryz.prog (G k) T158):TabOK Go.Proofs.Tryz.prog (G k) T159:=h.prim (pAtoi k (by decide+kernel))
theorem s159 (k:Int) (h:TabOK Go.Proofs.Tryz.prog (G k) T159):TabOK Go.Proofs.Tryz.prog (G k) T160:=h.prim (pAtoi k (by decide+kernel))
theorem s160 (k:Int) (h:TabOK Go.Proofs.Tryz.prog (G k) T160):TabOK Go.Proofs.Tryz.prog (G k) T161:=h.prim (pItoa k (by decide+kernel))
theorem s161 (k:Int) (h:TabOK Go.Proofs.Tryz.prog (G k) T161):TabOK Go.Proofs.Tryz.prog (G k) T162:=h.prim (pJoin k (by decide+kernel))
theorem s162 (k:Int) (h:TabOK Go.Proofs.Tryz.prog (G k) T162):TabOK Go.Proofs.Tryz.prog (G k) T163:= .cons (hG k) (hB k) h 100000 (by kernel_rfl)
theorem s163 (k:Int) (h:TabOK Go.Proofs.Tryz.prog (G k) T163):TabOK Go.Proofs.Tryz.prog (G k) T164:= .cons (hG k) (hB k) h 100000 (by kernel_rfl)
theorem s164 (k:Int) (h:TabOK Go.Proofs.Tryz.prog (G k) T164):TabOK Go.Proofs.Tryz.prog (G k) T165:= .cons (hG k) (hB k) h 100000 (by kernel_rfl)
theorem s165 (k:Int) (h:TabOK Go.Proofs.Tryz.prog (G k) T165):TabOK Go.Proofs.Tryz.prog (G k) T166:= .cons (hG k) (hB k) h 100000 (by kernel_rfl)
theorem s166 (k:Int) (h:TabOK Go.Proofs.Tryz.prog (G k) T166):TabOK Go.Proofs.Tryz.prog (G k) T167:= .cons (hG k) (hB k) h 100000 (by kernel_rfl)
theorem s167 (k:Int) (h:TabOK Go.Proofs.Tryz.prog (G k) T167):TabOK Go.Proofs.Tryz.prog (G k) T168:= .cons (hG k) (hB k) h 100000 (by kernel_rfl)
theorem s168 (k:Int) (h:TabOK Go.Proofs.Tryz.prog (G k) T168):TabOK Go.Proofs.Tryz.prog (G k) T169:= .cons (hG k) (hB k) h 100000 (by kernel_rfl)
theorem s169 (k:Int) (h:TabOK Go.Proofs.Tryz.prog (G k) T169):TabOK Go.Proofs.Tryz.prog (G k) T170:= .cons (hG k) (hB k) h 100000 (by kernel_rfl)
theorem s170 (k:Int) (h:TabOK Go.Proofs.Tryz.prog (G k) T170):TabOK Go.Proofs.Tryz.prog (G k) T171:= .cons (hG k) (hB k) h 100000 (by kernel_rfl)
theorem s171 (k:Int) (h:TabOK Go.Proofs.Tryz.prog (G k) T171):TabOK Go.Proofs.Tryz.prog (G k) T172:= .cons (hG k) (hB k) h 100000 (by kernel_rfl)
end Go.Q9
