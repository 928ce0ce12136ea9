/- A part of the proof of TribunalBack. -/
import Derived.Test.YtmmghibnfjfnbaaGreatDoorBAq
set_option linter.unusedVariables false
set_option linter.unusedSimpArgs false
namespace Go.Q9
open Go.Ev Go.Proofs
set_option maxRecDepth 1000000
theorem s172 (k:Int) (h:TabOK Go.Proofs.Tryz.prog (G k) T172):TabOK Go.Proofs.Tryz.prog (G k) T173:= .cons (hG k) (hB k) h 100000 (by kernel_rfl)
theorem s173 (k:Int) (h:TabOK Go.Proofs.Tryz.prog (G k) T173):TabOK Go.Proofs.Tryz.prog (G k) T174:= .cons (hG k) (hB k) h 100000 (by kernel_rfl)
theorem s174 (k:Int) (h:TabOK Go.Proofs.Tryz.prog (G k) T174):TabOK Go.Proofs.Tryz.prog (G k) T175:= .cons (hG k) (hB k) h 100000 (by kernel_rfl)
theorem s175 (k:Int) (h:TabOK Go.Proofs.Tryz.prog (G k) T175):TabOK Go.Proofs.Tryz.prog (G k) T176:= .cons (hG k) (hB k) h 100000 (by kernel_rfl)
theorem s176 (k:Int) (h:TabOK Go.Proofs.Tryz.prog (G k) T176):TabOK Go.Proofs.Tryz.prog (G k) T177:= .cons (hG k) (hB k) h 100000 (by kernel_rfl)
theorem s177 (k:Int) (h:TabOK Go.Proofs.Tryz.prog (G k) T177):TabOK Go.Proofs.Tryz.prog (G k) T178:= .cons (hG k) (hB k) h 100000 (by kernel_rfl)
theorem s178 (k:Int) (h:TabOK Go.Proofs.Tryz.prog (G k) T178):TabOK Go.Proofs.Tryz.prog (G k) T179:= .cons (hG k) (hB k) h 100000 (by kernel_rfl)
theorem s179 (k:Int) (h:TabOK Go.Proofs.Tryz.prog (G k) T179):TabOK Go.Proofs.Tryz.prog (G k) T180:= .cons (hG k) (hB k) h 100000 (by kernel_rfl)
theorem s180 (k:Int) (h:TabOK Go.Proofs.Tryz.prog (G k) T180):TabOK Go.Proofs.Tryz.prog (G k) T181:= .cons (hG k) (hB k) h 100000 (by kernel_rfl)
theorem s181 (k:Int) (h:TabOK Go.Proofs.Tryz.prog (G k) T181):TabOK Go.Proofs.Tryz.prog (G k) T182:= .cons (hG k) (hB k) h 100000 (by kernel_rfl)
theorem s182 (k:Int) (h:TabOK Go.Proofs.Tryz.prog (G k) T182):TabOK Go.Proofs.Tryz.prog (G k) T183:= .cons (hG k) (hB k) h 100000 (by kernel_rfl)
theorem s183 (k:Int) (h:TabOK Go.Proofs.Tryz.prog (G k) T183):TabOK Go.Proofs.Tryz.prog (G k) T184:= .cons (hG k) (hB k) h 100000 (by kernel_rfl)
theorem s184 (k:Int) (h:TabOK Go.Proofs.Tryz.prog (G k) T184):TabOK Go.Proofs.Tryz.prog (G k) T185:= .cons (hG k) (hB k) h 100000 (by kernel_rfl)
theorem s185 (k:Int) (h:TabOK Go.Proofs.Tryz.prog (G k) T185):TabOK Go.Proofs.Tryz.prog (G k) T186:= .cons (hG k) (hB k) h 100000 (by kernel_rfl)
theorem s186 (k:Int) (h:TabOK Go.Proofs.Tryz.prog (G k) T186):TabOK Go.Proofs.Tryz.prog (G k) T187:= .cons (hG k) (hB k) h 100000 (by kernel_rfl)
theorem s187 (k:Int) (h:TabOK Go.Proofs.Tryz.prog (G k) T187):TabOK Go.Proofs.Tryz.prog (G k) T188:= .cons (hG k) (hB k) h 100000 (by kernel_rfl)
theorem s188 (k:Int) (h:TabOK Go.Proofs.Tryz.prog (G k) T188):TabOK Go.Proofs.Tryz.prog (G k) T189:= .cons (hG k) (hB k) h 100000 (by kernel_rfl)
theorem s189 (k:Int) (h:TabOK Go.Proofs.Tryz.prog (G k) T189):TabOK Go.Proofs.Tryz.prog (G k) T190:= .cons (hG k) (hB k) h 100000 (by kernel_rfl)
theorem s190 (k:Int) (h:TabOK Go.Proofs.Tryz.prog (G k) T190):TabOK Go.Proofs.Tryz.prog (G k) T191:= .cons (hG k) (hB k) h 100000 (by kernel_rfl)
theorem s191 (k:Int) (h:TabOK Go.Proofs.Tryz.prog (G k) T191):TabOK Go.Proofs.Tryz.prog (G k) T192:= .cons (hG k) (hB k) h 100000 (by kernel_rfl)
theorem s192 (k:Int) (h:TabOK Go.Proofs.Tryz.prog (G k) T192):TabOK Go.Proofs.Tryz.prog (G k) T193:= .cons (hG k) (hB k) h 100000 (by kernel_rfl)
theorem s193 (k:Int) (h:TabOK Go.Proofs.Tryz.prog (G k) T193):TabOK Go.Proofs.Tryz.prog (G k) T194:= .cons (hG k) (hB k) h 100000 (by kernel_rfl)
theorem s194 (k:Int) (h:TabOK Go.Proofs.Tryz.prog (G k) T194):TabOK Go.Proofs.Tryz.prog (G k) T195:= .cons (hG k) (hB k) h 100000 (by kernel_rfl)
theorem s195 (k:Int) (h:TabOK Go.Proofs.Tryz.prog (G k) T195):TabOK Go.Proofs.Tryz.prog (G k) T196:= .cons (hG k) (hB k) h 100000 (by kernel_rfl)
theorem s196 (k:Int) (h:TabOK Go.Proofs.Tryz.prog (G k) T196):TabOK Go.Proofs.Tryz.prog (G k) T197:= .cons (hG k) (hB k) h 100000 (by kernel_rfl)
theorem s197 (k:Int) (h:TabOK Go.Proofs.Tryz.prog (G k) T197):TabOK Go.Proofs.Tryz.prog (G k) T198:=h.prim (pSplit k (by decide+kernel))
theorem s198 (k:Int) (h:TabOK Go.Proofs.Tryz.prog (G k) T198):TabOK Go.Proofs.Tryz.prog (G k) T199:=h.prim (pJoin k (by decide+kernel))
theorem s199 (k:Int) (h:TabOK Go.Proofs.Tryz.prog (G k) T199):TabOK Go.Proofs.Tryz.prog (G k) T200:= .cons (hG k) (hB k) h 100000 (by kernel_rfl)
theorem s200 (k:Int) (h:TabOK Go.Proofs.Tryz.prog (G k) T200):TabOK Go.Proofs.Tryz.prog (G k) T201:= .cons (hG k) (hB k) h 100000 (by kernel_rfl)
theorem s201 (k:Int) (h:TabOK Go.Proofs.Tryz.prog (G k) T201):TabOK Go.Proofs.Tryz.prog (G k) T202:= .cons (hG k) (hB k) h 100000 (by kernel_rfl)
end Go.Q9
