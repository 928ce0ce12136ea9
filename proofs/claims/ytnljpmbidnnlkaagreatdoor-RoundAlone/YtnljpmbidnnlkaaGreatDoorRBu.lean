/- A part of the proof of RoundAlone. -/
import Derived.Test.YtnljpmbidnnlkaaGreatDoorRBp
import Derived.Test.YtnljpmbidnnlkaaGreatDoorRBq
import Derived.Test.YtnljpmbidnnlkaaGreatDoorRBr
import Derived.Test.YtnljpmbidnnlkaaGreatDoorRBs
import Derived.Test.YtnljpmbidnnlkaaGreatDoorRBt
set_option maxRecDepth 1000000
set_option linter.unusedVariables false
set_option linter.unusedSimpArgs false
namespace Go.Proofs.YtnljpmbidnnlkaaGreatDoor
open Go Go.ChangeShapes Go.WideShapes Go.ChangeAt Go.WideMaps Go.WideElems Go.RowKit
theorem cX {a b:Bool} (h:a=true) (k:b=true):(a&&b)=true:=by rw [h,k];rfl
theorem R1:(OpenClaim.wf (OpenSpec.ofChange Rows.roundAloneSpec) Rows.roundAloneRow)=true:=by kernel_rfl
theorem P0:(mapsRowed Tryz.prog)=true:=by kernel_rfl
theorem Rg:(Tryz.f5.params.all fun x=>Tryz.prog.readableRec x)=true:=by kernel_rfl
theorem RU:(namedTie Tryz.prog Rows.roundAloneRow.named Rows.roundAloneSpec.vars)=true:=by kernel_rfl
theorem Qi:(Rows.roundAloneRow.stops==[])=true:=by kernel_rfl
theorem Qp:(Tryz.prog.stops==[])=true:=by kernel_rfl
theorem O1:(Rows.roundAloneRow.knobs==[])=true:=by kernel_rfl
theorem S4:(Tryz.prog.stopKnobs==[])=true:=by kernel_rfl
theorem JX:(Rows.roundAloneRow.maps==(Tryz.f5.params.toList++DataSpec.varTypes Tryz.prog Rows.roundAloneSpec.plain).any fun x=>Tryz.prog.mapsRec x)=true:=by kernel_rfl
theorem JO:(Rows.roundAloneRow.ifaces==(Tryz.f5.params.toList++DataSpec.varTypes Tryz.prog Rows.roundAloneSpec.plain).any fun x=>Tryz.prog.ifacesRec x)=true:=by kernel_rfl
theorem Jq:(Rows.roundAloneRow.mapsOut==Tryz.prog.mapsAmong Tryz.f5.resultTypes.toList)=true:=by kernel_rfl
theorem Jm:(Rows.roundAloneRow.loops==(Tryz.f5.params.toList++DataSpec.varTypes Tryz.prog Rows.roundAloneSpec.plain).any fun x=>Tryz.prog.loopsFrom x)=true:=by kernel_rfl
theorem JB:(Rows.roundAloneRow.wideKeys==((Tryz.f5.params.toList++DataSpec.varTypes Tryz.prog Rows.roundAloneSpec.plain)++Tryz.f5.resultTypes.toList).any fun x=>Tryz.prog.wideKeysFrom x)=true:=by kernel_rfl
theorem LU:(Rows.roundAloneSpec.vars.all fun x=>Tryz.prog.varReadable x)=true:=by kernel_rfl
theorem JT:(Tryz.f5.resultTypes.all fun t=>Tryz.prog.readableRec t&&decide (t<Tryz.prog.types.size))=true:=by kernel_rfl
theorem J0:(Rows.roundAloneRow.ifacesOut==Tryz.f5.resultTypes.toList.any fun x=>Tryz.prog.ifacesRec x)=true:=by kernel_rfl
theorem JC:(Rows.roundAloneRow.loopsOut==Tryz.f5.resultTypes.toList.any fun x=>Tryz.prog.loopsFrom x)=true:=by kernel_rfl
theorem J4:(Rows.roundAloneRow.plainKeys==Tryz.prog.plainKeys)=true:=by kernel_rfl
theorem JG:(Rows.roundAloneRow.shortTexts.isNone)=true:=by kernel_rfl
theorem Kw:(Tryz.prog.stopsHeard)=true:=by kernel_rfl
theorem JF:(Tryz.prog.mayEnter)=true:=by kernel_rfl
theorem Ku:(Rows.roundAloneRow.lifted==Tryz.prog.liftsFinal)=true:=by kernel_rfl
theorem JV:(Tryz.prog.make==some Rows.roundAloneRow.make)=true:=by kernel_rfl
theorem Jv:(Rows.roundAloneRow.kinds==if Rows.roundAloneRow.domain.isEmpty=true then [] else List.map (fun t=>match Tryz.prog.underlying t with | some (TypeDesc.int k)=>some k | _=>none) Tryz.f5.params.toList)=true:=by kernel_rfl
theorem J5:(Rows.roundAloneRow.pinned==Rows.roundAloneRow.pinnedBy)=true:=by kernel_rfl
theorem Kv:(Rows.roundAloneRow.veiled==((Tryz.f5.params.toList++DataSpec.varTypes Tryz.prog Rows.roundAloneSpec.plain)++Tryz.f5.resultTypes.toList).any fun x=>Tryz.prog.veiledRec x)=true:=by kernel_rfl
theorem LR:(Rows.roundAloneRow.veiledFits Tryz.prog Tryz.f5.params.toList ((Tryz.f5.params.toList++DataSpec.varTypes Tryz.prog Rows.roundAloneSpec.plain)++Tryz.f5.resultTypes.toList))=true:=by kernel_rfl
theorem EI:joinedFacts Tryz.prog 5 Tryz.f5 Rows.roundAloneSpec Rows.roundAloneRow=true:=
 (cX (cX (cX (cX (cX (cX (cX (cX (cX (cX (cX (cX (cX (cX (cX (cX (cX (cX (cX (cX (cX (cX (cX (cX (cX (cX (cX (cX (cX (cX (cX R1 Df) P0) Rg) RU) Qi) Qp) O1) S4) Qy) J7) JQ) LV) JX) JO) Jq) Jm) JB) LU) JT) J0) JC) J4) JG) Kw) JF) Ku) JV) Jv) J5) Kv) LR)
theorem sQ:Rows.RoundAloneSaid:=
 OpenClaim.holds_of_wide 5 Tryz.f5 rfl rfl rfl rfl rfl rfl rfl ⟨rfl,rfl,rfl,rfl,rfl⟩ rfl rfl rfl rfl rfl (by kernel_rfl) Tryz.func5 EI
  (of_decide_eq_true (by kernel_rfl)) (by unfold Func.isWrapper;first | (rw [if_pos (by decide+kernel)];kernel_rfl)| (rw [if_neg (by decide+kernel)];exact⟨rfl,rfl⟩))
  (fun os started H enc _=>lifted os started H enc)
end Go.Proofs.YtnljpmbidnnlkaaGreatDoor
