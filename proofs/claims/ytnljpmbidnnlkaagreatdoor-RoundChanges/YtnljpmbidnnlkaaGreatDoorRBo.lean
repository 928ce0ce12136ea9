/- A part of the proof of RoundChanges. -/
import Derived.Test.YtnljpmbidnnlkaaGreatDoorRBj
import Derived.Test.YtnljpmbidnnlkaaGreatDoorRBk
import Derived.Test.YtnljpmbidnnlkaaGreatDoorRBl
import Derived.Test.YtnljpmbidnnlkaaGreatDoorRBm
import Derived.Test.YtnljpmbidnnlkaaGreatDoorRBn
set_option maxRecDepth 1000000
set_option linter.unusedVariables false
set_option linter.unusedSimpArgs false
namespace Go.Proofs.YtnljpmbidnnlkaaGreatDoor
open Go Go.ChangeShapes Go.WideShapes Go.ChangeAt Go.WideMaps Go.WideElems Go.RowKit
theorem bBO {a b:Bool} (h:a=true) (k:b=true):(a&&b)=true:=by rw [h,k];rfl
theorem bDD:(OpenClaim.wf (OpenSpec.ofChange Rows.roundChangesSpec) Rows.roundChangesRow)=true:=by kernel_rfl
theorem bCY:(mapsRowed Tryz.prog)=true:=by kernel_rfl
theorem bCW:(Tryz.f4.params.all fun x=>Tryz.prog.readableRec x)=true:=by kernel_rfl
theorem bCV:(namedTie Tryz.prog Rows.roundChangesRow.named Rows.roundChangesSpec.vars)=true:=by kernel_rfl
theorem bDB:(Rows.roundChangesRow.stops==[])=true:=by kernel_rfl
theorem bDC:(Tryz.prog.stops==[])=true:=by kernel_rfl
theorem bCX:(Rows.roundChangesRow.knobs==[])=true:=by kernel_rfl
theorem bCZ:(Tryz.prog.stopKnobs==[])=true:=by kernel_rfl
theorem bCM:(Rows.roundChangesRow.maps==(Tryz.f4.params.toList++DataSpec.varTypes Tryz.prog Rows.roundChangesSpec.plain).any fun x=>Tryz.prog.mapsRec x)=true:=by kernel_rfl
theorem bCE:(Rows.roundChangesRow.ifaces==(Tryz.f4.params.toList++DataSpec.varTypes Tryz.prog Rows.roundChangesSpec.plain).any fun x=>Tryz.prog.ifacesRec x)=true:=by kernel_rfl
theorem bCL:(Rows.roundChangesRow.mapsOut==Tryz.prog.mapsAmong Tryz.f4.resultTypes.toList)=true:=by kernel_rfl
theorem bCO:(Rows.roundChangesRow.loops==(Tryz.f4.params.toList++DataSpec.varTypes Tryz.prog Rows.roundChangesSpec.plain).any fun x=>Tryz.prog.loopsFrom x)=true:=by kernel_rfl
theorem bBX:(Rows.roundChangesRow.wideKeys==((Tryz.f4.params.toList++DataSpec.varTypes Tryz.prog Rows.roundChangesSpec.plain)++Tryz.f4.resultTypes.toList).any fun x=>Tryz.prog.wideKeysFrom x)=true:=by kernel_rfl
theorem bBZ:(Rows.roundChangesSpec.vars.all fun x=>Tryz.prog.varReadable x)=true:=by kernel_rfl
theorem bBY:(Tryz.f4.resultTypes.all fun t=>Tryz.prog.readableRec t&&decide (t<Tryz.prog.types.size))=true:=by kernel_rfl
theorem bCQ:(Rows.roundChangesRow.ifacesOut==Tryz.f4.resultTypes.toList.any fun x=>Tryz.prog.ifacesRec x)=true:=by kernel_rfl
theorem bCI:(Rows.roundChangesRow.loopsOut==Tryz.f4.resultTypes.toList.any fun x=>Tryz.prog.loopsFrom x)=true:=by kernel_rfl
theorem bCC:(Rows.roundChangesRow.plainKeys==Tryz.prog.plainKeys)=true:=by kernel_rfl
theorem bCU:(Rows.roundChangesRow.shortTexts.isNone)=true:=by kernel_rfl
theorem bCH:(Tryz.prog.stopsHeard)=true:=by kernel_rfl
theorem bCS:(Tryz.prog.mayEnter)=true:=by kernel_rfl
theorem bCG:(Rows.roundChangesRow.lifted==Tryz.prog.liftsFinal)=true:=by kernel_rfl
theorem bCA:(Tryz.prog.make==some Rows.roundChangesRow.make)=true:=by kernel_rfl
theorem bCF:(Rows.roundChangesRow.kinds==if Rows.roundChangesRow.domain.isEmpty=true then [] else List.map (fun t=>match Tryz.prog.underlying t with | some (TypeDesc.int k)=>some k | _=>none) Tryz.f4.params.toList)=true:=by kernel_rfl
theorem bCT:(Rows.roundChangesRow.pinned==Rows.roundChangesRow.pinnedBy)=true:=by kernel_rfl
theorem bCN:(Rows.roundChangesRow.veiled==((Tryz.f4.params.toList++DataSpec.varTypes Tryz.prog Rows.roundChangesSpec.plain)++Tryz.f4.resultTypes.toList).any fun x=>Tryz.prog.veiledRec x)=true:=by kernel_rfl
theorem bCK:(Rows.roundChangesRow.veiledFits Tryz.prog Tryz.f4.params.toList ((Tryz.f4.params.toList++DataSpec.varTypes Tryz.prog Rows.roundChangesSpec.plain)++Tryz.f4.resultTypes.toList))=true:=by kernel_rfl
theorem bBT:joinedFacts Tryz.prog 4 Tryz.f4 Rows.roundChangesSpec Rows.roundChangesRow=true:=
 (bBO (bBO (bBO (bBO (bBO (bBO (bBO (bBO (bBO (bBO (bBO (bBO (bBO (bBO (bBO (bBO (bBO (bBO (bBO (bBO (bBO (bBO (bBO (bBO (bBO (bBO (bBO (bBO (bBO (bBO (bBO bDD yS) bCY) bCW) bCV) bDB) bDC) bCX) bCZ) bDA) bCR) bCP) bCJ) bCM) bCE) bCL) bCO) bBX) bBZ) bBY) bCQ) bCI) bCC) bCU) bCH) bCS) bCG) bCA) bCF) bCT) bCN) bCK)
theorem sI:Rows.RoundChangesSaid:=
 OpenClaim.holds_of_wide 4 Tryz.f4 rfl rfl rfl rfl rfl rfl rfl ⟨rfl,rfl,rfl,rfl,rfl⟩ rfl rfl rfl rfl rfl (by kernel_rfl) Tryz.func4 bBT
  (of_decide_eq_true (by kernel_rfl)) (by unfold Func.isWrapper;first | (rw [if_pos (by decide+kernel)];kernel_rfl)| (rw [if_neg (by decide+kernel)];exact⟨rfl,rfl⟩))
  (fun os started H enc _=>lifted os started H enc)
end Go.Proofs.YtnljpmbidnnlkaaGreatDoor
