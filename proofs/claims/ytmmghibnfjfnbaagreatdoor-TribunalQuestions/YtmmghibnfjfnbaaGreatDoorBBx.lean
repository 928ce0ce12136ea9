/- A part of the proof of TribunalQuestions. -/
import Derived.Test.YtmmghibnfjfnbaaGreatDoorBBv
import Derived.Test.YtmmghibnfjfnbaaGreatDoorBBw
set_option linter.unusedVariables false
set_option linter.unusedSimpArgs false
namespace Go.Proofs.YtmmghibnfjfnbaaGreatDoor
open Go Go.ChangeShapes Go.WideShapes Go.ChangeAt Go.WideMaps Go.WideElems Go.RowKit
set_option maxRecDepth 1000000
theorem and_both {a b:Bool} (h:a=true) (k:b=true):(a&&b)=true:=by rw [h,k];rfl
theorem fact_0:(OpenClaim.wf (OpenSpec.ofChange Rows.tribunalQuestionsSpec) Rows.tribunalQuestionsRow)=true:=by kernel_rfl
theorem fact_3:(Tryz.f3.params.all fun x=>Tryz.prog.readableRec x)=true:=by kernel_rfl
theorem fact_4:(namedTie Tryz.prog Rows.tribunalQuestionsRow.named Rows.tribunalQuestionsSpec.vars)=true:=by kernel_rfl
theorem fact_5:(Rows.tribunalQuestionsRow.stops==[])=true:=by kernel_rfl
theorem fact_6:(Tryz.prog.stops==[])=true:=by kernel_rfl
theorem fact_7:(Rows.tribunalQuestionsRow.knobs==[])=true:=by kernel_rfl
theorem fact_8:(Tryz.prog.stopKnobs==[])=true:=by kernel_rfl
theorem fact_13:(Rows.tribunalQuestionsRow.maps==(Tryz.f3.params.toList++DataSpec.varTypes Tryz.prog Rows.tribunalQuestionsSpec.plain).any fun x=>Tryz.prog.mapsRec x)=true:=by kernel_rfl
theorem fact_14:(Rows.tribunalQuestionsRow.ifaces==(Tryz.f3.params.toList++DataSpec.varTypes Tryz.prog Rows.tribunalQuestionsSpec.plain).any fun x=>Tryz.prog.ifacesRec x)=true:=by kernel_rfl
theorem fact_15:(Rows.tribunalQuestionsRow.mapsOut==Tryz.prog.mapsAmong Tryz.f3.resultTypes.toList)=true:=by kernel_rfl
theorem fact_16:(Rows.tribunalQuestionsRow.loops==(Tryz.f3.params.toList++DataSpec.varTypes Tryz.prog Rows.tribunalQuestionsSpec.plain).any fun x=>Tryz.prog.loopsFrom x)=true:=by kernel_rfl
theorem fact_17:(Rows.tribunalQuestionsRow.wideKeys==((Tryz.f3.params.toList++DataSpec.varTypes Tryz.prog Rows.tribunalQuestionsSpec.plain)++Tryz.f3.resultTypes.toList).any fun x=>Tryz.prog.wideKeysFrom x)=true:=by kernel_rfl
theorem fact_18:(Rows.tribunalQuestionsSpec.vars.all fun x=>Tryz.prog.varReadable x)=true:=by kernel_rfl
theorem fact_19:(Tryz.f3.resultTypes.all fun t=>Tryz.prog.readableRec t&&decide (t<Tryz.prog.types.size))=true:=by kernel_rfl
theorem fact_20:(Rows.tribunalQuestionsRow.ifacesOut==Tryz.f3.resultTypes.toList.any fun x=>Tryz.prog.ifacesRec x)=true:=by kernel_rfl
theorem fact_21:(Rows.tribunalQuestionsRow.loopsOut==Tryz.f3.resultTypes.toList.any fun x=>Tryz.prog.loopsFrom x)=true:=by kernel_rfl
theorem fact_22:(Rows.tribunalQuestionsRow.plainKeys==Tryz.prog.plainKeys)=true:=by kernel_rfl
theorem fact_23:(Rows.tribunalQuestionsRow.shortTexts.isNone)=true:=by kernel_rfl
theorem fact_26:(Rows.tribunalQuestionsRow.lifted==Tryz.prog.liftsFinal)=true:=by kernel_rfl
theorem fact_27:(Tryz.prog.make==some Rows.tribunalQuestionsRow.make)=true:=by kernel_rfl
theorem fact_28:(Rows.tribunalQuestionsRow.kinds==if Rows.tribunalQuestionsRow.domain.isEmpty=true then [] else List.map (fun t=>match Tryz.prog.underlying t with | some (TypeDesc.int k)=>some k | _=>none) Tryz.f3.params.toList)=true:=by kernel_rfl
theorem fact_29:(Rows.tribunalQuestionsRow.pinned==Rows.tribunalQuestionsRow.pinnedBy)=true:=by kernel_rfl
theorem fact_30:(Rows.tribunalQuestionsRow.veiled==((Tryz.f3.params.toList++DataSpec.varTypes Tryz.prog Rows.tribunalQuestionsSpec.plain)++Tryz.f3.resultTypes.toList).any fun x=>Tryz.prog.veiledRec x)=true:=by kernel_rfl
theorem fact_31:(Rows.tribunalQuestionsRow.veiledFits Tryz.prog Tryz.f3.params.toList ((Tryz.f3.params.toList++DataSpec.varTypes Tryz.prog Rows.tribunalQuestionsSpec.plain)++Tryz.f3.resultTypes.toList))=true:=by kernel_rfl
theorem facts_all:joinedFacts Tryz.prog 3 Tryz.f3 Rows.tribunalQuestionsSpec Rows.tribunalQuestionsRow=true:=
 (and_both (and_both (and_both (and_both (and_both (and_both (and_both (and_both (and_both (and_both (and_both (and_both (and_both (and_both (and_both (and_both (and_both (and_both (and_both (and_both (and_both (and_both (and_both (and_both (and_both (and_both (and_both (and_both (and_both (and_both (and_both fact_0 laidOut) fact_2) fact_3) fact_4) fact_5) fact_6) fact_7) fact_8) fact_9) fact_10) fact_11) fact_12) fact_13) fact_14) fact_15) fact_16) fact_17) fact_18) fact_19) fact_20) fact_21) fact_22) fact_23) fact_24) fact_25) fact_26) fact_27) fact_28) fact_29) fact_30) fact_31)
theorem tribunalQuestions_holds:Rows.TribunalQuestionsSaid:=
 OpenClaim.holds_of_wide 3 Tryz.f3 rfl rfl rfl rfl rfl rfl rfl ⟨rfl,rfl,rfl,rfl,rfl⟩ rfl rfl rfl rfl rfl named_five Tryz.func3 facts_all
 (of_decide_eq_true (by kernel_rfl)) (by unfold Func.isWrapper;first | (rw [if_pos (by decide+kernel)];kernel_rfl)| (rw [if_neg (by decide+kernel)];exact⟨rfl,rfl⟩))
 (fun os started H enc _=>lifted os started H enc)
end Go.Proofs.YtmmghibnfjfnbaaGreatDoor
