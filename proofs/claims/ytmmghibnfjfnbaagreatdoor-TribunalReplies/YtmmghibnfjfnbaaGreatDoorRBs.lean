/- A part of the proof of TribunalReplies. -/
import Derived.Test.YtmmghibnfjfnbaaGreatDoorRBq
import Derived.Test.YtmmghibnfjfnbaaGreatDoorRBr
set_option linter.unusedVariables false
set_option linter.unusedSimpArgs false
namespace Go.Proofs.YtmmghibnfjfnbaaGreatDoor
open Go Go.ChangeShapes Go.WideShapes Go.ChangeAt Go.WideMaps Go.WideElems Go.RowKit
set_option maxRecDepth 1000000
theorem and_both {a b:Bool} (h:a=true) (k:b=true):(a&&b)=true:=by rw [h,k];rfl
theorem fact_0:(OpenClaim.wf (OpenSpec.ofChange Rows.tribunalRepliesSpec) Rows.tribunalRepliesRow)=true:=by kernel_rfl
theorem fact_3:(Tryz.f5.params.all fun x=>Tryz.prog.readableRec x)=true:=by kernel_rfl
theorem fact_4:(namedTie Tryz.prog Rows.tribunalRepliesRow.named Rows.tribunalRepliesSpec.vars)=true:=by kernel_rfl
theorem fact_5:(Rows.tribunalRepliesRow.stops==[])=true:=by kernel_rfl
theorem fact_6:(Tryz.prog.stops==[])=true:=by kernel_rfl
theorem fact_7:(Rows.tribunalRepliesRow.knobs==[])=true:=by kernel_rfl
theorem fact_8:(Tryz.prog.stopKnobs==[])=true:=by kernel_rfl
theorem fact_13:(Rows.tribunalRepliesRow.maps==(Tryz.f5.params.toList++DataSpec.varTypes Tryz.prog Rows.tribunalRepliesSpec.plain).any fun x=>Tryz.prog.mapsRec x)=true:=by kernel_rfl
theorem fact_14:(Rows.tribunalRepliesRow.ifaces==(Tryz.f5.params.toList++DataSpec.varTypes Tryz.prog Rows.tribunalRepliesSpec.plain).any fun x=>Tryz.prog.ifacesRec x)=true:=by kernel_rfl
theorem fact_15:(Rows.tribunalRepliesRow.mapsOut==Tryz.prog.mapsAmong Tryz.f5.resultTypes.toList)=true:=by kernel_rfl
theorem fact_16:(Rows.tribunalRepliesRow.loops==(Tryz.f5.params.toList++DataSpec.varTypes Tryz.prog Rows.tribunalRepliesSpec.plain).any fun x=>Tryz.prog.loopsFrom x)=true:=by kernel_rfl
theorem fact_17:(Rows.tribunalRepliesRow.wideKeys==((Tryz.f5.params.toList++DataSpec.varTypes Tryz.prog Rows.tribunalRepliesSpec.plain)++Tryz.f5.resultTypes.toList).any fun x=>Tryz.prog.wideKeysFrom x)=true:=by kernel_rfl
theorem fact_18:(Rows.tribunalRepliesSpec.vars.all fun x=>Tryz.prog.varReadable x)=true:=by kernel_rfl
theorem fact_19:(Tryz.f5.resultTypes.all fun t=>Tryz.prog.readableRec t&&decide (t<Tryz.prog.types.size))=true:=by kernel_rfl
theorem fact_20:(Rows.tribunalRepliesRow.ifacesOut==Tryz.f5.resultTypes.toList.any fun x=>Tryz.prog.ifacesRec x)=true:=by kernel_rfl
theorem fact_21:(Rows.tribunalRepliesRow.loopsOut==Tryz.f5.resultTypes.toList.any fun x=>Tryz.prog.loopsFrom x)=true:=by kernel_rfl
theorem fact_22:(Rows.tribunalRepliesRow.plainKeys==Tryz.prog.plainKeys)=true:=by kernel_rfl
theorem fact_23:(Rows.tribunalRepliesRow.shortTexts.isNone)=true:=by kernel_rfl
theorem fact_26:(Rows.tribunalRepliesRow.lifted==Tryz.prog.liftsFinal)=true:=by kernel_rfl
theorem fact_27:(Tryz.prog.make==some Rows.tribunalRepliesRow.make)=true:=by kernel_rfl
theorem fact_28:(Rows.tribunalRepliesRow.kinds==if Rows.tribunalRepliesRow.domain.isEmpty=true then [] else List.map (fun t=>match Tryz.prog.underlying t with | some (TypeDesc.int k)=>some k | _=>none) Tryz.f5.params.toList)=true:=by kernel_rfl
theorem fact_29:(Rows.tribunalRepliesRow.pinned==Rows.tribunalRepliesRow.pinnedBy)=true:=by kernel_rfl
theorem fact_30:(Rows.tribunalRepliesRow.veiled==((Tryz.f5.params.toList++DataSpec.varTypes Tryz.prog Rows.tribunalRepliesSpec.plain)++Tryz.f5.resultTypes.toList).any fun x=>Tryz.prog.veiledRec x)=true:=by kernel_rfl
theorem fact_31:(Rows.tribunalRepliesRow.veiledFits Tryz.prog Tryz.f5.params.toList ((Tryz.f5.params.toList++DataSpec.varTypes Tryz.prog Rows.tribunalRepliesSpec.plain)++Tryz.f5.resultTypes.toList))=true:=by kernel_rfl
theorem facts_all:joinedFacts Tryz.prog 5 Tryz.f5 Rows.tribunalRepliesSpec Rows.tribunalRepliesRow=true:=
 (and_both (and_both (and_both (and_both (and_both (and_both (and_both (and_both (and_both (and_both (and_both (and_both (and_both (and_both (and_both (and_both (and_both (and_both (and_both (and_both (and_both (and_both (and_both (and_both (and_both (and_both (and_both (and_both (and_both (and_both (and_both fact_0 laidOut) fact_2) fact_3) fact_4) fact_5) fact_6) fact_7) fact_8) fact_9) fact_10) fact_11) fact_12) fact_13) fact_14) fact_15) fact_16) fact_17) fact_18) fact_19) fact_20) fact_21) fact_22) fact_23) fact_24) fact_25) fact_26) fact_27) fact_28) fact_29) fact_30) fact_31)
theorem tribunalReplies_holds:Rows.TribunalRepliesSaid:=
 OpenClaim.holds_of_wide 5 Tryz.f5 rfl rfl rfl rfl rfl rfl rfl ⟨rfl,rfl,rfl,rfl,rfl⟩ rfl rfl rfl rfl rfl named_five Tryz.func5 facts_all
  (of_decide_eq_true (by kernel_rfl)) (by unfold Func.isWrapper;first | (rw [if_pos (by decide+kernel)];kernel_rfl)| (rw [if_neg (by decide+kernel)];exact⟨rfl,rfl⟩))
  (fun os started H enc _=>lifted os started H enc)
end Go.Proofs.YtmmghibnfjfnbaaGreatDoor
