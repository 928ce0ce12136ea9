/- A part of the proof of TribunalBack. -/
import Derived.Test.YtmmghibnfjfnbaaGreatDoorBBv
import Derived.Test.YtmmghibnfjfnbaaGreatDoorBBw
set_option linter.unusedVariables false
set_option linter.unusedSimpArgs false
namespace Go.Proofs.YtmmghibnfjfnbaaGreatDoor
open Go Go.ChangeShapes Go.WideShapes Go.ChangeAt Go.WideMaps Go.WideElems Go.RowKit
set_option maxRecDepth 1000000
theorem and_both {a b:Bool} (h:a=true) (k:b=true):(a&&b)=true:=by rw [h,k];rfl
theorem fact_0:(OpenClaim.wf (OpenSpec.ofChange Rows.tribunalBackSpec) Rows.tribunalBackRow)=true:=by kernel_rfl
theorem fact_3:(Tryz.f4.params.all fun x=>Tryz.prog.readableRec x)=true:=by kernel_rfl
theorem fact_4:(namedTie Tryz.prog Rows.tribunalBackRow.named Rows.tribunalBackSpec.vars)=true:=by kernel_rfl
theorem fact_5:(Rows.tribunalBackRow.stops==[])=true:=by kernel_rfl
theorem fact_6:(Tryz.prog.stops==[])=true:=by kernel_rfl
theorem fact_7:(Rows.tribunalBackRow.knobs==[])=true:=by kernel_rfl
theorem fact_8:(Tryz.prog.stopKnobs==[])=true:=by kernel_rfl
theorem fact_13:(Rows.tribunalBackRow.maps==(Tryz.f4.params.toList++DataSpec.varTypes Tryz.prog Rows.tribunalBackSpec.plain).any fun x=>Tryz.prog.mapsRec x)=true:=by kernel_rfl
theorem fact_14:(Rows.tribunalBackRow.ifaces==(Tryz.f4.params.toList++DataSpec.varTypes Tryz.prog Rows.tribunalBackSpec.plain).any fun x=>Tryz.prog.ifacesRec x)=true:=by kernel_rfl
theorem fact_15:(Rows.tribunalBackRow.mapsOut==Tryz.prog.mapsAmong Tryz.f4.resultTypes.toList)=true:=by kernel_rfl
theorem fact_16:(Rows.tribunalBackRow.loops==(Tryz.f4.params.toList++DataSpec.varTypes Tryz.prog Rows.tribunalBackSpec.plain).any fun x=>Tryz.prog.loopsFrom x)=true:=by kernel_rfl
theorem fact_17:(Rows.tribunalBackRow.wideKeys==((Tryz.f4.params.toList++DataSpec.varTypes Tryz.prog Rows.tribunalBackSpec.plain)++Tryz.f4.resultTypes.toList).any fun x=>Tryz.prog.wideKeysFrom x)=true:=by kernel_rfl
theorem fact_18:(Rows.tribunalBackSpec.vars.all fun x=>Tryz.prog.varReadable x)=true:=by kernel_rfl
theorem fact_19:(Tryz.f4.resultTypes.all fun t=>Tryz.prog.readableRec t&&decide (t<Tryz.prog.types.size))=true:=by kernel_rfl
theorem fact_20:(Rows.tribunalBackRow.ifacesOut==Tryz.f4.resultTypes.toList.any fun x=>Tryz.prog.ifacesRec x)=true:=by kernel_rfl
theorem fact_21:(Rows.tribunalBackRow.loopsOut==Tryz.f4.resultTypes.toList.any fun x=>Tryz.prog.loopsFrom x)=true:=by kernel_rfl
theorem fact_22:(Rows.tribunalBackRow.plainKeys==Tryz.prog.plainKeys)=true:=by kernel_rfl
theorem fact_23:(Rows.tribunalBackRow.shortTexts.isNone)=true:=by kernel_rfl
theorem fact_26:(Rows.tribunalBackRow.lifted==Tryz.prog.liftsFinal)=true:=by kernel_rfl
theorem fact_27:(Tryz.prog.make==some Rows.tribunalBackRow.make)=true:=by kernel_rfl
theorem fact_28:(Rows.tribunalBackRow.kinds==if Rows.tribunalBackRow.domain.isEmpty=true then [] else List.map (fun t=>match Tryz.prog.underlying t with | some (TypeDesc.int k)=>some k | _=>none) Tryz.f4.params.toList)=true:=by kernel_rfl
theorem fact_29:(Rows.tribunalBackRow.pinned==Rows.tribunalBackRow.pinnedBy)=true:=by kernel_rfl
theorem fact_30:(Rows.tribunalBackRow.veiled==((Tryz.f4.params.toList++DataSpec.varTypes Tryz.prog Rows.tribunalBackSpec.plain)++Tryz.f4.resultTypes.toList).any fun x=>Tryz.prog.veiledRec x)=true:=by kernel_rfl
theorem fact_31:(Rows.tribunalBackRow.veiledFits Tryz.prog Tryz.f4.params.toList ((Tryz.f4.params.toList++DataSpec.varTypes Tryz.prog Rows.tribunalBackSpec.plain)++Tryz.f4.resultTypes.toList))=true:=by kernel_rfl
theorem facts_all:joinedFacts Tryz.prog 4 Tryz.f4 Rows.tribunalBackSpec Rows.tribunalBackRow=true:=
 (and_both (and_both (and_both (and_both (and_both (and_both (and_both (and_both (and_both (and_both (and_both (and_both (and_both (and_both (and_both (and_both (and_both (and_both (and_both (and_both (and_both (and_both (and_both (and_both (and_both (and_both (and_both (and_both (and_both (and_both (and_both fact_0 laidOut) fact_2) fact_3) fact_4) fact_5) fact_6) fact_7) fact_8) fact_9) fact_10) fact_11) fact_12) fact_13) fact_14) fact_15) fact_16) fact_17) fact_18) fact_19) fact_20) fact_21) fact_22) fact_23) fact_24) fact_25) fact_26) fact_27) fact_28) fact_29) fact_30) fact_31)
theorem tribunalBack_holds:Rows.TribunalBackSaid:=
 OpenClaim.holds_of_wide 4 Tryz.f4 rfl rfl rfl rfl rfl rfl rfl ⟨rfl,rfl,rfl,rfl,rfl⟩ rfl rfl rfl rfl rfl named_five Tryz.func4 facts_all
 (of_decide_eq_true (by kernel_rfl)) (by unfold Func.isWrapper;first | (rw [if_pos (by decide+kernel)];kernel_rfl)| (rw [if_neg (by decide+kernel)];exact⟨rfl,rfl⟩))
 (fun os started H enc _=>lifted os started H enc)
end Go.Proofs.YtmmghibnfjfnbaaGreatDoor
