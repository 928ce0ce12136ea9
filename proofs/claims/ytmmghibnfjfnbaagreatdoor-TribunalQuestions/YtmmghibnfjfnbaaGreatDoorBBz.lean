/- For every question and every text, the law TribunalQuestions returns true and leaves its arguments as they were. Its parts that name TribunalBack are shared with that proof. Condition: the tables and errors of the library that the row lists read as the program's text lays them (tied). -/
import Derived.Test.YtmmghibnfjfnbaaGreatDoorBBx
import Derived.Test.YtmmghibnfjfnbaaGreatDoorBBy
import Derived.Test.YtmmghibnfjfnbaaGreatDoorCards
set_option linter.unusedVariables false
set_option linter.unusedSimpArgs false
namespace Go.Proofs.YtmmghibnfjfnbaaGreatDoor
open Go
set_option maxRecDepth 1000000
theorem main_is:Tryz.prog.mainIs=some (true, "a803ed51420b42cf718b01ef785fe3ed8b19e6d7d9a68cbdbe88026da9521546".toList):=by kernel_rfl
theorem looks_none:true=Tryz.prog.looks []:=by kernel_rfl
theorem stand_in:([27,9].all fun u=> !Tryz.prog.wantsStandIn u)=true:=by kernel_rfl
theorem well_formed:OpenClaim.wfByText (OpenSpec.ofChange Rows.tribunalQuestionsSpec) Rows.tribunalQuestionsRow=true:=by kernel_rfl
theorem goes_by:false=Rows.tribunalQuestionsRow.goesBy Tryz.prog:=by
 show false=((Tryz.prog.funcNamed "patrol/patrollaw09.TribunalQuestions").any Tryz.prog.goes||false)
 rw [named_five,Option.any_some,goes5];rfl
theorem tribunalQuestions_card_holds:Rows.TribunalQuestionsCardSaid:=
 Claim7.holds_tied_plain_at .later [] [.pinned, .data, .sentinel, .sentinel, .data, .data, .data] true (true, "a803ed51420b42cf718b01ef785fe3ed8b19e6d7d9a68cbdbe88026da9521546") true
  tribunalQuestions_holds (fun _ h=>by cases h) well_formed (fun _ h=>by cases h) row_tied rfl ⟨rfl,rfl⟩ main_is rfl
  (fun f fn hf hfn=>by
   obtain rfl:f=3:=Option.some.inj (named_five.symm.trans hf)|>.symm
   obtain rfl:fn=Tryz.f3:=(Option.some.inj (Tryz.func3.symm.trans hfn)).symm
   exact⟨looks_none,fun j t ht=>by
    rw [par5] at ht
    have hm:t∈[27,9]:=by simpa using Array.mem_of_getElem? ht
    exact (show Tryz.prog.wantsStandIn t=false by simpa using List.all_eq_true.1 stand_in t hm)⟩)
  goes_by
end Go.Proofs.YtmmghibnfjfnbaaGreatDoor
