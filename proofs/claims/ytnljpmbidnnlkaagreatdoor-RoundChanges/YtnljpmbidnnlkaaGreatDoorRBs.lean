/- For every case, mark, further mark and list of indices, the law RoundChanges returns true and leaves its arguments as they were. Condition: the table of the library that the row lists reads as the program's text lays it (tied). -/
import Derived.Test.YtnljpmbidnnlkaaGreatDoorRBo
import Derived.Test.YtnljpmbidnnlkaaGreatDoorRBp
import Derived.Test.YtnljpmbidnnlkaaGreatDoorRBq
import Derived.Test.YtnljpmbidnnlkaaGreatDoorRBr
set_option maxRecDepth 1000000
set_option linter.unusedVariables false
set_option linter.unusedSimpArgs false
namespace Go.Proofs.YtnljpmbidnnlkaaGreatDoor
open Go
theorem bBU:Tryz.prog.goes 4=false:=by
 unfold Program.goes
 rw [bBS,bBV,Bool.and_false];rfl
theorem bCD:false=Rows.roundChangesRow.goesBy Tryz.prog:=by
 show false=((Tryz.prog.funcNamed "patrol/patrollaw05.RoundChanges").any Tryz.prog.goes||false)
 rw [bBP,Option.any_some,bBU];rfl
theorem roundChanges_card_holds:Rows.RoundChangesCardSaid:=
 Claim7.holds_tied_plain_at .later [] [.data] true (true, "7e9b2c2b55ac0849a4a84a2f1ecccd5bb509b09162c724fbe0abac7d7ed0f99e") true
  sI (fun _ h=>by cases h) bBQ (fun _ h=>by cases h) roundChanges_row_tie rfl ⟨rfl,rfl⟩ bCB rfl
  (fun f fn hf hfn=>by
   obtain rfl:f=4:=Option.some.inj (bBP.symm.trans hf)|>.symm
   obtain rfl:fn=Tryz.f4:=(Option.some.inj (Tryz.func4.symm.trans hfn)).symm
   exact⟨bBR,fun j t ht=>by
    rw [p4] at ht
    have hm:t∈[42,3,50,51]:=by simpa using Array.mem_of_getElem? ht
    exact (show Tryz.prog.wantsStandIn t=false by simpa using List.all_eq_true.1 bBW t hm)⟩)
  bCD
end Go.Proofs.YtnljpmbidnnlkaaGreatDoor
