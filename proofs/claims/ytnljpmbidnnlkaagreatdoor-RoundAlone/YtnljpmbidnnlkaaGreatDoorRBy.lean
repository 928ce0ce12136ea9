/- For every case without marks, the law RoundAlone returns true and leaves its argument as it was. Condition: the table of the library that the row lists reads as the program's text lays it (tied). -/
import Derived.Test.YtnljpmbidnnlkaaGreatDoorRBu
import Derived.Test.YtnljpmbidnnlkaaGreatDoorRBv
import Derived.Test.YtnljpmbidnnlkaaGreatDoorRBw
import Derived.Test.YtnljpmbidnnlkaaGreatDoorRBx
set_option maxRecDepth 1000000
set_option linter.unusedVariables false
set_option linter.unusedSimpArgs false
namespace Go.Proofs.YtnljpmbidnnlkaaGreatDoor
open Go
theorem EK:Tryz.prog.goes 5=false:=by
 unfold Program.goes
 rw [Ej,Hs,Bool.and_false];rfl
theorem KO:false=Rows.roundAloneRow.goesBy Tryz.prog:=by
 show false=((Tryz.prog.funcNamed "patrol/patrollaw05.RoundAlone").any Tryz.prog.goes||false)
 rw [vA,Option.any_some,EK];rfl
theorem roundAlone_card_holds:Rows.RoundAloneCardSaid:=
 Claim7.holds_tied_plain_at .later [] [.data] true (true, "7e9b2c2b55ac0849a4a84a2f1ecccd5bb509b09162c724fbe0abac7d7ed0f99e") true
  sQ (fun _ h=>by cases h) Ar (fun _ h=>by cases h) roundAlone_row_tie rfl ⟨rfl,rfl⟩ LX rfl
  (fun f fn hf hfn=>by
   obtain rfl:f=5:=Option.some.inj (vA.symm.trans hf)|>.symm
   obtain rfl:fn=Tryz.f5:=(Option.some.inj (Tryz.func5.symm.trans hfn)).symm
   exact⟨Bp,fun j t ht=>by
    rw [p5] at ht
    have hm:t∈[42]:=by simpa using Array.mem_of_getElem? ht
    exact (show Tryz.prog.wantsStandIn t=false by simpa using List.all_eq_true.1 Gc t hm)⟩)
  KO
end Go.Proofs.YtnljpmbidnnlkaaGreatDoor
