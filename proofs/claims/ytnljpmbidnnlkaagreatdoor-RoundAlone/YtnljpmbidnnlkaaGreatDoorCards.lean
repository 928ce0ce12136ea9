/-
  DERIVED. GIVEN WITH THE SEED: THE CARDS: each row of YtnljpmbidnnlkaaGreatDoorRows.lean that lists a variable, with what it lists TIED to the program's text (the seventh form; the later family's looks); each row that meets fmt, with fmt's text TOLD by the authors' own Lean function (tested against real Go, not proved from fmt's source: count such statements apart). THE CARD IS WHAT COUNTS. Prove the row's statement (the work); the ties are given (YtnljpmbidnnlkaaGreatDoorTie.lean); close each card by the builder's one call (the guide's Derived/Test/ToyasCard.lean, 'card_holds'). Laid BY PROGRAM, IN A SANDBOX (cutbox-door.mjs). By AI agents, Wed Nov 11 2026. No macro, syntax, notation, axiom, sorry.
-/
import Derived.Test.YtnljpmbidnnlkaaGreatDoorRows
import GoSem.ClaimSeven
namespace Go.Proofs.YtnljpmbidnnlkaaGreatDoor
namespace Rows

/-- THE TIED CARD OF 'patrollaw05.RoundChecks'. -/
def roundChecksCard : Claim7 := { stood := { row := roundChecksRow, standIns := [], harness := (true, "7e9b2c2b55ac0849a4a84a2f1ecccd5bb509b09162c724fbe0abac7d7ed0f99e"), looks := true }, kinds := [], alts := [], laidByText := true, laidKinds := [.data], laidTests := true, laidLooks := .later }
def RoundChecksCardSaid : Prop := Claim7.holds Tryz.pinned (.plain (OpenSpec.ofChange roundChecksSpec)) roundChecksCard

/-- THE TIED CARD OF 'patrollaw05.RoundChanges'. -/
def roundChangesCard : Claim7 := { stood := { row := roundChangesRow, standIns := [], harness := (true, "7e9b2c2b55ac0849a4a84a2f1ecccd5bb509b09162c724fbe0abac7d7ed0f99e"), looks := true }, kinds := [], alts := [], laidByText := true, laidKinds := [.data], laidTests := true, laidLooks := .later }
def RoundChangesCardSaid : Prop := Claim7.holds Tryz.pinned (.plain (OpenSpec.ofChange roundChangesSpec)) roundChangesCard

/-- THE TIED CARD OF 'patrollaw05.RoundAlone'. -/
def roundAloneCard : Claim7 := { stood := { row := roundAloneRow, standIns := [], harness := (true, "7e9b2c2b55ac0849a4a84a2f1ecccd5bb509b09162c724fbe0abac7d7ed0f99e"), looks := true }, kinds := [], alts := [], laidByText := true, laidKinds := [.data], laidTests := true, laidLooks := .later }
def RoundAloneCardSaid : Prop := Claim7.holds Tryz.pinned (.plain (OpenSpec.ofChange roundAloneSpec)) roundAloneCard

/-- THE SECOND FORM's CARD OF 'patrollaw05.RoundChecks'. -/
def roundChecksUptoCard : Claim7 := { stood := { row := roundChecksUptoRow, standIns := [], harness := (true, "7e9b2c2b55ac0849a4a84a2f1ecccd5bb509b09162c724fbe0abac7d7ed0f99e"), looks := true }, kinds := [], alts := [], laidByText := true, laidKinds := [.data], laidTests := true, laidLooks := .later }
def RoundChecksUptoCardSaid : Prop := Claim7.holds Tryz.pinned (.plain (OpenSpec.upto roundChecksSpec)) roundChecksUptoCard

/-- THE SECOND FORM's CARD OF 'patrollaw05.RoundChanges'. -/
def roundChangesUptoCard : Claim7 := { stood := { row := roundChangesUptoRow, standIns := [], harness := (true, "7e9b2c2b55ac0849a4a84a2f1ecccd5bb509b09162c724fbe0abac7d7ed0f99e"), looks := true }, kinds := [], alts := [], laidByText := true, laidKinds := [.data], laidTests := true, laidLooks := .later }
def RoundChangesUptoCardSaid : Prop := Claim7.holds Tryz.pinned (.plain (OpenSpec.upto roundChangesSpec)) roundChangesUptoCard

/-- THE SECOND FORM's CARD OF 'patrollaw05.RoundAlone'. -/
def roundAloneUptoCard : Claim7 := { stood := { row := roundAloneUptoRow, standIns := [], harness := (true, "7e9b2c2b55ac0849a4a84a2f1ecccd5bb509b09162c724fbe0abac7d7ed0f99e"), looks := true }, kinds := [], alts := [], laidByText := true, laidKinds := [.data], laidTests := true, laidLooks := .later }
def RoundAloneUptoCardSaid : Prop := Claim7.holds Tryz.pinned (.plain (OpenSpec.upto roundAloneSpec)) roundAloneUptoCard
end Rows
end Go.Proofs.YtnljpmbidnnlkaaGreatDoor
