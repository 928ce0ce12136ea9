/-
  DERIVED. GIVEN WITH THE SEED: THE CARDS: each row of YtmmghibnfjfnbaaGreatDoorRows.lean that lists a variable, with what it lists TIED to the program's text (the seventh form; the later family's looks); each row that meets fmt, with fmt's text TOLD by the authors' own Lean function (tested against real Go, not proved from fmt's source: count such statements apart). THE CARD IS WHAT COUNTS. Prove the row's statement (the work); the ties are given (YtmmghibnfjfnbaaGreatDoorTie.lean); close each card by the builder's one call (the guide's Derived/Test/ToyasCard.lean, 'card_holds'). Laid BY PROGRAM, IN A SANDBOX (cutbox-door.mjs). By AI agents, Wed Nov 11 2026. No macro, syntax, notation, axiom, sorry.
-/
import Derived.Test.YtmmghibnfjfnbaaGreatDoorRows
import GoSem.ClaimSeven
namespace Go.Proofs.YtmmghibnfjfnbaaGreatDoor
namespace Rows

/-- THE TIED CARD OF 'patrollaw09.TribunalQuestions'. -/
def tribunalQuestionsCard : Claim7 := { stood := { row := tribunalQuestionsRow, standIns := [], harness := (true, "a803ed51420b42cf718b01ef785fe3ed8b19e6d7d9a68cbdbe88026da9521546"), looks := true }, kinds := [], alts := [], laidByText := true, laidKinds := [.pinned, .data, .sentinel, .sentinel, .data, .data, .data], laidTests := true, laidLooks := .later }
def TribunalQuestionsCardSaid : Prop := Claim7.holds Tryz.pinned (.plain (OpenSpec.ofChange tribunalQuestionsSpec)) tribunalQuestionsCard

/-- THE TIED CARD OF 'patrollaw09.TribunalBack'. -/
def tribunalBackCard : Claim7 := { stood := { row := tribunalBackRow, standIns := [], harness := (true, "a803ed51420b42cf718b01ef785fe3ed8b19e6d7d9a68cbdbe88026da9521546"), looks := true }, kinds := [], alts := [], laidByText := true, laidKinds := [.pinned, .data, .sentinel, .sentinel, .data, .data, .data], laidTests := true, laidLooks := .later }
def TribunalBackCardSaid : Prop := Claim7.holds Tryz.pinned (.plain (OpenSpec.ofChange tribunalBackSpec)) tribunalBackCard

/-- THE TIED CARD OF 'patrollaw09.TribunalReplies'. -/
def tribunalRepliesCard : Claim7 := { stood := { row := tribunalRepliesRow, standIns := [], harness := (true, "a803ed51420b42cf718b01ef785fe3ed8b19e6d7d9a68cbdbe88026da9521546"), looks := true }, kinds := [], alts := [], laidByText := true, laidKinds := [.pinned, .data, .sentinel, .sentinel, .data, .data, .data], laidTests := true, laidLooks := .later }
def TribunalRepliesCardSaid : Prop := Claim7.holds Tryz.pinned (.plain (OpenSpec.ofChange tribunalRepliesSpec)) tribunalRepliesCard

/-- THE SECOND FORM's CARD OF 'patrollaw09.TribunalQuestions'. -/
def tribunalQuestionsUptoCard : Claim7 := { stood := { row := tribunalQuestionsUptoRow, standIns := [], harness := (true, "a803ed51420b42cf718b01ef785fe3ed8b19e6d7d9a68cbdbe88026da9521546"), looks := true }, kinds := [], alts := [], laidByText := true, laidKinds := [.pinned, .data, .sentinel, .sentinel, .data, .data, .data], laidTests := true, laidLooks := .later }
def TribunalQuestionsUptoCardSaid : Prop := Claim7.holds Tryz.pinned (.plain (OpenSpec.upto tribunalQuestionsSpec)) tribunalQuestionsUptoCard

/-- THE SECOND FORM's CARD OF 'patrollaw09.TribunalBack'. -/
def tribunalBackUptoCard : Claim7 := { stood := { row := tribunalBackUptoRow, standIns := [], harness := (true, "a803ed51420b42cf718b01ef785fe3ed8b19e6d7d9a68cbdbe88026da9521546"), looks := true }, kinds := [], alts := [], laidByText := true, laidKinds := [.pinned, .data, .sentinel, .sentinel, .data, .data, .data], laidTests := true, laidLooks := .later }
def TribunalBackUptoCardSaid : Prop := Claim7.holds Tryz.pinned (.plain (OpenSpec.upto tribunalBackSpec)) tribunalBackUptoCard

/-- THE SECOND FORM's CARD OF 'patrollaw09.TribunalReplies'. -/
def tribunalRepliesUptoCard : Claim7 := { stood := { row := tribunalRepliesUptoRow, standIns := [], harness := (true, "a803ed51420b42cf718b01ef785fe3ed8b19e6d7d9a68cbdbe88026da9521546"), looks := true }, kinds := [], alts := [], laidByText := true, laidKinds := [.pinned, .data, .sentinel, .sentinel, .data, .data, .data], laidTests := true, laidLooks := .later }
def TribunalRepliesUptoCardSaid : Prop := Claim7.holds Tryz.pinned (.plain (OpenSpec.upto tribunalRepliesSpec)) tribunalRepliesUptoCard
end Rows
end Go.Proofs.YtmmghibnfjfnbaaGreatDoor
