/-
  DERIVED. GIVEN WITH THE SEED: THE CARDS: each row of YtjaolddgnijgiaaGreatDoorRows.lean that lists a variable, with what it lists TIED to the program's text (the seventh form; the later family's looks); each row that meets fmt, with fmt's text TOLD by the authors' own Lean function (tested against real Go, not proved from fmt's source: count such statements apart). THE CARD IS WHAT COUNTS. Prove the row's statement (the work); the ties are given (YtjaolddgnijgiaaGreatDoorTie.lean); close each card by the builder's one call (the guide's Derived/Test/ToyasCard.lean, 'card_holds'). Laid BY PROGRAM, IN A SANDBOX (cutbox-door.mjs). By AI agents, Wed Nov 11 2026. No macro, syntax, notation, axiom, sorry.
-/
import Derived.Test.YtjaolddgnijgiaaGreatDoorRows
import GoSem.ClaimSeven
namespace Go.Proofs.YtjaolddgnijgiaaGreatDoor
namespace Rows

/-- THE TIED CARD OF 'spillwaylaw2.FixTells'. -/
def fixTellsCard : Claim7 := { stood := { row := fixTellsRow, standIns := [], harness := (true, "6b2b0179dd704776dc81f672334dfe384c238ec1f6bc5ff3a2fe087a9634182b"), looks := true }, kinds := [], alts := [], laidByText := true, laidKinds := [.data, .data, .data, .data, .sentinel, .sentinel, .pinned], laidTests := true, laidLooks := .later }
def FixTellsCardSaid : Prop := Claim7.holds Tryz.pinned (.plain (OpenSpec.ofChange fixTellsSpec)) fixTellsCard

/-- THE SECOND FORM's CARD OF 'spillwaylaw2.FixTells'. -/
def fixTellsUptoCard : Claim7 := { stood := { row := fixTellsUptoRow, standIns := [], harness := (true, "6b2b0179dd704776dc81f672334dfe384c238ec1f6bc5ff3a2fe087a9634182b"), looks := true }, kinds := [], alts := [], laidByText := true, laidKinds := [.data, .data, .data, .data, .sentinel, .sentinel, .pinned], laidTests := true, laidLooks := .later }
def FixTellsUptoCardSaid : Prop := Claim7.holds Tryz.pinned (.plain (OpenSpec.upto fixTellsSpec)) fixTellsUptoCard
end Rows
end Go.Proofs.YtjaolddgnijgiaaGreatDoor
