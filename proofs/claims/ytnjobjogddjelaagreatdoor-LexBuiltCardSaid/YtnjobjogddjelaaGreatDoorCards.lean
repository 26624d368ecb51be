/-
  DERIVED. GIVEN WITH THE SEED: THE CARDS: each row of YtnjobjogddjelaaGreatDoorRows.lean that lists a variable, with what it lists TIED to the program's text (the seventh form; the later family's looks); each row that meets fmt, with fmt's text TOLD by the authors' own Lean function (tested against real Go, not proved from fmt's source: count such statements apart). THE CARD IS WHAT COUNTS. Prove the row's statement (the work); the ties are given (YtnjobjogddjelaaGreatDoorTie.lean); close each card by the builder's one call (the guide's Derived/Test/ToyasCard.lean, 'card_holds'). Laid BY PROGRAM, IN A SANDBOX (cutbox-door.mjs). By AI agents, Wed Nov 11 2026. No macro, syntax, notation, axiom, sorry.
-/
import Derived.Test.YtnjobjogddjelaaGreatDoorRows
import GoSem.ClaimSeven
namespace Go.Proofs.YtnjobjogddjelaaGreatDoor
namespace Rows

/-- THE TIED CARD OF 'spillwaylaw7.LexTells'. -/
def lexTellsCard : Claim7 := { stood := { row := lexTellsRow, standIns := [], harness := (true, "e8129e1641e230536b141cb6c36b73d9e0e2346b9270e988dc407aab4ef5da5f"), looks := true }, kinds := [], alts := [], laidByText := true, laidKinds := [.data, .data, .data, .data, .sentinel, .sentinel, .pinned], laidTests := true, laidLooks := .later }
def LexTellsCardSaid : Prop := Claim7.holds Tryz.pinned (.plain (OpenSpec.ofChange lexTellsSpec)) lexTellsCard

/-- THE TIED CARD OF 'spillwaylaw7.LexBack'. -/
def lexBackCard : Claim7 := { stood := { row := lexBackRow, standIns := [], harness := (true, "e8129e1641e230536b141cb6c36b73d9e0e2346b9270e988dc407aab4ef5da5f"), looks := true }, kinds := [], alts := [], laidByText := true, laidKinds := [.data, .data, .data, .data, .sentinel, .sentinel, .pinned], laidTests := true, laidLooks := .later }
def LexBackCardSaid : Prop := Claim7.holds Tryz.pinned (.plain (OpenSpec.ofChange lexBackSpec)) lexBackCard

/-- THE TIED CARD OF 'spillwaylaw7.LexJoins'. -/
def lexJoinsCard : Claim7 := { stood := { row := lexJoinsRow, standIns := [], harness := (true, "e8129e1641e230536b141cb6c36b73d9e0e2346b9270e988dc407aab4ef5da5f"), looks := true }, kinds := [], alts := [], laidByText := true, laidKinds := [.data, .data, .data, .data, .sentinel, .sentinel, .pinned], laidTests := true, laidLooks := .later }
def LexJoinsCardSaid : Prop := Claim7.holds Tryz.pinned (.plain (OpenSpec.ofChange lexJoinsSpec)) lexJoinsCard

/-- THE TIED CARD OF 'spillwaylaw7.LexBuilt'. -/
def lexBuiltCard : Claim7 := { stood := { row := lexBuiltRow, standIns := [], harness := (true, "e8129e1641e230536b141cb6c36b73d9e0e2346b9270e988dc407aab4ef5da5f"), looks := true }, kinds := [], alts := [], laidByText := true, laidKinds := [.data, .data, .data, .data, .sentinel, .sentinel, .pinned], laidTests := true, laidLooks := .later }
def LexBuiltCardSaid : Prop := Claim7.holds Tryz.pinned (.plain (OpenSpec.ofChange lexBuiltSpec)) lexBuiltCard

/-- THE TIED CARD OF 'spillwaylaw7.LexSigns'. -/
def lexSignsCard : Claim7 := { stood := { row := lexSignsRow, standIns := [], harness := (true, "e8129e1641e230536b141cb6c36b73d9e0e2346b9270e988dc407aab4ef5da5f"), looks := true }, kinds := [], alts := [], laidByText := true, laidKinds := [.data, .data, .data, .data, .sentinel, .sentinel, .pinned], laidTests := true, laidLooks := .later }
def LexSignsCardSaid : Prop := Claim7.holds Tryz.pinned (.plain (OpenSpec.ofChange lexSignsSpec)) lexSignsCard

/-- THE SECOND FORM's CARD OF 'spillwaylaw7.LexTells'. -/
def lexTellsUptoCard : Claim7 := { stood := { row := lexTellsUptoRow, standIns := [], harness := (true, "e8129e1641e230536b141cb6c36b73d9e0e2346b9270e988dc407aab4ef5da5f"), looks := true }, kinds := [], alts := [], laidByText := true, laidKinds := [.data, .data, .data, .data, .sentinel, .sentinel, .pinned], laidTests := true, laidLooks := .later }
def LexTellsUptoCardSaid : Prop := Claim7.holds Tryz.pinned (.plain (OpenSpec.upto lexTellsSpec)) lexTellsUptoCard

/-- THE SECOND FORM's CARD OF 'spillwaylaw7.LexBack'. -/
def lexBackUptoCard : Claim7 := { stood := { row := lexBackUptoRow, standIns := [], harness := (true, "e8129e1641e230536b141cb6c36b73d9e0e2346b9270e988dc407aab4ef5da5f"), looks := true }, kinds := [], alts := [], laidByText := true, laidKinds := [.data, .data, .data, .data, .sentinel, .sentinel, .pinned], laidTests := true, laidLooks := .later }
def LexBackUptoCardSaid : Prop := Claim7.holds Tryz.pinned (.plain (OpenSpec.upto lexBackSpec)) lexBackUptoCard

/-- THE SECOND FORM's CARD OF 'spillwaylaw7.LexJoins'. -/
def lexJoinsUptoCard : Claim7 := { stood := { row := lexJoinsUptoRow, standIns := [], harness := (true, "e8129e1641e230536b141cb6c36b73d9e0e2346b9270e988dc407aab4ef5da5f"), looks := true }, kinds := [], alts := [], laidByText := true, laidKinds := [.data, .data, .data, .data, .sentinel, .sentinel, .pinned], laidTests := true, laidLooks := .later }
def LexJoinsUptoCardSaid : Prop := Claim7.holds Tryz.pinned (.plain (OpenSpec.upto lexJoinsSpec)) lexJoinsUptoCard

/-- THE SECOND FORM's CARD OF 'spillwaylaw7.LexBuilt'. -/
def lexBuiltUptoCard : Claim7 := { stood := { row := lexBuiltUptoRow, standIns := [], harness := (true, "e8129e1641e230536b141cb6c36b73d9e0e2346b9270e988dc407aab4ef5da5f"), looks := true }, kinds := [], alts := [], laidByText := true, laidKinds := [.data, .data, .data, .data, .sentinel, .sentinel, .pinned], laidTests := true, laidLooks := .later }
def LexBuiltUptoCardSaid : Prop := Claim7.holds Tryz.pinned (.plain (OpenSpec.upto lexBuiltSpec)) lexBuiltUptoCard

/-- THE SECOND FORM's CARD OF 'spillwaylaw7.LexSigns'. -/
def lexSignsUptoCard : Claim7 := { stood := { row := lexSignsUptoRow, standIns := [], harness := (true, "e8129e1641e230536b141cb6c36b73d9e0e2346b9270e988dc407aab4ef5da5f"), looks := true }, kinds := [], alts := [], laidByText := true, laidKinds := [.data, .data, .data, .data, .sentinel, .sentinel, .pinned], laidTests := true, laidLooks := .later }
def LexSignsUptoCardSaid : Prop := Claim7.holds Tryz.pinned (.plain (OpenSpec.upto lexSignsSpec)) lexSignsUptoCard
end Rows
end Go.Proofs.YtnjobjogddjelaaGreatDoor
