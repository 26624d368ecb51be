/-
  DERIVED. GIVEN WITH THE SEED: THE CARDS: each row of YtfgffjchphignaaGreatDoorRows.lean that lists a variable, with what it lists TIED to the program's text (the seventh form; the later family's looks); each row that meets fmt, with fmt's text TOLD by the authors' own Lean function (tested against real Go, not proved from fmt's source: count such statements apart). THE CARD IS WHAT COUNTS. Prove the row's statement (the work); the ties are given (YtfgffjchphignaaGreatDoorTie.lean); close each card by the builder's one call (the guide's Derived/Test/ToyasCard.lean, 'card_holds'). Laid BY PROGRAM, IN A SANDBOX (cutbox-door.mjs). By AI agents, Wed Nov 11 2026. No macro, syntax, notation, axiom, sorry.
-/
import Derived.Test.YtfgffjchphignaaGreatDoorRows
import GoSem.ClaimSeven
namespace Go.Proofs.YtfgffjchphignaaGreatDoor
namespace Rows

/-- THE TIED CARD OF 'spillwaylaw6.ExpoTells'. -/
def expoTellsCard : Claim7 := { stood := { row := expoTellsRow, standIns := [], harness := (true, "8bd7d637e570626d48d32d3685a7146a3b46c976d507de3921699471d40eaf44"), looks := true }, kinds := [], alts := [], laidByText := true, laidKinds := [.data, .data, .data, .data, .sentinel, .sentinel, .pinned], laidTests := true, laidLooks := .later }
def ExpoTellsCardSaid : Prop := Claim7.holds Tryz.pinned (.plain (OpenSpec.ofChange expoTellsSpec)) expoTellsCard

/-- THE TIED CARD OF 'spillwaylaw6.ExpoLines'. -/
def expoLinesCard : Claim7 := { stood := { row := expoLinesRow, standIns := [], harness := (true, "8bd7d637e570626d48d32d3685a7146a3b46c976d507de3921699471d40eaf44"), looks := true }, kinds := [], alts := [], laidByText := true, laidKinds := [.data, .data, .data, .data, .sentinel, .sentinel, .pinned], laidTests := true, laidLooks := .later }
def ExpoLinesCardSaid : Prop := Claim7.holds Tryz.pinned (.plain (OpenSpec.ofChange expoLinesSpec)) expoLinesCard

/-- THE TIED CARD OF 'spillwaylaw6.ExpoKinds'. -/
def expoKindsCard : Claim7 := { stood := { row := expoKindsRow, standIns := [], harness := (true, "8bd7d637e570626d48d32d3685a7146a3b46c976d507de3921699471d40eaf44"), looks := true }, kinds := [], alts := [], laidByText := true, laidKinds := [.data, .data, .data, .data, .sentinel, .sentinel, .pinned], laidTests := true, laidLooks := .later }
def ExpoKindsCardSaid : Prop := Claim7.holds Tryz.pinned (.plain (OpenSpec.ofChange expoKindsSpec)) expoKindsCard

/-- THE TIED CARD OF 'spillwaylaw6.ExpoLong'. -/
def expoLongCard : Claim7 := { stood := { row := expoLongRow, standIns := [], harness := (true, "8bd7d637e570626d48d32d3685a7146a3b46c976d507de3921699471d40eaf44"), looks := true }, kinds := [], alts := [], laidByText := true, laidKinds := [.data, .data, .data, .data, .sentinel, .sentinel, .pinned], laidTests := true, laidLooks := .later }
def ExpoLongCardSaid : Prop := Claim7.holds Tryz.pinned (.plain (OpenSpec.ofChange expoLongSpec)) expoLongCard

/-- THE TIED CARD OF 'spillwaylaw6.ExpoBuilt'. -/
def expoBuiltCard : Claim7 := { stood := { row := expoBuiltRow, standIns := [], harness := (true, "8bd7d637e570626d48d32d3685a7146a3b46c976d507de3921699471d40eaf44"), looks := true }, kinds := [], alts := [], laidByText := true, laidKinds := [.data, .data, .data, .data, .sentinel, .sentinel, .pinned], laidTests := true, laidLooks := .later }
def ExpoBuiltCardSaid : Prop := Claim7.holds Tryz.pinned (.plain (OpenSpec.ofChange expoBuiltSpec)) expoBuiltCard

/-- THE TIED CARD OF 'spillwaylaw6.ExpoPrints'. -/
def expoPrintsCard : Claim7 := { stood := { row := expoPrintsRow, standIns := [], harness := (true, "8bd7d637e570626d48d32d3685a7146a3b46c976d507de3921699471d40eaf44"), looks := true }, kinds := [], alts := [], laidByText := true, laidKinds := [.data, .data, .data, .data, .sentinel, .sentinel, .pinned], laidTests := true, laidLooks := .later }
def ExpoPrintsCardSaid : Prop := Claim7.holds Tryz.pinned (.plain (OpenSpec.ofChange expoPrintsSpec)) expoPrintsCard

/-- THE SECOND FORM's CARD OF 'spillwaylaw6.ExpoTells'. -/
def expoTellsUptoCard : Claim7 := { stood := { row := expoTellsUptoRow, standIns := [], harness := (true, "8bd7d637e570626d48d32d3685a7146a3b46c976d507de3921699471d40eaf44"), looks := true }, kinds := [], alts := [], laidByText := true, laidKinds := [.data, .data, .data, .data, .sentinel, .sentinel, .pinned], laidTests := true, laidLooks := .later }
def ExpoTellsUptoCardSaid : Prop := Claim7.holds Tryz.pinned (.plain (OpenSpec.upto expoTellsSpec)) expoTellsUptoCard

/-- THE SECOND FORM's CARD OF 'spillwaylaw6.ExpoLines'. -/
def expoLinesUptoCard : Claim7 := { stood := { row := expoLinesUptoRow, standIns := [], harness := (true, "8bd7d637e570626d48d32d3685a7146a3b46c976d507de3921699471d40eaf44"), looks := true }, kinds := [], alts := [], laidByText := true, laidKinds := [.data, .data, .data, .data, .sentinel, .sentinel, .pinned], laidTests := true, laidLooks := .later }
def ExpoLinesUptoCardSaid : Prop := Claim7.holds Tryz.pinned (.plain (OpenSpec.upto expoLinesSpec)) expoLinesUptoCard

/-- THE SECOND FORM's CARD OF 'spillwaylaw6.ExpoKinds'. -/
def expoKindsUptoCard : Claim7 := { stood := { row := expoKindsUptoRow, standIns := [], harness := (true, "8bd7d637e570626d48d32d3685a7146a3b46c976d507de3921699471d40eaf44"), looks := true }, kinds := [], alts := [], laidByText := true, laidKinds := [.data, .data, .data, .data, .sentinel, .sentinel, .pinned], laidTests := true, laidLooks := .later }
def ExpoKindsUptoCardSaid : Prop := Claim7.holds Tryz.pinned (.plain (OpenSpec.upto expoKindsSpec)) expoKindsUptoCard

/-- THE SECOND FORM's CARD OF 'spillwaylaw6.ExpoLong'. -/
def expoLongUptoCard : Claim7 := { stood := { row := expoLongUptoRow, standIns := [], harness := (true, "8bd7d637e570626d48d32d3685a7146a3b46c976d507de3921699471d40eaf44"), looks := true }, kinds := [], alts := [], laidByText := true, laidKinds := [.data, .data, .data, .data, .sentinel, .sentinel, .pinned], laidTests := true, laidLooks := .later }
def ExpoLongUptoCardSaid : Prop := Claim7.holds Tryz.pinned (.plain (OpenSpec.upto expoLongSpec)) expoLongUptoCard

/-- THE SECOND FORM's CARD OF 'spillwaylaw6.ExpoBuilt'. -/
def expoBuiltUptoCard : Claim7 := { stood := { row := expoBuiltUptoRow, standIns := [], harness := (true, "8bd7d637e570626d48d32d3685a7146a3b46c976d507de3921699471d40eaf44"), looks := true }, kinds := [], alts := [], laidByText := true, laidKinds := [.data, .data, .data, .data, .sentinel, .sentinel, .pinned], laidTests := true, laidLooks := .later }
def ExpoBuiltUptoCardSaid : Prop := Claim7.holds Tryz.pinned (.plain (OpenSpec.upto expoBuiltSpec)) expoBuiltUptoCard

/-- THE SECOND FORM's CARD OF 'spillwaylaw6.ExpoPrints'. -/
def expoPrintsUptoCard : Claim7 := { stood := { row := expoPrintsUptoRow, standIns := [], harness := (true, "8bd7d637e570626d48d32d3685a7146a3b46c976d507de3921699471d40eaf44"), looks := true }, kinds := [], alts := [], laidByText := true, laidKinds := [.data, .data, .data, .data, .sentinel, .sentinel, .pinned], laidTests := true, laidLooks := .later }
def ExpoPrintsUptoCardSaid : Prop := Claim7.holds Tryz.pinned (.plain (OpenSpec.upto expoPrintsSpec)) expoPrintsUptoCard
end Rows
end Go.Proofs.YtfgffjchphignaaGreatDoor
