/-
  DERIVED. GIVEN WITH THE SEED: THE CARDS: each row of YtjaolddgnijgiaaDoorRows.lean that lists a variable, with what it lists TIED to the program's text (the seventh form; the later family's looks); each row that meets fmt, with fmt's text TOLD by the authors' own Lean function (tested against real Go, not proved from fmt's source: count such statements apart). THE CARD IS WHAT COUNTS. Prove the row's statement (the work); the ties are given (YtjaolddgnijgiaaDoorTie.lean); close each card by the builder's one call (the guide's Derived/Test/ToyasCard.lean, 'card_holds'). Laid BY PROGRAM, IN A SANDBOX (cutbox-door.mjs). By AI agents, Wed Nov 11 2026. No macro, syntax, notation, axiom, sorry.
-/
import Derived.Test.YtjaolddgnijgiaaDoorRows
import GoSem.ClaimSeven
namespace Go.Proofs.YtjaolddgnijgiaaDoor
namespace Rows

/-- THE TIED CARD OF 'spillwaylaw2.FixSums'. -/
def fixSumsCard : Claim7 := { stood := { row := fixSumsRow, standIns := [], harness := (true, "cbffb7ac85bd5dd56d623bc9520dda1e95949b89cd9bdcfe34b6deb42b407a0a"), looks := true }, kinds := [], alts := [], laidByText := true, laidKinds := [.data, .data, .data, .data, .sentinel, .sentinel, .pinned], laidTests := true, laidLooks := .later }
def FixSumsCardSaid : Prop := Claim7.holds Tryd.pinned (.plain (OpenSpec.ofChange fixSumsSpec)) fixSumsCard

/-- THE TIED CARD OF 'spillwaylaw2.FixReads'. -/
def fixReadsCard : Claim7 := { stood := { row := fixReadsRow, standIns := [], harness := (true, "cbffb7ac85bd5dd56d623bc9520dda1e95949b89cd9bdcfe34b6deb42b407a0a"), looks := true }, kinds := [], alts := [], laidByText := true, laidKinds := [.data, .data, .data, .data, .sentinel, .sentinel, .pinned], laidTests := true, laidLooks := .later }
def FixReadsCardSaid : Prop := Claim7.holds Tryd.pinned (.plain (OpenSpec.ofChange fixReadsSpec)) fixReadsCard

/-- THE TIED CARD OF 'spillwaylaw2.FixOrder'. -/
def fixOrderCard : Claim7 := { stood := { row := fixOrderRow, standIns := [], harness := (true, "cbffb7ac85bd5dd56d623bc9520dda1e95949b89cd9bdcfe34b6deb42b407a0a"), looks := true }, kinds := [], alts := [], laidByText := true, laidKinds := [.data, .data, .data, .data, .sentinel, .sentinel, .pinned], laidTests := true, laidLooks := .later }
def FixOrderCardSaid : Prop := Claim7.holds Tryd.pinned (.plain (OpenSpec.ofChange fixOrderSpec)) fixOrderCard

/-- THE TIED CARD OF 'spillwaylaw2.FixCuts'. -/
def fixCutsCard : Claim7 := { stood := { row := fixCutsRow, standIns := [], harness := (true, "cbffb7ac85bd5dd56d623bc9520dda1e95949b89cd9bdcfe34b6deb42b407a0a"), looks := true }, kinds := [], alts := [], laidByText := true, laidKinds := [.data, .data, .data, .data, .sentinel, .sentinel, .pinned], laidTests := true, laidLooks := .later }
def FixCutsCardSaid : Prop := Claim7.holds Tryd.pinned (.plain (OpenSpec.ofChange fixCutsSpec)) fixCutsCard

/-- THE TIED CARD OF 'spillwaylaw2.FixTexts'. -/
def fixTextsCard : Claim7 := { stood := { row := fixTextsRow, standIns := [], harness := (true, "cbffb7ac85bd5dd56d623bc9520dda1e95949b89cd9bdcfe34b6deb42b407a0a"), looks := true }, kinds := [], alts := [], laidByText := true, laidKinds := [.data, .data, .data, .data, .sentinel, .sentinel, .pinned], laidTests := true, laidLooks := .later }
def FixTextsCardSaid : Prop := Claim7.holds Tryd.pinned (.plain (OpenSpec.ofChange fixTextsSpec)) fixTextsCard

/-- THE TIED CARD OF 'spillwaylaw2.FixLaws'. -/
def fixLawsCard : Claim7 := { stood := { row := fixLawsRow, standIns := [], harness := (true, "cbffb7ac85bd5dd56d623bc9520dda1e95949b89cd9bdcfe34b6deb42b407a0a"), looks := true }, kinds := [], alts := [], laidByText := true, laidKinds := [.data, .data, .data, .data, .sentinel, .sentinel, .pinned], laidTests := true, laidLooks := .later }
def FixLawsCardSaid : Prop := Claim7.holds Tryd.pinned (.plain (OpenSpec.ofChange fixLawsSpec)) fixLawsCard

/-- THE TIED CARD OF 'spillwaylaw2.FixEdges'. -/
def fixEdgesCard : Claim7 := { stood := { row := fixEdgesRow, standIns := [], harness := (true, "cbffb7ac85bd5dd56d623bc9520dda1e95949b89cd9bdcfe34b6deb42b407a0a"), looks := true }, kinds := [], alts := [], laidByText := true, laidKinds := [.data, .data, .data, .data, .sentinel, .sentinel, .pinned], laidTests := true, laidLooks := .later }
def FixEdgesCardSaid : Prop := Claim7.holds Tryd.pinned (.plain (OpenSpec.ofChange fixEdgesSpec)) fixEdgesCard

/-- THE SECOND FORM's CARD OF 'spillwaylaw2.FixSums'. -/
def fixSumsUptoCard : Claim7 := { stood := { row := fixSumsUptoRow, standIns := [], harness := (true, "cbffb7ac85bd5dd56d623bc9520dda1e95949b89cd9bdcfe34b6deb42b407a0a"), looks := true }, kinds := [], alts := [], laidByText := true, laidKinds := [.data, .data, .data, .data, .sentinel, .sentinel, .pinned], laidTests := true, laidLooks := .later }
def FixSumsUptoCardSaid : Prop := Claim7.holds Tryd.pinned (.plain (OpenSpec.upto fixSumsSpec)) fixSumsUptoCard

/-- THE SECOND FORM's CARD OF 'spillwaylaw2.FixReads'. -/
def fixReadsUptoCard : Claim7 := { stood := { row := fixReadsUptoRow, standIns := [], harness := (true, "cbffb7ac85bd5dd56d623bc9520dda1e95949b89cd9bdcfe34b6deb42b407a0a"), looks := true }, kinds := [], alts := [], laidByText := true, laidKinds := [.data, .data, .data, .data, .sentinel, .sentinel, .pinned], laidTests := true, laidLooks := .later }
def FixReadsUptoCardSaid : Prop := Claim7.holds Tryd.pinned (.plain (OpenSpec.upto fixReadsSpec)) fixReadsUptoCard

/-- THE SECOND FORM's CARD OF 'spillwaylaw2.FixOrder'. -/
def fixOrderUptoCard : Claim7 := { stood := { row := fixOrderUptoRow, standIns := [], harness := (true, "cbffb7ac85bd5dd56d623bc9520dda1e95949b89cd9bdcfe34b6deb42b407a0a"), looks := true }, kinds := [], alts := [], laidByText := true, laidKinds := [.data, .data, .data, .data, .sentinel, .sentinel, .pinned], laidTests := true, laidLooks := .later }
def FixOrderUptoCardSaid : Prop := Claim7.holds Tryd.pinned (.plain (OpenSpec.upto fixOrderSpec)) fixOrderUptoCard

/-- THE SECOND FORM's CARD OF 'spillwaylaw2.FixCuts'. -/
def fixCutsUptoCard : Claim7 := { stood := { row := fixCutsUptoRow, standIns := [], harness := (true, "cbffb7ac85bd5dd56d623bc9520dda1e95949b89cd9bdcfe34b6deb42b407a0a"), looks := true }, kinds := [], alts := [], laidByText := true, laidKinds := [.data, .data, .data, .data, .sentinel, .sentinel, .pinned], laidTests := true, laidLooks := .later }
def FixCutsUptoCardSaid : Prop := Claim7.holds Tryd.pinned (.plain (OpenSpec.upto fixCutsSpec)) fixCutsUptoCard

/-- THE SECOND FORM's CARD OF 'spillwaylaw2.FixTexts'. -/
def fixTextsUptoCard : Claim7 := { stood := { row := fixTextsUptoRow, standIns := [], harness := (true, "cbffb7ac85bd5dd56d623bc9520dda1e95949b89cd9bdcfe34b6deb42b407a0a"), looks := true }, kinds := [], alts := [], laidByText := true, laidKinds := [.data, .data, .data, .data, .sentinel, .sentinel, .pinned], laidTests := true, laidLooks := .later }
def FixTextsUptoCardSaid : Prop := Claim7.holds Tryd.pinned (.plain (OpenSpec.upto fixTextsSpec)) fixTextsUptoCard

/-- THE SECOND FORM's CARD OF 'spillwaylaw2.FixLaws'. -/
def fixLawsUptoCard : Claim7 := { stood := { row := fixLawsUptoRow, standIns := [], harness := (true, "cbffb7ac85bd5dd56d623bc9520dda1e95949b89cd9bdcfe34b6deb42b407a0a"), looks := true }, kinds := [], alts := [], laidByText := true, laidKinds := [.data, .data, .data, .data, .sentinel, .sentinel, .pinned], laidTests := true, laidLooks := .later }
def FixLawsUptoCardSaid : Prop := Claim7.holds Tryd.pinned (.plain (OpenSpec.upto fixLawsSpec)) fixLawsUptoCard

/-- THE SECOND FORM's CARD OF 'spillwaylaw2.FixEdges'. -/
def fixEdgesUptoCard : Claim7 := { stood := { row := fixEdgesUptoRow, standIns := [], harness := (true, "cbffb7ac85bd5dd56d623bc9520dda1e95949b89cd9bdcfe34b6deb42b407a0a"), looks := true }, kinds := [], alts := [], laidByText := true, laidKinds := [.data, .data, .data, .data, .sentinel, .sentinel, .pinned], laidTests := true, laidLooks := .later }
def FixEdgesUptoCardSaid : Prop := Claim7.holds Tryd.pinned (.plain (OpenSpec.upto fixEdgesSpec)) fixEdgesUptoCard
end Rows
end Go.Proofs.YtjaolddgnijgiaaDoor
