/-
  DERIVED. GIVEN WITH THE SEED: THE CARDS: each row of YtdanlhjbbojfgaaGreatDoorRows.lean that lists a variable, with what it lists TIED to the program's text (the seventh form; the later family's looks); each row that meets fmt, with fmt's text TOLD by the authors' own Lean function (tested against real Go, not proved from fmt's source: count such statements apart). THE CARD IS WHAT COUNTS. Prove the row's statement (the work); the ties are given (YtdanlhjbbojfgaaGreatDoorTie.lean); close each card by the builder's one call (the guide's Derived/Test/ToyasCard.lean, 'card_holds'). Laid BY PROGRAM, IN A SANDBOX (cutbox-door.mjs). By AI agents, Wed Nov 11 2026. No macro, syntax, notation, axiom, sorry.
-/
import Derived.Test.YtdanlhjbbojfgaaGreatDoorRows
import GoSem.ClaimSeven
namespace Go.Proofs.YtdanlhjbbojfgaaGreatDoor
namespace Rows

/-- THE TIED CARD OF 'stairwelllaw33.ReportNotes'. -/
def reportNotesCard : Claim7 := { stood := { row := reportNotesRow, standIns := [], harness := (true, "302457a6b62e1fdd82e05c8051c66bd44645ea8e4f595fc534c56360af0759f5"), looks := true }, kinds := [], alts := [], laidByText := true, laidKinds := [.data, .data, .data, .data, .sentinel, .sentinel, .pinned], laidTests := true, laidLooks := .later }
def ReportNotesCardSaid : Prop := Claim7.holds Tryz.pinned (.plain (OpenSpec.ofChange reportNotesSpec)) reportNotesCard

/-- THE TIED CARD OF 'stairwelllaw33.ReportLines'. -/
def reportLinesCard : Claim7 := { stood := { row := reportLinesRow, standIns := [], harness := (true, "302457a6b62e1fdd82e05c8051c66bd44645ea8e4f595fc534c56360af0759f5"), looks := true }, kinds := [], alts := [], laidByText := true, laidKinds := [.data, .data, .data, .data, .sentinel, .sentinel, .pinned], laidTests := true, laidLooks := .later }
def ReportLinesCardSaid : Prop := Claim7.holds Tryz.pinned (.plain (OpenSpec.ofChange reportLinesSpec)) reportLinesCard

/-- THE TIED CARD OF 'stairwelllaw24.ImageShort'. -/
def imageShortCard : Claim7 := { stood := { row := imageShortRow, standIns := [], harness := (true, "302457a6b62e1fdd82e05c8051c66bd44645ea8e4f595fc534c56360af0759f5"), looks := true }, kinds := [], alts := [], laidByText := true, laidKinds := [.data, .data, .data, .data, .sentinel, .sentinel, .pinned], laidTests := true, laidLooks := .later }
def ImageShortCardSaid : Prop := Claim7.holds Tryz.pinned (.plain (OpenSpec.ofChange imageShortSpec)) imageShortCard

/-- THE SECOND FORM's CARD OF 'stairwelllaw33.ReportNotes'. -/
def reportNotesUptoCard : Claim7 := { stood := { row := reportNotesUptoRow, standIns := [], harness := (true, "302457a6b62e1fdd82e05c8051c66bd44645ea8e4f595fc534c56360af0759f5"), looks := true }, kinds := [], alts := [], laidByText := true, laidKinds := [.data, .data, .data, .data, .sentinel, .sentinel, .pinned], laidTests := true, laidLooks := .later }
def ReportNotesUptoCardSaid : Prop := Claim7.holds Tryz.pinned (.plain (OpenSpec.upto reportNotesSpec)) reportNotesUptoCard

/-- THE SECOND FORM's CARD OF 'stairwelllaw33.ReportLines'. -/
def reportLinesUptoCard : Claim7 := { stood := { row := reportLinesUptoRow, standIns := [], harness := (true, "302457a6b62e1fdd82e05c8051c66bd44645ea8e4f595fc534c56360af0759f5"), looks := true }, kinds := [], alts := [], laidByText := true, laidKinds := [.data, .data, .data, .data, .sentinel, .sentinel, .pinned], laidTests := true, laidLooks := .later }
def ReportLinesUptoCardSaid : Prop := Claim7.holds Tryz.pinned (.plain (OpenSpec.upto reportLinesSpec)) reportLinesUptoCard

/-- THE SECOND FORM's CARD OF 'stairwelllaw24.ImageShort'. -/
def imageShortUptoCard : Claim7 := { stood := { row := imageShortUptoRow, standIns := [], harness := (true, "302457a6b62e1fdd82e05c8051c66bd44645ea8e4f595fc534c56360af0759f5"), looks := true }, kinds := [], alts := [], laidByText := true, laidKinds := [.data, .data, .data, .data, .sentinel, .sentinel, .pinned], laidTests := true, laidLooks := .later }
def ImageShortUptoCardSaid : Prop := Claim7.holds Tryz.pinned (.plain (OpenSpec.upto imageShortSpec)) imageShortUptoCard
end Rows
end Go.Proofs.YtdanlhjbbojfgaaGreatDoor
