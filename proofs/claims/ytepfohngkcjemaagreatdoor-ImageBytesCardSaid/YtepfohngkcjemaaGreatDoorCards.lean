/-
  DERIVED. GIVEN WITH THE SEED: THE CARDS: each row of YtepfohngkcjemaaGreatDoorRows.lean that lists a variable, with what it lists TIED to the program's text (the seventh form; the later family's looks); each row that meets fmt, with fmt's text TOLD by the authors' own Lean function (tested against real Go, not proved from fmt's source: count such statements apart). THE CARD IS WHAT COUNTS. Prove the row's statement (the work); the ties are given (YtepfohngkcjemaaGreatDoorTie.lean); close each card by the builder's one call (the guide's Derived/Test/ToyasCard.lean, 'card_holds'). Laid BY PROGRAM, IN A SANDBOX (cutbox-door.mjs). By AI agents, Wed Nov 11 2026. No macro, syntax, notation, axiom, sorry.
-/
import Derived.Test.YtepfohngkcjemaaGreatDoorRows
import GoSem.ClaimSeven
namespace Go.Proofs.YtepfohngkcjemaaGreatDoor
namespace Rows

/-- THE TIED CARD OF 'stairwelllaw24.ImageBytes'. -/
def imageBytesCard : Claim7 := { stood := { row := imageBytesRow, standIns := [], harness := (true, "259d35a167cafe0ce3d278a62e398c6af75572af832861761c591421474750cf"), looks := true }, kinds := [], alts := [], laidByText := true, laidKinds := [.data, .data, .data, .data, .sentinel, .sentinel, .pinned], laidTests := true, laidLooks := .later }
def ImageBytesCardSaid : Prop := Claim7.holds Tryz.pinned (.plain (OpenSpec.ofChange imageBytesSpec)) imageBytesCard

/-- THE TIED CARD OF 'stairwelllaw24.ImageReads'. -/
def imageReadsCard : Claim7 := { stood := { row := imageReadsRow, standIns := [], harness := (true, "259d35a167cafe0ce3d278a62e398c6af75572af832861761c591421474750cf"), looks := true }, kinds := [], alts := [], laidByText := true, laidKinds := [.data, .data, .data, .data, .sentinel, .sentinel, .pinned], laidTests := true, laidLooks := .later }
def ImageReadsCardSaid : Prop := Claim7.holds Tryz.pinned (.plain (OpenSpec.ofChange imageReadsSpec)) imageReadsCard

/-- THE SECOND FORM's CARD OF 'stairwelllaw24.ImageBytes'. -/
def imageBytesUptoCard : Claim7 := { stood := { row := imageBytesUptoRow, standIns := [], harness := (true, "259d35a167cafe0ce3d278a62e398c6af75572af832861761c591421474750cf"), looks := true }, kinds := [], alts := [], laidByText := true, laidKinds := [.data, .data, .data, .data, .sentinel, .sentinel, .pinned], laidTests := true, laidLooks := .later }
def ImageBytesUptoCardSaid : Prop := Claim7.holds Tryz.pinned (.plain (OpenSpec.upto imageBytesSpec)) imageBytesUptoCard

/-- THE SECOND FORM's CARD OF 'stairwelllaw24.ImageReads'. -/
def imageReadsUptoCard : Claim7 := { stood := { row := imageReadsUptoRow, standIns := [], harness := (true, "259d35a167cafe0ce3d278a62e398c6af75572af832861761c591421474750cf"), looks := true }, kinds := [], alts := [], laidByText := true, laidKinds := [.data, .data, .data, .data, .sentinel, .sentinel, .pinned], laidTests := true, laidLooks := .later }
def ImageReadsUptoCardSaid : Prop := Claim7.holds Tryz.pinned (.plain (OpenSpec.upto imageReadsSpec)) imageReadsUptoCard
end Rows
end Go.Proofs.YtepfohngkcjemaaGreatDoor
