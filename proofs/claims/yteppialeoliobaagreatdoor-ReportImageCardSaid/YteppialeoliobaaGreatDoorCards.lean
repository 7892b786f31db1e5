/-
  DERIVED. GIVEN WITH THE SEED: THE CARDS: each row of YteppialeoliobaaGreatDoorRows.lean that lists a variable, with what it lists TIED to the program's text (the seventh form; the later family's looks); each row that meets fmt, with fmt's text TOLD by the authors' own Lean function (tested against real Go, not proved from fmt's source: count such statements apart). THE CARD IS WHAT COUNTS. Prove the row's statement (the work); the ties are given (YteppialeoliobaaGreatDoorTie.lean); close each card by the builder's one call (the guide's Derived/Test/ToyasCard.lean, 'card_holds'). Laid BY PROGRAM, IN A SANDBOX (cutbox-door.mjs). By AI agents, Wed Nov 11 2026. No macro, syntax, notation, axiom, sorry.
-/
import Derived.Test.YteppialeoliobaaGreatDoorRows
import GoSem.ClaimSeven
namespace Go.Proofs.YteppialeoliobaaGreatDoor
namespace Rows

/-- THE TIED CARD OF 'stairwelllaw24.ImageGoes'. -/
def imageGoesCard : Claim7 := { stood := { row := imageGoesRow, standIns := [], harness := (true, "d12422f6313517452d56ff065bc69d34e57ae71d9932384e712987503dfcd431"), looks := true }, kinds := [], alts := [], laidByText := true, laidKinds := [.data, .data, .data, .data, .sentinel, .sentinel, .pinned], laidTests := true, laidLooks := .later }
def ImageGoesCardSaid : Prop := Claim7.holds Tryz.pinned (.plain (OpenSpec.ofChange imageGoesSpec)) imageGoesCard

/-- THE TIED CARD OF 'stairwelllaw33.ReportImage'. -/
def reportImageCard : Claim7 := { stood := { row := reportImageRow, standIns := [], harness := (true, "d12422f6313517452d56ff065bc69d34e57ae71d9932384e712987503dfcd431"), looks := true }, kinds := [], alts := [], laidByText := true, laidKinds := [.data, .data, .data, .data, .sentinel, .sentinel, .pinned], laidTests := true, laidLooks := .later }
def ReportImageCardSaid : Prop := Claim7.holds Tryz.pinned (.plain (OpenSpec.ofChange reportImageSpec)) reportImageCard

/-- THE SECOND FORM's CARD OF 'stairwelllaw24.ImageGoes'. -/
def imageGoesUptoCard : Claim7 := { stood := { row := imageGoesUptoRow, standIns := [], harness := (true, "d12422f6313517452d56ff065bc69d34e57ae71d9932384e712987503dfcd431"), looks := true }, kinds := [], alts := [], laidByText := true, laidKinds := [.data, .data, .data, .data, .sentinel, .sentinel, .pinned], laidTests := true, laidLooks := .later }
def ImageGoesUptoCardSaid : Prop := Claim7.holds Tryz.pinned (.plain (OpenSpec.upto imageGoesSpec)) imageGoesUptoCard

/-- THE SECOND FORM's CARD OF 'stairwelllaw33.ReportImage'. -/
def reportImageUptoCard : Claim7 := { stood := { row := reportImageUptoRow, standIns := [], harness := (true, "d12422f6313517452d56ff065bc69d34e57ae71d9932384e712987503dfcd431"), looks := true }, kinds := [], alts := [], laidByText := true, laidKinds := [.data, .data, .data, .data, .sentinel, .sentinel, .pinned], laidTests := true, laidLooks := .later }
def ReportImageUptoCardSaid : Prop := Claim7.holds Tryz.pinned (.plain (OpenSpec.upto reportImageSpec)) reportImageUptoCard
end Rows
end Go.Proofs.YteppialeoliobaaGreatDoor
