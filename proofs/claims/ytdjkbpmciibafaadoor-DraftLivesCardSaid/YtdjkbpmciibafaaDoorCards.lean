/-
  DERIVED. GIVEN WITH THE SEED: THE CARDS: each row of YtdjkbpmciibafaaDoorRows.lean that lists a variable, with what it lists TIED to the program's text (the seventh form; the later family's looks); each row that meets fmt, with fmt's text TOLD by the authors' own Lean function (tested against real Go, not proved from fmt's source: count such statements apart). THE CARD IS WHAT COUNTS. Prove the row's statement (the work); the ties are given (YtdjkbpmciibafaaDoorTie.lean); close each card by the builder's one call (the guide's Derived/Test/ToyasCard.lean, 'card_holds'). Laid BY PROGRAM, IN A SANDBOX (cutbox-door.mjs). By AI agents, Wed Nov 11 2026. No macro, syntax, notation, axiom, sorry.
-/
import Derived.Test.YtdjkbpmciibafaaDoorRows
import GoSem.ClaimSeven
namespace Go.Proofs.YtdjkbpmciibafaaDoor
namespace Rows

/-- THE TIED CARD OF 'stairwelllaw26.DraftLives'. -/
def draftLivesCard : Claim7 := { stood := { row := draftLivesRow, standIns := [], harness := (true, "a0c1227765c08f7c2ace3d4815c7c6bc2af3a3b5777fee11d9316e9ff9902452"), looks := false }, kinds := [], alts := [], laidByText := true, laidKinds := [.data, .pinned], laidTests := true, laidLooks := .later }
def DraftLivesCardSaid : Prop := Claim7.holds Tryd.pinned (.plain (OpenSpec.ofChange draftLivesSpec)) draftLivesCard

/-- THE SECOND FORM's CARD OF 'stairwelllaw26.DraftLives'. -/
def draftLivesUptoCard : Claim7 := { stood := { row := draftLivesUptoRow, standIns := [], harness := (true, "a0c1227765c08f7c2ace3d4815c7c6bc2af3a3b5777fee11d9316e9ff9902452"), looks := false }, kinds := [], alts := [], laidByText := true, laidKinds := [.data, .pinned], laidTests := true, laidLooks := .later }
def DraftLivesUptoCardSaid : Prop := Claim7.holds Tryd.pinned (.plain (OpenSpec.upto draftLivesSpec)) draftLivesUptoCard
end Rows
end Go.Proofs.YtdjkbpmciibafaaDoor
