/-
  DERIVED. GIVEN WITH THE SEED: THE CARDS: each row of YtfchllcmfnhlbaaDoorRows.lean that lists a variable, with what it lists TIED to the program's text (the seventh form; the later family's looks); each row that meets fmt, with fmt's text TOLD by the authors' own Lean function (tested against real Go, not proved from fmt's source: count such statements apart). THE CARD IS WHAT COUNTS. Prove the row's statement (the work); the ties are given (YtfchllcmfnhlbaaDoorTie.lean); close each card by the builder's one call (the guide's Derived/Test/ToyasCard.lean, 'card_holds'). Laid BY PROGRAM, IN A SANDBOX (cutbox-door.mjs). By AI agents, Wed Nov 11 2026. No macro, syntax, notation, axiom, sorry.
-/
import Derived.Test.YtfchllcmfnhlbaaDoorRows
import GoSem.ClaimSeven
namespace Go.Proofs.YtfchllcmfnhlbaaDoor
namespace Rows

/-- THE TIED CARD OF 'stairwelllaw12.ReplySame'. -/
def replySameCard : Claim7 := { stood := { row := replySameRow, standIns := [], harness := (true, "498b7edd840fd85cf994d62edbb56aa79ed34f93971cad1e5637754a8dc222b5"), looks := false }, kinds := [], alts := [], laidByText := true, laidKinds := [.data, .data, .pinned], laidTests := true, laidLooks := .later }
def ReplySameCardSaid : Prop := Claim7.holds Tryd.pinned (.plain (OpenSpec.ofChange replySameSpec)) replySameCard

/-- THE TIED CARD OF 'stairwelllaw12.ReplyReads'. -/
def replyReadsCard : Claim7 := { stood := { row := replyReadsRow, standIns := [], harness := (true, "498b7edd840fd85cf994d62edbb56aa79ed34f93971cad1e5637754a8dc222b5"), looks := false }, kinds := [], alts := [], laidByText := true, laidKinds := [.data, .data, .pinned], laidTests := true, laidLooks := .later }
def ReplyReadsCardSaid : Prop := Claim7.holds Tryd.pinned (.plain (OpenSpec.ofChange replyReadsSpec)) replyReadsCard

/-- THE TIED CARD OF 'stairwelllaw12.ReplyFrames'. -/
def replyFramesCard : Claim7 := { stood := { row := replyFramesRow, standIns := [], harness := (true, "498b7edd840fd85cf994d62edbb56aa79ed34f93971cad1e5637754a8dc222b5"), looks := false }, kinds := [], alts := [], laidByText := true, laidKinds := [.data, .data, .pinned], laidTests := true, laidLooks := .later }
def ReplyFramesCardSaid : Prop := Claim7.holds Tryd.pinned (.plain (OpenSpec.ofChange replyFramesSpec)) replyFramesCard

/-- THE TIED CARD OF 'stairwelllaw11.MethodSame'. -/
def methodSameCard : Claim7 := { stood := { row := methodSameRow, standIns := [], harness := (true, "498b7edd840fd85cf994d62edbb56aa79ed34f93971cad1e5637754a8dc222b5"), looks := false }, kinds := [], alts := [], laidByText := true, laidKinds := [.data, .data, .data, .pinned], laidTests := true, laidLooks := .later }
def MethodSameCardSaid : Prop := Claim7.holds Tryd.pinned (.plain (OpenSpec.ofChange methodSameSpec)) methodSameCard

/-- THE TIED CARD OF 'stairwelllaw26.DraftLives'. -/
def draftLivesCard : Claim7 := { stood := { row := draftLivesRow, standIns := [], harness := (true, "498b7edd840fd85cf994d62edbb56aa79ed34f93971cad1e5637754a8dc222b5"), looks := false }, kinds := [], alts := [], laidByText := true, laidKinds := [.data, .pinned], laidTests := true, laidLooks := .later }
def DraftLivesCardSaid : Prop := Claim7.holds Tryd.pinned (.plain (OpenSpec.ofChange draftLivesSpec)) draftLivesCard

/-- THE SECOND FORM's CARD OF 'stairwelllaw12.ReplySame'. -/
def replySameUptoCard : Claim7 := { stood := { row := replySameUptoRow, standIns := [], harness := (true, "498b7edd840fd85cf994d62edbb56aa79ed34f93971cad1e5637754a8dc222b5"), looks := false }, kinds := [], alts := [], laidByText := true, laidKinds := [.data, .data, .pinned], laidTests := true, laidLooks := .later }
def ReplySameUptoCardSaid : Prop := Claim7.holds Tryd.pinned (.plain (OpenSpec.upto replySameSpec)) replySameUptoCard

/-- THE SECOND FORM's CARD OF 'stairwelllaw12.ReplyReads'. -/
def replyReadsUptoCard : Claim7 := { stood := { row := replyReadsUptoRow, standIns := [], harness := (true, "498b7edd840fd85cf994d62edbb56aa79ed34f93971cad1e5637754a8dc222b5"), looks := false }, kinds := [], alts := [], laidByText := true, laidKinds := [.data, .data, .pinned], laidTests := true, laidLooks := .later }
def ReplyReadsUptoCardSaid : Prop := Claim7.holds Tryd.pinned (.plain (OpenSpec.upto replyReadsSpec)) replyReadsUptoCard

/-- THE SECOND FORM's CARD OF 'stairwelllaw12.ReplyFrames'. -/
def replyFramesUptoCard : Claim7 := { stood := { row := replyFramesUptoRow, standIns := [], harness := (true, "498b7edd840fd85cf994d62edbb56aa79ed34f93971cad1e5637754a8dc222b5"), looks := false }, kinds := [], alts := [], laidByText := true, laidKinds := [.data, .data, .pinned], laidTests := true, laidLooks := .later }
def ReplyFramesUptoCardSaid : Prop := Claim7.holds Tryd.pinned (.plain (OpenSpec.upto replyFramesSpec)) replyFramesUptoCard

/-- THE SECOND FORM's CARD OF 'stairwelllaw11.MethodSame'. -/
def methodSameUptoCard : Claim7 := { stood := { row := methodSameUptoRow, standIns := [], harness := (true, "498b7edd840fd85cf994d62edbb56aa79ed34f93971cad1e5637754a8dc222b5"), looks := false }, kinds := [], alts := [], laidByText := true, laidKinds := [.data, .data, .data, .pinned], laidTests := true, laidLooks := .later }
def MethodSameUptoCardSaid : Prop := Claim7.holds Tryd.pinned (.plain (OpenSpec.upto methodSameSpec)) methodSameUptoCard

/-- THE SECOND FORM's CARD OF 'stairwelllaw26.DraftLives'. -/
def draftLivesUptoCard : Claim7 := { stood := { row := draftLivesUptoRow, standIns := [], harness := (true, "498b7edd840fd85cf994d62edbb56aa79ed34f93971cad1e5637754a8dc222b5"), looks := false }, kinds := [], alts := [], laidByText := true, laidKinds := [.data, .pinned], laidTests := true, laidLooks := .later }
def DraftLivesUptoCardSaid : Prop := Claim7.holds Tryd.pinned (.plain (OpenSpec.upto draftLivesSpec)) draftLivesUptoCard
end Rows
end Go.Proofs.YtfchllcmfnhlbaaDoor
