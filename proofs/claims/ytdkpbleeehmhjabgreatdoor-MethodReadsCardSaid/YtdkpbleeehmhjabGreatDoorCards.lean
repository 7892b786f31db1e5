/-
  DERIVED. GIVEN WITH THE SEED: THE CARDS: each row of YtdkpbleeehmhjabGreatDoorRows.lean that lists a variable, with what it lists TIED to the program's text (the seventh form; the later family's looks); each row that meets fmt, with fmt's text TOLD by the authors' own Lean function (tested against real Go, not proved from fmt's source: count such statements apart). THE CARD IS WHAT COUNTS. Prove the row's statement (the work); the ties are given (YtdkpbleeehmhjabGreatDoorTie.lean); close each card by the builder's one call (the guide's Derived/Test/ToyasCard.lean, 'card_holds'). Laid BY PROGRAM, IN A SANDBOX (cutbox-door.mjs). By AI agents, Wed Nov 11 2026. No macro, syntax, notation, axiom, sorry.
-/
import Derived.Test.YtdkpbleeehmhjabGreatDoorRows
import GoSem.ClaimSeven
namespace Go.Proofs.YtdkpbleeehmhjabGreatDoor
namespace Rows

/-- THE TIED CARD OF 'stairwelllaw12.ReplyBytes'. -/
def replyBytesCard : Claim7 := { stood := { row := replyBytesRow, standIns := [], harness := (true, "726c4c290c5ca6570bd25aeb92ed8c9e52ac4789d2ada192c20217a058f67dd2"), looks := false }, kinds := [], alts := [], laidByText := true, laidKinds := [.data, .data, .pinned], laidTests := true, laidLooks := .later }
def ReplyBytesCardSaid : Prop := Claim7.holds Tryz.pinned (.plain (OpenSpec.ofChange replyBytesSpec)) replyBytesCard

/-- THE TIED CARD OF 'stairwelllaw11.MethodReads'. -/
def methodReadsCard : Claim7 := { stood := { row := methodReadsRow, standIns := [], harness := (true, "726c4c290c5ca6570bd25aeb92ed8c9e52ac4789d2ada192c20217a058f67dd2"), looks := false }, kinds := [], alts := [], laidByText := true, laidKinds := [.data, .data, .data, .pinned], laidTests := true, laidLooks := .later }
def MethodReadsCardSaid : Prop := Claim7.holds Tryz.pinned (.plain (OpenSpec.ofChange methodReadsSpec)) methodReadsCard

/-- THE TIED CARD OF 'stairwelllaw11.MethodFrames'. -/
def methodFramesCard : Claim7 := { stood := { row := methodFramesRow, standIns := [], harness := (true, "726c4c290c5ca6570bd25aeb92ed8c9e52ac4789d2ada192c20217a058f67dd2"), looks := false }, kinds := [], alts := [], laidByText := true, laidKinds := [.data, .data, .data, .pinned], laidTests := true, laidLooks := .later }
def MethodFramesCardSaid : Prop := Claim7.holds Tryz.pinned (.plain (OpenSpec.ofChange methodFramesSpec)) methodFramesCard

/-- THE SECOND FORM's CARD OF 'stairwelllaw12.ReplyBytes'. -/
def replyBytesUptoCard : Claim7 := { stood := { row := replyBytesUptoRow, standIns := [], harness := (true, "726c4c290c5ca6570bd25aeb92ed8c9e52ac4789d2ada192c20217a058f67dd2"), looks := false }, kinds := [], alts := [], laidByText := true, laidKinds := [.data, .data, .pinned], laidTests := true, laidLooks := .later }
def ReplyBytesUptoCardSaid : Prop := Claim7.holds Tryz.pinned (.plain (OpenSpec.upto replyBytesSpec)) replyBytesUptoCard

/-- THE SECOND FORM's CARD OF 'stairwelllaw11.MethodReads'. -/
def methodReadsUptoCard : Claim7 := { stood := { row := methodReadsUptoRow, standIns := [], harness := (true, "726c4c290c5ca6570bd25aeb92ed8c9e52ac4789d2ada192c20217a058f67dd2"), looks := false }, kinds := [], alts := [], laidByText := true, laidKinds := [.data, .data, .data, .pinned], laidTests := true, laidLooks := .later }
def MethodReadsUptoCardSaid : Prop := Claim7.holds Tryz.pinned (.plain (OpenSpec.upto methodReadsSpec)) methodReadsUptoCard

/-- THE SECOND FORM's CARD OF 'stairwelllaw11.MethodFrames'. -/
def methodFramesUptoCard : Claim7 := { stood := { row := methodFramesUptoRow, standIns := [], harness := (true, "726c4c290c5ca6570bd25aeb92ed8c9e52ac4789d2ada192c20217a058f67dd2"), looks := false }, kinds := [], alts := [], laidByText := true, laidKinds := [.data, .data, .data, .pinned], laidTests := true, laidLooks := .later }
def MethodFramesUptoCardSaid : Prop := Claim7.holds Tryz.pinned (.plain (OpenSpec.upto methodFramesSpec)) methodFramesUptoCard
end Rows
end Go.Proofs.YtdkpbleeehmhjabGreatDoor
