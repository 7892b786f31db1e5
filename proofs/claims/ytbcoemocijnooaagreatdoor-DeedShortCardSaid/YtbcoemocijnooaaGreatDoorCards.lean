/-
  DERIVED. GIVEN WITH THE SEED: THE CARDS: each row of YtbcoemocijnooaaGreatDoorRows.lean that lists a variable, with what it lists TIED to the program's text (the seventh form; the later family's looks); each row that meets fmt, with fmt's text TOLD by the authors' own Lean function (tested against real Go, not proved from fmt's source: count such statements apart). THE CARD IS WHAT COUNTS. Prove the row's statement (the work); the ties are given (YtbcoemocijnooaaGreatDoorTie.lean); close each card by the builder's one call (the guide's Derived/Test/ToyasCard.lean, 'card_holds'). Laid BY PROGRAM, IN A SANDBOX (cutbox-door.mjs). By AI agents, Wed Nov 11 2026. No macro, syntax, notation, axiom, sorry.
-/
import Derived.Test.YtbcoemocijnooaaGreatDoorRows
import GoSem.ClaimSeven
namespace Go.Proofs.YtbcoemocijnooaaGreatDoor
namespace Rows

/-- THE TIED CARD OF 'stairwelllaw22.DeedReads'. -/
def deedReadsCard : Claim7 := { stood := { row := deedReadsRow, standIns := [], harness := (true, "24524ea9dd224c7be52dc0628ac350bc2462768431cdf8f7e2ae05107bd1c880"), looks := false }, kinds := [], alts := [], laidByText := true, laidKinds := [.data, .pinned], laidTests := true, laidLooks := .later }
def DeedReadsCardSaid : Prop := Claim7.holds Tryz.pinned (.plain (OpenSpec.ofChange deedReadsSpec)) deedReadsCard

/-- THE TIED CARD OF 'stairwelllaw22.DeedShort'. -/
def deedShortCard : Claim7 := { stood := { row := deedShortRow, standIns := [], harness := (true, "24524ea9dd224c7be52dc0628ac350bc2462768431cdf8f7e2ae05107bd1c880"), looks := false }, kinds := [], alts := [], laidByText := true, laidKinds := [.data, .pinned], laidTests := true, laidLooks := .later }
def DeedShortCardSaid : Prop := Claim7.holds Tryz.pinned (.plain (OpenSpec.ofChange deedShortSpec)) deedShortCard

/-- THE TIED CARD OF 'stairwelllaw12.ReplyBytes'. -/
def replyBytesCard : Claim7 := { stood := { row := replyBytesRow, standIns := [], harness := (true, "24524ea9dd224c7be52dc0628ac350bc2462768431cdf8f7e2ae05107bd1c880"), looks := false }, kinds := [], alts := [], laidByText := true, laidKinds := [.data, .data, .pinned], laidTests := true, laidLooks := .later }
def ReplyBytesCardSaid : Prop := Claim7.holds Tryz.pinned (.plain (OpenSpec.ofChange replyBytesSpec)) replyBytesCard

/-- THE TIED CARD OF 'stairwelllaw11.MethodReads'. -/
def methodReadsCard : Claim7 := { stood := { row := methodReadsRow, standIns := [], harness := (true, "24524ea9dd224c7be52dc0628ac350bc2462768431cdf8f7e2ae05107bd1c880"), looks := false }, kinds := [], alts := [], laidByText := true, laidKinds := [.data, .data, .data, .pinned], laidTests := true, laidLooks := .later }
def MethodReadsCardSaid : Prop := Claim7.holds Tryz.pinned (.plain (OpenSpec.ofChange methodReadsSpec)) methodReadsCard

/-- THE TIED CARD OF 'stairwelllaw11.MethodFrames'. -/
def methodFramesCard : Claim7 := { stood := { row := methodFramesRow, standIns := [], harness := (true, "24524ea9dd224c7be52dc0628ac350bc2462768431cdf8f7e2ae05107bd1c880"), looks := false }, kinds := [], alts := [], laidByText := true, laidKinds := [.data, .data, .data, .pinned], laidTests := true, laidLooks := .later }
def MethodFramesCardSaid : Prop := Claim7.holds Tryz.pinned (.plain (OpenSpec.ofChange methodFramesSpec)) methodFramesCard

/-- THE TIED CARD OF 'stairwelllaw27.ChansCredit'. -/
def chansCreditCard : Claim7 := { stood := { row := chansCreditRow, standIns := [], harness := (true, "24524ea9dd224c7be52dc0628ac350bc2462768431cdf8f7e2ae05107bd1c880"), looks := false }, kinds := [], alts := [], laidByText := true, laidKinds := [.data, .pinned], laidTests := true, laidLooks := .later }
def ChansCreditCardSaid : Prop := Claim7.holds Tryz.pinned (.plain (OpenSpec.ofChange chansCreditSpec)) chansCreditCard

/-- THE SECOND FORM's CARD OF 'stairwelllaw22.DeedReads'. -/
def deedReadsUptoCard : Claim7 := { stood := { row := deedReadsUptoRow, standIns := [], harness := (true, "24524ea9dd224c7be52dc0628ac350bc2462768431cdf8f7e2ae05107bd1c880"), looks := false }, kinds := [], alts := [], laidByText := true, laidKinds := [.data, .pinned], laidTests := true, laidLooks := .later }
def DeedReadsUptoCardSaid : Prop := Claim7.holds Tryz.pinned (.plain (OpenSpec.upto deedReadsSpec)) deedReadsUptoCard

/-- THE SECOND FORM's CARD OF 'stairwelllaw22.DeedShort'. -/
def deedShortUptoCard : Claim7 := { stood := { row := deedShortUptoRow, standIns := [], harness := (true, "24524ea9dd224c7be52dc0628ac350bc2462768431cdf8f7e2ae05107bd1c880"), looks := false }, kinds := [], alts := [], laidByText := true, laidKinds := [.data, .pinned], laidTests := true, laidLooks := .later }
def DeedShortUptoCardSaid : Prop := Claim7.holds Tryz.pinned (.plain (OpenSpec.upto deedShortSpec)) deedShortUptoCard

/-- THE SECOND FORM's CARD OF 'stairwelllaw12.ReplyBytes'. -/
def replyBytesUptoCard : Claim7 := { stood := { row := replyBytesUptoRow, standIns := [], harness := (true, "24524ea9dd224c7be52dc0628ac350bc2462768431cdf8f7e2ae05107bd1c880"), looks := false }, kinds := [], alts := [], laidByText := true, laidKinds := [.data, .data, .pinned], laidTests := true, laidLooks := .later }
def ReplyBytesUptoCardSaid : Prop := Claim7.holds Tryz.pinned (.plain (OpenSpec.upto replyBytesSpec)) replyBytesUptoCard

/-- THE SECOND FORM's CARD OF 'stairwelllaw11.MethodReads'. -/
def methodReadsUptoCard : Claim7 := { stood := { row := methodReadsUptoRow, standIns := [], harness := (true, "24524ea9dd224c7be52dc0628ac350bc2462768431cdf8f7e2ae05107bd1c880"), looks := false }, kinds := [], alts := [], laidByText := true, laidKinds := [.data, .data, .data, .pinned], laidTests := true, laidLooks := .later }
def MethodReadsUptoCardSaid : Prop := Claim7.holds Tryz.pinned (.plain (OpenSpec.upto methodReadsSpec)) methodReadsUptoCard

/-- THE SECOND FORM's CARD OF 'stairwelllaw11.MethodFrames'. -/
def methodFramesUptoCard : Claim7 := { stood := { row := methodFramesUptoRow, standIns := [], harness := (true, "24524ea9dd224c7be52dc0628ac350bc2462768431cdf8f7e2ae05107bd1c880"), looks := false }, kinds := [], alts := [], laidByText := true, laidKinds := [.data, .data, .data, .pinned], laidTests := true, laidLooks := .later }
def MethodFramesUptoCardSaid : Prop := Claim7.holds Tryz.pinned (.plain (OpenSpec.upto methodFramesSpec)) methodFramesUptoCard

/-- THE SECOND FORM's CARD OF 'stairwelllaw27.ChansCredit'. -/
def chansCreditUptoCard : Claim7 := { stood := { row := chansCreditUptoRow, standIns := [], harness := (true, "24524ea9dd224c7be52dc0628ac350bc2462768431cdf8f7e2ae05107bd1c880"), looks := false }, kinds := [], alts := [], laidByText := true, laidKinds := [.data, .pinned], laidTests := true, laidLooks := .later }
def ChansCreditUptoCardSaid : Prop := Claim7.holds Tryz.pinned (.plain (OpenSpec.upto chansCreditSpec)) chansCreditUptoCard
end Rows
end Go.Proofs.YtbcoemocijnooaaGreatDoor
