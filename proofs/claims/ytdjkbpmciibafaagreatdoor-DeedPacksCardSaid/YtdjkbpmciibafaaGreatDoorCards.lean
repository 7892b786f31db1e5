/-
  DERIVED. GIVEN WITH THE SEED: THE CARDS: each row of YtdjkbpmciibafaaGreatDoorRows.lean that lists a variable, with what it lists TIED to the program's text (the seventh form; the later family's looks); each row that meets fmt, with fmt's text TOLD by the authors' own Lean function (tested against real Go, not proved from fmt's source: count such statements apart). THE CARD IS WHAT COUNTS. Prove the row's statement (the work); the ties are given (YtdjkbpmciibafaaGreatDoorTie.lean); close each card by the builder's one call (the guide's Derived/Test/ToyasCard.lean, 'card_holds'). Laid BY PROGRAM, IN A SANDBOX (cutbox-door.mjs). By AI agents, Wed Nov 11 2026. No macro, syntax, notation, axiom, sorry.
-/
import Derived.Test.YtdjkbpmciibafaaGreatDoorRows
import GoSem.ClaimSeven
namespace Go.Proofs.YtdjkbpmciibafaaGreatDoor
namespace Rows

/-- THE TIED CARD OF 'stairwelllaw12.ReplyBytes'. -/
def replyBytesCard : Claim7 := { stood := { row := replyBytesRow, standIns := [], harness := (true, "4aa5a7cb54ce40dbfd83b3810058d348ca7fc180f5c68a1bfffc1ec24a0e68c5"), looks := false }, kinds := [], alts := [], laidByText := true, laidKinds := [.data, .data, .pinned], laidTests := true, laidLooks := .later }
def ReplyBytesCardSaid : Prop := Claim7.holds Tryz.pinned (.plain (OpenSpec.ofChange replyBytesSpec)) replyBytesCard

/-- THE TIED CARD OF 'stairwelllaw22.DeedBytes'. -/
def deedBytesCard : Claim7 := { stood := { row := deedBytesRow, standIns := [], harness := (true, "4aa5a7cb54ce40dbfd83b3810058d348ca7fc180f5c68a1bfffc1ec24a0e68c5"), looks := false }, kinds := [], alts := [], laidByText := true, laidKinds := [.data, .pinned], laidTests := true, laidLooks := .later }
def DeedBytesCardSaid : Prop := Claim7.holds Tryz.pinned (.plain (OpenSpec.ofChange deedBytesSpec)) deedBytesCard

/-- THE TIED CARD OF 'stairwelllaw22.DeedSame'. -/
def deedSameCard : Claim7 := { stood := { row := deedSameRow, standIns := [], harness := (true, "4aa5a7cb54ce40dbfd83b3810058d348ca7fc180f5c68a1bfffc1ec24a0e68c5"), looks := false }, kinds := [], alts := [], laidByText := true, laidKinds := [.data, .pinned], laidTests := true, laidLooks := .later }
def DeedSameCardSaid : Prop := Claim7.holds Tryz.pinned (.plain (OpenSpec.ofChange deedSameSpec)) deedSameCard

/-- THE TIED CARD OF 'stairwelllaw27.ChansCredit'. -/
def chansCreditCard : Claim7 := { stood := { row := chansCreditRow, standIns := [], harness := (true, "4aa5a7cb54ce40dbfd83b3810058d348ca7fc180f5c68a1bfffc1ec24a0e68c5"), looks := false }, kinds := [], alts := [], laidByText := true, laidKinds := [.data, .pinned], laidTests := true, laidLooks := .later }
def ChansCreditCardSaid : Prop := Claim7.holds Tryz.pinned (.plain (OpenSpec.ofChange chansCreditSpec)) chansCreditCard

/-- THE TIED CARD OF 'stairwelllaw11.MethodReads'. -/
def methodReadsCard : Claim7 := { stood := { row := methodReadsRow, standIns := [], harness := (true, "4aa5a7cb54ce40dbfd83b3810058d348ca7fc180f5c68a1bfffc1ec24a0e68c5"), looks := false }, kinds := [], alts := [], laidByText := true, laidKinds := [.data, .data, .data, .pinned], laidTests := true, laidLooks := .later }
def MethodReadsCardSaid : Prop := Claim7.holds Tryz.pinned (.plain (OpenSpec.ofChange methodReadsSpec)) methodReadsCard

/-- THE TIED CARD OF 'stairwelllaw11.MethodFrames'. -/
def methodFramesCard : Claim7 := { stood := { row := methodFramesRow, standIns := [], harness := (true, "4aa5a7cb54ce40dbfd83b3810058d348ca7fc180f5c68a1bfffc1ec24a0e68c5"), looks := false }, kinds := [], alts := [], laidByText := true, laidKinds := [.data, .data, .data, .pinned], laidTests := true, laidLooks := .later }
def MethodFramesCardSaid : Prop := Claim7.holds Tryz.pinned (.plain (OpenSpec.ofChange methodFramesSpec)) methodFramesCard

/-- THE TIED CARD OF 'stairwelllaw26.DraftPlays'. -/
def draftPlaysCard : Claim7 := { stood := { row := draftPlaysRow, standIns := [], harness := (true, "4aa5a7cb54ce40dbfd83b3810058d348ca7fc180f5c68a1bfffc1ec24a0e68c5"), looks := false }, kinds := [], alts := [], laidByText := true, laidKinds := [.data, .pinned], laidTests := true, laidLooks := .later }
def DraftPlaysCardSaid : Prop := Claim7.holds Tryz.pinned (.plain (OpenSpec.ofChange draftPlaysSpec)) draftPlaysCard

/-- THE TIED CARD OF 'stairwelllaw26.DraftParts'. -/
def draftPartsCard : Claim7 := { stood := { row := draftPartsRow, standIns := [], harness := (true, "4aa5a7cb54ce40dbfd83b3810058d348ca7fc180f5c68a1bfffc1ec24a0e68c5"), looks := false }, kinds := [], alts := [], laidByText := true, laidKinds := [.data, .pinned], laidTests := true, laidLooks := .later }
def DraftPartsCardSaid : Prop := Claim7.holds Tryz.pinned (.plain (OpenSpec.ofChange draftPartsSpec)) draftPartsCard

/-- THE TIED CARD OF 'stairwelllaw26.DraftFull'. -/
def draftFullCard : Claim7 := { stood := { row := draftFullRow, standIns := [], harness := (true, "4aa5a7cb54ce40dbfd83b3810058d348ca7fc180f5c68a1bfffc1ec24a0e68c5"), looks := false }, kinds := [], alts := [], laidByText := true, laidKinds := [.data, .pinned], laidTests := true, laidLooks := .later }
def DraftFullCardSaid : Prop := Claim7.holds Tryz.pinned (.plain (OpenSpec.ofChange draftFullSpec)) draftFullCard

/-- THE TIED CARD OF 'stairwelllaw22.DeedPacks'. -/
def deedPacksCard : Claim7 := { stood := { row := deedPacksRow, standIns := [], harness := (true, "4aa5a7cb54ce40dbfd83b3810058d348ca7fc180f5c68a1bfffc1ec24a0e68c5"), looks := false }, kinds := [], alts := [], laidByText := true, laidKinds := [.data, .pinned], laidTests := true, laidLooks := .later }
def DeedPacksCardSaid : Prop := Claim7.holds Tryz.pinned (.plain (OpenSpec.ofChange deedPacksSpec)) deedPacksCard

/-- THE TIED CARD OF 'stairwelllaw22.DeedReads'. -/
def deedReadsCard : Claim7 := { stood := { row := deedReadsRow, standIns := [], harness := (true, "4aa5a7cb54ce40dbfd83b3810058d348ca7fc180f5c68a1bfffc1ec24a0e68c5"), looks := false }, kinds := [], alts := [], laidByText := true, laidKinds := [.data, .pinned], laidTests := true, laidLooks := .later }
def DeedReadsCardSaid : Prop := Claim7.holds Tryz.pinned (.plain (OpenSpec.ofChange deedReadsSpec)) deedReadsCard

/-- THE TIED CARD OF 'stairwelllaw22.DeedShort'. -/
def deedShortCard : Claim7 := { stood := { row := deedShortRow, standIns := [], harness := (true, "4aa5a7cb54ce40dbfd83b3810058d348ca7fc180f5c68a1bfffc1ec24a0e68c5"), looks := false }, kinds := [], alts := [], laidByText := true, laidKinds := [.data, .pinned], laidTests := true, laidLooks := .later }
def DeedShortCardSaid : Prop := Claim7.holds Tryz.pinned (.plain (OpenSpec.ofChange deedShortSpec)) deedShortCard

/-- THE TIED CARD OF 'stairwelllaw27.ChansOnce'. -/
def chansOnceCard : Claim7 := { stood := { row := chansOnceRow, standIns := [], harness := (true, "4aa5a7cb54ce40dbfd83b3810058d348ca7fc180f5c68a1bfffc1ec24a0e68c5"), looks := false }, kinds := [], alts := [], laidByText := true, laidKinds := [.data, .pinned], laidTests := true, laidLooks := .later }
def ChansOnceCardSaid : Prop := Claim7.holds Tryz.pinned (.plain (OpenSpec.ofChange chansOnceSpec)) chansOnceCard

/-- THE TIED CARD OF 'stairwelllaw27.ChansPlay'. -/
def chansPlayCard : Claim7 := { stood := { row := chansPlayRow, standIns := [], harness := (true, "4aa5a7cb54ce40dbfd83b3810058d348ca7fc180f5c68a1bfffc1ec24a0e68c5"), looks := false }, kinds := [], alts := [], laidByText := true, laidKinds := [.data, .pinned], laidTests := true, laidLooks := .later }
def ChansPlayCardSaid : Prop := Claim7.holds Tryz.pinned (.plain (OpenSpec.ofChange chansPlaySpec)) chansPlayCard

/-- THE SECOND FORM's CARD OF 'stairwelllaw12.ReplyBytes'. -/
def replyBytesUptoCard : Claim7 := { stood := { row := replyBytesUptoRow, standIns := [], harness := (true, "4aa5a7cb54ce40dbfd83b3810058d348ca7fc180f5c68a1bfffc1ec24a0e68c5"), looks := false }, kinds := [], alts := [], laidByText := true, laidKinds := [.data, .data, .pinned], laidTests := true, laidLooks := .later }
def ReplyBytesUptoCardSaid : Prop := Claim7.holds Tryz.pinned (.plain (OpenSpec.upto replyBytesSpec)) replyBytesUptoCard

/-- THE SECOND FORM's CARD OF 'stairwelllaw22.DeedBytes'. -/
def deedBytesUptoCard : Claim7 := { stood := { row := deedBytesUptoRow, standIns := [], harness := (true, "4aa5a7cb54ce40dbfd83b3810058d348ca7fc180f5c68a1bfffc1ec24a0e68c5"), looks := false }, kinds := [], alts := [], laidByText := true, laidKinds := [.data, .pinned], laidTests := true, laidLooks := .later }
def DeedBytesUptoCardSaid : Prop := Claim7.holds Tryz.pinned (.plain (OpenSpec.upto deedBytesSpec)) deedBytesUptoCard

/-- THE SECOND FORM's CARD OF 'stairwelllaw22.DeedSame'. -/
def deedSameUptoCard : Claim7 := { stood := { row := deedSameUptoRow, standIns := [], harness := (true, "4aa5a7cb54ce40dbfd83b3810058d348ca7fc180f5c68a1bfffc1ec24a0e68c5"), looks := false }, kinds := [], alts := [], laidByText := true, laidKinds := [.data, .pinned], laidTests := true, laidLooks := .later }
def DeedSameUptoCardSaid : Prop := Claim7.holds Tryz.pinned (.plain (OpenSpec.upto deedSameSpec)) deedSameUptoCard

/-- THE SECOND FORM's CARD OF 'stairwelllaw27.ChansCredit'. -/
def chansCreditUptoCard : Claim7 := { stood := { row := chansCreditUptoRow, standIns := [], harness := (true, "4aa5a7cb54ce40dbfd83b3810058d348ca7fc180f5c68a1bfffc1ec24a0e68c5"), looks := false }, kinds := [], alts := [], laidByText := true, laidKinds := [.data, .pinned], laidTests := true, laidLooks := .later }
def ChansCreditUptoCardSaid : Prop := Claim7.holds Tryz.pinned (.plain (OpenSpec.upto chansCreditSpec)) chansCreditUptoCard

/-- THE SECOND FORM's CARD OF 'stairwelllaw11.MethodReads'. -/
def methodReadsUptoCard : Claim7 := { stood := { row := methodReadsUptoRow, standIns := [], harness := (true, "4aa5a7cb54ce40dbfd83b3810058d348ca7fc180f5c68a1bfffc1ec24a0e68c5"), looks := false }, kinds := [], alts := [], laidByText := true, laidKinds := [.data, .data, .data, .pinned], laidTests := true, laidLooks := .later }
def MethodReadsUptoCardSaid : Prop := Claim7.holds Tryz.pinned (.plain (OpenSpec.upto methodReadsSpec)) methodReadsUptoCard

/-- THE SECOND FORM's CARD OF 'stairwelllaw11.MethodFrames'. -/
def methodFramesUptoCard : Claim7 := { stood := { row := methodFramesUptoRow, standIns := [], harness := (true, "4aa5a7cb54ce40dbfd83b3810058d348ca7fc180f5c68a1bfffc1ec24a0e68c5"), looks := false }, kinds := [], alts := [], laidByText := true, laidKinds := [.data, .data, .data, .pinned], laidTests := true, laidLooks := .later }
def MethodFramesUptoCardSaid : Prop := Claim7.holds Tryz.pinned (.plain (OpenSpec.upto methodFramesSpec)) methodFramesUptoCard

/-- THE SECOND FORM's CARD OF 'stairwelllaw26.DraftPlays'. -/
def draftPlaysUptoCard : Claim7 := { stood := { row := draftPlaysUptoRow, standIns := [], harness := (true, "4aa5a7cb54ce40dbfd83b3810058d348ca7fc180f5c68a1bfffc1ec24a0e68c5"), looks := false }, kinds := [], alts := [], laidByText := true, laidKinds := [.data, .pinned], laidTests := true, laidLooks := .later }
def DraftPlaysUptoCardSaid : Prop := Claim7.holds Tryz.pinned (.plain (OpenSpec.upto draftPlaysSpec)) draftPlaysUptoCard

/-- THE SECOND FORM's CARD OF 'stairwelllaw26.DraftParts'. -/
def draftPartsUptoCard : Claim7 := { stood := { row := draftPartsUptoRow, standIns := [], harness := (true, "4aa5a7cb54ce40dbfd83b3810058d348ca7fc180f5c68a1bfffc1ec24a0e68c5"), looks := false }, kinds := [], alts := [], laidByText := true, laidKinds := [.data, .pinned], laidTests := true, laidLooks := .later }
def DraftPartsUptoCardSaid : Prop := Claim7.holds Tryz.pinned (.plain (OpenSpec.upto draftPartsSpec)) draftPartsUptoCard

/-- THE SECOND FORM's CARD OF 'stairwelllaw26.DraftFull'. -/
def draftFullUptoCard : Claim7 := { stood := { row := draftFullUptoRow, standIns := [], harness := (true, "4aa5a7cb54ce40dbfd83b3810058d348ca7fc180f5c68a1bfffc1ec24a0e68c5"), looks := false }, kinds := [], alts := [], laidByText := true, laidKinds := [.data, .pinned], laidTests := true, laidLooks := .later }
def DraftFullUptoCardSaid : Prop := Claim7.holds Tryz.pinned (.plain (OpenSpec.upto draftFullSpec)) draftFullUptoCard

/-- THE SECOND FORM's CARD OF 'stairwelllaw22.DeedPacks'. -/
def deedPacksUptoCard : Claim7 := { stood := { row := deedPacksUptoRow, standIns := [], harness := (true, "4aa5a7cb54ce40dbfd83b3810058d348ca7fc180f5c68a1bfffc1ec24a0e68c5"), looks := false }, kinds := [], alts := [], laidByText := true, laidKinds := [.data, .pinned], laidTests := true, laidLooks := .later }
def DeedPacksUptoCardSaid : Prop := Claim7.holds Tryz.pinned (.plain (OpenSpec.upto deedPacksSpec)) deedPacksUptoCard

/-- THE SECOND FORM's CARD OF 'stairwelllaw22.DeedReads'. -/
def deedReadsUptoCard : Claim7 := { stood := { row := deedReadsUptoRow, standIns := [], harness := (true, "4aa5a7cb54ce40dbfd83b3810058d348ca7fc180f5c68a1bfffc1ec24a0e68c5"), looks := false }, kinds := [], alts := [], laidByText := true, laidKinds := [.data, .pinned], laidTests := true, laidLooks := .later }
def DeedReadsUptoCardSaid : Prop := Claim7.holds Tryz.pinned (.plain (OpenSpec.upto deedReadsSpec)) deedReadsUptoCard

/-- THE SECOND FORM's CARD OF 'stairwelllaw22.DeedShort'. -/
def deedShortUptoCard : Claim7 := { stood := { row := deedShortUptoRow, standIns := [], harness := (true, "4aa5a7cb54ce40dbfd83b3810058d348ca7fc180f5c68a1bfffc1ec24a0e68c5"), looks := false }, kinds := [], alts := [], laidByText := true, laidKinds := [.data, .pinned], laidTests := true, laidLooks := .later }
def DeedShortUptoCardSaid : Prop := Claim7.holds Tryz.pinned (.plain (OpenSpec.upto deedShortSpec)) deedShortUptoCard

/-- THE SECOND FORM's CARD OF 'stairwelllaw27.ChansOnce'. -/
def chansOnceUptoCard : Claim7 := { stood := { row := chansOnceUptoRow, standIns := [], harness := (true, "4aa5a7cb54ce40dbfd83b3810058d348ca7fc180f5c68a1bfffc1ec24a0e68c5"), looks := false }, kinds := [], alts := [], laidByText := true, laidKinds := [.data, .pinned], laidTests := true, laidLooks := .later }
def ChansOnceUptoCardSaid : Prop := Claim7.holds Tryz.pinned (.plain (OpenSpec.upto chansOnceSpec)) chansOnceUptoCard

/-- THE SECOND FORM's CARD OF 'stairwelllaw27.ChansPlay'. -/
def chansPlayUptoCard : Claim7 := { stood := { row := chansPlayUptoRow, standIns := [], harness := (true, "4aa5a7cb54ce40dbfd83b3810058d348ca7fc180f5c68a1bfffc1ec24a0e68c5"), looks := false }, kinds := [], alts := [], laidByText := true, laidKinds := [.data, .pinned], laidTests := true, laidLooks := .later }
def ChansPlayUptoCardSaid : Prop := Claim7.holds Tryz.pinned (.plain (OpenSpec.upto chansPlaySpec)) chansPlayUptoCard
end Rows
end Go.Proofs.YtdjkbpmciibafaaGreatDoor
