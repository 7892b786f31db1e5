/-
  DERIVED. GIVEN WITH THE SEED: THE CARDS: each row of YtdkpbleeehmhjaaGreatDoorRows.lean that lists a variable, with what it lists TIED to the program's text (the seventh form; the later family's looks); each row that meets fmt, with fmt's text TOLD by the authors' own Lean function (tested against real Go, not proved from fmt's source: count such statements apart). THE CARD IS WHAT COUNTS. Prove the row's statement (the work); the ties are given (YtdkpbleeehmhjaaGreatDoorTie.lean); close each card by the builder's one call (the guide's Derived/Test/ToyasCard.lean, 'card_holds'). Laid BY PROGRAM, IN A SANDBOX (cutbox-door.mjs). By AI agents, Wed Nov 11 2026. No macro, syntax, notation, axiom, sorry.
-/
import Derived.Test.YtdkpbleeehmhjaaGreatDoorRows
import GoSem.ClaimSeven
namespace Go.Proofs.YtdkpbleeehmhjaaGreatDoor
namespace Rows

/-- THE TIED CARD OF 'stairwelllaw27.ChansCredit'. -/
def chansCreditCard : Claim7 := { stood := { row := chansCreditRow, standIns := [], harness := (true, "85f2fc11f795365adc8f5afe15272bc78c25f69b26e35b63445b8b0da715cf04"), looks := false }, kinds := [], alts := [], laidByText := true, laidKinds := [.data, .pinned], laidTests := true, laidLooks := .later }
def ChansCreditCardSaid : Prop := Claim7.holds Tryz.pinned (.plain (OpenSpec.ofChange chansCreditSpec)) chansCreditCard

/-- THE TIED CARD OF 'stairwelllaw26.DraftPlays'. -/
def draftPlaysCard : Claim7 := { stood := { row := draftPlaysRow, standIns := [], harness := (true, "85f2fc11f795365adc8f5afe15272bc78c25f69b26e35b63445b8b0da715cf04"), looks := false }, kinds := [], alts := [], laidByText := true, laidKinds := [.data, .pinned], laidTests := true, laidLooks := .later }
def DraftPlaysCardSaid : Prop := Claim7.holds Tryz.pinned (.plain (OpenSpec.ofChange draftPlaysSpec)) draftPlaysCard

/-- THE TIED CARD OF 'stairwelllaw26.DraftParts'. -/
def draftPartsCard : Claim7 := { stood := { row := draftPartsRow, standIns := [], harness := (true, "85f2fc11f795365adc8f5afe15272bc78c25f69b26e35b63445b8b0da715cf04"), looks := false }, kinds := [], alts := [], laidByText := true, laidKinds := [.data, .pinned], laidTests := true, laidLooks := .later }
def DraftPartsCardSaid : Prop := Claim7.holds Tryz.pinned (.plain (OpenSpec.ofChange draftPartsSpec)) draftPartsCard

/-- THE TIED CARD OF 'stairwelllaw26.DraftFull'. -/
def draftFullCard : Claim7 := { stood := { row := draftFullRow, standIns := [], harness := (true, "85f2fc11f795365adc8f5afe15272bc78c25f69b26e35b63445b8b0da715cf04"), looks := false }, kinds := [], alts := [], laidByText := true, laidKinds := [.data, .pinned], laidTests := true, laidLooks := .later }
def DraftFullCardSaid : Prop := Claim7.holds Tryz.pinned (.plain (OpenSpec.ofChange draftFullSpec)) draftFullCard

/-- THE TIED CARD OF 'stairwelllaw27.ChansOnce'. -/
def chansOnceCard : Claim7 := { stood := { row := chansOnceRow, standIns := [], harness := (true, "85f2fc11f795365adc8f5afe15272bc78c25f69b26e35b63445b8b0da715cf04"), looks := false }, kinds := [], alts := [], laidByText := true, laidKinds := [.data, .pinned], laidTests := true, laidLooks := .later }
def ChansOnceCardSaid : Prop := Claim7.holds Tryz.pinned (.plain (OpenSpec.ofChange chansOnceSpec)) chansOnceCard

/-- THE TIED CARD OF 'stairwelllaw27.ChansPlay'. -/
def chansPlayCard : Claim7 := { stood := { row := chansPlayRow, standIns := [], harness := (true, "85f2fc11f795365adc8f5afe15272bc78c25f69b26e35b63445b8b0da715cf04"), looks := false }, kinds := [], alts := [], laidByText := true, laidKinds := [.data, .pinned], laidTests := true, laidLooks := .later }
def ChansPlayCardSaid : Prop := Claim7.holds Tryz.pinned (.plain (OpenSpec.ofChange chansPlaySpec)) chansPlayCard

/-- THE SECOND FORM's CARD OF 'stairwelllaw27.ChansCredit'. -/
def chansCreditUptoCard : Claim7 := { stood := { row := chansCreditUptoRow, standIns := [], harness := (true, "85f2fc11f795365adc8f5afe15272bc78c25f69b26e35b63445b8b0da715cf04"), looks := false }, kinds := [], alts := [], laidByText := true, laidKinds := [.data, .pinned], laidTests := true, laidLooks := .later }
def ChansCreditUptoCardSaid : Prop := Claim7.holds Tryz.pinned (.plain (OpenSpec.upto chansCreditSpec)) chansCreditUptoCard

/-- THE SECOND FORM's CARD OF 'stairwelllaw26.DraftPlays'. -/
def draftPlaysUptoCard : Claim7 := { stood := { row := draftPlaysUptoRow, standIns := [], harness := (true, "85f2fc11f795365adc8f5afe15272bc78c25f69b26e35b63445b8b0da715cf04"), looks := false }, kinds := [], alts := [], laidByText := true, laidKinds := [.data, .pinned], laidTests := true, laidLooks := .later }
def DraftPlaysUptoCardSaid : Prop := Claim7.holds Tryz.pinned (.plain (OpenSpec.upto draftPlaysSpec)) draftPlaysUptoCard

/-- THE SECOND FORM's CARD OF 'stairwelllaw26.DraftParts'. -/
def draftPartsUptoCard : Claim7 := { stood := { row := draftPartsUptoRow, standIns := [], harness := (true, "85f2fc11f795365adc8f5afe15272bc78c25f69b26e35b63445b8b0da715cf04"), looks := false }, kinds := [], alts := [], laidByText := true, laidKinds := [.data, .pinned], laidTests := true, laidLooks := .later }
def DraftPartsUptoCardSaid : Prop := Claim7.holds Tryz.pinned (.plain (OpenSpec.upto draftPartsSpec)) draftPartsUptoCard

/-- THE SECOND FORM's CARD OF 'stairwelllaw26.DraftFull'. -/
def draftFullUptoCard : Claim7 := { stood := { row := draftFullUptoRow, standIns := [], harness := (true, "85f2fc11f795365adc8f5afe15272bc78c25f69b26e35b63445b8b0da715cf04"), looks := false }, kinds := [], alts := [], laidByText := true, laidKinds := [.data, .pinned], laidTests := true, laidLooks := .later }
def DraftFullUptoCardSaid : Prop := Claim7.holds Tryz.pinned (.plain (OpenSpec.upto draftFullSpec)) draftFullUptoCard

/-- THE SECOND FORM's CARD OF 'stairwelllaw27.ChansOnce'. -/
def chansOnceUptoCard : Claim7 := { stood := { row := chansOnceUptoRow, standIns := [], harness := (true, "85f2fc11f795365adc8f5afe15272bc78c25f69b26e35b63445b8b0da715cf04"), looks := false }, kinds := [], alts := [], laidByText := true, laidKinds := [.data, .pinned], laidTests := true, laidLooks := .later }
def ChansOnceUptoCardSaid : Prop := Claim7.holds Tryz.pinned (.plain (OpenSpec.upto chansOnceSpec)) chansOnceUptoCard

/-- THE SECOND FORM's CARD OF 'stairwelllaw27.ChansPlay'. -/
def chansPlayUptoCard : Claim7 := { stood := { row := chansPlayUptoRow, standIns := [], harness := (true, "85f2fc11f795365adc8f5afe15272bc78c25f69b26e35b63445b8b0da715cf04"), looks := false }, kinds := [], alts := [], laidByText := true, laidKinds := [.data, .pinned], laidTests := true, laidLooks := .later }
def ChansPlayUptoCardSaid : Prop := Claim7.holds Tryz.pinned (.plain (OpenSpec.upto chansPlaySpec)) chansPlayUptoCard
end Rows
end Go.Proofs.YtdkpbleeehmhjaaGreatDoor
