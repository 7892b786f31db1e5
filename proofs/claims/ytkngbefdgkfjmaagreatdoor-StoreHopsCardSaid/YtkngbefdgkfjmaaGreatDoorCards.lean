/-
  DERIVED. GIVEN WITH THE SEED: THE CARDS: each row of YtkngbefdgkfjmaaGreatDoorRows.lean that lists a variable, with what it lists TIED to the program's text (the seventh form; the later family's looks); each row that meets fmt, with fmt's text TOLD by the authors' own Lean function (tested against real Go, not proved from fmt's source: count such statements apart). THE CARD IS WHAT COUNTS. Prove the row's statement (the work); the ties are given (YtkngbefdgkfjmaaGreatDoorTie.lean); close each card by the builder's one call (the guide's Derived/Test/ToyasCard.lean, 'card_holds'). Laid BY PROGRAM, IN A SANDBOX (cutbox-door.mjs). By AI agents, Wed Nov 11 2026. No macro, syntax, notation, axiom, sorry.
-/
import Derived.Test.YtkngbefdgkfjmaaGreatDoorRows
import GoSem.ClaimSeven
namespace Go.Proofs.YtkngbefdgkfjmaaGreatDoor
namespace Rows

/-- THE TIED CARD OF 'stairwelllaw23.StoreFlows'. -/
def storeFlowsCard : Claim7 := { stood := { row := storeFlowsRow, standIns := [], harness := (true, "098339bc8cb9b9a07cf32e825d318df4f5cd8142f7918da000a4d8f6dedcc1f5"), looks := true }, kinds := [], alts := [], laidByText := true, laidKinds := [.data, .data, .data, .data, .sentinel, .sentinel, .pinned], laidTests := true, laidLooks := .later }
def StoreFlowsCardSaid : Prop := Claim7.holds Tryz.pinned (.plain (OpenSpec.ofChange storeFlowsSpec)) storeFlowsCard

/-- THE TIED CARD OF 'stairwelllaw23.StoreRenews'. -/
def storeRenewsCard : Claim7 := { stood := { row := storeRenewsRow, standIns := [], harness := (true, "098339bc8cb9b9a07cf32e825d318df4f5cd8142f7918da000a4d8f6dedcc1f5"), looks := true }, kinds := [], alts := [], laidByText := true, laidKinds := [.data, .data, .data, .data, .sentinel, .sentinel, .pinned], laidTests := true, laidLooks := .later }
def StoreRenewsCardSaid : Prop := Claim7.holds Tryz.pinned (.plain (OpenSpec.ofChange storeRenewsSpec)) storeRenewsCard

/-- THE TIED CARD OF 'stairwelllaw23.StoreBuries'. -/
def storeBuriesCard : Claim7 := { stood := { row := storeBuriesRow, standIns := [], harness := (true, "098339bc8cb9b9a07cf32e825d318df4f5cd8142f7918da000a4d8f6dedcc1f5"), looks := true }, kinds := [], alts := [], laidByText := true, laidKinds := [.data, .data, .data, .data, .sentinel, .sentinel, .pinned], laidTests := true, laidLooks := .later }
def StoreBuriesCardSaid : Prop := Claim7.holds Tryz.pinned (.plain (OpenSpec.ofChange storeBuriesSpec)) storeBuriesCard

/-- THE TIED CARD OF 'stairwelllaw23.StoreApart'. -/
def storeApartCard : Claim7 := { stood := { row := storeApartRow, standIns := [], harness := (true, "098339bc8cb9b9a07cf32e825d318df4f5cd8142f7918da000a4d8f6dedcc1f5"), looks := true }, kinds := [], alts := [], laidByText := true, laidKinds := [.data, .data, .data, .data, .sentinel, .sentinel, .pinned], laidTests := true, laidLooks := .later }
def StoreApartCardSaid : Prop := Claim7.holds Tryz.pinned (.plain (OpenSpec.ofChange storeApartSpec)) storeApartCard

/-- THE TIED CARD OF 'stairwelllaw23.StoreHops'. -/
def storeHopsCard : Claim7 := { stood := { row := storeHopsRow, standIns := [], harness := (true, "098339bc8cb9b9a07cf32e825d318df4f5cd8142f7918da000a4d8f6dedcc1f5"), looks := true }, kinds := [], alts := [], laidByText := true, laidKinds := [.data, .data, .data, .data, .sentinel, .sentinel, .pinned], laidTests := true, laidLooks := .later }
def StoreHopsCardSaid : Prop := Claim7.holds Tryz.pinned (.plain (OpenSpec.ofChange storeHopsSpec)) storeHopsCard

/-- THE TIED CARD OF 'stairwelllaw23.StorePlays'. -/
def storePlaysCard : Claim7 := { stood := { row := storePlaysRow, standIns := [], harness := (true, "098339bc8cb9b9a07cf32e825d318df4f5cd8142f7918da000a4d8f6dedcc1f5"), looks := true }, kinds := [], alts := [], laidByText := true, laidKinds := [.data, .data, .data, .data, .sentinel, .sentinel, .pinned], laidTests := true, laidLooks := .later }
def StorePlaysCardSaid : Prop := Claim7.holds Tryz.pinned (.plain (OpenSpec.ofChange storePlaysSpec)) storePlaysCard

/-- THE SECOND FORM's CARD OF 'stairwelllaw23.StoreFlows'. -/
def storeFlowsUptoCard : Claim7 := { stood := { row := storeFlowsUptoRow, standIns := [], harness := (true, "098339bc8cb9b9a07cf32e825d318df4f5cd8142f7918da000a4d8f6dedcc1f5"), looks := true }, kinds := [], alts := [], laidByText := true, laidKinds := [.data, .data, .data, .data, .sentinel, .sentinel, .pinned], laidTests := true, laidLooks := .later }
def StoreFlowsUptoCardSaid : Prop := Claim7.holds Tryz.pinned (.plain (OpenSpec.upto storeFlowsSpec)) storeFlowsUptoCard

/-- THE SECOND FORM's CARD OF 'stairwelllaw23.StoreRenews'. -/
def storeRenewsUptoCard : Claim7 := { stood := { row := storeRenewsUptoRow, standIns := [], harness := (true, "098339bc8cb9b9a07cf32e825d318df4f5cd8142f7918da000a4d8f6dedcc1f5"), looks := true }, kinds := [], alts := [], laidByText := true, laidKinds := [.data, .data, .data, .data, .sentinel, .sentinel, .pinned], laidTests := true, laidLooks := .later }
def StoreRenewsUptoCardSaid : Prop := Claim7.holds Tryz.pinned (.plain (OpenSpec.upto storeRenewsSpec)) storeRenewsUptoCard

/-- THE SECOND FORM's CARD OF 'stairwelllaw23.StoreBuries'. -/
def storeBuriesUptoCard : Claim7 := { stood := { row := storeBuriesUptoRow, standIns := [], harness := (true, "098339bc8cb9b9a07cf32e825d318df4f5cd8142f7918da000a4d8f6dedcc1f5"), looks := true }, kinds := [], alts := [], laidByText := true, laidKinds := [.data, .data, .data, .data, .sentinel, .sentinel, .pinned], laidTests := true, laidLooks := .later }
def StoreBuriesUptoCardSaid : Prop := Claim7.holds Tryz.pinned (.plain (OpenSpec.upto storeBuriesSpec)) storeBuriesUptoCard

/-- THE SECOND FORM's CARD OF 'stairwelllaw23.StoreApart'. -/
def storeApartUptoCard : Claim7 := { stood := { row := storeApartUptoRow, standIns := [], harness := (true, "098339bc8cb9b9a07cf32e825d318df4f5cd8142f7918da000a4d8f6dedcc1f5"), looks := true }, kinds := [], alts := [], laidByText := true, laidKinds := [.data, .data, .data, .data, .sentinel, .sentinel, .pinned], laidTests := true, laidLooks := .later }
def StoreApartUptoCardSaid : Prop := Claim7.holds Tryz.pinned (.plain (OpenSpec.upto storeApartSpec)) storeApartUptoCard

/-- THE SECOND FORM's CARD OF 'stairwelllaw23.StoreHops'. -/
def storeHopsUptoCard : Claim7 := { stood := { row := storeHopsUptoRow, standIns := [], harness := (true, "098339bc8cb9b9a07cf32e825d318df4f5cd8142f7918da000a4d8f6dedcc1f5"), looks := true }, kinds := [], alts := [], laidByText := true, laidKinds := [.data, .data, .data, .data, .sentinel, .sentinel, .pinned], laidTests := true, laidLooks := .later }
def StoreHopsUptoCardSaid : Prop := Claim7.holds Tryz.pinned (.plain (OpenSpec.upto storeHopsSpec)) storeHopsUptoCard

/-- THE SECOND FORM's CARD OF 'stairwelllaw23.StorePlays'. -/
def storePlaysUptoCard : Claim7 := { stood := { row := storePlaysUptoRow, standIns := [], harness := (true, "098339bc8cb9b9a07cf32e825d318df4f5cd8142f7918da000a4d8f6dedcc1f5"), looks := true }, kinds := [], alts := [], laidByText := true, laidKinds := [.data, .data, .data, .data, .sentinel, .sentinel, .pinned], laidTests := true, laidLooks := .later }
def StorePlaysUptoCardSaid : Prop := Claim7.holds Tryz.pinned (.plain (OpenSpec.upto storePlaysSpec)) storePlaysUptoCard
end Rows
end Go.Proofs.YtkngbefdgkfjmaaGreatDoor
