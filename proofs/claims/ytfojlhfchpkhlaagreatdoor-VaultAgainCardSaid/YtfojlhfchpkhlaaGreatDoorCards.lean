/-
  DERIVED. GIVEN WITH THE SEED: THE CARDS: each row of YtfojlhfchpkhlaaGreatDoorRows.lean that lists a variable, with what it lists TIED to the program's text (the seventh form; the later family's looks); each row that meets fmt, with fmt's text TOLD by the authors' own Lean function (tested against real Go, not proved from fmt's source: count such statements apart). THE CARD IS WHAT COUNTS. Prove the row's statement (the work); the ties are given (YtfojlhfchpkhlaaGreatDoorTie.lean); close each card by the builder's one call (the guide's Derived/Test/ToyasCard.lean, 'card_holds'). Laid BY PROGRAM, IN A SANDBOX (cutbox-door.mjs). By AI agents, Wed Nov 11 2026. No macro, syntax, notation, axiom, sorry.
-/
import Derived.Test.YtfojlhfchpkhlaaGreatDoorRows
import GoSem.ClaimSeven
namespace Go.Proofs.YtfojlhfchpkhlaaGreatDoor
namespace Rows

/-- THE TIED CARD OF 'stairwelllaw25.VaultTogether'. -/
def vaultTogetherCard : Claim7 := { stood := { row := vaultTogetherRow, standIns := [], harness := (true, "283c002c1d1bd41fdfc81759d2997362c848299af27e094d1617e97f3ef8cf7c"), looks := true }, kinds := [], alts := [], laidByText := true, laidKinds := [.data, .data, .data, .data, .data, .sentinel, .sentinel, .pinned], laidTests := true, laidLooks := .later }
def VaultTogetherCardSaid : Prop := Claim7.holds Tryz.pinned (.plain (OpenSpec.ofChange vaultTogetherSpec)) vaultTogetherCard

/-- THE TIED CARD OF 'stairwelllaw25.VaultAgain'. -/
def vaultAgainCard : Claim7 := { stood := { row := vaultAgainRow, standIns := [], harness := (true, "283c002c1d1bd41fdfc81759d2997362c848299af27e094d1617e97f3ef8cf7c"), looks := true }, kinds := [], alts := [], laidByText := true, laidKinds := [.data, .data, .data, .data, .data, .sentinel, .sentinel, .pinned], laidTests := true, laidLooks := .later }
def VaultAgainCardSaid : Prop := Claim7.holds Tryz.pinned (.plain (OpenSpec.ofChange vaultAgainSpec)) vaultAgainCard

/-- THE SECOND FORM's CARD OF 'stairwelllaw25.VaultTogether'. -/
def vaultTogetherUptoCard : Claim7 := { stood := { row := vaultTogetherUptoRow, standIns := [], harness := (true, "283c002c1d1bd41fdfc81759d2997362c848299af27e094d1617e97f3ef8cf7c"), looks := true }, kinds := [], alts := [], laidByText := true, laidKinds := [.data, .data, .data, .data, .data, .sentinel, .sentinel, .pinned], laidTests := true, laidLooks := .later }
def VaultTogetherUptoCardSaid : Prop := Claim7.holds Tryz.pinned (.plain (OpenSpec.upto vaultTogetherSpec)) vaultTogetherUptoCard

/-- THE SECOND FORM's CARD OF 'stairwelllaw25.VaultAgain'. -/
def vaultAgainUptoCard : Claim7 := { stood := { row := vaultAgainUptoRow, standIns := [], harness := (true, "283c002c1d1bd41fdfc81759d2997362c848299af27e094d1617e97f3ef8cf7c"), looks := true }, kinds := [], alts := [], laidByText := true, laidKinds := [.data, .data, .data, .data, .data, .sentinel, .sentinel, .pinned], laidTests := true, laidLooks := .later }
def VaultAgainUptoCardSaid : Prop := Claim7.holds Tryz.pinned (.plain (OpenSpec.upto vaultAgainSpec)) vaultAgainUptoCard
end Rows
end Go.Proofs.YtfojlhfchpkhlaaGreatDoor
