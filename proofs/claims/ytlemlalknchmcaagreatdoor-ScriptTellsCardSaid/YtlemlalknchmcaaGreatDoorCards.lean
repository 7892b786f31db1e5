/-
  DERIVED. GIVEN WITH THE SEED: THE CARDS: each row of YtlemlalknchmcaaGreatDoorRows.lean that lists a variable, with what it lists TIED to the program's text (the seventh form; the later family's looks); each row that meets fmt, with fmt's text TOLD by the authors' own Lean function (tested against real Go, not proved from fmt's source: count such statements apart). THE CARD IS WHAT COUNTS. Prove the row's statement (the work); the ties are given (YtlemlalknchmcaaGreatDoorTie.lean); close each card by the builder's one call (the guide's Derived/Test/ToyasCard.lean, 'card_holds'). Laid BY PROGRAM, IN A SANDBOX (cutbox-door.mjs). By AI agents, Wed Nov 11 2026. No macro, syntax, notation, axiom, sorry.
-/
import Derived.Test.YtlemlalknchmcaaGreatDoorRows
import GoSem.ClaimSeven
namespace Go.Proofs.YtlemlalknchmcaaGreatDoor
namespace Rows

/-- THE TIED CARD OF 'stairwelllaw34.LiveMerges'. -/
def liveMergesCard : Claim7 := { stood := { row := liveMergesRow, standIns := [], harness := (true, "d25b2a3eebe3499b190ff0ef14435fb42108da2ca7d5f2e8d8d1ec61da1b2c2a"), looks := true }, kinds := [], alts := [], laidByText := true, laidKinds := [.data, .pinned, .data, .data, .sentinel, .sentinel, .data, .data, .data], laidTests := true, laidLooks := .later }
def LiveMergesCardSaid : Prop := Claim7.holds Tryz.pinned (.plain (OpenSpec.ofChange liveMergesSpec)) liveMergesCard

/-- THE TIED CARD OF 'stairwelllaw32.PurgeComes'. -/
def purgeComesCard : Claim7 := { stood := { row := purgeComesRow, standIns := [], harness := (true, "d25b2a3eebe3499b190ff0ef14435fb42108da2ca7d5f2e8d8d1ec61da1b2c2a"), looks := true }, kinds := [], alts := [], laidByText := true, laidKinds := [.data, .pinned, .data, .data, .sentinel, .sentinel, .data, .data, .data], laidTests := true, laidLooks := .later }
def PurgeComesCardSaid : Prop := Claim7.holds Tryz.pinned (.plain (OpenSpec.ofChange purgeComesSpec)) purgeComesCard

/-- THE TIED CARD OF 'stairwelllaw32.PurgeOrder'. -/
def purgeOrderCard : Claim7 := { stood := { row := purgeOrderRow, standIns := [], harness := (true, "d25b2a3eebe3499b190ff0ef14435fb42108da2ca7d5f2e8d8d1ec61da1b2c2a"), looks := true }, kinds := [], alts := [], laidByText := true, laidKinds := [.data, .pinned, .data, .data, .sentinel, .sentinel, .data, .data, .data], laidTests := true, laidLooks := .later }
def PurgeOrderCardSaid : Prop := Claim7.holds Tryz.pinned (.plain (OpenSpec.ofChange purgeOrderSpec)) purgeOrderCard

/-- THE TIED CARD OF 'stairwelllaw31.ScriptTells'. -/
def scriptTellsCard : Claim7 := { stood := { row := scriptTellsRow, standIns := [], harness := (true, "d25b2a3eebe3499b190ff0ef14435fb42108da2ca7d5f2e8d8d1ec61da1b2c2a"), looks := true }, kinds := [], alts := [], laidByText := true, laidKinds := [.pinned, .data, .sentinel, .sentinel, .data, .data, .data, .data, .listed, .data, .data], laidTests := true, laidLooks := .later }
def ScriptTellsCardSaid : Prop := Claim7.holds Tryz.pinned (.plain (OpenSpec.ofChange scriptTellsSpec)) scriptTellsCard

/-- THE SECOND FORM's CARD OF 'stairwelllaw34.LiveMerges'. -/
def liveMergesUptoCard : Claim7 := { stood := { row := liveMergesUptoRow, standIns := [], harness := (true, "d25b2a3eebe3499b190ff0ef14435fb42108da2ca7d5f2e8d8d1ec61da1b2c2a"), looks := true }, kinds := [], alts := [], laidByText := true, laidKinds := [.data, .pinned, .data, .data, .sentinel, .sentinel, .data, .data, .data], laidTests := true, laidLooks := .later }
def LiveMergesUptoCardSaid : Prop := Claim7.holds Tryz.pinned (.plain (OpenSpec.upto liveMergesSpec)) liveMergesUptoCard

/-- THE SECOND FORM's CARD OF 'stairwelllaw32.PurgeComes'. -/
def purgeComesUptoCard : Claim7 := { stood := { row := purgeComesUptoRow, standIns := [], harness := (true, "d25b2a3eebe3499b190ff0ef14435fb42108da2ca7d5f2e8d8d1ec61da1b2c2a"), looks := true }, kinds := [], alts := [], laidByText := true, laidKinds := [.data, .pinned, .data, .data, .sentinel, .sentinel, .data, .data, .data], laidTests := true, laidLooks := .later }
def PurgeComesUptoCardSaid : Prop := Claim7.holds Tryz.pinned (.plain (OpenSpec.upto purgeComesSpec)) purgeComesUptoCard

/-- THE SECOND FORM's CARD OF 'stairwelllaw32.PurgeOrder'. -/
def purgeOrderUptoCard : Claim7 := { stood := { row := purgeOrderUptoRow, standIns := [], harness := (true, "d25b2a3eebe3499b190ff0ef14435fb42108da2ca7d5f2e8d8d1ec61da1b2c2a"), looks := true }, kinds := [], alts := [], laidByText := true, laidKinds := [.data, .pinned, .data, .data, .sentinel, .sentinel, .data, .data, .data], laidTests := true, laidLooks := .later }
def PurgeOrderUptoCardSaid : Prop := Claim7.holds Tryz.pinned (.plain (OpenSpec.upto purgeOrderSpec)) purgeOrderUptoCard

/-- THE SECOND FORM's CARD OF 'stairwelllaw31.ScriptTells'. -/
def scriptTellsUptoCard : Claim7 := { stood := { row := scriptTellsUptoRow, standIns := [], harness := (true, "d25b2a3eebe3499b190ff0ef14435fb42108da2ca7d5f2e8d8d1ec61da1b2c2a"), looks := true }, kinds := [], alts := [], laidByText := true, laidKinds := [.pinned, .data, .sentinel, .sentinel, .data, .data, .data, .data, .listed, .data, .data], laidTests := true, laidLooks := .later }
def ScriptTellsUptoCardSaid : Prop := Claim7.holds Tryz.pinned (.plain (OpenSpec.upto scriptTellsSpec)) scriptTellsUptoCard
end Rows
end Go.Proofs.YtlemlalknchmcaaGreatDoor
