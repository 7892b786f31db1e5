/-
  DERIVED. GIVEN WITH THE SEED: THE CARDS: each row of YtifcilncaepeoaaGreatDoorRows.lean that lists a variable, with what it lists TIED to the program's text (the seventh form; the later family's looks); each row that meets fmt, with fmt's text TOLD by the authors' own Lean function (tested against real Go, not proved from fmt's source: count such statements apart). THE CARD IS WHAT COUNTS. Prove the row's statement (the work); the ties are given (YtifcilncaepeoaaGreatDoorTie.lean); close each card by the builder's one call (the guide's Derived/Test/ToyasCard.lean, 'card_holds'). Laid BY PROGRAM, IN A SANDBOX (cutbox-door.mjs). By AI agents, Wed Nov 11 2026. No macro, syntax, notation, axiom, sorry.
-/
import Derived.Test.YtifcilncaepeoaaGreatDoorRows
import GoSem.ClaimSeven
namespace Go.Proofs.YtifcilncaepeoaaGreatDoor
namespace Rows

/-- THE TIED CARD OF 'stairwelllaw27.ChansOnce'. -/
def chansOnceCard : Claim7 := { stood := { row := chansOnceRow, standIns := [], harness := (true, "0576bc225304898f23769b71f699f9be5d6343ee6148bce1e4352cfdf6a7fc2a"), looks := false }, kinds := [], alts := [], laidByText := true, laidKinds := [.data, .pinned], laidTests := true, laidLooks := .later }
def ChansOnceCardSaid : Prop := Claim7.holds Tryz.pinned (.plain (OpenSpec.ofChange chansOnceSpec)) chansOnceCard

/-- THE TIED CARD OF 'stairwelllaw28.SessionGates'. -/
def sessionGatesCard : Claim7 := { stood := { row := sessionGatesRow, standIns := [], harness := (true, "0576bc225304898f23769b71f699f9be5d6343ee6148bce1e4352cfdf6a7fc2a"), looks := false }, kinds := [], alts := [], laidByText := true, laidKinds := [.data, .data, .data, .pinned], laidTests := true, laidLooks := .later }
def SessionGatesCardSaid : Prop := Claim7.holds Tryz.pinned (.plain (OpenSpec.ofChange sessionGatesSpec)) sessionGatesCard

/-- THE TIED CARD OF 'stairwelllaw28.SessionPieces'. -/
def sessionPiecesCard : Claim7 := { stood := { row := sessionPiecesRow, standIns := [], harness := (true, "0576bc225304898f23769b71f699f9be5d6343ee6148bce1e4352cfdf6a7fc2a"), looks := false }, kinds := [], alts := [], laidByText := true, laidKinds := [.data, .data, .data, .pinned], laidTests := true, laidLooks := .later }
def SessionPiecesCardSaid : Prop := Claim7.holds Tryz.pinned (.plain (OpenSpec.ofChange sessionPiecesSpec)) sessionPiecesCard

/-- THE TIED CARD OF 'stairwelllaw28.SessionPlays'. -/
def sessionPlaysCard : Claim7 := { stood := { row := sessionPlaysRow, standIns := [], harness := (true, "0576bc225304898f23769b71f699f9be5d6343ee6148bce1e4352cfdf6a7fc2a"), looks := false }, kinds := [], alts := [], laidByText := true, laidKinds := [.data, .data, .data, .pinned], laidTests := true, laidLooks := .later }
def SessionPlaysCardSaid : Prop := Claim7.holds Tryz.pinned (.plain (OpenSpec.ofChange sessionPlaysSpec)) sessionPlaysCard

/-- THE SECOND FORM's CARD OF 'stairwelllaw27.ChansOnce'. -/
def chansOnceUptoCard : Claim7 := { stood := { row := chansOnceUptoRow, standIns := [], harness := (true, "0576bc225304898f23769b71f699f9be5d6343ee6148bce1e4352cfdf6a7fc2a"), looks := false }, kinds := [], alts := [], laidByText := true, laidKinds := [.data, .pinned], laidTests := true, laidLooks := .later }
def ChansOnceUptoCardSaid : Prop := Claim7.holds Tryz.pinned (.plain (OpenSpec.upto chansOnceSpec)) chansOnceUptoCard

/-- THE SECOND FORM's CARD OF 'stairwelllaw28.SessionGates'. -/
def sessionGatesUptoCard : Claim7 := { stood := { row := sessionGatesUptoRow, standIns := [], harness := (true, "0576bc225304898f23769b71f699f9be5d6343ee6148bce1e4352cfdf6a7fc2a"), looks := false }, kinds := [], alts := [], laidByText := true, laidKinds := [.data, .data, .data, .pinned], laidTests := true, laidLooks := .later }
def SessionGatesUptoCardSaid : Prop := Claim7.holds Tryz.pinned (.plain (OpenSpec.upto sessionGatesSpec)) sessionGatesUptoCard

/-- THE SECOND FORM's CARD OF 'stairwelllaw28.SessionPieces'. -/
def sessionPiecesUptoCard : Claim7 := { stood := { row := sessionPiecesUptoRow, standIns := [], harness := (true, "0576bc225304898f23769b71f699f9be5d6343ee6148bce1e4352cfdf6a7fc2a"), looks := false }, kinds := [], alts := [], laidByText := true, laidKinds := [.data, .data, .data, .pinned], laidTests := true, laidLooks := .later }
def SessionPiecesUptoCardSaid : Prop := Claim7.holds Tryz.pinned (.plain (OpenSpec.upto sessionPiecesSpec)) sessionPiecesUptoCard

/-- THE SECOND FORM's CARD OF 'stairwelllaw28.SessionPlays'. -/
def sessionPlaysUptoCard : Claim7 := { stood := { row := sessionPlaysUptoRow, standIns := [], harness := (true, "0576bc225304898f23769b71f699f9be5d6343ee6148bce1e4352cfdf6a7fc2a"), looks := false }, kinds := [], alts := [], laidByText := true, laidKinds := [.data, .data, .data, .pinned], laidTests := true, laidLooks := .later }
def SessionPlaysUptoCardSaid : Prop := Claim7.holds Tryz.pinned (.plain (OpenSpec.upto sessionPlaysSpec)) sessionPlaysUptoCard
end Rows
end Go.Proofs.YtifcilncaepeoaaGreatDoor
