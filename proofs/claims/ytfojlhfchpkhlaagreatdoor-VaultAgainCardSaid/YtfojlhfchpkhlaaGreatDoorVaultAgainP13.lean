/-
  A part of the proof of VaultAgain: Places that are each there once, seen by a number's bits: for the tie of a row whose variables have many
-/
import Derived.LaidByTextLater
import Derived.Test.YtfojlhfchpkhlaaGreatDoorVaultAgainP1
set_option maxRecDepth 100000
set_option maxHeartbeats 4000000
namespace Go.SW
end Go.SW
