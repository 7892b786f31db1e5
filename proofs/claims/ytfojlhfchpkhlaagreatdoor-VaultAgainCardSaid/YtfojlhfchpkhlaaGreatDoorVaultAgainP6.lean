/-
  A part of the proof of VaultAgain: The example of chapter 25: the vault is opened. A closed fact, by the
-/
import Derived.Test.YtfojlhfchpkhlaaGreatDoorVaultAgainP5
set_option maxRecDepth 100000
set_option maxHeartbeats 4000000
namespace Go.SW.V
open Go.SW
theorem st1:Dl_ p25 0 (Em_ 80) 0=(true,0,d25a,(⟨s25a,g25a⟩:Ay_)):=by kernel_rfl
end Go.SW.V
