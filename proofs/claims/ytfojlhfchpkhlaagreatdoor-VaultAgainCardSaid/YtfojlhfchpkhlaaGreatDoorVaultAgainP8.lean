/-
  A part of the proof of VaultAgain: The example of chapter 25: the vault is opened again. A closed fact, by the
-/
import Derived.Test.YtfojlhfchpkhlaaGreatDoorVaultAgainP7
set_option maxRecDepth 100000
set_option maxHeartbeats 4000000
namespace Go.SW.V
open Go.SW
theorem st5:Dl_ p25 0 d25c 0=(true,0,d25f,(⟨s25f,g25f⟩:Ay_)):=by
 unfold Dl_;rw[lt,st5a]
 kernel_rfl
end Go.SW.V
