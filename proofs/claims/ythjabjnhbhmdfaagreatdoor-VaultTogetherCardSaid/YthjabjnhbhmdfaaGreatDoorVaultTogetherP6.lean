/-
  A part of the proof of VaultTogether.
-/
import Derived.Test.YthjabjnhbhmdfaaGreatDoorVaultTogetherP5
import Derived.KernelRfl
set_option maxRecDepth 100000
set_option maxHeartbeats 4000000
namespace Go.SW.V
open Go.SW
theorem st1:Dx_ p25 0 (Da_ 80) 0=(true,0,d25a,(⟨s25a,g25a⟩:Au_)):=by kernel_rfl
end Go.SW.V
