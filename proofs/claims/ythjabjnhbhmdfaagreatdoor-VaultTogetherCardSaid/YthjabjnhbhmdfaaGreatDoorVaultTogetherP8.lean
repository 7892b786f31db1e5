/-
  A part of the proof of VaultTogether.
-/
import Derived.Test.YthjabjnhbhmdfaaGreatDoorVaultTogetherP5
import Derived.KernelRfl
import Derived.Test.YthjabjnhbhmdfaaGreatDoorVaultTogetherP7
set_option maxRecDepth 100000
set_option maxHeartbeats 4000000
namespace Go.SW.V
open Go.SW
theorem st5:Dx_ p25 0 d25c 0=(true,0,d25f,(⟨s25f,g25f⟩:Au_)):=by
 unfold Dx_;rw[lt,st5a]
 kernel_rfl
end Go.SW.V
