/-
  A part of the proof of VaultAgain: The example of chapter 25: a deed, a commit, the power. A closed fact, by the kernel.
-/
import Derived.Test.YtfojlhfchpkhlaaGreatDoorVaultAgainP5
set_option maxRecDepth 100000
set_option maxHeartbeats 4000000
namespace Go.SW.V
open Go.SW
theorem st2:Et_ (⟨s25a,g25a⟩:Ay_) d25n=((H_ s25a d25n).2.1,0,(⟨s25b,g25b⟩:Ay_)):=by kernel_rfl
theorem st3:Dn_ (⟨s25b,g25b⟩:Ay_)=(0,(⟨s25b,g25c⟩:Ay_)):=by kernel_rfl
theorem st4:G0_ (Cq_ d25c 0)=d25c:=by kernel_rfl
theorem st5a:H0_ d25c=(true,rl [(5,0),(1,10),(7,0),(1,1),(211,0)],[rl [(1,1),(1,12),(8,0),(1,9),(2,0)]],0,d25c,(⟨d25c,0,1,false,false,[],[]⟩:C5_)):=by kernel_rfl
end Go.SW.V
