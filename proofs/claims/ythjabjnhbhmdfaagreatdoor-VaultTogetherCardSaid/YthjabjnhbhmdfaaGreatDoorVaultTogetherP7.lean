/-
  A part of the proof of VaultTogether.
-/
import Derived.Test.YthjabjnhbhmdfaaGreatDoorVaultTogetherP5
import Derived.KernelRfl
set_option maxRecDepth 100000
set_option maxHeartbeats 4000000
namespace Go.SW.V
open Go.SW
theorem st2:D0_ (⟨s25a,g25a⟩:Au_) d25n=((K_ s25a d25n).2.1,0,(⟨s25b,g25b⟩:Au_)):=by kernel_rfl
theorem st3:Fu_ (⟨s25b,g25b⟩:Au_)=(0,(⟨s25b,g25c⟩:Au_)):=by kernel_rfl
theorem st4:I8_ (Co_ d25c 0)=d25c:=by kernel_rfl
theorem st5a:H6_ d25c=(true,rl [(5,0),(1,10),(7,0),(1,1),(211,0)],[rl [(1,1),(1,12),(8,0),(1,9),(2,0)]],0,d25c,(⟨d25c,0,1,false,false,[],[]⟩:Dy_)):=by kernel_rfl
end Go.SW.V
