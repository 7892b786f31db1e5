/-
  A part of the proof of VaultTogether.
-/
import Derived.Test.YthjabjnhbhmdfaaGreatDoorVaultTogetherP13
import Derived.Test.YthjabjnhbhmdfaaGreatDoorVaultTogetherP5
import Derived.LaidByTextLater
set_option maxRecDepth 100000
set_option maxHeartbeats 4000000
open List renaming getElem?_of_mem->EV
namespace Go.SW.V
open Go.SW
theorem deeds_w{l:List G_}(h:(PV.sl G_.pc l).wf):DdW l:=λd hd=>by
 obtain⟨k,hk⟩:=EV hd
 exact⟨(Ns_ h hk).1,(Ns_ h hk).2,Vs_ h hk,Vt_ h hk,Vu_ h hk⟩
theorem deeds_k{l:List G_}(h:(PV.sl G_.pc l).wf):∀ d∈l,0<=d.kind:=λd hd=>by
 obtain⟨k,hk⟩:=EV hd
 exact (h.2 d (List.mem_of_getElem? hk)).1.1
end Go.SW.V
namespace Go.SW
end Go.SW
