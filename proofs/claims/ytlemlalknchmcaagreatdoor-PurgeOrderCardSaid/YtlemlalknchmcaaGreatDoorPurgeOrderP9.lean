/-
  A part of the proof of PurgeOrder: A closed run at this seat: the example of chapter 24 holds. Printed by
-/
import Derived.Test.YtlemlalknchmcaaGreatDoorPurgeOrderP8
set_option linter.unusedVariables false
set_option linter.unusedSimpArgs false
set_option maxRecDepth 100000
set_option maxHeartbeats 4000000
open Go.Proofs.Tryz
namespace Go.CE
open Go.SW Go.Proofs
theorem a24:CSp prog gT 319 .yes:=S_ (X:=xT) (C:=cT23) (fu:=1000000) mixE cE23 cbE xE xJ
def cT24:Ct:=(319, .yes)::cT23
theorem cE24:COk prog gT cT24:=F_ a24 cE23
end Go.CE
