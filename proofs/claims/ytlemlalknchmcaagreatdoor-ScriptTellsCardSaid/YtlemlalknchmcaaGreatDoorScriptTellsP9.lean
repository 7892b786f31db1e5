/-
  A part of the proof of ScriptTells: A closed run at this seat: the example of chapter 24 holds. Printed by
-/
import Derived.Test.YtlemlalknchmcaaGreatDoorScriptTellsP8
set_option linter.unusedVariables false
set_option linter.unusedSimpArgs false
set_option maxRecDepth 100000
set_option maxHeartbeats 4000000
open Go.Proofs.Tryz
namespace Go.CE
open Go.SW Go.Proofs
theorem a24:CSp prog gT 319 .yes:=Q_ (X:=xT) (C:=cT23) (fu:=1000000) mixE cE23 cbE xE xO
def cT24:Ct:=(319, .yes)::cT23
theorem cE24:COk prog gT cT24:=G_ a24 cE23
end Go.CE
