/-
  A part of the proof of ScriptTells: A closed run at this seat: the example of chapter 30 holds. Printed by
-/
import Derived.Test.YtlemlalknchmcaaGreatDoorScriptTellsP11
set_option linter.unusedVariables false
set_option linter.unusedSimpArgs false
set_option maxRecDepth 100000
set_option maxHeartbeats 4000000
open Go.Proofs.Tryz
namespace Go.CE
open Go.SW Go.Proofs
theorem a30:CSp prog gT 25 .yes:=Q_ (X:=xT) (C:=cT29) (fu:=1000000) mixE cE29 cbE xE xO
def cT30:Ct:=(25, .yes)::cT29
theorem cE30:COk prog gT cT30:=G_ a30 cE29
end Go.CE
