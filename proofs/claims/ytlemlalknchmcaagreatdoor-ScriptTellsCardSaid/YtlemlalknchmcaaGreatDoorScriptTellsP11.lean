/-
  A part of the proof of ScriptTells: A closed run at this seat: the example of chapter 26 holds. Printed by program.
-/
import Derived.Test.YtlemlalknchmcaaGreatDoorScriptTellsP10
set_option linter.unusedVariables false
set_option linter.unusedSimpArgs false
set_option maxRecDepth 100000
set_option maxHeartbeats 4000000
open Go.Proofs.Tryz
namespace Go.CE
open Go.SW Go.Proofs
theorem a26:CSp prog gT 488 .yes:=Q_ (X:=xT) (C:=cT25) (fu:=1000000) mixE cE25 cbE xE xO
def cT26:Ct:=(488, .yes)::cT25
theorem cE26:COk prog gT cT26:=G_ a26 cE25
theorem a27:CSp prog gT 323 .yes:=Q_ (X:=xT) (C:=cT26) (fu:=1000000) mixE cE26 cbE xE xO
def cT27:Ct:=(323, .yes)::cT26
theorem cE27:COk prog gT cT27:=G_ a27 cE26
theorem a28:CSp prog gT 165 .yes:=Q_ (X:=xT) (C:=cT27) (fu:=1000000) mixE cE27 cbE xE xO
def cT28:Ct:=(165, .yes)::cT27
theorem cE28:COk prog gT cT28:=G_ a28 cE27
theorem a29:CSp prog gT 74 .yes:=Q_ (X:=xT) (C:=cT28) (fu:=1000000) mixE cE28 cbE xE xO
def cT29:Ct:=(74, .yes)::cT28
theorem cE29:COk prog gT cT29:=G_ a29 cE28
end Go.CE
