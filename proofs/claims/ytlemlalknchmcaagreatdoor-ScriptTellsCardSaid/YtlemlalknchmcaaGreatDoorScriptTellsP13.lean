/-
  A part of the proof of ScriptTells: A closed run at this seat: the example of chapter 31 holds. Printed by
-/
import Derived.Test.YtlemlalknchmcaaGreatDoorScriptTellsP12
set_option linter.unusedVariables false
set_option linter.unusedSimpArgs false
set_option maxRecDepth 100000
set_option maxHeartbeats 4000000
open Go.Proofs.Tryz
namespace Go.CE
open Go.SW Go.Proofs
theorem a31a:CSp prog gT 19 .yes:=Q_ (X:=xT) (C:=cT30) (fu:=1000000) mixE cE30 cbE xE xO
theorem f31a:SW.Fn prog V.gb 19 [] (.bool true):=fn_run (X:=xT) (C:=cT) (fu:=0) (λH h=>ghE h) a31a
end Go.CE
