/-
  A part of the proof of LiveMerges: A closed run at this seat: the example of chapter 34 holds. Printed by
-/
import Derived.Test.YtfaoaphcbchciaaGreatDoorLiveMergesP12
set_option linter.unusedVariables false
set_option linter.unusedSimpArgs false
set_option maxRecDepth 100000
set_option maxHeartbeats 4000000
open Go.Proofs.Tryz
namespace Go.CE
open Go.SW Go.Proofs
theorem a34a:CSp prog gT 7 .yes:=Q_ (X:=xT) (C:=cT30) (fu:=1000000) mixE cE30 cbE xE yZ
theorem f34a:SW.Fn prog V.gb 7 [] (.bool true):=fn_run (X:=xT) (C:=cT) (fu:=0) (λH h=>ghE h) a34a
end Go.CE
