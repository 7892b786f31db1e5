/-
  A part of the proof of PurgeComes: A closed run at this seat: the example of chapter 32 holds. Printed by
-/
import Derived.Test.YtlemlalknchmcaaGreatDoorPurgeComesP12
set_option linter.unusedVariables false
set_option linter.unusedSimpArgs false
set_option maxRecDepth 100000
set_option maxHeartbeats 4000000
open Go.Proofs.Tryz
namespace Go.CE
open Go.SW Go.Proofs
theorem a32a:CSp prog gT 11 .yes:=V_ (X:=xT) (C:=cT30) (fu:=1000000) mixE cE30 cbE xE xO
theorem f32a:SW.Fn prog V.gb 11 [] (.bool true):=fn_run (X:=xT) (C:=cT) (fu:=0) (λH h=>ghE h) a32a
end Go.CE
