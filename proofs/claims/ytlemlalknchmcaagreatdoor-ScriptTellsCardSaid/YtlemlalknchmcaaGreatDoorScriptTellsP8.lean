/-
  A part of the proof of ScriptTells: A closed run at this seat: the example of chapter 18 holds. Printed by program.
-/
import Derived.Test.YtlemlalknchmcaaGreatDoorScriptTellsP7
set_option linter.unusedVariables false
set_option linter.unusedSimpArgs false
set_option maxRecDepth 100000
set_option maxHeartbeats 4000000
open Go.Proofs.Tryz
namespace Go.CE
open Go.SW Go.Proofs
theorem a18:CSp prog gT 578 .yes:=Q_ (X:=xT) (C:=cT17) (fu:=1000000) mixE cE17 cbE xE xO
def cT18:Ct:=(578, .yes)::cT17
theorem cE18:COk prog gT cT18:=G_ a18 cE17
theorem a19:CSp prog gT 566 .yes:=Q_ (X:=xT) (C:=cT18) (fu:=1000000) mixE cE18 cbE xE xO
def cT19:Ct:=(566, .yes)::cT18
theorem cE19:COk prog gT cT19:=G_ a19 cE18
theorem a20:CSp prog gT 579 .yes:=Q_ (X:=xT) (C:=cT19) (fu:=1000000) mixE cE19 cbE xE xO
def cT20:Ct:=(579, .yes)::cT19
theorem cE20:COk prog gT cT20:=G_ a20 cE19
theorem a21:CSp prog gT 564 .yes:=Q_ (X:=xT) (C:=cT20) (fu:=1000000) mixE cE20 cbE xE xO
def cT21:Ct:=(564, .yes)::cT20
theorem cE21:COk prog gT cT21:=G_ a21 cE20
theorem a22:CSp prog gT 565 .yes:=Q_ (X:=xT) (C:=cT21) (fu:=1000000) mixE cE21 cbE xE xO
def cT22:Ct:=(565, .yes)::cT21
theorem cE22:COk prog gT cT22:=G_ a22 cE21
theorem a23:CSp prog gT 481 .yes:=Q_ (X:=xT) (C:=cT22) (fu:=1000000) mixE cE22 cbE xE xO
def cT23:Ct:=(481, .yes)::cT22
theorem cE23:COk prog gT cT23:=G_ a23 cE22
end Go.CE
