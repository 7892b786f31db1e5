/-
  A part of the proof of ScriptTells: the name of a function.
-/
import Derived.Test.YtlemlalknchmcaaGreatDoorScriptTellsP14
import Derived.Test.YtlemlalknchmcaaGreatDoorScriptTellsP2
import Derived.Test.YtlemlalknchmcaaGreatDoorCards
import Derived.Test.YtlemlalknchmcaaGreatDoorScriptTellsP15
import Derived.Deep.DeepHandedRow
import Derived.Deep.DeepWitnessRowRef
import Derived.Stop.LaidErr
import Derived.Test.YtlemlalknchmcaaGreatDoorScriptTellsP16
import Derived.KernelRfl
import Derived.Test.YtlemlalknchmcaaGreatDoorScriptTellsP19
set_option linter.unusedVariables false
set_option linter.unusedSimpArgs false
set_option maxRecDepth 100000
set_option maxHeartbeats 4000000
namespace Go.Proofs.YtlemlalknchmcaaGreatDoor.scriptTells
open Go.ChangeShapes Go.WideShapes Go.ChangeAt Go.RowKit Go.SW Go.Proofs
theorem fnm:Tryz.prog.funcNamed "stairwell/stairwelllaw31.ScriptTells" = some 6:=by as_aux_lemma=>kernel_rfl
end Go.Proofs.YtlemlalknchmcaaGreatDoor.scriptTells
