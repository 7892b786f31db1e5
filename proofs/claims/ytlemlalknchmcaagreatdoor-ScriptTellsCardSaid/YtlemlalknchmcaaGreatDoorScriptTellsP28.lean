/-
  A part of the proof of ScriptTells: what is closed of the program.
-/
import Derived.Test.YtlemlalknchmcaaGreatDoorScriptTellsP14
import Derived.Test.YtlemlalknchmcaaGreatDoorScriptTellsP2
import Derived.Test.YtlemlalknchmcaaGreatDoorCards
import Derived.Test.YtlemlalknchmcaaGreatDoorScriptTellsP15
import Derived.Deep.DeepHandedRow
import Derived.Deep.DeepWitnessRowRef
import Derived.Stop.LaidErr
import Derived.Test.YtlemlalknchmcaaGreatDoorScriptTellsP16
import Derived.KernelRfl
import Derived.Test.YtlemlalknchmcaaGreatDoorScriptTellsP19
import Derived.Test.YtlemlalknchmcaaGreatDoorScriptTellsP20
import Derived.Test.YtlemlalknchmcaaGreatDoorScriptTellsP21
import Derived.Test.YtlemlalknchmcaaGreatDoorScriptTellsP22
import Derived.Test.YtlemlalknchmcaaGreatDoorScriptTellsP23
import Derived.Test.YtlemlalknchmcaaGreatDoorScriptTellsP24
import Derived.Test.YtlemlalknchmcaaGreatDoorScriptTellsP25
import Derived.Test.YtlemlalknchmcaaGreatDoorScriptTellsP26
import Derived.Test.YtlemlalknchmcaaGreatDoorScriptTellsP27
set_option linter.unusedVariables false
set_option linter.unusedSimpArgs false
set_option maxRecDepth 100000
set_option maxHeartbeats 4000000
namespace Go.Proofs.YtlemlalknchmcaaGreatDoor.scriptTells
open Go.ChangeShapes Go.WideShapes Go.ChangeAt Go.RowKit Go.SW Go.Proofs
theorem qHrd:Tryz.pinned.checked.prog.stopsHeard=true:=by as_aux_lemma=>kernel_rfl
theorem closed:joinedFacts Tryz.pinned.checked.prog 6 Tryz.f6 (OpenSpec.ofChange Rows.scriptTellsSpec).bare Rows.scriptTellsRow=true:=by
 unfold joinedFacts
 simp only[Bool.and_eq_true]
 repeat' (refine And.intro ?_ ?_)
 all_goals first|with_reducible exact O6_|with_reducible exact qPlace|with_reducible exact qUnf|with_reducible exact qRec|with_reducible exact qNam|with_reducible exact qMap|with_reducible exact qKey|with_reducible exact qEnt|with_reducible exact qHrd|(as_aux_lemma=>kernel_rfl)
end Go.Proofs.YtlemlalknchmcaaGreatDoor.scriptTells
