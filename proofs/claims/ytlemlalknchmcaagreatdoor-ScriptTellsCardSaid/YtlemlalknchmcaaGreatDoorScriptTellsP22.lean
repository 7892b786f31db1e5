/-
  A part of the proof of ScriptTells: what is answered in place.
-/
import Derived.Test.YtlemlalknchmcaaGreatDoorScriptTellsP14
import Derived.Test.YtlemlalknchmcaaGreatDoorScriptTellsP2
import Derived.Test.YtlemlalknchmcaaGreatDoorCards
import Derived.Test.YtlemlalknchmcaaGreatDoorScriptTellsP15
import Derived.Deep.DeepHandedRow
import Derived.Deep.DeepWitnessRowRef
import Derived.Stop.LaidErr
import Derived.Test.YtlemlalknchmcaaGreatDoorScriptTellsP16
import Derived.KernelRfl
import Derived.Test.YtlemlalknchmcaaGreatDoorScriptTellsP19
import Derived.Test.YtlemlalknchmcaaGreatDoorScriptTellsP20
import Derived.Test.YtlemlalknchmcaaGreatDoorScriptTellsP21
set_option linter.unusedVariables false
set_option linter.unusedSimpArgs false
set_option maxRecDepth 100000
set_option maxHeartbeats 4000000
namespace Go.Proofs.YtlemlalknchmcaaGreatDoor.scriptTells
open Go.ChangeShapes Go.WideShapes Go.ChangeAt Go.RowKit Go.SW Go.Proofs
theorem qPlace:(Rows.scriptTellsRow.inPlace==Tryz.pinned.checked.prog.inPlace 6)=true:=by
 unfold Program.inPlace
 rw[clo]
 as_aux_lemma=>kernel_rfl
theorem qUnf:(Rows.scriptTellsRow.unfollowed==Tryz.pinned.checked.prog.unfollowed 6)=true:=by
 unfold Program.unfollowed
 rw[clo]
 as_aux_lemma=>kernel_rfl
theorem qRec:(Rows.scriptTellsRow.recurses==Tryz.pinned.checked.prog.recurses 6)=true:=by
 unfold Program.recurses Program.unfollowed
 rw[clo]
 as_aux_lemma=>kernel_rfl
end Go.Proofs.YtlemlalknchmcaaGreatDoor.scriptTells
