/-
  A part of the proof of ScriptTells: a closed fact of the tie.
-/
import Derived.Test.YtlemlalknchmcaaGreatDoorRows
import Derived.LaidByTextLater
import Derived.SevenTiedAt
import Derived.KernelRfl
import Derived.Test.YtlemlalknchmcaaGreatDoorScriptTellsP14
import Derived.Test.YtlemlalknchmcaaGreatDoorScriptTellsP17
set_option linter.unusedVariables false
set_option linter.unusedSimpArgs false
set_option maxRecDepth 100000
set_option maxHeartbeats 4000000
open Go.Proofs.Tryz
namespace Go.Proofs.YtlemlalknchmcaaGreatDoor
open Go
theorem tieN:∀ os tape,(DataW.laidRun prog (varsWorld prog 400 (varsId prog) os tape).memory 8 (tieL.map (·.1))).map (λx=>Go.SW.ndM x.2 0&&laidRowsB prog (varsWorld prog 400 (varsId prog) os tape).memory x.2)=some true:=λ_ _=>by as_aux_lemma=>kernel_rfl
end Go.Proofs.YtlemlalknchmcaaGreatDoor
