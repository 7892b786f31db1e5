/-
  A part of the proof of VaultTogether.
-/
import Derived.Test.YthjabjnhbhmdfaaGreatDoorVaultTogetherP12
import Derived.Test.YthjabjnhbhmdfaaGreatDoorVaultTogetherP3
import Derived.Test.YthjabjnhbhmdfaaGreatDoorVaultTogetherP14
import Derived.Test.YthjabjnhbhmdfaaGreatDoorCards
import Derived.Test.YthjabjnhbhmdfaaGreatDoorVaultTogetherP15
import Derived.Deep.DeepHandedRow
import Derived.Deep.DeepWitnessRowRef
import Derived.Stop.LaidErr
import Derived.Test.YthjabjnhbhmdfaaGreatDoorVaultTogetherP16
import Derived.KernelRfl
import Derived.Test.YthjabjnhbhmdfaaGreatDoorVaultTogetherP17
import Derived.Test.YthjabjnhbhmdfaaGreatDoorVaultTogetherP18
import Derived.Test.YthjabjnhbhmdfaaGreatDoorVaultTogetherP19
set_option maxRecDepth 100000
set_option maxHeartbeats 4000000
namespace Go.Proofs.YthjabjnhbhmdfaaGreatDoor.vaultTogether
open Go.ChangeShapes Go.WideShapes Go.ChangeAt Go.RowKit Go.SW Go.Proofs
theorem qKey:(Rows.vaultTogetherRow.plainKeys==Tryz.pinned.checked.prog.plainKeys)=true:=by as_aux_lemma=>kernel_rfl
theorem qEnt:Tryz.pinned.checked.prog.mayEnter=true:=by as_aux_lemma=>kernel_rfl
end Go.Proofs.YthjabjnhbhmdfaaGreatDoor.vaultTogether
