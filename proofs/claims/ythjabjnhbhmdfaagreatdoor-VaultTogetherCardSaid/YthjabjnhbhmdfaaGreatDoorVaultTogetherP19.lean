/-
  A part of the proof of VaultTogether.
-/
import Derived.Test.YthjabjnhbhmdfaaGreatDoorVaultTogetherP12
import Derived.Test.YthjabjnhbhmdfaaGreatDoorVaultTogetherP3
import Derived.Test.YthjabjnhbhmdfaaGreatDoorVaultTogetherP14
import Derived.Test.YthjabjnhbhmdfaaGreatDoorCards
import Derived.Test.YthjabjnhbhmdfaaGreatDoorVaultTogetherP15
import Derived.Deep.DeepHandedRow
import Derived.Deep.DeepWitnessRowRef
import Derived.Stop.LaidErr
import Derived.Test.YthjabjnhbhmdfaaGreatDoorVaultTogetherP16
import Derived.KernelRfl
import Derived.Test.YthjabjnhbhmdfaaGreatDoorVaultTogetherP17
import Derived.Test.YthjabjnhbhmdfaaGreatDoorVaultTogetherP18
set_option maxRecDepth 100000
set_option maxHeartbeats 4000000
namespace Go.Proofs.YthjabjnhbhmdfaaGreatDoor.vaultTogether
open Go.ChangeShapes Go.WideShapes Go.ChangeAt Go.RowKit Go.SW Go.Proofs
theorem qNam:(Rows.vaultTogetherRow.named==Tryz.pinned.checked.prog.varsNamed 3)=true:=by
 unfold Program.varsNamed
 rw[clo]
 as_aux_lemma=>kernel_rfl
theorem qMap:mapsRowed Tryz.pinned.checked.prog=true:=by as_aux_lemma=>kernel_rfl
end Go.Proofs.YthjabjnhbhmdfaaGreatDoor.vaultTogether
