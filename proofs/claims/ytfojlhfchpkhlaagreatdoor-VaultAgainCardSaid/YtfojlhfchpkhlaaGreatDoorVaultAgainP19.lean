/-
  A part of the proof of VaultAgain: keys.
-/
import Derived.Test.YtfojlhfchpkhlaaGreatDoorVaultAgainP18
set_option maxRecDepth 100000
set_option maxHeartbeats 4000000
namespace Go.Proofs.YtfojlhfchpkhlaaGreatDoor.vaultAgain
open Go.ChangeShapes Go.WideShapes Go.ChangeAt Go.RowKit Go.SW Go.Proofs
theorem qKey:(Rows.vaultAgainRow.plainKeys==Tryz.pinned.checked.prog.plainKeys)=true:=by as_aux_lemma=>kernel_rfl
theorem qEnt:Tryz.pinned.checked.prog.mayEnter=true:=by as_aux_lemma=>kernel_rfl
end Go.Proofs.YtfojlhfchpkhlaaGreatDoor.vaultAgain
