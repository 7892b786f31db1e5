/-
  A part of the proof of ImageBytes: keys.
-/
import Derived.Test.YtepfohngkcjemaaGreatDoorImageBytesP12
set_option maxRecDepth 100000
set_option maxHeartbeats 4000000
namespace Go.Proofs.YtepfohngkcjemaaGreatDoor.imageBytes
open Go.ChangeShapes Go.WideShapes Go.ChangeAt Go.RowKit Go.SW Go.Proofs
theorem qKey:(Rows.imageBytesRow.plainKeys==Tryz.pinned.checked.prog.plainKeys)=true:=by as_aux_lemma=>kernel_rfl
theorem qEnt:Tryz.pinned.checked.prog.mayEnter=true:=by as_aux_lemma=>kernel_rfl
end Go.Proofs.YtepfohngkcjemaaGreatDoor.imageBytes
