/-
  A part of the proof of ImageBytes: the variables that are named.
-/
import Derived.Test.YtepfohngkcjemaaGreatDoorImageBytesP11
set_option maxRecDepth 100000
set_option maxHeartbeats 4000000
namespace Go.Proofs.YtepfohngkcjemaaGreatDoor.imageBytes
open Go.ChangeShapes Go.WideShapes Go.ChangeAt Go.RowKit Go.SW Go.Proofs
theorem qNam:(Rows.imageBytesRow.named==Tryz.pinned.checked.prog.varsNamed 3)=true:=by
 unfold Program.varsNamed
 rw[clo]
 as_aux_lemma=>kernel_rfl
theorem qMap:mapsRowed Tryz.pinned.checked.prog=true:=by as_aux_lemma=>kernel_rfl
end Go.Proofs.YtepfohngkcjemaaGreatDoor.imageBytes
