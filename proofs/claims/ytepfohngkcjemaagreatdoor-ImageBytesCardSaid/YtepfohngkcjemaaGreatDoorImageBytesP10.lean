/-
  A part of the proof of ImageBytes: how the program is laid out.
-/
import Derived.Test.YtepfohngkcjemaaGreatDoorCards
import Derived.Test.YtepfohngkcjemaaGreatDoorImageBytesP8
import Derived.Deep.DeepWitnessRowRef
import Derived.Stop.LaidErr
import Derived.Test.YtepfohngkcjemaaGreatDoorImageBytesP9
set_option maxRecDepth 100000
set_option maxHeartbeats 4000000
namespace Go.Proofs.YtepfohngkcjemaaGreatDoor.imageBytes
open Go.ChangeShapes Go.WideShapes Go.ChangeAt Go.RowKit Go.SW Go.Proofs
theorem own:ownKnob Tryz.prog.godebug=none:=by kernel_rfl
theorem laidTypes:Tryz.prog.types.size=552:=by kernel_rfl
theorem laid0:(List.range' 0 40).all (rowFine Tryz.prog)=true:=by kernel_rfl
theorem laid40:(List.range' 40 40).all (rowFine Tryz.prog)=true:=by kernel_rfl
theorem laid80:(List.range' 80 40).all (rowFine Tryz.prog)=true:=by kernel_rfl
theorem laid120:(List.range' 120 40).all (rowFine Tryz.prog)=true:=by kernel_rfl
theorem laid160:(List.range' 160 40).all (rowFine Tryz.prog)=true:=by kernel_rfl
theorem laid200:(List.range' 200 40).all (rowFine Tryz.prog)=true:=by kernel_rfl
theorem laid240:(List.range' 240 40).all (rowFine Tryz.prog)=true:=by kernel_rfl
theorem laid280:(List.range' 280 40).all (rowFine Tryz.prog)=true:=by kernel_rfl
theorem laid320:(List.range' 320 40).all (rowFine Tryz.prog)=true:=by kernel_rfl
theorem laid360:(List.range' 360 40).all (rowFine Tryz.prog)=true:=by kernel_rfl
theorem laid400:(List.range' 400 40).all (rowFine Tryz.prog)=true:=by kernel_rfl
theorem laid440:(List.range' 440 40).all (rowFine Tryz.prog)=true:=by kernel_rfl
theorem laid480:(List.range' 480 40).all (rowFine Tryz.prog)=true:=by kernel_rfl
theorem laid520:(List.range' 520 32).all (rowFine Tryz.prog)=true:=by kernel_rfl
theorem laidOut:laidOutB Tryz.prog=true:=laidOut_of 552 laidTypes (O9_ (s:=0) (a:=40) laid0 (O9_ (s:=40) (a:=40) laid40 (O9_ (s:=80) (a:=40) laid80 (O9_ (s:=120) (a:=40) laid120 (O9_ (s:=160) (a:=40) laid160 (O9_ (s:=200) (a:=40) laid200 (O9_ (s:=240) (a:=40) laid240 (O9_ (s:=280) (a:=40) laid280 (O9_ (s:=320) (a:=40) laid320 (O9_ (s:=360) (a:=40) laid360 (O9_ (s:=400) (a:=40) laid400 (O9_ (s:=440) (a:=40) laid440 (O9_ (s:=480) (a:=40) laid480 (laid520)))))))))))))) (by as_aux_lemma=>kernel_rfl) (by as_aux_lemma=>kernel_rfl)
theorem laidOutP:laidOutB Tryz.pinned.checked.prog=true:=laidOut
theorem fnm:Tryz.prog.funcNamed "stairwell/stairwelllaw24.ImageBytes" = some 3:=by as_aux_lemma=>kernel_rfl
end Go.Proofs.YtepfohngkcjemaaGreatDoor.imageBytes
