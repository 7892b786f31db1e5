/-
  A part of the proof of ScriptTells: how the program is laid out.
-/
import Derived.Test.YtlemlalknchmcaaGreatDoorScriptTellsP14
import Derived.Test.YtlemlalknchmcaaGreatDoorScriptTellsP2
import Derived.Test.YtlemlalknchmcaaGreatDoorCards
import Derived.Test.YtlemlalknchmcaaGreatDoorScriptTellsP15
import Derived.Deep.DeepHandedRow
import Derived.Deep.DeepWitnessRowRef
import Derived.Stop.LaidErr
import Derived.Test.YtlemlalknchmcaaGreatDoorScriptTellsP16
import Derived.KernelRfl
set_option linter.unusedVariables false
set_option linter.unusedSimpArgs false
set_option maxRecDepth 100000
set_option maxHeartbeats 4000000
namespace Go.Proofs.YtlemlalknchmcaaGreatDoor.scriptTells
open Go.ChangeShapes Go.WideShapes Go.ChangeAt Go.RowKit Go.SW Go.Proofs
theorem own:ownKnob Tryz.prog.godebug=none:=by kernel_rfl
theorem Mh_:Tryz.prog.types.size=694:=by kernel_rfl
theorem laid0:(List.range' 0 40).all (rowFine Tryz.prog)=true:=by kernel_rfl
theorem laid40:(List.range' 40 40).all (rowFine Tryz.prog)=true:=by kernel_rfl
theorem laid80:(List.range' 80 40).all (rowFine Tryz.prog)=true:=by kernel_rfl
theorem laid120:(List.range' 120 40).all (rowFine Tryz.prog)=true:=by kernel_rfl
theorem laid160:(List.range' 160 40).all (rowFine Tryz.prog)=true:=by kernel_rfl
theorem laid200:(List.range' 200 40).all (rowFine Tryz.prog)=true:=by kernel_rfl
theorem laid240:(List.range' 240 40).all (rowFine Tryz.prog)=true:=by kernel_rfl
theorem laid280:(List.range' 280 40).all (rowFine Tryz.prog)=true:=by kernel_rfl
theorem laid320:(List.range' 320 40).all (rowFine Tryz.prog)=true:=by kernel_rfl
theorem laid360:(List.range' 360 40).all (rowFine Tryz.prog)=true:=by kernel_rfl
theorem laid400:(List.range' 400 40).all (rowFine Tryz.prog)=true:=by kernel_rfl
theorem laid440:(List.range' 440 40).all (rowFine Tryz.prog)=true:=by kernel_rfl
theorem laid480:(List.range' 480 40).all (rowFine Tryz.prog)=true:=by kernel_rfl
theorem laid520:(List.range' 520 40).all (rowFine Tryz.prog)=true:=by kernel_rfl
theorem laid560:(List.range' 560 40).all (rowFine Tryz.prog)=true:=by kernel_rfl
theorem laid600:(List.range' 600 40).all (rowFine Tryz.prog)=true:=by kernel_rfl
theorem laid640:(List.range' 640 40).all (rowFine Tryz.prog)=true:=by kernel_rfl
theorem laid680:(List.range' 680 14).all (rowFine Tryz.prog)=true:=by kernel_rfl
theorem Mg_:laidOutB Tryz.prog=true:=Ki_ 694 Mh_ (A6_ (s:=0) (a:=40) laid0 (A6_ (s:=40) (a:=40) laid40 (A6_ (s:=80) (a:=40) laid80 (A6_ (s:=120) (a:=40) laid120 (A6_ (s:=160) (a:=40) laid160 (A6_ (s:=200) (a:=40) laid200 (A6_ (s:=240) (a:=40) laid240 (A6_ (s:=280) (a:=40) laid280 (A6_ (s:=320) (a:=40) laid320 (A6_ (s:=360) (a:=40) laid360 (A6_ (s:=400) (a:=40) laid400 (A6_ (s:=440) (a:=40) laid440 (A6_ (s:=480) (a:=40) laid480 (A6_ (s:=520) (a:=40) laid520 (A6_ (s:=560) (a:=40) laid560 (A6_ (s:=600) (a:=40) laid600 (A6_ (s:=640) (a:=40) laid640 (laid680)))))))))))))))))) (by as_aux_lemma=>kernel_rfl) (by as_aux_lemma=>kernel_rfl)
theorem O6_:laidOutB Tryz.pinned.checked.prog=true:=Mg_
end Go.Proofs.YtlemlalknchmcaaGreatDoor.scriptTells
