/-
  A part of the proof of PurgeComes: what is closed of the program, some at a time.
-/
import Derived.Test.YtlemlalknchmcaaGreatDoorProg
import Derived.Test.YtlemlalknchmcaaGreatDoorRows
import Derived.Test.YtlemlalknchmcaaGreatDoorPurgeComesP16
import Derived.Test.YtlemlalknchmcaaGreatDoorPurgeComesP1
import Derived.Deep.DeepHandedRow
import Derived.Deep.DeepWitnessRowRef
import Derived.KernelRfl
set_option linter.unusedVariables false
set_option linter.unusedSimpArgs false
set_option maxRecDepth 100000
set_option maxHeartbeats 4000000
namespace Go.Proofs.YtlemlalknchmcaaGreatDoor.purgeComes
open Go.ChangeShapes Go.WideShapes Go.ChangeAt Go.RowKit Go.SW Go.Proofs
theorem own:ownKnob Tryz.prog.godebug=none:=by kernel_rfl
theorem P5_:Tryz.prog.types.size=694:=by kernel_rfl
theorem laid0:(List.range' 0 40).all (rowFine Tryz.prog)=true:=by kernel_rfl
theorem laid40:(List.range' 40 40).all (rowFine Tryz.prog)=true:=by kernel_rfl
theorem laid80:(List.range' 80 40).all (rowFine Tryz.prog)=true:=by kernel_rfl
theorem laid120:(List.range' 120 40).all (rowFine Tryz.prog)=true:=by kernel_rfl
theorem laid160:(List.range' 160 40).all (rowFine Tryz.prog)=true:=by kernel_rfl
theorem laid200:(List.range' 200 40).all (rowFine Tryz.prog)=true:=by kernel_rfl
theorem laid240:(List.range' 240 40).all (rowFine Tryz.prog)=true:=by kernel_rfl
theorem laid280:(List.range' 280 40).all (rowFine Tryz.prog)=true:=by kernel_rfl
theorem laid320:(List.range' 320 40).all (rowFine Tryz.prog)=true:=by kernel_rfl
theorem laid360:(List.range' 360 40).all (rowFine Tryz.prog)=true:=by kernel_rfl
theorem laid400:(List.range' 400 40).all (rowFine Tryz.prog)=true:=by kernel_rfl
theorem laid440:(List.range' 440 40).all (rowFine Tryz.prog)=true:=by kernel_rfl
theorem laid480:(List.range' 480 40).all (rowFine Tryz.prog)=true:=by kernel_rfl
theorem laid520:(List.range' 520 40).all (rowFine Tryz.prog)=true:=by kernel_rfl
theorem laid560:(List.range' 560 40).all (rowFine Tryz.prog)=true:=by kernel_rfl
theorem laid600:(List.range' 600 40).all (rowFine Tryz.prog)=true:=by kernel_rfl
theorem laid640:(List.range' 640 40).all (rowFine Tryz.prog)=true:=by kernel_rfl
theorem laid680:(List.range' 680 14).all (rowFine Tryz.prog)=true:=by kernel_rfl
theorem P4_:laidOutB Tryz.prog=true:=N3_ 694 P5_ (B5_ (s:=0) (a:=40) laid0 (B5_ (s:=40) (a:=40) laid40 (B5_ (s:=80) (a:=40) laid80 (B5_ (s:=120) (a:=40) laid120 (B5_ (s:=160) (a:=40) laid160 (B5_ (s:=200) (a:=40) laid200 (B5_ (s:=240) (a:=40) laid240 (B5_ (s:=280) (a:=40) laid280 (B5_ (s:=320) (a:=40) laid320 (B5_ (s:=360) (a:=40) laid360 (B5_ (s:=400) (a:=40) laid400 (B5_ (s:=440) (a:=40) laid440 (B5_ (s:=480) (a:=40) laid480 (B5_ (s:=520) (a:=40) laid520 (B5_ (s:=560) (a:=40) laid560 (B5_ (s:=600) (a:=40) laid600 (B5_ (s:=640) (a:=40) laid640 (laid680)))))))))))))))))) (by as_aux_lemma=>kernel_rfl) (by as_aux_lemma=>kernel_rfl)
theorem Sw_:laidOutB Tryz.pinned.checked.prog=true:=P4_
theorem closed:joinedFacts Tryz.pinned.checked.prog 4 Tryz.f4 (OpenSpec.ofChange Rows.purgeComesSpec).bare Rows.purgeComesRow=true:=by
 unfold joinedFacts
 simp only[Bool.and_eq_true]
 repeat' (refine And.intro ?_ ?_)
 all_goals first|with_reducible exact Sw_|(as_aux_lemma=>kernel_rfl)
end Go.Proofs.YtlemlalknchmcaaGreatDoor.purgeComes
