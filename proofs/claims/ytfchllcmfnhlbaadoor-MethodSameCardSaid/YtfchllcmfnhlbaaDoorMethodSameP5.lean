/-
  A part of the proof of MethodSame: The walks of this seat, printed by program: method.Same, stairwellref11.Same, match.Same, stairwelllaw11.Light, stairwelllaw11.To, method.Method.Rule, stairwelllaw11.MethodSame. From the data that a row's arguments read as to the ground of the walks, and back: a world seen as one that is read alone; integers, texts, bools, structs, slices opened; the row's last step. Over any program; no condition. A table of texts that the row lists. Over any program; no condition.
-/
import Derived.Test.YtfchllcmfnhlbaaDoorProg
import Derived.KernelRfl
import Derived.Test.YtfchllcmfnhlbaaDoorMethodSameP4
import Derived.Test.YtfchllcmfnhlbaaDoorMethodSameP2
import Derived.ProofKit
import Derived.OpenShut
import Derived.Deep.Slices
import Derived.Carry
import Derived.Lib.LaidTab
set_option linter.unusedVariables false
set_option linter.unusedSimpArgs false

set_option linter.unusedVariables false
set_option maxRecDepth 100000
set_option maxHeartbeats 4000000
namespace Go.SW
open Go.Proofs
theorem ag56 : Ag Tryd.prog 56 true := fun w => by kernel_rfl
theorem bd53_0u8_1s_2l_3b (a1 : Int) (a2 : Bs) (a3 : Option Addr) (a3l a3c : Nat) (a4 : Bool) (w : World) : (Instr.build 53 #[(0, .int .u8 a1), (1, str a2), (2, .slice a3 a3l a3c), (3, .bool a4)]).run Tryd.prog w = .ok (.agg #[.int .u8 a1, str a2, .slice a3 a3l a3c, .bool a4]) w := by kernel_rfl
theorem cb20 : Callable Tryd.prog 20 := callable_of Tryd.func20 (by kernel_rfl) (by kernel_rfl)
theorem cb21 : Callable Tryd.prog 21 := callable_of Tryd.func21 (by kernel_rfl) (by kernel_rfl)
theorem cb22 : Callable Tryd.prog 22 := callable_of Tryd.func22 (by kernel_rfl) (by kernel_rfl)
theorem cb23 : Callable Tryd.prog 23 := callable_of Tryd.func23 (by kernel_rfl) (by kernel_rfl)
theorem cb24 : Callable Tryd.prog 24 := callable_of Tryd.func24 (by kernel_rfl) (by kernel_rfl)
theorem cb25 : Callable Tryd.prog 25 := callable_of Tryd.func25 (by kernel_rfl) (by kernel_rfl)
theorem cb26 : Callable Tryd.prog 26 := callable_of Tryd.func26 (by kernel_rfl) (by kernel_rfl)
theorem fl56_0 : Fld Tryd.prog 56 0 0 := fun b o w => by kernel_rfl
theorem fl56_1 : Fld Tryd.prog 56 1 1 := fun b o w => by kernel_rfl
theorem fl56_2 : Fld Tryd.prog 56 2 2 := fun b o w => by kernel_rfl
theorem fl56_3 : Fld Tryd.prog 56 3 3 := fun b o w => by kernel_rfl
theorem fl56_4 : Fld Tryd.prog 56 4 4 := fun b o w => by kernel_rfl
theorem fl56_5 : Fld Tryd.prog 56 5 5 := fun b o w => by kernel_rfl
theorem fl56_6 : Fld Tryd.prog 56 6 6 := fun b o w => by kernel_rfl
theorem fl56_7 : Fld Tryd.prog 56 7 7 := fun b o w => by kernel_rfl
theorem fl56_8 : Fld Tryd.prog 56 8 8 := fun b o w => by kernel_rfl
theorem fl56_9 : Fld Tryd.prog 56 9 9 := fun b o w => by kernel_rfl
theorem sz56 : Sz Tryd.prog 56 10 := fun w => by kernel_rfl
theorem zr56 : Zr Tryd.prog 56 [.int .u8 0, .int .u8 0, str [], str [], str [], .slice none 0 0, str [], .int .u64 0, .int .u64 0, .bool false] := fun w => ⟨.agg #[.int .u8 0, .int .u8 0, str [], str [], str [], .slice none 0 0, str [], .int .u64 0, .int .u64 0, .bool false], by kernel_rfl, rfl⟩

theorem method_Same (H : Hp) (a : Method) (a_head_a : Option Addr) (a_head_c : Nat) (a_head_h : SlH pairE 4 H (.slice a_head_a a.head.length a_head_c) a.head) (a_w : Method.wf a) (b : Method) (b_head_a : Option Addr) (b_head_c : Nat) (b_head_h : SlH pairE 4 H (.slice b_head_a b.head.length b_head_c) b.head) (b_w : Method.wf b) : Pr Tryd.prog 22 #[.agg (Method.cells a a_head_a a_head_c).toArray, .agg (Method.cells b b_head_a b_head_c).toArray] H (.bool (decide (a = b))) := by
  refine pr_cw Tryd.func22 rfl Tryd.ntmps22 rfl (fun N => ?_)
  have a_w' := a_w
  simp only [Method.wf] at a_w'
  have b_w' := b_w
  simp only [Method.wf] at b_w'
  refine cw_seq ?_
  refine cw_region ?_
  refine ow1 (op1_box (cs := [_, _, _, _, _, _, _, _, _, _]) 0 rfl rfl (fun b1 => ?_))
  refine ow1 (op1_box (cs := [_, _, _, _, _, _, _, _, _, _]) 1 rfl rfl (fun b2 => ?_))
  refine ow1 (op1_l rfl (lo_assign (v := .bool _) rfl) ?_)
  refine ow_nil ?_
  refine seqK_n ?_
  refine cw_seq ?_
  refine cw_region ?_
  refine ow1 (op1_l rfl (lo_fieldAddr rfl fl50_0) ?_)
  refine ow1 (op1_l rfl (lo_load1 (i := 0) (v := .int _ _) rfl ag5 rfl rfl) ?_)
  refine ow1 (op1_l rfl (lo_fieldAddr rfl fl50_0) ?_)
  refine ow1 (op1_l rfl (lo_load1 (i := 1) (v := .int _ _) rfl ag5 rfl rfl) ?_)
  refine ow1 (op1_l rfl (lo_eql rfl rfl) ?_)
  refine ow1 (op1_l rfl (lo_move (v := .bool _) rfl) ?_)
  refine ow_sp (j := 5) rfl (fun h3 => ?_) (fun h3 => ?_)
  · have p4 := dt h3
    refine ow1 (op1_g rfl h3 rfl (lo_fieldAddr rfl fl50_1) ?_)
    refine ow1 (op1_g rfl h3 rfl (lo_load1 (i := 0) (v := .int _ _) rfl ag5 rfl rfl) ?_)
    refine ow1 (op1_g rfl h3 rfl (lo_fieldAddr rfl fl50_1) ?_)
    refine ow1 (op1_g rfl h3 rfl (lo_load1 (i := 1) (v := .int _ _) rfl ag5 rfl rfl) ?_)
    refine ow1 (op1_g rfl h3 rfl (lo_eql rfl rfl) ?_)
    refine ow1 (op1_l rfl (lo_pick_t (v := .bool _) rfl h3 rfl) ?_)
    refine ow1 (op1_l rfl (lo_move (v := .bool _) rfl) ?_)
    refine ow_sp (j := 12) rfl (fun h5 => ?_) (fun h5 => ?_)
    · have p6 := dt h5
      refine ow1 (op1_g rfl h5 rfl (lo_fieldAddr rfl fl50_2) ?_)
      refine ow1 (op1_g rfl h5 rfl (lo_load1 (i := 0) (v := str _) rfl ag9 rfl rfl) ?_)
      refine ow1 (op1_g rfl h5 rfl (lo_fieldAddr rfl fl50_2) ?_)
      refine ow1 (op1_g rfl h5 rfl (lo_load1 (i := 1) (v := str _) rfl ag9 rfl rfl) ?_)
      refine ow1 (op1_g rfl h5 rfl (lo_seql rfl rfl) ?_)
      refine ow1 (op1_l rfl (lo_pick_t (v := .bool _) rfl h5 rfl) ?_)
      refine ow1 (op1_l rfl (lo_move (v := .bool _) rfl) ?_)
      refine ow_sp (j := 19) rfl (fun h7 => ?_) (fun h7 => ?_)
      · have p8 := dt h7
        refine ow1 (op1_g rfl h7 rfl (lo_fieldAddr rfl fl50_3) ?_)
        refine ow1 (op1_g rfl h7 rfl (lo_load1 (i := 0) (v := str _) rfl ag9 rfl rfl) ?_)
        refine ow1 (op1_g rfl h7 rfl (lo_fieldAddr rfl fl50_3) ?_)
        refine ow1 (op1_g rfl h7 rfl (lo_load1 (i := 1) (v := str _) rfl ag9 rfl rfl) ?_)
        refine ow1 (op1_g rfl h7 rfl (lo_seql rfl rfl) ?_)
        refine ow1 (op1_l rfl (lo_pick_t (v := .bool _) rfl h7 rfl) ?_)
        refine ow1 (op1_l rfl (lo_move (v := .bool _) rfl) ?_)
        refine ow_sp (j := 26) rfl (fun h9 => ?_) (fun h9 => ?_)
        · have p10 := dt h9
          refine ow1 (op1_g rfl h9 rfl (lo_fieldAddr rfl fl50_4) ?_)
          refine ow1 (op1_g rfl h9 rfl (lo_load1 (i := 0) (v := str _) rfl ag9 rfl rfl) ?_)
          refine ow1 (op1_g rfl h9 rfl (lo_fieldAddr rfl fl50_4) ?_)
          refine ow1 (op1_g rfl h9 rfl (lo_load1 (i := 1) (v := str _) rfl ag9 rfl rfl) ?_)
          refine ow1 (op1_g rfl h9 rfl (lo_seql rfl rfl) ?_)
          refine ow1 (op1_l rfl (lo_pick_t (v := .bool _) rfl h9 rfl) ?_)
          refine ow1 (op1_l rfl (lo_move (v := .bool _) rfl) ?_)
          refine ow_sp (j := 33) rfl (fun h11 => ?_) (fun h11 => ?_)
          · have p12 := dt h11
            refine ow1 (op1_g rfl h11 rfl (lo_fieldAddr rfl fl50_5) ?_)
            refine ow1 (op1_g rfl h11 rfl (lo_load1 (i := 0) (v := .slice _ _ _) rfl ag23 rfl rfl) ?_)
            refine ow1 (op1_g rfl h11 rfl (lo_fieldAddr rfl fl50_5) ?_)
            refine ow1 (op1_g rfl h11 rfl (lo_load1 (i := 1) (v := .slice _ _ _) rfl ag23 rfl rfl) ?_)
            refine ow1 (op1_prg rfl h11 (head_Same _ a_head_a a.head.length a_head_c a.head a_head_h b_head_a b.head.length b_head_c b.head b_head_h (by first | omega | (simp <;> omega))) (en_f cb62 rfl) rfl ?_)
            refine ow1 (op1_l rfl (lo_pick_t (v := .bool _) rfl h11 rfl) ?_)
            refine ow1 (op1_l rfl (lo_move (v := .bool _) rfl) ?_)
            refine ow_sp (j := 40) rfl (fun h13 => ?_) (fun h13 => ?_)
            · refine ow1 (op1_g rfl h13 rfl (lo_fieldAddr rfl fl50_6) ?_)
              refine ow1 (op1_g rfl h13 rfl (lo_load1 (i := 0) (v := str _) rfl ag9 rfl rfl) ?_)
              refine ow1 (op1_g rfl h13 rfl (lo_fieldAddr rfl fl50_6) ?_)
              refine ow1 (op1_g rfl h13 rfl (lo_load1 (i := 1) (v := str _) rfl ag9 rfl rfl) ?_)
              refine ow1 (op1_g rfl h13 rfl (lo_seql rfl rfl) ?_)
              refine ow1 (op1_l rfl (lo_pick_t (v := .bool _) rfl h13 rfl) ?_)
              refine ow1 (op1_l rfl (lo_move (v := .bool _) rfl) ?_)
              refine ow_sp (j := 47) rfl (fun h14 => ?_) (fun h14 => ?_)
              · have p15 := dt h14
                refine ow1 (op1_g rfl h14 rfl (lo_fieldAddr rfl fl50_7) ?_)
                refine ow1 (op1_g rfl h14 rfl (lo_load1 (i := 0) (v := .int _ _) rfl ag22 rfl rfl) ?_)
                refine ow1 (op1_g rfl h14 rfl (lo_fieldAddr rfl fl50_7) ?_)
                refine ow1 (op1_g rfl h14 rfl (lo_load1 (i := 1) (v := .int _ _) rfl ag22 rfl rfl) ?_)
                refine ow1 (op1_g rfl h14 rfl (lo_eql rfl rfl) ?_)
                refine ow1 (op1_l rfl (lo_pick_t (v := .bool _) rfl h14 rfl) ?_)
                refine ow1 (op1_l rfl (lo_move (v := .bool _) rfl) ?_)
                refine ow_sp (j := 54) rfl (fun h16 => ?_) (fun h16 => ?_)
                · have p17 := dt h16
                  refine ow1 (op1_g rfl h16 rfl (lo_fieldAddr rfl fl50_8) ?_)
                  refine ow1 (op1_g rfl h16 rfl (lo_load1 (i := 0) (v := .int _ _) rfl ag22 rfl rfl) ?_)
                  refine ow1 (op1_g rfl h16 rfl (lo_fieldAddr rfl fl50_8) ?_)
                  refine ow1 (op1_g rfl h16 rfl (lo_load1 (i := 1) (v := .int _ _) rfl ag22 rfl rfl) ?_)
                  refine ow1 (op1_g rfl h16 rfl (lo_eql rfl rfl) ?_)
                  refine ow1 (op1_l rfl (lo_pick_t (v := .bool _) rfl h16 rfl) ?_)
                  refine ow1 (op1_l rfl (lo_move (v := .bool _) rfl) ?_)
                  refine ow_sp (j := 61) rfl (fun h18 => ?_) (fun h18 => ?_)
                  · have p19 := dt h18
                    refine ow1 (op1_g rfl h18 rfl (lo_fieldAddr rfl fl50_9) ?_)
                    refine ow1 (op1_g rfl h18 rfl (lo_load1 (i := 0) (v := .bool _) rfl ag4 rfl rfl) ?_)
                    refine ow1 (op1_g rfl h18 rfl (lo_fieldAddr rfl fl50_9) ?_)
                    refine ow1 (op1_g rfl h18 rfl (lo_load1 (i := 1) (v := .bool _) rfl ag4 rfl rfl) ?_)
                    refine ow1 (op1_g rfl h18 rfl (lo_beql rfl rfl Tryd.underlying4) ?_)
                    refine ow1 (op1_l rfl (lo_pick_t (v := .bool _) rfl h18 rfl) ?_)
                    refine ow1 (op1_l rfl (lo_assign (v := .bool _) rfl) ?_)
                    refine ow_nil ?_
                    refine seqK_n ?_
                    refine cw_ret ?_
                    refine fnK_r (res1 rfl (rv_t (v := .bool _) rfl)) (.refl _) ?_
                    first | (simp [Method.eq_iff, *]; done) | (simp [Method.eq_iff, *]; cases a.yes <;> cases b.yes <;> rfl)
                  · have p20 := df h18
                    refine ow1 (op1_gs rfl h18 rfl ?_)
                    refine ow1 (op1_gs rfl h18 rfl ?_)
                    refine ow1 (op1_gs rfl h18 rfl ?_)
                    refine ow1 (op1_gs rfl h18 rfl ?_)
                    refine ow1 (op1_gs rfl h18 rfl ?_)
                    refine ow1 (op1_l rfl (lo_pick_f (v := .bool _) rfl h18 rfl) ?_)
                    refine ow1 (op1_l rfl (lo_assign (v := .bool _) rfl) ?_)
                    refine ow_nil ?_
                    refine seqK_n ?_
                    refine cw_ret ?_
                    refine fnK_r (res1 rfl (rv_t (v := .bool _) rfl)) (.refl _) ?_
                    first | (simp [Method.eq_iff, *]; done) | (simp [Method.eq_iff, *]; cases a.yes <;> cases b.yes <;> rfl)
                · have p21 := df h16
                  refine ow1 (op1_gs rfl h16 rfl ?_)
                  refine ow1 (op1_gs rfl h16 rfl ?_)
                  refine ow1 (op1_gs rfl h16 rfl ?_)
                  refine ow1 (op1_gs rfl h16 rfl ?_)
                  refine ow1 (op1_gs rfl h16 rfl ?_)
                  refine ow1 (op1_l rfl (lo_pick_f (v := .bool _) rfl h16 rfl) ?_)
                  refine ow1 (op1_l rfl (lo_move (v := .bool _) rfl) ?_)
                  refine ow1 (op1_gs rfl rfl rfl ?_)
                  refine ow1 (op1_gs rfl rfl rfl ?_)
                  refine ow1 (op1_gs rfl rfl rfl ?_)
                  refine ow1 (op1_gs rfl rfl rfl ?_)
                  refine ow1 (op1_gs rfl rfl rfl ?_)
                  refine ow1 (op1_l rfl (lo_pick_f (v := .bool _) rfl rfl rfl) ?_)
                  refine ow1 (op1_l rfl (lo_assign (v := .bool _) rfl) ?_)
                  refine ow_nil ?_
                  refine seqK_n ?_
                  refine cw_ret ?_
                  refine fnK_r (res1 rfl (rv_t (v := .bool _) rfl)) (.refl _) ?_
                  first | (simp [Method.eq_iff, *]; done) | (simp [Method.eq_iff, *]; cases a.yes <;> cases b.yes <;> rfl)
              · have p22 := df h14
                refine ow1 (op1_gs rfl h14 rfl ?_)
                refine ow1 (op1_gs rfl h14 rfl ?_)
                refine ow1 (op1_gs rfl h14 rfl ?_)
                refine ow1 (op1_gs rfl h14 rfl ?_)
                refine ow1 (op1_gs rfl h14 rfl ?_)
                refine ow1 (op1_l rfl (lo_pick_f (v := .bool _) rfl h14 rfl) ?_)
                refine ow1 (op1_l rfl (lo_move (v := .bool _) rfl) ?_)
                refine ow1 (op1_gs rfl rfl rfl ?_)
                refine ow1 (op1_gs rfl rfl rfl ?_)
                refine ow1 (op1_gs rfl rfl rfl ?_)
                refine ow1 (op1_gs rfl rfl rfl ?_)
                refine ow1 (op1_gs rfl rfl rfl ?_)
                refine ow1 (op1_l rfl (lo_pick_f (v := .bool _) rfl rfl rfl) ?_)
                refine ow1 (op1_l rfl (lo_move (v := .bool _) rfl) ?_)
                refine ow1 (op1_gs rfl rfl rfl ?_)
                refine ow1 (op1_gs rfl rfl rfl ?_)
                refine ow1 (op1_gs rfl rfl rfl ?_)
                refine ow1 (op1_gs rfl rfl rfl ?_)
                refine ow1 (op1_gs rfl rfl rfl ?_)
                refine ow1 (op1_l rfl (lo_pick_f (v := .bool _) rfl rfl rfl) ?_)
                refine ow1 (op1_l rfl (lo_assign (v := .bool _) rfl) ?_)
                refine ow_nil ?_
                refine seqK_n ?_
                refine cw_ret ?_
                refine fnK_r (res1 rfl (rv_t (v := .bool _) rfl)) (.refl _) ?_
                first | (simp [Method.eq_iff, *]; done) | (simp [Method.eq_iff, *]; cases a.yes <;> cases b.yes <;> rfl)
            · refine ow1 (op1_gs rfl h13 rfl ?_)
              refine ow1 (op1_gs rfl h13 rfl ?_)
              refine ow1 (op1_gs rfl h13 rfl ?_)
              refine ow1 (op1_gs rfl h13 rfl ?_)
              refine ow1 (op1_gs rfl h13 rfl ?_)
              refine ow1 (op1_l rfl (lo_pick_f (v := .bool _) rfl h13 rfl) ?_)
              refine ow1 (op1_l rfl (lo_move (v := .bool _) rfl) ?_)
              refine ow1 (op1_gs rfl rfl rfl ?_)
              refine ow1 (op1_gs rfl rfl rfl ?_)
              refine ow1 (op1_gs rfl rfl rfl ?_)
              refine ow1 (op1_gs rfl rfl rfl ?_)
              refine ow1 (op1_gs rfl rfl rfl ?_)
              refine ow1 (op1_l rfl (lo_pick_f (v := .bool _) rfl rfl rfl) ?_)
              refine ow1 (op1_l rfl (lo_move (v := .bool _) rfl) ?_)
              refine ow1 (op1_gs rfl rfl rfl ?_)
              refine ow1 (op1_gs rfl rfl rfl ?_)
              refine ow1 (op1_gs rfl rfl rfl ?_)
              refine ow1 (op1_gs rfl rfl rfl ?_)
              refine ow1 (op1_gs rfl rfl rfl ?_)
              refine ow1 (op1_l rfl (lo_pick_f (v := .bool _) rfl rfl rfl) ?_)
              refine ow1 (op1_l rfl (lo_move (v := .bool _) rfl) ?_)
              refine ow1 (op1_gs rfl rfl rfl ?_)
              refine ow1 (op1_gs rfl rfl rfl ?_)
              refine ow1 (op1_gs rfl rfl rfl ?_)
              refine ow1 (op1_gs rfl rfl rfl ?_)
              refine ow1 (op1_gs rfl rfl rfl ?_)
              refine ow1 (op1_l rfl (lo_pick_f (v := .bool _) rfl rfl rfl) ?_)
              refine ow1 (op1_l rfl (lo_assign (v := .bool _) rfl) ?_)
              refine ow_nil ?_
              refine seqK_n ?_
              refine cw_ret ?_
              refine fnK_r (res1 rfl (rv_t (v := .bool _) rfl)) (.refl _) ?_
              first | (simp [Method.eq_iff, *]; done) | (simp [Method.eq_iff, *]; cases a.yes <;> cases b.yes <;> rfl)
          · have p23 := df h11
            refine ow1 (op1_gs rfl h11 rfl ?_)
            refine ow1 (op1_gs rfl h11 rfl ?_)
            refine ow1 (op1_gs rfl h11 rfl ?_)
            refine ow1 (op1_gs rfl h11 rfl ?_)
            refine ow1 (op1_gs rfl h11 rfl ?_)
            refine ow1 (op1_l rfl (lo_pick_f (v := .bool _) rfl h11 rfl) ?_)
            refine ow1 (op1_l rfl (lo_move (v := .bool _) rfl) ?_)
            refine ow1 (op1_gs rfl rfl rfl ?_)
            refine ow1 (op1_gs rfl rfl rfl ?_)
            refine ow1 (op1_gs rfl rfl rfl ?_)
            refine ow1 (op1_gs rfl rfl rfl ?_)
            refine ow1 (op1_gs rfl rfl rfl ?_)
            refine ow1 (op1_l rfl (lo_pick_f (v := .bool _) rfl rfl rfl) ?_)
            refine ow1 (op1_l rfl (lo_move (v := .bool _) rfl) ?_)
            refine ow1 (op1_gs rfl rfl rfl ?_)
            refine ow1 (op1_gs rfl rfl rfl ?_)
            refine ow1 (op1_gs rfl rfl rfl ?_)
            refine ow1 (op1_gs rfl rfl rfl ?_)
            refine ow1 (op1_gs rfl rfl rfl ?_)
            refine ow1 (op1_l rfl (lo_pick_f (v := .bool _) rfl rfl rfl) ?_)
            refine ow1 (op1_l rfl (lo_move (v := .bool _) rfl) ?_)
            refine ow1 (op1_gs rfl rfl rfl ?_)
            refine ow1 (op1_gs rfl rfl rfl ?_)
            refine ow1 (op1_gs rfl rfl rfl ?_)
            refine ow1 (op1_gs rfl rfl rfl ?_)
            refine ow1 (op1_gs rfl rfl rfl ?_)
            refine ow1 (op1_l rfl (lo_pick_f (v := .bool _) rfl rfl rfl) ?_)
            refine ow1 (op1_l rfl (lo_move (v := .bool _) rfl) ?_)
            refine ow1 (op1_gs rfl rfl rfl ?_)
            refine ow1 (op1_gs rfl rfl rfl ?_)
            refine ow1 (op1_gs rfl rfl rfl ?_)
            refine ow1 (op1_gs rfl rfl rfl ?_)
            refine ow1 (op1_gs rfl rfl rfl ?_)
            refine ow1 (op1_l rfl (lo_pick_f (v := .bool _) rfl rfl rfl) ?_)
            refine ow1 (op1_l rfl (lo_assign (v := .bool _) rfl) ?_)
            refine ow_nil ?_
            refine seqK_n ?_
            refine cw_ret ?_
            refine fnK_r (res1 rfl (rv_t (v := .bool _) rfl)) (.refl _) ?_
            first | (simp [Method.eq_iff, *]; done) | (simp [Method.eq_iff, *]; cases a.yes <;> cases b.yes <;> rfl)
        · have p24 := df h9
          refine ow1 (op1_gs rfl h9 rfl ?_)
          refine ow1 (op1_gs rfl h9 rfl ?_)
          refine ow1 (op1_gs rfl h9 rfl ?_)
          refine ow1 (op1_gs rfl h9 rfl ?_)
          refine ow1 (op1_gs rfl h9 rfl ?_)
          refine ow1 (op1_l rfl (lo_pick_f (v := .bool _) rfl h9 rfl) ?_)
          refine ow1 (op1_l rfl (lo_move (v := .bool _) rfl) ?_)
          refine ow1 (op1_gs rfl rfl rfl ?_)
          refine ow1 (op1_gs rfl rfl rfl ?_)
          refine ow1 (op1_gs rfl rfl rfl ?_)
          refine ow1 (op1_gs rfl rfl rfl ?_)
          refine ow1 (op1_gs rfl rfl rfl ?_)
          refine ow1 (op1_l rfl (lo_pick_f (v := .bool _) rfl rfl rfl) ?_)
          refine ow1 (op1_l rfl (lo_move (v := .bool _) rfl) ?_)
          refine ow1 (op1_gs rfl rfl rfl ?_)
          refine ow1 (op1_gs rfl rfl rfl ?_)
          refine ow1 (op1_gs rfl rfl rfl ?_)
          refine ow1 (op1_gs rfl rfl rfl ?_)
          refine ow1 (op1_gs rfl rfl rfl ?_)
          refine ow1 (op1_l rfl (lo_pick_f (v := .bool _) rfl rfl rfl) ?_)
          refine ow1 (op1_l rfl (lo_move (v := .bool _) rfl) ?_)
          refine ow1 (op1_gs rfl rfl rfl ?_)
          refine ow1 (op1_gs rfl rfl rfl ?_)
          refine ow1 (op1_gs rfl rfl rfl ?_)
          refine ow1 (op1_gs rfl rfl rfl ?_)
          refine ow1 (op1_gs rfl rfl rfl ?_)
          refine ow1 (op1_l rfl (lo_pick_f (v := .bool _) rfl rfl rfl) ?_)
          refine ow1 (op1_l rfl (lo_move (v := .bool _) rfl) ?_)
          refine ow1 (op1_gs rfl rfl rfl ?_)
          refine ow1 (op1_gs rfl rfl rfl ?_)
          refine ow1 (op1_gs rfl rfl rfl ?_)
          refine ow1 (op1_gs rfl rfl rfl ?_)
          refine ow1 (op1_gs rfl rfl rfl ?_)
          refine ow1 (op1_l rfl (lo_pick_f (v := .bool _) rfl rfl rfl) ?_)
          refine ow1 (op1_l rfl (lo_move (v := .bool _) rfl) ?_)
          refine ow1 (op1_gs rfl rfl rfl ?_)
          refine ow1 (op1_gs rfl rfl rfl ?_)
          refine ow1 (op1_gs rfl rfl rfl ?_)
          refine ow1 (op1_gs rfl rfl rfl ?_)
          refine ow1 (op1_gs rfl rfl rfl ?_)
          refine ow1 (op1_l rfl (lo_pick_f (v := .bool _) rfl rfl rfl) ?_)
          refine ow1 (op1_l rfl (lo_assign (v := .bool _) rfl) ?_)
          refine ow_nil ?_
          refine seqK_n ?_
          refine cw_ret ?_
          refine fnK_r (res1 rfl (rv_t (v := .bool _) rfl)) (.refl _) ?_
          first | (simp [Method.eq_iff, *]; done) | (simp [Method.eq_iff, *]; cases a.yes <;> cases b.yes <;> rfl)
      · have p25 := df h7
        refine ow1 (op1_gs rfl h7 rfl ?_)
        refine ow1 (op1_gs rfl h7 rfl ?_)
        refine ow1 (op1_gs rfl h7 rfl ?_)
        refine ow1 (op1_gs rfl h7 rfl ?_)
        refine ow1 (op1_gs rfl h7 rfl ?_)
        refine ow1 (op1_l rfl (lo_pick_f (v := .bool _) rfl h7 rfl) ?_)
        refine ow1 (op1_l rfl (lo_move (v := .bool _) rfl) ?_)
        refine ow1 (op1_gs rfl rfl rfl ?_)
        refine ow1 (op1_gs rfl rfl rfl ?_)
        refine ow1 (op1_gs rfl rfl rfl ?_)
        refine ow1 (op1_gs rfl rfl rfl ?_)
        refine ow1 (op1_gs rfl rfl rfl ?_)
        refine ow1 (op1_l rfl (lo_pick_f (v := .bool _) rfl rfl rfl) ?_)
        refine ow1 (op1_l rfl (lo_move (v := .bool _) rfl) ?_)
        refine ow1 (op1_gs rfl rfl rfl ?_)
        refine ow1 (op1_gs rfl rfl rfl ?_)
        refine ow1 (op1_gs rfl rfl rfl ?_)
        refine ow1 (op1_gs rfl rfl rfl ?_)
        refine ow1 (op1_gs rfl rfl rfl ?_)
        refine ow1 (op1_l rfl (lo_pick_f (v := .bool _) rfl rfl rfl) ?_)
        refine ow1 (op1_l rfl (lo_move (v := .bool _) rfl) ?_)
        refine ow1 (op1_gs rfl rfl rfl ?_)
        refine ow1 (op1_gs rfl rfl rfl ?_)
        refine ow1 (op1_gs rfl rfl rfl ?_)
        refine ow1 (op1_gs rfl rfl rfl ?_)
        refine ow1 (op1_gs rfl rfl rfl ?_)
        refine ow1 (op1_l rfl (lo_pick_f (v := .bool _) rfl rfl rfl) ?_)
        refine ow1 (op1_l rfl (lo_move (v := .bool _) rfl) ?_)
        refine ow1 (op1_gs rfl rfl rfl ?_)
        refine ow1 (op1_gs rfl rfl rfl ?_)
        refine ow1 (op1_gs rfl rfl rfl ?_)
        refine ow1 (op1_gs rfl rfl rfl ?_)
        refine ow1 (op1_gs rfl rfl rfl ?_)
        refine ow1 (op1_l rfl (lo_pick_f (v := .bool _) rfl rfl rfl) ?_)
        refine ow1 (op1_l rfl (lo_move (v := .bool _) rfl) ?_)
        refine ow1 (op1_gs rfl rfl rfl ?_)
        refine ow1 (op1_gs rfl rfl rfl ?_)
        refine ow1 (op1_gs rfl rfl rfl ?_)
        refine ow1 (op1_gs rfl rfl rfl ?_)
        refine ow1 (op1_gs rfl rfl rfl ?_)
        refine ow1 (op1_l rfl (lo_pick_f (v := .bool _) rfl rfl rfl) ?_)
        refine ow1 (op1_l rfl (lo_move (v := .bool _) rfl) ?_)
        refine ow1 (op1_gs rfl rfl rfl ?_)
        refine ow1 (op1_gs rfl rfl rfl ?_)
        refine ow1 (op1_gs rfl rfl rfl ?_)
        refine ow1 (op1_gs rfl rfl rfl ?_)
        refine ow1 (op1_gs rfl rfl rfl ?_)
        refine ow1 (op1_l rfl (lo_pick_f (v := .bool _) rfl rfl rfl) ?_)
        refine ow1 (op1_l rfl (lo_assign (v := .bool _) rfl) ?_)
        refine ow_nil ?_
        refine seqK_n ?_
        refine cw_ret ?_
        refine fnK_r (res1 rfl (rv_t (v := .bool _) rfl)) (.refl _) ?_
        first | (simp [Method.eq_iff, *]; done) | (simp [Method.eq_iff, *]; cases a.yes <;> cases b.yes <;> rfl)
    · have p26 := df h5
      refine ow1 (op1_gs rfl h5 rfl ?_)
      refine ow1 (op1_gs rfl h5 rfl ?_)
      refine ow1 (op1_gs rfl h5 rfl ?_)
      refine ow1 (op1_gs rfl h5 rfl ?_)
      refine ow1 (op1_gs rfl h5 rfl ?_)
      refine ow1 (op1_l rfl (lo_pick_f (v := .bool _) rfl h5 rfl) ?_)
      refine ow1 (op1_l rfl (lo_move (v := .bool _) rfl) ?_)
      refine ow1 (op1_gs rfl rfl rfl ?_)
      refine ow1 (op1_gs rfl rfl rfl ?_)
      refine ow1 (op1_gs rfl rfl rfl ?_)
      refine ow1 (op1_gs rfl rfl rfl ?_)
      refine ow1 (op1_gs rfl rfl rfl ?_)
      refine ow1 (op1_l rfl (lo_pick_f (v := .bool _) rfl rfl rfl) ?_)
      refine ow1 (op1_l rfl (lo_move (v := .bool _) rfl) ?_)
      refine ow1 (op1_gs rfl rfl rfl ?_)
      refine ow1 (op1_gs rfl rfl rfl ?_)
      refine ow1 (op1_gs rfl rfl rfl ?_)
      refine ow1 (op1_gs rfl rfl rfl ?_)
      refine ow1 (op1_gs rfl rfl rfl ?_)
      refine ow1 (op1_l rfl (lo_pick_f (v := .bool _) rfl rfl rfl) ?_)
      refine ow1 (op1_l rfl (lo_move (v := .bool _) rfl) ?_)
      refine ow1 (op1_gs rfl rfl rfl ?_)
      refine ow1 (op1_gs rfl rfl rfl ?_)
      refine ow1 (op1_gs rfl rfl rfl ?_)
      refine ow1 (op1_gs rfl rfl rfl ?_)
      refine ow1 (op1_gs rfl rfl rfl ?_)
      refine ow1 (op1_l rfl (lo_pick_f (v := .bool _) rfl rfl rfl) ?_)
      refine ow1 (op1_l rfl (lo_move (v := .bool _) rfl) ?_)
      refine ow1 (op1_gs rfl rfl rfl ?_)
      refine ow1 (op1_gs rfl rfl rfl ?_)
      refine ow1 (op1_gs rfl rfl rfl ?_)
      refine ow1 (op1_gs rfl rfl rfl ?_)
      refine ow1 (op1_gs rfl rfl rfl ?_)
      refine ow1 (op1_l rfl (lo_pick_f (v := .bool _) rfl rfl rfl) ?_)
      refine ow1 (op1_l rfl (lo_move (v := .bool _) rfl) ?_)
      refine ow1 (op1_gs rfl rfl rfl ?_)
      refine ow1 (op1_gs rfl rfl rfl ?_)
      refine ow1 (op1_gs rfl rfl rfl ?_)
      refine ow1 (op1_gs rfl rfl rfl ?_)
      refine ow1 (op1_gs rfl rfl rfl ?_)
      refine ow1 (op1_l rfl (lo_pick_f (v := .bool _) rfl rfl rfl) ?_)
      refine ow1 (op1_l rfl (lo_move (v := .bool _) rfl) ?_)
      refine ow1 (op1_gs rfl rfl rfl ?_)
      refine ow1 (op1_gs rfl rfl rfl ?_)
      refine ow1 (op1_gs rfl rfl rfl ?_)
      refine ow1 (op1_gs rfl rfl rfl ?_)
      refine ow1 (op1_gs rfl rfl rfl ?_)
      refine ow1 (op1_l rfl (lo_pick_f (v := .bool _) rfl rfl rfl) ?_)
      refine ow1 (op1_l rfl (lo_move (v := .bool _) rfl) ?_)
      refine ow1 (op1_gs rfl rfl rfl ?_)
      refine ow1 (op1_gs rfl rfl rfl ?_)
      refine ow1 (op1_gs rfl rfl rfl ?_)
      refine ow1 (op1_gs rfl rfl rfl ?_)
      refine ow1 (op1_gs rfl rfl rfl ?_)
      refine ow1 (op1_l rfl (lo_pick_f (v := .bool _) rfl rfl rfl) ?_)
      refine ow1 (op1_l rfl (lo_assign (v := .bool _) rfl) ?_)
      refine ow_nil ?_
      refine seqK_n ?_
      refine cw_ret ?_
      refine fnK_r (res1 rfl (rv_t (v := .bool _) rfl)) (.refl _) ?_
      first | (simp [Method.eq_iff, *]; done) | (simp [Method.eq_iff, *]; cases a.yes <;> cases b.yes <;> rfl)
  · have p27 := df h3
    refine ow1 (op1_gs rfl h3 rfl ?_)
    refine ow1 (op1_gs rfl h3 rfl ?_)
    refine ow1 (op1_gs rfl h3 rfl ?_)
    refine ow1 (op1_gs rfl h3 rfl ?_)
    refine ow1 (op1_gs rfl h3 rfl ?_)
    refine ow1 (op1_l rfl (lo_pick_f (v := .bool _) rfl h3 rfl) ?_)
    refine ow1 (op1_l rfl (lo_move (v := .bool _) rfl) ?_)
    refine ow1 (op1_gs rfl rfl rfl ?_)
    refine ow1 (op1_gs rfl rfl rfl ?_)
    refine ow1 (op1_gs rfl rfl rfl ?_)
    refine ow1 (op1_gs rfl rfl rfl ?_)
    refine ow1 (op1_gs rfl rfl rfl ?_)
    refine ow1 (op1_l rfl (lo_pick_f (v := .bool _) rfl rfl rfl) ?_)
    refine ow1 (op1_l rfl (lo_move (v := .bool _) rfl) ?_)
    refine ow1 (op1_gs rfl rfl rfl ?_)
    refine ow1 (op1_gs rfl rfl rfl ?_)
    refine ow1 (op1_gs rfl rfl rfl ?_)
    refine ow1 (op1_gs rfl rfl rfl ?_)
    refine ow1 (op1_gs rfl rfl rfl ?_)
    refine ow1 (op1_l rfl (lo_pick_f (v := .bool _) rfl rfl rfl) ?_)
    refine ow1 (op1_l rfl (lo_move (v := .bool _) rfl) ?_)
    refine ow1 (op1_gs rfl rfl rfl ?_)
    refine ow1 (op1_gs rfl rfl rfl ?_)
    refine ow1 (op1_gs rfl rfl rfl ?_)
    refine ow1 (op1_gs rfl rfl rfl ?_)
    refine ow1 (op1_gs rfl rfl rfl ?_)
    refine ow1 (op1_l rfl (lo_pick_f (v := .bool _) rfl rfl rfl) ?_)
    refine ow1 (op1_l rfl (lo_move (v := .bool _) rfl) ?_)
    refine ow1 (op1_gs rfl rfl rfl ?_)
    refine ow1 (op1_gs rfl rfl rfl ?_)
    refine ow1 (op1_gs rfl rfl rfl ?_)
    refine ow1 (op1_gs rfl rfl rfl ?_)
    refine ow1 (op1_gs rfl rfl rfl ?_)
    refine ow1 (op1_l rfl (lo_pick_f (v := .bool _) rfl rfl rfl) ?_)
    refine ow1 (op1_l rfl (lo_move (v := .bool _) rfl) ?_)
    refine ow1 (op1_gs rfl rfl rfl ?_)
    refine ow1 (op1_gs rfl rfl rfl ?_)
    refine ow1 (op1_gs rfl rfl rfl ?_)
    refine ow1 (op1_gs rfl rfl rfl ?_)
    refine ow1 (op1_gs rfl rfl rfl ?_)
    refine ow1 (op1_l rfl (lo_pick_f (v := .bool _) rfl rfl rfl) ?_)
    refine ow1 (op1_l rfl (lo_move (v := .bool _) rfl) ?_)
    refine ow1 (op1_gs rfl rfl rfl ?_)
    refine ow1 (op1_gs rfl rfl rfl ?_)
    refine ow1 (op1_gs rfl rfl rfl ?_)
    refine ow1 (op1_gs rfl rfl rfl ?_)
    refine ow1 (op1_gs rfl rfl rfl ?_)
    refine ow1 (op1_l rfl (lo_pick_f (v := .bool _) rfl rfl rfl) ?_)
    refine ow1 (op1_l rfl (lo_move (v := .bool _) rfl) ?_)
    refine ow1 (op1_gs rfl rfl rfl ?_)
    refine ow1 (op1_gs rfl rfl rfl ?_)
    refine ow1 (op1_gs rfl rfl rfl ?_)
    refine ow1 (op1_gs rfl rfl rfl ?_)
    refine ow1 (op1_gs rfl rfl rfl ?_)
    refine ow1 (op1_l rfl (lo_pick_f (v := .bool _) rfl rfl rfl) ?_)
    refine ow1 (op1_l rfl (lo_move (v := .bool _) rfl) ?_)
    refine ow1 (op1_gs rfl rfl rfl ?_)
    refine ow1 (op1_gs rfl rfl rfl ?_)
    refine ow1 (op1_gs rfl rfl rfl ?_)
    refine ow1 (op1_gs rfl rfl rfl ?_)
    refine ow1 (op1_gs rfl rfl rfl ?_)
    refine ow1 (op1_l rfl (lo_pick_f (v := .bool _) rfl rfl rfl) ?_)
    refine ow1 (op1_l rfl (lo_assign (v := .bool _) rfl) ?_)
    refine ow_nil ?_
    refine seqK_n ?_
    refine cw_ret ?_
    refine fnK_r (res1 rfl (rv_t (v := .bool _) rfl)) (.refl _) ?_
    first | (simp [Method.eq_iff, *]; done) | (simp [Method.eq_iff, *]; cases a.yes <;> cases b.yes <;> rfl)

theorem r11_Same (H : Hp) (a : Method) (a_head_a : Option Addr) (a_head_c : Nat) (a_head_h : SlH pairE 4 H (.slice a_head_a a.head.length a_head_c) a.head) (a_w : Method.wf a) (b : Method) (b_head_a : Option Addr) (b_head_c : Nat) (b_head_h : SlH pairE 4 H (.slice b_head_a b.head.length b_head_c) b.head) (b_w : Method.wf b) : Pr Tryd.prog 23 #[.agg (Method.cells a a_head_a a_head_c).toArray, .agg (Method.cells b b_head_a b_head_c).toArray] H (.bool (decide (a = b))) := by
  refine pr_cw Tryd.func23 rfl Tryd.ntmps23 rfl (fun N => ?_)
  have a_w' := a_w
  simp only [Method.wf] at a_w'
  have b_w' := b_w
  simp only [Method.wf] at b_w'
  refine cw_seq ?_
  refine cw_region ?_
  refine ow1 (op1_box (cs := [_, _, _, _, _, _, _, _, _, _]) 0 rfl rfl (fun b1 => ?_))
  refine ow1 (op1_box (cs := [_, _, _, _, _, _, _, _, _, _]) 1 rfl rfl (fun b2 => ?_))
  refine ow1 (op1_l rfl (lo_assign (v := .bool _) rfl) ?_)
  refine ow_nil ?_
  refine seqK_n ?_
  refine cw_seq ?_
  refine cw_region ?_
  refine ow1 (op1_l rfl (lo_fieldAddr rfl fl56_0) ?_)
  refine ow1 (op1_l rfl (lo_load1 (i := 0) (v := .int _ _) rfl ag5 rfl rfl) ?_)
  refine ow1 (op1_l rfl (lo_fieldAddr rfl fl56_0) ?_)
  refine ow1 (op1_l rfl (lo_load1 (i := 1) (v := .int _ _) rfl ag5 rfl rfl) ?_)
  refine ow1 (op1_l rfl (lo_eql rfl rfl) ?_)
  refine ow1 (op1_l rfl (lo_move (v := .bool _) rfl) ?_)
  refine ow_sp (j := 5) rfl (fun h3 => ?_) (fun h3 => ?_)
  · have p4 := dt h3
    refine ow1 (op1_g rfl h3 rfl (lo_fieldAddr rfl fl56_1) ?_)
    refine ow1 (op1_g rfl h3 rfl (lo_load1 (i := 0) (v := .int _ _) rfl ag5 rfl rfl) ?_)
    refine ow1 (op1_g rfl h3 rfl (lo_fieldAddr rfl fl56_1) ?_)
    refine ow1 (op1_g rfl h3 rfl (lo_load1 (i := 1) (v := .int _ _) rfl ag5 rfl rfl) ?_)
    refine ow1 (op1_g rfl h3 rfl (lo_eql rfl rfl) ?_)
    refine ow1 (op1_l rfl (lo_pick_t (v := .bool _) rfl h3 rfl) ?_)
    refine ow1 (op1_l rfl (lo_move (v := .bool _) rfl) ?_)
    refine ow_sp (j := 12) rfl (fun h5 => ?_) (fun h5 => ?_)
    · have p6 := dt h5
      refine ow1 (op1_g rfl h5 rfl (lo_fieldAddr rfl fl56_2) ?_)
      refine ow1 (op1_g rfl h5 rfl (lo_load1 (i := 0) (v := str _) rfl ag9 rfl rfl) ?_)
      refine ow1 (op1_g rfl h5 rfl (lo_fieldAddr rfl fl56_2) ?_)
      refine ow1 (op1_g rfl h5 rfl (lo_load1 (i := 1) (v := str _) rfl ag9 rfl rfl) ?_)
      refine ow1 (op1_g rfl h5 rfl (lo_seql rfl rfl) ?_)
      refine ow1 (op1_l rfl (lo_pick_t (v := .bool _) rfl h5 rfl) ?_)
      refine ow1 (op1_l rfl (lo_move (v := .bool _) rfl) ?_)
      refine ow_sp (j := 19) rfl (fun h7 => ?_) (fun h7 => ?_)
      · have p8 := dt h7
        refine ow1 (op1_g rfl h7 rfl (lo_fieldAddr rfl fl56_3) ?_)
        refine ow1 (op1_g rfl h7 rfl (lo_load1 (i := 0) (v := str _) rfl ag9 rfl rfl) ?_)
        refine ow1 (op1_g rfl h7 rfl (lo_fieldAddr rfl fl56_3) ?_)
        refine ow1 (op1_g rfl h7 rfl (lo_load1 (i := 1) (v := str _) rfl ag9 rfl rfl) ?_)
        refine ow1 (op1_g rfl h7 rfl (lo_seql rfl rfl) ?_)
        refine ow1 (op1_l rfl (lo_pick_t (v := .bool _) rfl h7 rfl) ?_)
        refine ow1 (op1_l rfl (lo_move (v := .bool _) rfl) ?_)
        refine ow_sp (j := 26) rfl (fun h9 => ?_) (fun h9 => ?_)
        · have p10 := dt h9
          refine ow1 (op1_g rfl h9 rfl (lo_fieldAddr rfl fl56_4) ?_)
          refine ow1 (op1_g rfl h9 rfl (lo_load1 (i := 0) (v := str _) rfl ag9 rfl rfl) ?_)
          refine ow1 (op1_g rfl h9 rfl (lo_fieldAddr rfl fl56_4) ?_)
          refine ow1 (op1_g rfl h9 rfl (lo_load1 (i := 1) (v := str _) rfl ag9 rfl rfl) ?_)
          refine ow1 (op1_g rfl h9 rfl (lo_seql rfl rfl) ?_)
          refine ow1 (op1_l rfl (lo_pick_t (v := .bool _) rfl h9 rfl) ?_)
          refine ow1 (op1_l rfl (lo_move (v := .bool _) rfl) ?_)
          refine ow_sp (j := 33) rfl (fun h11 => ?_) (fun h11 => ?_)
          · have p12 := dt h11
            refine ow1 (op1_g rfl h11 rfl (lo_fieldAddr rfl fl56_5) ?_)
            refine ow1 (op1_g rfl h11 rfl (lo_load1 (i := 0) (v := .slice _ _ _) rfl ag23 rfl rfl) ?_)
            refine ow1 (op1_g rfl h11 rfl (lo_fieldAddr rfl fl56_5) ?_)
            refine ow1 (op1_g rfl h11 rfl (lo_load1 (i := 1) (v := .slice _ _ _) rfl ag23 rfl rfl) ?_)
            refine ow1 (op1_prg rfl h11 (r9_Same _ a_head_a a.head.length a_head_c a.head a_head_h b_head_a b.head.length b_head_c b.head b_head_h (by first | omega | (simp <;> omega))) (en_f cb63 rfl) rfl ?_)
            refine ow1 (op1_l rfl (lo_pick_t (v := .bool _) rfl h11 rfl) ?_)
            refine ow1 (op1_l rfl (lo_move (v := .bool _) rfl) ?_)
            refine ow_sp (j := 40) rfl (fun h13 => ?_) (fun h13 => ?_)
            · refine ow1 (op1_g rfl h13 rfl (lo_fieldAddr rfl fl56_6) ?_)
              refine ow1 (op1_g rfl h13 rfl (lo_load1 (i := 0) (v := str _) rfl ag9 rfl rfl) ?_)
              refine ow1 (op1_g rfl h13 rfl (lo_fieldAddr rfl fl56_6) ?_)
              refine ow1 (op1_g rfl h13 rfl (lo_load1 (i := 1) (v := str _) rfl ag9 rfl rfl) ?_)
              refine ow1 (op1_g rfl h13 rfl (lo_seql rfl rfl) ?_)
              refine ow1 (op1_l rfl (lo_pick_t (v := .bool _) rfl h13 rfl) ?_)
              refine ow1 (op1_l rfl (lo_move (v := .bool _) rfl) ?_)
              refine ow_sp (j := 47) rfl (fun h14 => ?_) (fun h14 => ?_)
              · have p15 := dt h14
                refine ow1 (op1_g rfl h14 rfl (lo_fieldAddr rfl fl56_7) ?_)
                refine ow1 (op1_g rfl h14 rfl (lo_load1 (i := 0) (v := .int _ _) rfl ag22 rfl rfl) ?_)
                refine ow1 (op1_g rfl h14 rfl (lo_fieldAddr rfl fl56_7) ?_)
                refine ow1 (op1_g rfl h14 rfl (lo_load1 (i := 1) (v := .int _ _) rfl ag22 rfl rfl) ?_)
                refine ow1 (op1_g rfl h14 rfl (lo_eql rfl rfl) ?_)
                refine ow1 (op1_l rfl (lo_pick_t (v := .bool _) rfl h14 rfl) ?_)
                refine ow1 (op1_l rfl (lo_move (v := .bool _) rfl) ?_)
                refine ow_sp (j := 54) rfl (fun h16 => ?_) (fun h16 => ?_)
                · have p17 := dt h16
                  refine ow1 (op1_g rfl h16 rfl (lo_fieldAddr rfl fl56_8) ?_)
                  refine ow1 (op1_g rfl h16 rfl (lo_load1 (i := 0) (v := .int _ _) rfl ag22 rfl rfl) ?_)
                  refine ow1 (op1_g rfl h16 rfl (lo_fieldAddr rfl fl56_8) ?_)
                  refine ow1 (op1_g rfl h16 rfl (lo_load1 (i := 1) (v := .int _ _) rfl ag22 rfl rfl) ?_)
                  refine ow1 (op1_g rfl h16 rfl (lo_eql rfl rfl) ?_)
                  refine ow1 (op1_l rfl (lo_pick_t (v := .bool _) rfl h16 rfl) ?_)
                  refine ow1 (op1_l rfl (lo_move (v := .bool _) rfl) ?_)
                  refine ow_sp (j := 61) rfl (fun h18 => ?_) (fun h18 => ?_)
                  · have p19 := dt h18
                    refine ow1 (op1_g rfl h18 rfl (lo_fieldAddr rfl fl56_9) ?_)
                    refine ow1 (op1_g rfl h18 rfl (lo_load1 (i := 0) (v := .bool _) rfl ag4 rfl rfl) ?_)
                    refine ow1 (op1_g rfl h18 rfl (lo_fieldAddr rfl fl56_9) ?_)
                    refine ow1 (op1_g rfl h18 rfl (lo_load1 (i := 1) (v := .bool _) rfl ag4 rfl rfl) ?_)
                    refine ow1 (op1_g rfl h18 rfl (lo_beql rfl rfl Tryd.underlying4) ?_)
                    refine ow1 (op1_l rfl (lo_pick_t (v := .bool _) rfl h18 rfl) ?_)
                    refine ow1 (op1_l rfl (lo_assign (v := .bool _) rfl) ?_)
                    refine ow_nil ?_
                    refine seqK_n ?_
                    refine cw_ret ?_
                    refine fnK_r (res1 rfl (rv_t (v := .bool _) rfl)) (.refl _) ?_
                    first | (simp [Method.eq_iff, *]; done) | (simp [Method.eq_iff, *]; cases a.yes <;> cases b.yes <;> rfl)
                  · have p20 := df h18
                    refine ow1 (op1_gs rfl h18 rfl ?_)
                    refine ow1 (op1_gs rfl h18 rfl ?_)
                    refine ow1 (op1_gs rfl h18 rfl ?_)
                    refine ow1 (op1_gs rfl h18 rfl ?_)
                    refine ow1 (op1_gs rfl h18 rfl ?_)
                    refine ow1 (op1_l rfl (lo_pick_f (v := .bool _) rfl h18 rfl) ?_)
                    refine ow1 (op1_l rfl (lo_assign (v := .bool _) rfl) ?_)
                    refine ow_nil ?_
                    refine seqK_n ?_
                    refine cw_ret ?_
                    refine fnK_r (res1 rfl (rv_t (v := .bool _) rfl)) (.refl _) ?_
                    first | (simp [Method.eq_iff, *]; done) | (simp [Method.eq_iff, *]; cases a.yes <;> cases b.yes <;> rfl)
                · have p21 := df h16
                  refine ow1 (op1_gs rfl h16 rfl ?_)
                  refine ow1 (op1_gs rfl h16 rfl ?_)
                  refine ow1 (op1_gs rfl h16 rfl ?_)
                  refine ow1 (op1_gs rfl h16 rfl ?_)
                  refine ow1 (op1_gs rfl h16 rfl ?_)
                  refine ow1 (op1_l rfl (lo_pick_f (v := .bool _) rfl h16 rfl) ?_)
                  refine ow1 (op1_l rfl (lo_move (v := .bool _) rfl) ?_)
                  refine ow1 (op1_gs rfl rfl rfl ?_)
                  refine ow1 (op1_gs rfl rfl rfl ?_)
                  refine ow1 (op1_gs rfl rfl rfl ?_)
                  refine ow1 (op1_gs rfl rfl rfl ?_)
                  refine ow1 (op1_gs rfl rfl rfl ?_)
                  refine ow1 (op1_l rfl (lo_pick_f (v := .bool _) rfl rfl rfl) ?_)
                  refine ow1 (op1_l rfl (lo_assign (v := .bool _) rfl) ?_)
                  refine ow_nil ?_
                  refine seqK_n ?_
                  refine cw_ret ?_
                  refine fnK_r (res1 rfl (rv_t (v := .bool _) rfl)) (.refl _) ?_
                  first | (simp [Method.eq_iff, *]; done) | (simp [Method.eq_iff, *]; cases a.yes <;> cases b.yes <;> rfl)
              · have p22 := df h14
                refine ow1 (op1_gs rfl h14 rfl ?_)
                refine ow1 (op1_gs rfl h14 rfl ?_)
                refine ow1 (op1_gs rfl h14 rfl ?_)
                refine ow1 (op1_gs rfl h14 rfl ?_)
                refine ow1 (op1_gs rfl h14 rfl ?_)
                refine ow1 (op1_l rfl (lo_pick_f (v := .bool _) rfl h14 rfl) ?_)
                refine ow1 (op1_l rfl (lo_move (v := .bool _) rfl) ?_)
                refine ow1 (op1_gs rfl rfl rfl ?_)
                refine ow1 (op1_gs rfl rfl rfl ?_)
                refine ow1 (op1_gs rfl rfl rfl ?_)
                refine ow1 (op1_gs rfl rfl rfl ?_)
                refine ow1 (op1_gs rfl rfl rfl ?_)
                refine ow1 (op1_l rfl (lo_pick_f (v := .bool _) rfl rfl rfl) ?_)
                refine ow1 (op1_l rfl (lo_move (v := .bool _) rfl) ?_)
                refine ow1 (op1_gs rfl rfl rfl ?_)
                refine ow1 (op1_gs rfl rfl rfl ?_)
                refine ow1 (op1_gs rfl rfl rfl ?_)
                refine ow1 (op1_gs rfl rfl rfl ?_)
                refine ow1 (op1_gs rfl rfl rfl ?_)
                refine ow1 (op1_l rfl (lo_pick_f (v := .bool _) rfl rfl rfl) ?_)
                refine ow1 (op1_l rfl (lo_assign (v := .bool _) rfl) ?_)
                refine ow_nil ?_
                refine seqK_n ?_
                refine cw_ret ?_
                refine fnK_r (res1 rfl (rv_t (v := .bool _) rfl)) (.refl _) ?_
                first | (simp [Method.eq_iff, *]; done) | (simp [Method.eq_iff, *]; cases a.yes <;> cases b.yes <;> rfl)
            · refine ow1 (op1_gs rfl h13 rfl ?_)
              refine ow1 (op1_gs rfl h13 rfl ?_)
              refine ow1 (op1_gs rfl h13 rfl ?_)
              refine ow1 (op1_gs rfl h13 rfl ?_)
              refine ow1 (op1_gs rfl h13 rfl ?_)
              refine ow1 (op1_l rfl (lo_pick_f (v := .bool _) rfl h13 rfl) ?_)
              refine ow1 (op1_l rfl (lo_move (v := .bool _) rfl) ?_)
              refine ow1 (op1_gs rfl rfl rfl ?_)
              refine ow1 (op1_gs rfl rfl rfl ?_)
              refine ow1 (op1_gs rfl rfl rfl ?_)
              refine ow1 (op1_gs rfl rfl rfl ?_)
              refine ow1 (op1_gs rfl rfl rfl ?_)
              refine ow1 (op1_l rfl (lo_pick_f (v := .bool _) rfl rfl rfl) ?_)
              refine ow1 (op1_l rfl (lo_move (v := .bool _) rfl) ?_)
              refine ow1 (op1_gs rfl rfl rfl ?_)
              refine ow1 (op1_gs rfl rfl rfl ?_)
              refine ow1 (op1_gs rfl rfl rfl ?_)
              refine ow1 (op1_gs rfl rfl rfl ?_)
              refine ow1 (op1_gs rfl rfl rfl ?_)
              refine ow1 (op1_l rfl (lo_pick_f (v := .bool _) rfl rfl rfl) ?_)
              refine ow1 (op1_l rfl (lo_move (v := .bool _) rfl) ?_)
              refine ow1 (op1_gs rfl rfl rfl ?_)
              refine ow1 (op1_gs rfl rfl rfl ?_)
              refine ow1 (op1_gs rfl rfl rfl ?_)
              refine ow1 (op1_gs rfl rfl rfl ?_)
              refine ow1 (op1_gs rfl rfl rfl ?_)
              refine ow1 (op1_l rfl (lo_pick_f (v := .bool _) rfl rfl rfl) ?_)
              refine ow1 (op1_l rfl (lo_assign (v := .bool _) rfl) ?_)
              refine ow_nil ?_
              refine seqK_n ?_
              refine cw_ret ?_
              refine fnK_r (res1 rfl (rv_t (v := .bool _) rfl)) (.refl _) ?_
              first | (simp [Method.eq_iff, *]; done) | (simp [Method.eq_iff, *]; cases a.yes <;> cases b.yes <;> rfl)
          · have p23 := df h11
            refine ow1 (op1_gs rfl h11 rfl ?_)
            refine ow1 (op1_gs rfl h11 rfl ?_)
            refine ow1 (op1_gs rfl h11 rfl ?_)
            refine ow1 (op1_gs rfl h11 rfl ?_)
            refine ow1 (op1_gs rfl h11 rfl ?_)
            refine ow1 (op1_l rfl (lo_pick_f (v := .bool _) rfl h11 rfl) ?_)
            refine ow1 (op1_l rfl (lo_move (v := .bool _) rfl) ?_)
            refine ow1 (op1_gs rfl rfl rfl ?_)
            refine ow1 (op1_gs rfl rfl rfl ?_)
            refine ow1 (op1_gs rfl rfl rfl ?_)
            refine ow1 (op1_gs rfl rfl rfl ?_)
            refine ow1 (op1_gs rfl rfl rfl ?_)
            refine ow1 (op1_l rfl (lo_pick_f (v := .bool _) rfl rfl rfl) ?_)
            refine ow1 (op1_l rfl (lo_move (v := .bool _) rfl) ?_)
            refine ow1 (op1_gs rfl rfl rfl ?_)
            refine ow1 (op1_gs rfl rfl rfl ?_)
            refine ow1 (op1_gs rfl rfl rfl ?_)
            refine ow1 (op1_gs rfl rfl rfl ?_)
            refine ow1 (op1_gs rfl rfl rfl ?_)
            refine ow1 (op1_l rfl (lo_pick_f (v := .bool _) rfl rfl rfl) ?_)
            refine ow1 (op1_l rfl (lo_move (v := .bool _) rfl) ?_)
            refine ow1 (op1_gs rfl rfl rfl ?_)
            refine ow1 (op1_gs rfl rfl rfl ?_)
            refine ow1 (op1_gs rfl rfl rfl ?_)
            refine ow1 (op1_gs rfl rfl rfl ?_)
            refine ow1 (op1_gs rfl rfl rfl ?_)
            refine ow1 (op1_l rfl (lo_pick_f (v := .bool _) rfl rfl rfl) ?_)
            refine ow1 (op1_l rfl (lo_move (v := .bool _) rfl) ?_)
            refine ow1 (op1_gs rfl rfl rfl ?_)
            refine ow1 (op1_gs rfl rfl rfl ?_)
            refine ow1 (op1_gs rfl rfl rfl ?_)
            refine ow1 (op1_gs rfl rfl rfl ?_)
            refine ow1 (op1_gs rfl rfl rfl ?_)
            refine ow1 (op1_l rfl (lo_pick_f (v := .bool _) rfl rfl rfl) ?_)
            refine ow1 (op1_l rfl (lo_assign (v := .bool _) rfl) ?_)
            refine ow_nil ?_
            refine seqK_n ?_
            refine cw_ret ?_
            refine fnK_r (res1 rfl (rv_t (v := .bool _) rfl)) (.refl _) ?_
            first | (simp [Method.eq_iff, *]; done) | (simp [Method.eq_iff, *]; cases a.yes <;> cases b.yes <;> rfl)
        · have p24 := df h9
          refine ow1 (op1_gs rfl h9 rfl ?_)
          refine ow1 (op1_gs rfl h9 rfl ?_)
          refine ow1 (op1_gs rfl h9 rfl ?_)
          refine ow1 (op1_gs rfl h9 rfl ?_)
          refine ow1 (op1_gs rfl h9 rfl ?_)
          refine ow1 (op1_l rfl (lo_pick_f (v := .bool _) rfl h9 rfl) ?_)
          refine ow1 (op1_l rfl (lo_move (v := .bool _) rfl) ?_)
          refine ow1 (op1_gs rfl rfl rfl ?_)
          refine ow1 (op1_gs rfl rfl rfl ?_)
          refine ow1 (op1_gs rfl rfl rfl ?_)
          refine ow1 (op1_gs rfl rfl rfl ?_)
          refine ow1 (op1_gs rfl rfl rfl ?_)
          refine ow1 (op1_l rfl (lo_pick_f (v := .bool _) rfl rfl rfl) ?_)
          refine ow1 (op1_l rfl (lo_move (v := .bool _) rfl) ?_)
          refine ow1 (op1_gs rfl rfl rfl ?_)
          refine ow1 (op1_gs rfl rfl rfl ?_)
          refine ow1 (op1_gs rfl rfl rfl ?_)
          refine ow1 (op1_gs rfl rfl rfl ?_)
          refine ow1 (op1_gs rfl rfl rfl ?_)
          refine ow1 (op1_l rfl (lo_pick_f (v := .bool _) rfl rfl rfl) ?_)
          refine ow1 (op1_l rfl (lo_move (v := .bool _) rfl) ?_)
          refine ow1 (op1_gs rfl rfl rfl ?_)
          refine ow1 (op1_gs rfl rfl rfl ?_)
          refine ow1 (op1_gs rfl rfl rfl ?_)
          refine ow1 (op1_gs rfl rfl rfl ?_)
          refine ow1 (op1_gs rfl rfl rfl ?_)
          refine ow1 (op1_l rfl (lo_pick_f (v := .bool _) rfl rfl rfl) ?_)
          refine ow1 (op1_l rfl (lo_move (v := .bool _) rfl) ?_)
          refine ow1 (op1_gs rfl rfl rfl ?_)
          refine ow1 (op1_gs rfl rfl rfl ?_)
          refine ow1 (op1_gs rfl rfl rfl ?_)
          refine ow1 (op1_gs rfl rfl rfl ?_)
          refine ow1 (op1_gs rfl rfl rfl ?_)
          refine ow1 (op1_l rfl (lo_pick_f (v := .bool _) rfl rfl rfl) ?_)
          refine ow1 (op1_l rfl (lo_move (v := .bool _) rfl) ?_)
          refine ow1 (op1_gs rfl rfl rfl ?_)
          refine ow1 (op1_gs rfl rfl rfl ?_)
          refine ow1 (op1_gs rfl rfl rfl ?_)
          refine ow1 (op1_gs rfl rfl rfl ?_)
          refine ow1 (op1_gs rfl rfl rfl ?_)
          refine ow1 (op1_l rfl (lo_pick_f (v := .bool _) rfl rfl rfl) ?_)
          refine ow1 (op1_l rfl (lo_assign (v := .bool _) rfl) ?_)
          refine ow_nil ?_
          refine seqK_n ?_
          refine cw_ret ?_
          refine fnK_r (res1 rfl (rv_t (v := .bool _) rfl)) (.refl _) ?_
          first | (simp [Method.eq_iff, *]; done) | (simp [Method.eq_iff, *]; cases a.yes <;> cases b.yes <;> rfl)
      · have p25 := df h7
        refine ow1 (op1_gs rfl h7 rfl ?_)
        refine ow1 (op1_gs rfl h7 rfl ?_)
        refine ow1 (op1_gs rfl h7 rfl ?_)
        refine ow1 (op1_gs rfl h7 rfl ?_)
        refine ow1 (op1_gs rfl h7 rfl ?_)
        refine ow1 (op1_l rfl (lo_pick_f (v := .bool _) rfl h7 rfl) ?_)
        refine ow1 (op1_l rfl (lo_move (v := .bool _) rfl) ?_)
        refine ow1 (op1_gs rfl rfl rfl ?_)
        refine ow1 (op1_gs rfl rfl rfl ?_)
        refine ow1 (op1_gs rfl rfl rfl ?_)
        refine ow1 (op1_gs rfl rfl rfl ?_)
        refine ow1 (op1_gs rfl rfl rfl ?_)
        refine ow1 (op1_l rfl (lo_pick_f (v := .bool _) rfl rfl rfl) ?_)
        refine ow1 (op1_l rfl (lo_move (v := .bool _) rfl) ?_)
        refine ow1 (op1_gs rfl rfl rfl ?_)
        refine ow1 (op1_gs rfl rfl rfl ?_)
        refine ow1 (op1_gs rfl rfl rfl ?_)
        refine ow1 (op1_gs rfl rfl rfl ?_)
        refine ow1 (op1_gs rfl rfl rfl ?_)
        refine ow1 (op1_l rfl (lo_pick_f (v := .bool _) rfl rfl rfl) ?_)
        refine ow1 (op1_l rfl (lo_move (v := .bool _) rfl) ?_)
        refine ow1 (op1_gs rfl rfl rfl ?_)
        refine ow1 (op1_gs rfl rfl rfl ?_)
        refine ow1 (op1_gs rfl rfl rfl ?_)
        refine ow1 (op1_gs rfl rfl rfl ?_)
        refine ow1 (op1_gs rfl rfl rfl ?_)
        refine ow1 (op1_l rfl (lo_pick_f (v := .bool _) rfl rfl rfl) ?_)
        refine ow1 (op1_l rfl (lo_move (v := .bool _) rfl) ?_)
        refine ow1 (op1_gs rfl rfl rfl ?_)
        refine ow1 (op1_gs rfl rfl rfl ?_)
        refine ow1 (op1_gs rfl rfl rfl ?_)
        refine ow1 (op1_gs rfl rfl rfl ?_)
        refine ow1 (op1_gs rfl rfl rfl ?_)
        refine ow1 (op1_l rfl (lo_pick_f (v := .bool _) rfl rfl rfl) ?_)
        refine ow1 (op1_l rfl (lo_move (v := .bool _) rfl) ?_)
        refine ow1 (op1_gs rfl rfl rfl ?_)
        refine ow1 (op1_gs rfl rfl rfl ?_)
        refine ow1 (op1_gs rfl rfl rfl ?_)
        refine ow1 (op1_gs rfl rfl rfl ?_)
        refine ow1 (op1_gs rfl rfl rfl ?_)
        refine ow1 (op1_l rfl (lo_pick_f (v := .bool _) rfl rfl rfl) ?_)
        refine ow1 (op1_l rfl (lo_move (v := .bool _) rfl) ?_)
        refine ow1 (op1_gs rfl rfl rfl ?_)
        refine ow1 (op1_gs rfl rfl rfl ?_)
        refine ow1 (op1_gs rfl rfl rfl ?_)
        refine ow1 (op1_gs rfl rfl rfl ?_)
        refine ow1 (op1_gs rfl rfl rfl ?_)
        refine ow1 (op1_l rfl (lo_pick_f (v := .bool _) rfl rfl rfl) ?_)
        refine ow1 (op1_l rfl (lo_assign (v := .bool _) rfl) ?_)
        refine ow_nil ?_
        refine seqK_n ?_
        refine cw_ret ?_
        refine fnK_r (res1 rfl (rv_t (v := .bool _) rfl)) (.refl _) ?_
        first | (simp [Method.eq_iff, *]; done) | (simp [Method.eq_iff, *]; cases a.yes <;> cases b.yes <;> rfl)
    · have p26 := df h5
      refine ow1 (op1_gs rfl h5 rfl ?_)
      refine ow1 (op1_gs rfl h5 rfl ?_)
      refine ow1 (op1_gs rfl h5 rfl ?_)
      refine ow1 (op1_gs rfl h5 rfl ?_)
      refine ow1 (op1_gs rfl h5 rfl ?_)
      refine ow1 (op1_l rfl (lo_pick_f (v := .bool _) rfl h5 rfl) ?_)
      refine ow1 (op1_l rfl (lo_move (v := .bool _) rfl) ?_)
      refine ow1 (op1_gs rfl rfl rfl ?_)
      refine ow1 (op1_gs rfl rfl rfl ?_)
      refine ow1 (op1_gs rfl rfl rfl ?_)
      refine ow1 (op1_gs rfl rfl rfl ?_)
      refine ow1 (op1_gs rfl rfl rfl ?_)
      refine ow1 (op1_l rfl (lo_pick_f (v := .bool _) rfl rfl rfl) ?_)
      refine ow1 (op1_l rfl (lo_move (v := .bool _) rfl) ?_)
      refine ow1 (op1_gs rfl rfl rfl ?_)
      refine ow1 (op1_gs rfl rfl rfl ?_)
      refine ow1 (op1_gs rfl rfl rfl ?_)
      refine ow1 (op1_gs rfl rfl rfl ?_)
      refine ow1 (op1_gs rfl rfl rfl ?_)
      refine ow1 (op1_l rfl (lo_pick_f (v := .bool _) rfl rfl rfl) ?_)
      refine ow1 (op1_l rfl (lo_move (v := .bool _) rfl) ?_)
      refine ow1 (op1_gs rfl rfl rfl ?_)
      refine ow1 (op1_gs rfl rfl rfl ?_)
      refine ow1 (op1_gs rfl rfl rfl ?_)
      refine ow1 (op1_gs rfl rfl rfl ?_)
      refine ow1 (op1_gs rfl rfl rfl ?_)
      refine ow1 (op1_l rfl (lo_pick_f (v := .bool _) rfl rfl rfl) ?_)
      refine ow1 (op1_l rfl (lo_move (v := .bool _) rfl) ?_)
      refine ow1 (op1_gs rfl rfl rfl ?_)
      refine ow1 (op1_gs rfl rfl rfl ?_)
      refine ow1 (op1_gs rfl rfl rfl ?_)
      refine ow1 (op1_gs rfl rfl rfl ?_)
      refine ow1 (op1_gs rfl rfl rfl ?_)
      refine ow1 (op1_l rfl (lo_pick_f (v := .bool _) rfl rfl rfl) ?_)
      refine ow1 (op1_l rfl (lo_move (v := .bool _) rfl) ?_)
      refine ow1 (op1_gs rfl rfl rfl ?_)
      refine ow1 (op1_gs rfl rfl rfl ?_)
      refine ow1 (op1_gs rfl rfl rfl ?_)
      refine ow1 (op1_gs rfl rfl rfl ?_)
      refine ow1 (op1_gs rfl rfl rfl ?_)
      refine ow1 (op1_l rfl (lo_pick_f (v := .bool _) rfl rfl rfl) ?_)
      refine ow1 (op1_l rfl (lo_move (v := .bool _) rfl) ?_)
      refine ow1 (op1_gs rfl rfl rfl ?_)
      refine ow1 (op1_gs rfl rfl rfl ?_)
      refine ow1 (op1_gs rfl rfl rfl ?_)
      refine ow1 (op1_gs rfl rfl rfl ?_)
      refine ow1 (op1_gs rfl rfl rfl ?_)
      refine ow1 (op1_l rfl (lo_pick_f (v := .bool _) rfl rfl rfl) ?_)
      refine ow1 (op1_l rfl (lo_move (v := .bool _) rfl) ?_)
      refine ow1 (op1_gs rfl rfl rfl ?_)
      refine ow1 (op1_gs rfl rfl rfl ?_)
      refine ow1 (op1_gs rfl rfl rfl ?_)
      refine ow1 (op1_gs rfl rfl rfl ?_)
      refine ow1 (op1_gs rfl rfl rfl ?_)
      refine ow1 (op1_l rfl (lo_pick_f (v := .bool _) rfl rfl rfl) ?_)
      refine ow1 (op1_l rfl (lo_assign (v := .bool _) rfl) ?_)
      refine ow_nil ?_
      refine seqK_n ?_
      refine cw_ret ?_
      refine fnK_r (res1 rfl (rv_t (v := .bool _) rfl)) (.refl _) ?_
      first | (simp [Method.eq_iff, *]; done) | (simp [Method.eq_iff, *]; cases a.yes <;> cases b.yes <;> rfl)
  · have p27 := df h3
    refine ow1 (op1_gs rfl h3 rfl ?_)
    refine ow1 (op1_gs rfl h3 rfl ?_)
    refine ow1 (op1_gs rfl h3 rfl ?_)
    refine ow1 (op1_gs rfl h3 rfl ?_)
    refine ow1 (op1_gs rfl h3 rfl ?_)
    refine ow1 (op1_l rfl (lo_pick_f (v := .bool _) rfl h3 rfl) ?_)
    refine ow1 (op1_l rfl (lo_move (v := .bool _) rfl) ?_)
    refine ow1 (op1_gs rfl rfl rfl ?_)
    refine ow1 (op1_gs rfl rfl rfl ?_)
    refine ow1 (op1_gs rfl rfl rfl ?_)
    refine ow1 (op1_gs rfl rfl rfl ?_)
    refine ow1 (op1_gs rfl rfl rfl ?_)
    refine ow1 (op1_l rfl (lo_pick_f (v := .bool _) rfl rfl rfl) ?_)
    refine ow1 (op1_l rfl (lo_move (v := .bool _) rfl) ?_)
    refine ow1 (op1_gs rfl rfl rfl ?_)
    refine ow1 (op1_gs rfl rfl rfl ?_)
    refine ow1 (op1_gs rfl rfl rfl ?_)
    refine ow1 (op1_gs rfl rfl rfl ?_)
    refine ow1 (op1_gs rfl rfl rfl ?_)
    refine ow1 (op1_l rfl (lo_pick_f (v := .bool _) rfl rfl rfl) ?_)
    refine ow1 (op1_l rfl (lo_move (v := .bool _) rfl) ?_)
    refine ow1 (op1_gs rfl rfl rfl ?_)
    refine ow1 (op1_gs rfl rfl rfl ?_)
    refine ow1 (op1_gs rfl rfl rfl ?_)
    refine ow1 (op1_gs rfl rfl rfl ?_)
    refine ow1 (op1_gs rfl rfl rfl ?_)
    refine ow1 (op1_l rfl (lo_pick_f (v := .bool _) rfl rfl rfl) ?_)
    refine ow1 (op1_l rfl (lo_move (v := .bool _) rfl) ?_)
    refine ow1 (op1_gs rfl rfl rfl ?_)
    refine ow1 (op1_gs rfl rfl rfl ?_)
    refine ow1 (op1_gs rfl rfl rfl ?_)
    refine ow1 (op1_gs rfl rfl rfl ?_)
    refine ow1 (op1_gs rfl rfl rfl ?_)
    refine ow1 (op1_l rfl (lo_pick_f (v := .bool _) rfl rfl rfl) ?_)
    refine ow1 (op1_l rfl (lo_move (v := .bool _) rfl) ?_)
    refine ow1 (op1_gs rfl rfl rfl ?_)
    refine ow1 (op1_gs rfl rfl rfl ?_)
    refine ow1 (op1_gs rfl rfl rfl ?_)
    refine ow1 (op1_gs rfl rfl rfl ?_)
    refine ow1 (op1_gs rfl rfl rfl ?_)
    refine ow1 (op1_l rfl (lo_pick_f (v := .bool _) rfl rfl rfl) ?_)
    refine ow1 (op1_l rfl (lo_move (v := .bool _) rfl) ?_)
    refine ow1 (op1_gs rfl rfl rfl ?_)
    refine ow1 (op1_gs rfl rfl rfl ?_)
    refine ow1 (op1_gs rfl rfl rfl ?_)
    refine ow1 (op1_gs rfl rfl rfl ?_)
    refine ow1 (op1_gs rfl rfl rfl ?_)
    refine ow1 (op1_l rfl (lo_pick_f (v := .bool _) rfl rfl rfl) ?_)
    refine ow1 (op1_l rfl (lo_move (v := .bool _) rfl) ?_)
    refine ow1 (op1_gs rfl rfl rfl ?_)
    refine ow1 (op1_gs rfl rfl rfl ?_)
    refine ow1 (op1_gs rfl rfl rfl ?_)
    refine ow1 (op1_gs rfl rfl rfl ?_)
    refine ow1 (op1_gs rfl rfl rfl ?_)
    refine ow1 (op1_l rfl (lo_pick_f (v := .bool _) rfl rfl rfl) ?_)
    refine ow1 (op1_l rfl (lo_move (v := .bool _) rfl) ?_)
    refine ow1 (op1_gs rfl rfl rfl ?_)
    refine ow1 (op1_gs rfl rfl rfl ?_)
    refine ow1 (op1_gs rfl rfl rfl ?_)
    refine ow1 (op1_gs rfl rfl rfl ?_)
    refine ow1 (op1_gs rfl rfl rfl ?_)
    refine ow1 (op1_l rfl (lo_pick_f (v := .bool _) rfl rfl rfl) ?_)
    refine ow1 (op1_l rfl (lo_assign (v := .bool _) rfl) ?_)
    refine ow_nil ?_
    refine seqK_n ?_
    refine cw_ret ?_
    refine fnK_r (res1 rfl (rv_t (v := .bool _) rfl)) (.refl _) ?_
    first | (simp [Method.eq_iff, *]; done) | (simp [Method.eq_iff, *]; cases a.yes <;> cases b.yes <;> rfl)

theorem match_Same (H : Hp) (a : Rule) (a_want_a : Option Addr) (a_want_c : Nat) (a_want_h : SlH pairE 4 H (.slice a_want_a a.want.length a_want_c) a.want) (a_w : Rule.wf a) (b : Rule) (b_want_a : Option Addr) (b_want_c : Nat) (b_want_h : SlH pairE 4 H (.slice b_want_a b.want.length b_want_c) b.want) (b_w : Rule.wf b) : Pr Tryd.prog 25 #[.agg (Rule.cells a a_want_a a_want_c).toArray, .agg (Rule.cells b b_want_a b_want_c).toArray] H (.bool (decide (a = b))) := by
  refine pr_cw Tryd.func25 rfl Tryd.ntmps25 rfl (fun N => ?_)
  have a_w' := a_w
  simp only [Rule.wf] at a_w'
  have b_w' := b_w
  simp only [Rule.wf] at b_w'
  refine cw_seq ?_
  refine cw_region ?_
  refine ow1 (op1_box (cs := [_, _, _, _]) 0 rfl rfl (fun b1 => ?_))
  refine ow1 (op1_box (cs := [_, _, _, _]) 1 rfl rfl (fun b2 => ?_))
  refine ow1 (op1_l rfl (lo_assign (v := .bool _) rfl) ?_)
  refine ow_nil ?_
  refine seqK_n ?_
  refine cw_seq ?_
  refine cw_region ?_
  refine ow1 (op1_l rfl (lo_fieldAddr rfl fl53_0) ?_)
  refine ow1 (op1_l rfl (lo_load1 (i := 0) (v := .int _ _) rfl ag5 rfl rfl) ?_)
  refine ow1 (op1_l rfl (lo_fieldAddr rfl fl53_0) ?_)
  refine ow1 (op1_l rfl (lo_load1 (i := 1) (v := .int _ _) rfl ag5 rfl rfl) ?_)
  refine ow1 (op1_l rfl (lo_eql rfl rfl) ?_)
  refine ow1 (op1_l rfl (lo_move (v := .bool _) rfl) ?_)
  refine ow_sp (j := 5) rfl (fun h3 => ?_) (fun h3 => ?_)
  · have p4 := dt h3
    refine ow1 (op1_g rfl h3 rfl (lo_fieldAddr rfl fl53_1) ?_)
    refine ow1 (op1_g rfl h3 rfl (lo_load1 (i := 0) (v := str _) rfl ag9 rfl rfl) ?_)
    refine ow1 (op1_g rfl h3 rfl (lo_fieldAddr rfl fl53_1) ?_)
    refine ow1 (op1_g rfl h3 rfl (lo_load1 (i := 1) (v := str _) rfl ag9 rfl rfl) ?_)
    refine ow1 (op1_g rfl h3 rfl (lo_seql rfl rfl) ?_)
    refine ow1 (op1_l rfl (lo_pick_t (v := .bool _) rfl h3 rfl) ?_)
    refine ow1 (op1_l rfl (lo_move (v := .bool _) rfl) ?_)
    refine ow_sp (j := 12) rfl (fun h5 => ?_) (fun h5 => ?_)
    · have p6 := dt h5
      refine ow1 (op1_g rfl h5 rfl (lo_fieldAddr rfl fl53_3) ?_)
      refine ow1 (op1_g rfl h5 rfl (lo_load1 (i := 0) (v := .bool _) rfl ag4 rfl rfl) ?_)
      refine ow1 (op1_g rfl h5 rfl (lo_fieldAddr rfl fl53_3) ?_)
      refine ow1 (op1_g rfl h5 rfl (lo_load1 (i := 1) (v := .bool _) rfl ag4 rfl rfl) ?_)
      refine ow1 (op1_g rfl h5 rfl (lo_beql rfl rfl Tryd.underlying4) ?_)
      refine ow1 (op1_l rfl (lo_pick_t (v := .bool _) rfl h5 rfl) ?_)
      refine ow1 (op1_l rfl (lo_move (v := .bool _) rfl) ?_)
      refine ow_sp (j := 19) rfl (fun h7 => ?_) (fun h7 => ?_)
      · have p8 := beqT h7
        refine ow1 (op1_g rfl h7 rfl (lo_fieldAddr rfl fl53_2) ?_)
        refine ow1 (op1_g rfl h7 rfl (lo_load1 (i := 0) (v := .slice _ _ _) rfl ag23 rfl rfl) ?_)
        refine ow1 (op1_g rfl h7 rfl (lo_fieldAddr rfl fl53_2) ?_)
        refine ow1 (op1_g rfl h7 rfl (lo_load1 (i := 1) (v := .slice _ _ _) rfl ag23 rfl rfl) ?_)
        refine ow1 (op1_prg rfl h7 (eq_Pair _ a_want_a a.want.length a_want_c a.want a_want_h b_want_a b.want.length b_want_c b.want b_want_h (by first | omega | (simp <;> omega))) (en_f cb64 rfl) rfl ?_)
        refine ow1 (op1_l rfl (lo_pick_t (v := .bool _) rfl h7 rfl) ?_)
        refine ow1 (op1_l rfl (lo_assign (v := .bool _) rfl) ?_)
        refine ow_nil ?_
        refine seqK_n ?_
        refine cw_ret ?_
        refine fnK_r (res1 rfl (rv_t (v := .bool _) rfl)) (.refl _) ?_
        first | (simp [Rule.eq_iff, *]; done)
      · have p9 := beqF h7
        refine ow1 (op1_gs rfl h7 rfl ?_)
        refine ow1 (op1_gs rfl h7 rfl ?_)
        refine ow1 (op1_gs rfl h7 rfl ?_)
        refine ow1 (op1_gs rfl h7 rfl ?_)
        refine ow1 (op1_gs rfl h7 rfl ?_)
        refine ow1 (op1_l rfl (lo_pick_f (v := .bool _) rfl h7 rfl) ?_)
        refine ow1 (op1_l rfl (lo_assign (v := .bool _) rfl) ?_)
        refine ow_nil ?_
        refine seqK_n ?_
        refine cw_ret ?_
        refine fnK_r (res1 rfl (rv_t (v := .bool _) rfl)) (.refl _) ?_
        first | (simp [Rule.eq_iff, *]; done)
    · have p10 := df h5
      refine ow1 (op1_gs rfl h5 rfl ?_)
      refine ow1 (op1_gs rfl h5 rfl ?_)
      refine ow1 (op1_gs rfl h5 rfl ?_)
      refine ow1 (op1_gs rfl h5 rfl ?_)
      refine ow1 (op1_gs rfl h5 rfl ?_)
      refine ow1 (op1_l rfl (lo_pick_f (v := .bool _) rfl h5 rfl) ?_)
      refine ow1 (op1_l rfl (lo_move (v := .bool _) rfl) ?_)
      refine ow1 (op1_gs rfl rfl rfl ?_)
      refine ow1 (op1_gs rfl rfl rfl ?_)
      refine ow1 (op1_gs rfl rfl rfl ?_)
      refine ow1 (op1_gs rfl rfl rfl ?_)
      refine ow1 (op1_gs rfl rfl rfl ?_)
      refine ow1 (op1_l rfl (lo_pick_f (v := .bool _) rfl rfl rfl) ?_)
      refine ow1 (op1_l rfl (lo_assign (v := .bool _) rfl) ?_)
      refine ow_nil ?_
      refine seqK_n ?_
      refine cw_ret ?_
      refine fnK_r (res1 rfl (rv_t (v := .bool _) rfl)) (.refl _) ?_
      first | (simp [Rule.eq_iff, *]; done)
  · have p11 := df h3
    refine ow1 (op1_gs rfl h3 rfl ?_)
    refine ow1 (op1_gs rfl h3 rfl ?_)
    refine ow1 (op1_gs rfl h3 rfl ?_)
    refine ow1 (op1_gs rfl h3 rfl ?_)
    refine ow1 (op1_gs rfl h3 rfl ?_)
    refine ow1 (op1_l rfl (lo_pick_f (v := .bool _) rfl h3 rfl) ?_)
    refine ow1 (op1_l rfl (lo_move (v := .bool _) rfl) ?_)
    refine ow1 (op1_gs rfl rfl rfl ?_)
    refine ow1 (op1_gs rfl rfl rfl ?_)
    refine ow1 (op1_gs rfl rfl rfl ?_)
    refine ow1 (op1_gs rfl rfl rfl ?_)
    refine ow1 (op1_gs rfl rfl rfl ?_)
    refine ow1 (op1_l rfl (lo_pick_f (v := .bool _) rfl rfl rfl) ?_)
    refine ow1 (op1_l rfl (lo_move (v := .bool _) rfl) ?_)
    refine ow1 (op1_gs rfl rfl rfl ?_)
    refine ow1 (op1_gs rfl rfl rfl ?_)
    refine ow1 (op1_gs rfl rfl rfl ?_)
    refine ow1 (op1_gs rfl rfl rfl ?_)
    refine ow1 (op1_gs rfl rfl rfl ?_)
    refine ow1 (op1_l rfl (lo_pick_f (v := .bool _) rfl rfl rfl) ?_)
    refine ow1 (op1_l rfl (lo_assign (v := .bool _) rfl) ?_)
    refine ow_nil ?_
    refine seqK_n ?_
    refine cw_ret ?_
    refine fnK_r (res1 rfl (rv_t (v := .bool _) rfl)) (.refl _) ?_
    first | (simp [Rule.eq_iff, *]; done)

theorem l11_Light (H : Hp) (m : Method) (m_head_a : Option Addr) (m_head_c : Nat) (m_head_h : SlH pairE 4 H (.slice m_head_a m.head.length m_head_c) m.head) (m_w : Method.wf m) : Pr Tryd.prog 21 #[.agg (Method.cells m m_head_a m_head_c).toArray] H (.bool (lightMt m)) := by
  refine pr_cw Tryd.func21 rfl Tryd.ntmps21 rfl (fun N => ?_)
  have m_w' := m_w
  simp only [Method.wf] at m_w'
  refine cw_seq ?_
  refine cw_region ?_
  refine ow1 (op1_box (cs := [_, _, _, _, _, _, _, _, _, _]) 0 rfl rfl (fun b1 => ?_))
  refine ow1 (op1_l rfl (lo_assign (v := .bool _) rfl) ?_)
  refine ow_nil ?_
  refine seqK_n ?_
  refine cw_seq ?_
  refine cw_region ?_
  refine ow1 (op1_l rfl (lo_fieldAddr rfl fl50_2) ?_)
  refine ow1 (op1_l rfl (lo_load1 (i := 0) (v := str _) rfl ag9 rfl rfl) ?_)
  refine ow1 (op1_l rfl (lo_len_str rfl Tryd.underlying9) ?_)
  refine ow1 (op1_l rfl (lo_fieldAddr rfl fl50_3) ?_)
  refine ow1 (op1_l rfl (lo_load1 (i := 0) (v := str _) rfl ag9 rfl rfl) ?_)
  refine ow1 (op1_l rfl (lo_len_str rfl Tryd.underlying9) ?_)
  refine ow1 (op1_l rfl (lo_max rfl rfl) ?_)
  refine ow1 (op1_l rfl (lo_leq rfl rfl) ?_)
  refine ow1 (op1_l rfl (lo_move (v := .bool _) rfl) ?_)
  refine ow_sp (j := 8) rfl (fun h2 => ?_) (fun h2 => ?_)
  · have p3 := dt h2
    refine ow1 (op1_g rfl h2 rfl (lo_fieldAddr rfl fl50_4) ?_)
    refine ow1 (op1_g rfl h2 rfl (lo_load1 (i := 0) (v := str _) rfl ag9 rfl rfl) ?_)
    refine ow1 (op1_g rfl h2 rfl (lo_len_str rfl Tryd.underlying9) ?_)
    refine ow1 (op1_g rfl h2 rfl (lo_leq rfl rfl) ?_)
    refine ow1 (op1_l rfl (lo_pick_t (v := .bool _) rfl h2 rfl) ?_)
    refine ow1 (op1_l rfl (lo_move (v := .bool _) rfl) ?_)
    refine ow_sp (j := 14) rfl (fun h4 => ?_) (fun h4 => ?_)
    · have p5 := dt h4
      refine ow1 (op1_g rfl h4 rfl (lo_fieldAddr rfl fl50_5) ?_)
      refine ow1 (op1_g rfl h4 rfl (lo_load1 (i := 0) (v := .slice _ _ _) rfl ag23 rfl rfl) ?_)
      refine ow1 (op1_prg rfl h4 (l09_Light _ m_head_a m.head.length m_head_c m.head m_head_h) (en_f cb32 rfl) rfl ?_)
      refine ow1 (op1_l rfl (lo_pick_t (v := .bool _) rfl h4 rfl) ?_)
      refine ow1 (op1_l rfl (lo_move (v := .bool _) rfl) ?_)
      refine ow_sp (j := 19) rfl (fun h6 => ?_) (fun h6 => ?_)
      · refine ow1 (op1_g rfl h6 rfl (lo_fieldAddr rfl fl50_6) ?_)
        refine ow1 (op1_g rfl h6 rfl (lo_load1 (i := 0) (v := str _) rfl ag9 rfl rfl) ?_)
        refine ow1 (op1_g rfl h6 rfl (lo_len_str rfl Tryd.underlying9) ?_)
        refine ow1 (op1_g rfl h6 rfl (lo_leq rfl rfl) ?_)
        refine ow1 (op1_l rfl (lo_pick_t (v := .bool _) rfl h6 rfl) ?_)
        refine ow1 (op1_l rfl (lo_assign (v := .bool _) rfl) ?_)
        refine ow_nil ?_
        refine seqK_n ?_
        refine cw_ret ?_
        refine fnK_r (res1 rfl (rv_t (v := .bool _) rfl)) (.refl _) ?_
        refine congrArg Value.bool ?_; unfold lightMt; simp only [*, Bool.and_true, Bool.true_and, Bool.false_and, Bool.and_false, decide_true, decide_false]
      · refine ow1 (op1_gs rfl h6 rfl ?_)
        refine ow1 (op1_gs rfl h6 rfl ?_)
        refine ow1 (op1_gs rfl h6 rfl ?_)
        refine ow1 (op1_gs rfl h6 rfl ?_)
        refine ow1 (op1_l rfl (lo_pick_f (v := .bool _) rfl h6 rfl) ?_)
        refine ow1 (op1_l rfl (lo_assign (v := .bool _) rfl) ?_)
        refine ow_nil ?_
        refine seqK_n ?_
        refine cw_ret ?_
        refine fnK_r (res1 rfl (rv_t (v := .bool _) rfl)) (.refl _) ?_
        refine congrArg Value.bool ?_; unfold lightMt; simp only [*, Bool.and_true, Bool.true_and, Bool.false_and, Bool.and_false, decide_true, decide_false]
    · have p7 := df h4
      refine ow1 (op1_gs rfl h4 rfl ?_)
      refine ow1 (op1_gs rfl h4 rfl ?_)
      refine ow1 (op1_gs rfl h4 rfl ?_)
      refine ow1 (op1_l rfl (lo_pick_f (v := .bool _) rfl h4 rfl) ?_)
      refine ow1 (op1_l rfl (lo_move (v := .bool _) rfl) ?_)
      refine ow1 (op1_gs rfl rfl rfl ?_)
      refine ow1 (op1_gs rfl rfl rfl ?_)
      refine ow1 (op1_gs rfl rfl rfl ?_)
      refine ow1 (op1_gs rfl rfl rfl ?_)
      refine ow1 (op1_l rfl (lo_pick_f (v := .bool _) rfl rfl rfl) ?_)
      refine ow1 (op1_l rfl (lo_assign (v := .bool _) rfl) ?_)
      refine ow_nil ?_
      refine seqK_n ?_
      refine cw_ret ?_
      refine fnK_r (res1 rfl (rv_t (v := .bool _) rfl)) (.refl _) ?_
      refine congrArg Value.bool ?_; unfold lightMt; simp only [*, Bool.and_true, Bool.true_and, Bool.false_and, Bool.and_false, decide_true, decide_false]
  · have p8 := df h2
    refine ow1 (op1_gs rfl h2 rfl ?_)
    refine ow1 (op1_gs rfl h2 rfl ?_)
    refine ow1 (op1_gs rfl h2 rfl ?_)
    refine ow1 (op1_gs rfl h2 rfl ?_)
    refine ow1 (op1_l rfl (lo_pick_f (v := .bool _) rfl h2 rfl) ?_)
    refine ow1 (op1_l rfl (lo_move (v := .bool _) rfl) ?_)
    refine ow1 (op1_gs rfl rfl rfl ?_)
    refine ow1 (op1_gs rfl rfl rfl ?_)
    refine ow1 (op1_gs rfl rfl rfl ?_)
    refine ow1 (op1_l rfl (lo_pick_f (v := .bool _) rfl rfl rfl) ?_)
    refine ow1 (op1_l rfl (lo_move (v := .bool _) rfl) ?_)
    refine ow1 (op1_gs rfl rfl rfl ?_)
    refine ow1 (op1_gs rfl rfl rfl ?_)
    refine ow1 (op1_gs rfl rfl rfl ?_)
    refine ow1 (op1_gs rfl rfl rfl ?_)
    refine ow1 (op1_l rfl (lo_pick_f (v := .bool _) rfl rfl rfl) ?_)
    refine ow1 (op1_l rfl (lo_assign (v := .bool _) rfl) ?_)
    refine ow_nil ?_
    refine seqK_n ?_
    refine cw_ret ?_
    refine fnK_r (res1 rfl (rv_t (v := .bool _) rfl)) (.refl _) ?_
    refine congrArg Value.bool ?_; unfold lightMt; simp only [*, Bool.and_true, Bool.true_and, Bool.false_and, Bool.and_false, decide_true, decide_false]

theorem l11_To (H : Hp) (m : Method) (m_head_a : Option Addr) (m_head_c : Nat) (m_head_h : SlH pairE 4 H (.slice m_head_a m.head.length m_head_c) m.head) (m_w : Method.wf m) (hl : m.head.length ≤ 1000000) : Ph Tryd.prog 24 #[.agg (Method.cells m m_head_a m_head_c).toArray] H (fun v H' => ∃ (a1 : Option Addr) (c1 : Nat), v = .agg (Method.cells m a1 c1).toArray ∧ SlH pairE 4 H' (.slice a1 m.head.length c1) m.head) := by
  refine ph_cw Tryd.func24 rfl Tryd.ntmps24 rfl (fun N => ?_)
  have m_w' := m_w
  simp only [Method.wf] at m_w'
  refine cw_seq ?_
  refine cw_region ?_
  refine ow1 (op1_box (cs := [_, _, _, _, _, _, _, _, _, _]) 0 rfl rfl (fun b1 => ?_))
  refine ow1 (op1_alloc 1 rfl zr56 (fun b2 => ?_))
  refine ow_nil ?_
  refine seqK_n ?_
  refine cw_seq ?_
  refine cw_region ?_
  refine ow1 (op1_l rfl (lo_loadA (i := 0) (vs := [_, _, _, _, _, _, _, _, _, _]) rfl ag50 sz50 rfl rfl rfl) ?_)
  refine ow1 (op1_alloc 2 rfl zr56 (fun b3 => ?_))
  refine ow1 (op1_storeAn (i := 2) (vs := [_, _, _, _, _, _, _, _, _, _]) [_, _, _, _, _, _, _, _, _, _] rfl rfl rfl sz56 rfl rfl rfl rfl ?_)
  refine ow_nil ?_
  refine seqK_n ?_
  refine cw_seq ?_
  refine cw_region ?_
  refine ow1 (op1_bslice (cs := []) 3 rfl Tryd.underlying23 sz94 zx94 rfl trivial rfl rfl (by decide) (fun b4 => ?_))
  refine ow1 (op1_l rfl (lo_fieldAddr rfl fl50_5) ?_)
  refine ow1 (op1_l rfl (lo_load1 (i := 0) (v := .slice _ _ _) rfl ag23 rfl rfl) ?_)
  refine ow1 (op1_app 3 rfl rfl Tryd.underlying23 Tryd.underlying23 rfl sz94 by94 (by decide) zr94 (ownV_bx rfl) (src_slh (enc := Pair.cells) (wf := Pair.wf) (fun _ => rfl) m_head_h) (one_flat (fun _ => rfl) _) rfl (by omega) rfl (fun v5 en6 ho7 => ?_))
  have ho8 := own_cat0 (enc := Pair.cells) m.head ho7
  refine ow1 (op1_l rfl (lo_fieldAddr rfl fl56_5) ?_)
  refine ow1 (op1_store1n (i := 2) [_, _, _, _, _, _, _, _, _, _] rfl rfl (ownV_one ho8) sz23 rfl rfl rfl ?_)
  refine ow_nil ?_
  refine seqK_n ?_
  refine cw_seq ?_
  refine cw_region ?_
  refine ow_giveO 3 rfl (fun _ hl9 hg10 => ?_)
  have hs11 := slh_own (enc := Pair.cells) (wf := Pair.wf) (fun _ => rfl) ho8 (slh_wf m_head_h) hg10
  obtain ⟨⟨a12, c13, rfl, -⟩, -⟩ := id hs11
  refine ow1 (op1_l rfl (lo_loadA (i := 2) (vs := [_, _, _, _, _, _, _, _, _, _]) rfl ag56 sz56 rfl rfl rfl) ?_)
  refine ow1 (op1_storeAn (i := 1) (vs := [_, _, _, _, _, _, _, _, _, _]) [_, _, _, _, _, _, _, _, _, _] rfl rfl rfl sz56 rfl rfl rfl rfl ?_)
  refine ow_nil ?_
  refine seqK_n ?_
  refine cw_ret ?_
  refine fnK_r (res1 rfl (rv_c (i := 1) (vs := [_, _, _, _, _, _, _, _, _, _]) rfl ag56 sz56 rfl rfl rfl)) ((HLe.refl _).trans hl9) ?_
  exact ⟨_, _, rfl, hs11⟩

theorem method_Rule (H : Hp) (m : Method) (m_head_a : Option Addr) (m_head_c : Nat) (m_head_h : SlH pairE 4 H (.slice m_head_a m.head.length m_head_c) m.head) (m_w : Method.wf m) (sort : Int) (sort_r : 0 ≤ sort ∧ sort ≤ 255) (hl : m.head.length ≤ 1000000) : Ph Tryd.prog 26 #[.agg (Method.cells m m_head_a m_head_c).toArray, .int .u8 sort] H (fun v H' => ∃ (a1 : Option Addr) (c1 : Nat), v = .agg (Rule.cells (⟨sort, m.key, m.head, m.yes⟩ : Rule) a1 c1).toArray ∧ SlH pairE 4 H' (.slice a1 ((⟨sort, m.key, m.head, m.yes⟩ : Rule).want).length c1) ((⟨sort, m.key, m.head, m.yes⟩ : Rule).want)) := by
  refine ph_cw Tryd.func26 rfl Tryd.ntmps26 rfl (fun N => ?_)
  have m_w' := m_w
  simp only [Method.wf] at m_w'
  refine cw_seq ?_
  refine cw_region ?_
  refine ow1 (op1_box (cs := [_, _, _, _, _, _, _, _, _, _]) 0 rfl rfl (fun b1 => ?_))
  refine ow1 (op1_alloc 1 rfl zr53 (fun b2 => ?_))
  refine ow_nil ?_
  refine seqK_n ?_
  refine cw_seq ?_
  refine cw_anyX 1 mixd ?_
  refine vw_q 0 rfl (by kernel_rfl) (by repeat (first | exact lle_l0 | exact LLe.refl _ | exact lle_none | refine lle_up ?_ rfl)) (fun _ _ hh hl => lo_move (v := .int _ _) rfl) ?_
  refine vw_q 1 rfl (by kernel_rfl) (by repeat (first | exact lle_l0 | exact LLe.refl _ | exact lle_none | refine lle_up ?_ rfl)) (fun _ _ hh hl => lo_fieldAddr rfl fl50_4) ?_
  refine vw_q 2 rfl (by kernel_rfl) (by repeat (first | exact lle_l0 | exact LLe.refl _ | exact lle_none | refine lle_up ?_ rfl)) (fun _ _ hh hl => lo_load1 (i := 0) (v := str _) rfl ag9 (hl _ _ rfl) rfl) ?_
  refine vw_q 3 rfl (by kernel_rfl) (by repeat (first | exact lle_l0 | exact LLe.refl _ | exact lle_none | refine lle_up ?_ rfl)) (fun _ _ hh hl => lo_fieldAddr rfl fl50_5) ?_
  refine vw_q 4 rfl (by kernel_rfl) (by repeat (first | exact lle_l0 | exact LLe.refl _ | exact lle_none | refine lle_up ?_ rfl)) (fun _ _ hh hl => lo_load1 (i := 0) (v := .slice _ _ _) rfl ag23 (hl _ _ rfl) rfl) ?_
  refine vw_q 6 rfl (by kernel_rfl) (by repeat (first | exact lle_l0 | exact LLe.refl _ | exact lle_none | refine lle_up ?_ rfl)) (fun _ _ hh hl => lo_fieldAddr rfl fl50_9) ?_
  refine vw_q 7 rfl (by kernel_rfl) (by repeat (first | exact lle_l0 | exact LLe.refl _ | exact lle_none | refine lle_up ?_ rfl)) (fun _ _ hh hl => lo_load1 (i := 0) (v := .bool _) rfl ag4 (hl _ _ rfl) rfl) ?_
  refine vw_e 5 rfl (by kernel_rfl) (op1_app 2 rfl rfl Tryd.underlying23 Tryd.underlying23 rfl sz94 by94 (by decide) zr94 ownV_nil (src_slh (enc := Pair.cells) (wf := Pair.wf) (fun _ => rfl) m_head_h) (one_flat (fun _ => rfl) _) rfl (by omega) rfl (fun v3 en4 ho5 => ?_))
  have ho6 := own_cat0 (enc := Pair.cells) m.head ho5
  refine ⟨⟨(.refl _), (by repeat (first | exact lle_l0 | exact LLe.refl _ | exact lle_none | refine lle_up ?_ rfl))⟩, ?_⟩
  refine vw_giveO 2 rfl (by repeat (first | exact lle_l0 | exact LLe.refl _ | exact lle_none | refine lle_up ?_ rfl)) (by kernel_rfl) (fun _ hl7 hg8 => ?_)
  have hs9 := slh_own (enc := Pair.cells) (wf := Pair.wf) (fun _ => rfl) ho6 (slh_wf m_head_h) hg8
  obtain ⟨⟨a10, c11, rfl, -⟩, -⟩ := id hs9
  refine vw_q 8 rfl (by kernel_rfl) (by repeat (first | exact lle_l0 | exact LLe.refl _ | exact lle_none | refine lle_up ?_ rfl)) (fun _ _ hh hl => lo_build (v := .agg #[_, _, _, _]) rfl (bd53_0u8_1s_2l_3b _ _ _ _ _ _)) ?_
  refine vw_t 9 rfl (by kernel_rfl) (by kernel_rfl) (op1_storeAn (i := 1) (vs := [_, _, _, _]) [_, _, _, _] rfl rfl rfl sz53 rfl rfl rfl rfl ?_)
  refine vw_done (by kernel_rfl) ?_
  refine seqK_n ?_
  refine cw_ret ?_
  refine fnK_r (res1 rfl (rv_c (i := 1) (vs := [_, _, _, _]) rfl ag53 sz53 rfl rfl rfl)) ((HLe.refl _).trans hl7) ?_
  exact ⟨_, _, rfl, hs9⟩

theorem method_law_Same (H : Hp) (a : Method) (a_head_a : Option Addr) (a_head_c : Nat) (a_head_h : SlH pairE 4 H (.slice a_head_a a.head.length a_head_c) a.head) (a_w : Method.wf a) (b : Method) (b_head_a : Option Addr) (b_head_c : Nat) (b_head_h : SlH pairE 4 H (.slice b_head_a b.head.length b_head_c) b.head) (b_w : Method.wf b) (sort : Int) (sort_r : 0 ≤ sort ∧ sort ≤ 255) (hML : GInt H 2) (hCrc : GTab H 1 laidT) (hTells : GStrs H 0 tellsT) : Pr Tryd.prog 6 #[.agg (Method.cells a a_head_a a_head_c).toArray, .agg (Method.cells b b_head_a b_head_c).toArray, .int .u8 sort] H (.bool true) := by
  refine pr_cw Tryd.func6 rfl Tryd.ntmps6 rfl (fun N => ?_)
  have a_w' := a_w
  simp only [Method.wf] at a_w'
  have b_w' := b_w
  simp only [Method.wf] at b_w'
  refine cw_seq ?_
  refine cw_region ?_
  refine ow1 (op1_box (cs := [_, _, _, _, _, _, _, _, _, _]) 0 rfl rfl (fun b1 => ?_))
  refine ow1 (op1_box (cs := [_, _, _, _, _, _, _, _, _, _]) 1 rfl rfl (fun b2 => ?_))
  refine ow1 (op1_l rfl (lo_assign (v := .bool _) rfl) ?_)
  refine ow_nil ?_
  refine seqK_n ?_
  refine cw_seq ?_
  refine cw_seq ?_
  refine cw_region ?_
  refine ow1 (op1_pr (l11_awake _ hML hCrc hTells) (en_f cb20 rfl) rfl ?_)
  refine ow1 (op1_l rfl (lo_not rfl) ?_)
  refine ow_nil ?_
  refine seqK_n ?_
  refine cw_cond_f rfl rfl ?_
  refine cw_skip ?_
  refine seqK_n ?_
  refine cw_seq ?_
  refine cw_seq ?_
  refine cw_region ?_
  refine ow1 (op1_l rfl (lo_loadA (i := 0) (vs := [_, _, _, _, _, _, _, _, _, _]) rfl ag50 sz50 rfl rfl rfl) ?_)
  refine ow1 (op1_pr (l11_Light _ a a_head_a a_head_c a_head_h a_w) (en_f cb21 rfl) rfl ?_)
  have hlm2 := lightMt_len a
  refine ow1 (op1_l rfl (lo_not rfl) ?_)
  refine ow1 (op1_l rfl (lo_move (v := .bool _) rfl) ?_)
  refine ow_sp (j := 3) rfl (fun h3 => ?_) (fun h3 => ?_)
  · have h4 := not_t h3
    refine ow1 (op1_gs rfl h3 rfl ?_)
    refine ow1 (op1_gs rfl h3 rfl ?_)
    refine ow1 (op1_gs rfl h3 rfl ?_)
    refine ow1 (op1_l rfl (lo_pick_t (v := .bool _) rfl h3 rfl) ?_)
    refine ow_nil ?_
    refine seqK_n ?_
    refine cw_cond_t rfl rfl ?_
    refine cw_seq ?_
    refine cw_region ?_
    refine ow1 (op1_l rfl (lo_assign (v := .bool _) rfl) ?_)
    refine ow_nil ?_
    refine seqK_n ?_
    refine cw_ret ?_
    refine seqK_r ?_
    refine fnK_r (res1 rfl (rv_t (v := .bool _) rfl)) (.refl _) ?_
    first | rfl | (exfalso; simp at *; done) | (refine congrArg Value.bool ?_; simp; done)
  · have h5 := not_f h3
    refine ow1 (op1_g rfl h3 rfl (lo_loadA (i := 1) (vs := [_, _, _, _, _, _, _, _, _, _]) rfl ag50 sz50 rfl rfl rfl) ?_)
    refine ow1 (op1_prg rfl h3 (l11_Light _ b b_head_a b_head_c b_head_h b_w) (en_f cb21 rfl) rfl ?_)
    have hlm5 := lightMt_len b
    refine ow1 (op1_g rfl h3 rfl (lo_not rfl) ?_)
    refine ow1 (op1_l rfl (lo_pick_f (v := .bool _) rfl h3 rfl) ?_)
    refine ow_nil ?_
    refine seqK_n ?_
    refine cw_cond rfl (fun h6 => ?_) (fun h6 => ?_)
    · have h7 := not_t h6
      refine cw_seq ?_
      refine cw_region ?_
      refine ow1 (op1_l rfl (lo_assign (v := .bool _) rfl) ?_)
      refine ow_nil ?_
      refine seqK_n ?_
      refine cw_ret ?_
      refine seqK_r ?_
      refine fnK_r (res1 rfl (rv_t (v := .bool _) rfl)) (.refl _) ?_
      first | rfl | (exfalso; simp at *; done) | (refine congrArg Value.bool ?_; simp; done)
    · have h8 := not_f h6
      refine cw_skip ?_
      refine seqK_n ?_
      refine cw_seq ?_
      refine cw_region ?_
      refine ow1 (op1_l rfl (lo_move (v := .int _ _) rfl) ?_)
      refine ow1 (op1_l rfl (lo_fieldAddr rfl fl50_4) ?_)
      refine ow1 (op1_l rfl (lo_load1 (i := 0) (v := str _) rfl ag9 rfl rfl) ?_)
      refine ow1 (op1_l rfl (lo_fieldAddr rfl fl50_5) ?_)
      refine ow1 (op1_l rfl (lo_load1 (i := 0) (v := .slice _ _ _) rfl ag23 rfl rfl) ?_)
      refine ow1 (op1_l rfl (lo_fieldAddr rfl fl50_9) ?_)
      refine ow1 (op1_l rfl (lo_load1 (i := 0) (v := .bool _) rfl ag4 rfl rfl) ?_)
      refine ow1 (op1_l rfl (lo_build (v := .agg #[_, _, _, _]) rfl (bd53_0u8_1s_2l_3b _ _ _ _ _ _)) ?_)
      refine ow1 (op1_alloc 2 rfl zr53 (fun b9 => ?_))
      refine ow1 (op1_storeAn (i := 2) (vs := [_, _, _, _]) [_, _, _, _] rfl rfl rfl sz53 rfl rfl rfl rfl ?_)
      refine ow_nil ?_
      refine seqK_n ?_
      refine cw_seq ?_
      refine cw_anyL mixd ?_
      refine vw_q 0 rfl (by kernel_rfl) (by repeat (first | exact lle_l0 | exact LLe.refl _ | exact lle_none | refine lle_up ?_ rfl)) (fun _ _ hh hl => lo_loadA (i := 0) (vs := [_, _, _, _, _, _, _, _, _, _]) rfl ag50 sz50 (hl _ _ rfl) rfl rfl) ?_
      refine vw_q 1 rfl (by kernel_rfl) (by repeat (first | exact lle_l0 | exact LLe.refl _ | exact lle_none | refine lle_up ?_ rfl)) (fun _ _ hh hl => lo_loadA (i := 1) (vs := [_, _, _, _, _, _, _, _, _, _]) rfl ag50 sz50 (hl _ _ rfl) rfl rfl) ?_
      refine vw_qc 2 rfl (by kernel_rfl) (by repeat (first | exact lle_l0 | exact LLe.refl _ | exact lle_none | refine lle_up ?_ rfl)) (method_Same _ a a_head_a a_head_c a_head_h a_w b b_head_a b_head_c b_head_h b_w) (en_f cb22 rfl) ?_
      refine vw_q 3 rfl (by kernel_rfl) (by repeat (first | exact lle_l0 | exact LLe.refl _ | exact lle_none | refine lle_up ?_ rfl)) (fun _ _ hh hl => lo_loadA (i := 0) (vs := [_, _, _, _, _, _, _, _, _, _]) rfl ag50 sz50 (hl _ _ rfl) rfl rfl) ?_
      refine vw_q 5 rfl (by kernel_rfl) (by repeat (first | exact lle_l0 | exact LLe.refl _ | exact lle_none | refine lle_up ?_ rfl)) (fun _ _ hh hl => lo_loadA (i := 1) (vs := [_, _, _, _, _, _, _, _, _, _]) rfl ag50 sz50 (hl _ _ rfl) rfl rfl) ?_
      refine vw_e 4 rfl (by kernel_rfl) (op1_ph (l11_To _ a a_head_a a_head_c a_head_h a_w (by first | omega | (have := lightMt_len a (by assumption); omega))) (en_f cb24 rfl) rfl ?_)
      rintro _ H14 ⟨a10, c11, rfl, hs12⟩ hl13
      refine ⟨⟨((HLe.refl _).trans hl13), (by repeat (first | exact lle_l0 | exact LLe.refl _ | exact lle_none | refine lle_up ?_ rfl))⟩, ?_⟩
      refine vw_e 6 rfl (by kernel_rfl) (op1_ph (l11_To _ b b_head_a b_head_c (b_head_h.mono ((HLe.refl _).trans hl13) (fun _ _ h => h)) b_w (by first | omega | (have := lightMt_len b (by assumption); omega))) (en_f cb24 rfl) rfl ?_)
      rintro _ H19 ⟨a15, c16, rfl, hs17⟩ hl18
      refine ⟨⟨((HLe.refl _).trans hl18), (by repeat (first | exact lle_l0 | exact LLe.refl _ | exact lle_none | refine lle_up ?_ rfl))⟩, ?_⟩
      refine vw_qc 7 rfl (by kernel_rfl) (by repeat (first | exact lle_l0 | exact LLe.refl _ | exact lle_none | refine lle_up ?_ rfl)) (r11_Same _ a a10 c11 (hs12.mono ((HLe.refl _).trans hl18) (fun _ _ h => h)) a_w b a15 c16 hs17 b_w) (en_f cb23 rfl) ?_
      refine vw_q 8 rfl (by kernel_rfl) (by repeat (first | exact lle_l0 | exact LLe.refl _ | exact lle_none | refine lle_up ?_ rfl)) (fun _ _ hh hl => lo_beql rfl rfl Tryd.underlying4) ?_
      refine vw_q 9 rfl (by kernel_rfl) (by repeat (first | exact lle_l0 | exact LLe.refl _ | exact lle_none | refine lle_up ?_ rfl)) (fun _ _ hh hl => lo_move (v := .bool _) rfl) ?_
      refine vw_sp (j := 9) rfl (fun h20 => ?_) (fun h20 => ?_)
      · have p21 := beqT h20
        refine vw_qg 10 rfl (by kernel_rfl) (by repeat (first | exact lle_l0 | exact LLe.refl _ | exact lle_none | refine lle_up ?_ rfl)) rfl h20 (fun _ _ hh hl => lo_loadA (i := 0) (vs := [_, _, _, _, _, _, _, _, _, _]) rfl ag50 sz50 (hl _ _ rfl) rfl rfl) ?_
        refine vw_qg 11 rfl (by kernel_rfl) (by repeat (first | exact lle_l0 | exact LLe.refl _ | exact lle_none | refine lle_up ?_ rfl)) rfl h20 (fun _ _ hh hl => lo_loadA (i := 0) (vs := [_, _, _, _, _, _, _, _, _, _]) rfl ag50 sz50 (hl _ _ rfl) rfl rfl) ?_
        refine vw_qgc 12 rfl (by kernel_rfl) (by repeat (first | exact lle_l0 | exact LLe.refl _ | exact lle_none | refine lle_up ?_ rfl)) rfl h20 (method_Same _ a a_head_a a_head_c (a_head_h.mono (((HLe.refl _).trans hl13).trans hl18) (fun _ _ h => h)) a_w a a_head_a a_head_c (a_head_h.mono (((HLe.refl _).trans hl13).trans hl18) (fun _ _ h => h)) a_w) (en_f cb22 rfl) ?_
        refine vw_q 13 rfl (by kernel_rfl) (by repeat (first | exact lle_l0 | exact LLe.refl _ | exact lle_none | refine lle_up ?_ rfl)) (fun _ _ hh hl => lo_pick_t (v := .bool _) rfl h20 rfl) ?_
        refine vw_q 14 rfl (by kernel_rfl) (by repeat (first | exact lle_l0 | exact LLe.refl _ | exact lle_none | refine lle_up ?_ rfl)) (fun _ _ hh hl => lo_move (v := .bool _) rfl) ?_
        refine vw_sp (j := 14) rfl (fun h22 => ?_) (fun h22 => ?_)
        · refine vw_qg 15 rfl (by kernel_rfl) (by repeat (first | exact lle_l0 | exact LLe.refl _ | exact lle_none | refine lle_up ?_ rfl)) rfl h22 (fun _ _ hh hl => lo_loadA (i := 0) (vs := [_, _, _, _, _, _, _, _, _, _]) rfl ag50 sz50 (hl _ _ rfl) rfl rfl) ?_
          refine vw_qg 16 rfl (by kernel_rfl) (by repeat (first | exact lle_l0 | exact LLe.refl _ | exact lle_none | refine lle_up ?_ rfl)) rfl h22 (fun _ _ hh hl => lo_move (v := .int _ _) rfl) ?_
          refine vw_qg 18 rfl (by kernel_rfl) (by repeat (first | exact lle_l0 | exact LLe.refl _ | exact lle_none | refine lle_up ?_ rfl)) rfl h22 (fun _ _ hh hl => lo_loadA (i := 2) (vs := [_, _, _, _]) rfl ag53 sz53 (hl _ _ rfl) rfl rfl) ?_
          refine vw_e 17 rfl (by kernel_rfl) (op1_phg rfl h22 (method_Rule _ a a_head_a a_head_c (a_head_h.mono (((HLe.refl _).trans hl13).trans hl18) (fun _ _ h => h)) a_w sort (by omega) (by first | omega | (have := lightMt_len a (by assumption); omega))) (en_f cb26 rfl) rfl ?_)
          rintro _ H27 ⟨a23, c24, rfl, hs25⟩ hl26
          refine ⟨⟨((HLe.refl _).trans hl26), (by repeat (first | exact lle_l0 | exact LLe.refl _ | exact lle_none | refine lle_up ?_ rfl))⟩, ?_⟩
          refine vw_qgc 19 rfl (by kernel_rfl) (by repeat (first | exact lle_l0 | exact LLe.refl _ | exact lle_none | refine lle_up ?_ rfl)) rfl h22 (match_Same _ (⟨sort, a.key, a.head, a.yes⟩ : Rule) a23 c24 hs25 (by simp only [Rule.wf]; first | omega | (simp; done) | (simp; omega)) (⟨sort, a.key, a.head, a.yes⟩ : Rule) a_head_a a_head_c (a_head_h.mono ((((HLe.refl _).trans hl13).trans hl18).trans hl26) (fun _ _ h => h)) (by simp only [Rule.wf]; first | omega | (simp; done) | (simp; omega))) (en_f cb25 rfl) ?_
          refine vw_q 20 rfl (by kernel_rfl) (by repeat (first | exact lle_l0 | exact LLe.refl _ | exact lle_none | refine lle_up ?_ rfl)) (fun _ _ hh hl => lo_pick_t (v := .bool _) rfl h22 rfl) ?_
          refine vw_q 21 rfl (by kernel_rfl) (by repeat (first | exact lle_l0 | exact LLe.refl _ | exact lle_none | refine lle_up ?_ rfl)) (fun _ _ hh hl => lo_assign (v := .bool _) rfl) ?_
          refine vw_done (by kernel_rfl) ?_
          refine seqK_n ?_
          refine cw_ret ?_
          refine fnK_r (res1 rfl (rv_t (v := .bool _) rfl)) ((((HLe.refl _).trans hl13).trans hl18).trans hl26) ?_
          first | rfl | (exfalso; simp at *; done) | (refine congrArg Value.bool ?_; simp; done)
        · refine vw_qgs 15 rfl (by kernel_rfl) (by repeat (first | exact lle_l0 | exact LLe.refl _ | exact lle_none | refine lle_up ?_ rfl)) rfl h22 ?_
          refine vw_qgs 16 rfl (by kernel_rfl) (by repeat (first | exact lle_l0 | exact LLe.refl _ | exact lle_none | refine lle_up ?_ rfl)) rfl h22 ?_
          refine vw_qgs 17 rfl (by kernel_rfl) (by repeat (first | exact lle_l0 | exact LLe.refl _ | exact lle_none | refine lle_up ?_ rfl)) rfl h22 ?_
          refine vw_qgs 18 rfl (by kernel_rfl) (by repeat (first | exact lle_l0 | exact LLe.refl _ | exact lle_none | refine lle_up ?_ rfl)) rfl h22 ?_
          refine vw_qgs 19 rfl (by kernel_rfl) (by repeat (first | exact lle_l0 | exact LLe.refl _ | exact lle_none | refine lle_up ?_ rfl)) rfl h22 ?_
          refine vw_q 20 rfl (by kernel_rfl) (by repeat (first | exact lle_l0 | exact LLe.refl _ | exact lle_none | refine lle_up ?_ rfl)) (fun _ _ hh hl => lo_pick_f (v := .bool _) rfl h22 rfl) ?_
          refine vw_q 21 rfl (by kernel_rfl) (by repeat (first | exact lle_l0 | exact LLe.refl _ | exact lle_none | refine lle_up ?_ rfl)) (fun _ _ hh hl => lo_assign (v := .bool _) rfl) ?_
          refine vw_done (by kernel_rfl) ?_
          refine seqK_n ?_
          refine cw_ret ?_
          refine fnK_r (res1 rfl (rv_t (v := .bool _) rfl)) (((HLe.refl _).trans hl13).trans hl18) ?_
          first | rfl | (exfalso; simp at *; done) | (refine congrArg Value.bool ?_; simp; done)
      · have p28 := beqF h20
        refine vw_qgs 10 rfl (by kernel_rfl) (by repeat (first | exact lle_l0 | exact LLe.refl _ | exact lle_none | refine lle_up ?_ rfl)) rfl h20 ?_
        refine vw_qgs 11 rfl (by kernel_rfl) (by repeat (first | exact lle_l0 | exact LLe.refl _ | exact lle_none | refine lle_up ?_ rfl)) rfl h20 ?_
        refine vw_qgs 12 rfl (by kernel_rfl) (by repeat (first | exact lle_l0 | exact LLe.refl _ | exact lle_none | refine lle_up ?_ rfl)) rfl h20 ?_
        refine vw_q 13 rfl (by kernel_rfl) (by repeat (first | exact lle_l0 | exact LLe.refl _ | exact lle_none | refine lle_up ?_ rfl)) (fun _ _ hh hl => lo_pick_f (v := .bool _) rfl h20 rfl) ?_
        refine vw_q 14 rfl (by kernel_rfl) (by repeat (first | exact lle_l0 | exact LLe.refl _ | exact lle_none | refine lle_up ?_ rfl)) (fun _ _ hh hl => lo_move (v := .bool _) rfl) ?_
        refine vw_qgs 15 rfl (by kernel_rfl) (by repeat (first | exact lle_l0 | exact LLe.refl _ | exact lle_none | refine lle_up ?_ rfl)) rfl rfl ?_
        refine vw_qgs 16 rfl (by kernel_rfl) (by repeat (first | exact lle_l0 | exact LLe.refl _ | exact lle_none | refine lle_up ?_ rfl)) rfl rfl ?_
        refine vw_qgs 17 rfl (by kernel_rfl) (by repeat (first | exact lle_l0 | exact LLe.refl _ | exact lle_none | refine lle_up ?_ rfl)) rfl rfl ?_
        refine vw_qgs 18 rfl (by kernel_rfl) (by repeat (first | exact lle_l0 | exact LLe.refl _ | exact lle_none | refine lle_up ?_ rfl)) rfl rfl ?_
        refine vw_qgs 19 rfl (by kernel_rfl) (by repeat (first | exact lle_l0 | exact LLe.refl _ | exact lle_none | refine lle_up ?_ rfl)) rfl rfl ?_
        refine vw_q 20 rfl (by kernel_rfl) (by repeat (first | exact lle_l0 | exact LLe.refl _ | exact lle_none | refine lle_up ?_ rfl)) (fun _ _ hh hl => lo_pick_f (v := .bool _) rfl rfl rfl) ?_
        refine vw_q 21 rfl (by kernel_rfl) (by repeat (first | exact lle_l0 | exact LLe.refl _ | exact lle_none | refine lle_up ?_ rfl)) (fun _ _ hh hl => lo_assign (v := .bool _) rfl) ?_
        refine vw_done (by kernel_rfl) ?_
        refine seqK_n ?_
        refine cw_ret ?_
        refine fnK_r (res1 rfl (rv_t (v := .bool _) rfl)) (((HLe.refl _).trans hl13).trans hl18) ?_
        first | rfl | (exfalso; simp at *; done) | (refine congrArg Value.bool ?_; simp; done)

end Go.SW


namespace Go.SW
open Go.ChangeShapes Go.WideShapes Go.ChangeAt Go.RowKit

def hp (w : World) : Hp := fun b => w.heap[b]?
def rest0 (w : World) : Rest := ⟨fun _ => none, w.os, w.tape, w.output⟩
theorem mem0 (w : World) : Mem (rest0 w) (hp w) l0 w :=
  { os := rfl, tape := rfl, output := rfl, n := fun _ _ h => (by cases h), h := fun _ _ h => h, l := fun _ _ _ h => (by cases h), nh := fun _ _ h => (by cases h), nl := fun _ _ _ h => (by cases h), ll := fun _ _ _ _ _ h => (by cases h) }
theorem mem0_below {w w' : World} {L : Ls} (h : Mem (rest0 w) (hp w) L w') : Below w.heap.size w w' := by
  have hb : ∀ k, k < w.heap.size → w'.heap[k]? = w.heap[k]? := fun k hk => by
    have e : w.heap[k]? = some w.heap[k] := Array.getElem?_eq_getElem hk
    rw [e]; exact h.h k _ e
  refine ⟨h.os, h.tape, h.output, ?_, hb⟩
  by_cases z : w.heap.size = 0
  · omega
  · have := hb (w.heap.size - 1) (by omega)
    rw [Array.getElem?_eq_getElem (show w.heap.size - 1 < w.heap.size by omega)] at this
    have := (Array.getElem?_eq_some_iff.1 this).1
    omega

section
variable {Ht : Type} {enc : TypeId × Value → Ht} {P : Program} {w : World} {base fuel : Nat} {spare : Nat → Bool} {held : Bool} {cs : List Value} {x : DataW Ht × List MemPlace} {t : TypeId}

theorem rd_int {k : IntKind} (ht : P.underlying t = some (.int k)) (h : DataW.trod enc P w base spare held fuel t cs = some x) : ∃ z : Int, cs = [.int k z] ∧ k.min ≤ z ∧ z ≤ k.max := by
  obtain ⟨z, h1, _, h2⟩ := DataW.trod_int ht h
  refine ⟨z, h1, ?_⟩
  simp only [Lit.wf, Bool.and_eq_true, decide_eq_true_eq] at h2; exact h2
theorem rd_u8 (ht : P.underlying t = some (.int .u8)) (h : DataW.trod enc P w base spare held fuel t cs = some x) : ∃ z : Int, cs = [.int .u8 z] ∧ 0 ≤ z ∧ z ≤ 255 := rd_int ht h
theorem rd_u16 (ht : P.underlying t = some (.int .u16)) (h : DataW.trod enc P w base spare held fuel t cs = some x) : ∃ z : Int, cs = [.int .u16 z] ∧ 0 ≤ z ∧ z ≤ 65535 := rd_int ht h
theorem rd_u32 (ht : P.underlying t = some (.int .u32)) (h : DataW.trod enc P w base spare held fuel t cs = some x) : ∃ z : Int, cs = [.int .u32 z] ∧ 0 ≤ z ∧ z ≤ 4294967295 := rd_int ht h
theorem rd_u64 (ht : P.underlying t = some (.int .u64)) (h : DataW.trod enc P w base spare held fuel t cs = some x) : ∃ z : Int, cs = [.int .u64 z] ∧ 0 ≤ z ∧ z ≤ 18446744073709551615 := rd_int ht h
theorem rd_i64 (ht : P.underlying t = some (.int .i64)) (h : DataW.trod enc P w base spare held fuel t cs = some x) : ∃ z : Int, cs = [.int .i64 z] ∧ -9223372036854775808 ≤ z ∧ z ≤ 9223372036854775807 := rd_int ht h
theorem rd_bool (ht : P.underlying t = some .bool) (h : DataW.trod enc P w base spare held fuel t cs = some x) : ∃ z : Bool, cs = [.bool z] := by
  obtain ⟨z, h1, _⟩ := DataW.trod_bool ht h
  exact ⟨z, h1⟩
theorem rd_str (ht : P.underlying t = some .string) (h : DataW.trod enc P w base spare held fuel t cs = some x) : ∃ s : Bs, cs = [str s] ∧ s.length ≤ 9223372036854775807 := by
  obtain ⟨s, h1, _, h2⟩ := DataW.trod_string ht h
  refine ⟨s.data.toList, by rw [h1, str_of], ?_⟩
  have : s.data.toList.length = s.size := Array.length_toList
  rw [this]; exact h2
theorem list_of {α : Type} {Q : Nat → α → Prop} : ∀ n, (∀ i, i < n → ∃ r, Q i r) → ∃ rs : List α, rs.length = n ∧ ∀ i (h : i < rs.length), Q i rs[i]
  | 0, _ => ⟨[], rfl, fun i h => by cases h⟩
  | n + 1, hq => by
    obtain ⟨rs, hl, hr⟩ := list_of n (fun i hi => hq i (by omega))
    obtain ⟨r, hr0⟩ := hq n (by omega)
    refine ⟨rs ++ [r], by simp [hl], fun i hi => ?_⟩
    by_cases e : i < rs.length
    · rw [List.getElem_append_left e]; exact hr i e
    · have : i = rs.length := by simp at hi; omega
      subst this
      rw [List.getElem_append_right (Nat.le_refl _)]
      simp only [Nat.sub_self, List.getElem_cons_zero]
      rw [hl]; exact hr0
theorem rd_slice {α : Type} {E : Hp → α → List Value → Prop} {k : Nat} {e : TypeId} (ht : P.underlying t = some (.slice e)) (hk : P.cellsOf e = k) (h0 : 0 < k) (he : ∀ fuel cs x, DataW.trod enc P w base spare held fuel e cs = some x → ∃ r, E (hp w) r cs)
    (h : DataW.trod enc P w base spare held fuel t cs = some x) : ∃ (a : Option Addr) (c : Nat) (rs : List α), cs = [.slice a rs.length c] ∧ SlH E k (hp w) (.slice a rs.length c) rs ∧ rs.length ≤ 9223372036854775807 := by
  rcases Go.Deep.open_slice ht h with ⟨h1, _⟩ | ⟨a, len, cap, m, nf, D, Pl, h1, _, hl, hm, hmm, _, hi⟩
  · exact ⟨none, 0, [], h1, slh_nil, Nat.zero_le _⟩
  · have hs0 : 0 < len → a = ⟨a.block, a.off, none⟩ := by
      intro hl0
      obtain ⟨cs', hc, hT⟩ := hi 0 (by rw [hmm]; split <;> omega)
      rw [hk, Nat.zero_mul] at hc
      obtain ⟨_, hcl, hat⟩ := World.cells?_some hc
      have ha0 := hat 0 h0
      rw [List.getElem?_eq_getElem (by omega)] at ha0
      obtain ⟨ab, ao, asp⟩ := a
      cases asp with
      | none => rfl
      | some z =>
        exfalso
        unfold World.cell? at ha0
        simp only [Addr.add] at ha0
        split at ha0 <;> simp at ha0
    have key : ∀ i, i < len → ∃ r : α, ∃ cs', E (hp w) r cs' ∧ SlAt (hp w) (.slice (some a) len cap) k i cs' := by
      intro i hil
      have ha := hs0 (by omega)
      obtain ⟨cs', hc, hT⟩ := hi i (by rw [hmm]; split <;> omega)
      obtain ⟨r, hr⟩ := he _ _ _ hT
      rw [hk] at hc
      obtain ⟨_, hcl, hat⟩ := World.cells?_some hc
      refine ⟨r, cs', hr, ?_⟩
      generalize a.block = ab at ha
      generalize a.off = ao at ha
      subst ha
      simp only [add_none] at hat
      have ha0 := hat 0 h0
      rw [List.getElem?_eq_getElem (by omega)] at ha0
      unfold World.cell? at ha0
      simp only at ha0
      split at ha0
      · rename_i c T fr hb
        refine ⟨ab, ao, len, cap, c, T, fr, rfl, hb, hcl, fun j hj => ?_⟩
        have := hat j hj
        unfold World.cell? at this
        simp only at this
        rw [hb] at this
        simpa using this
      · cases ha0
    obtain ⟨rs, hlen, hr⟩ := list_of (Q := fun i (r : α) => ∃ cs', E (hp w) r cs' ∧ SlAt (hp w) (.slice (some a) len cap) k i cs') len key
    refine ⟨some a, cap, rs, by rw [h1, hlen], ⟨⟨some a, cap, rfl, by omega⟩, fun i hi => ?_⟩, ?_⟩
    · rw [hlen]; exact hr i hi
    · have : cap ≤ 9223372036854775807 := hm
      omega

/-- A struct's field. -/
theorem rd_fld {fs : Array Field} {xs : List (DataW Ht × List MemPlace)} {n i o k : Nat} {f : Field} {ft : TypeId} (hf : ∀ (i : Nat) (f : Field), fs[i]? = some f → DataW.trod enc P w base spare held n f.type ((cs.drop f.offset).take (P.cellsOf f.type)) = xs[i]?) (hl : xs.length = fs.size)
    (hi : fs[i]? = some f) (ho : f.offset = o) (ht : f.type = ft) (hk : P.cellsOf ft = k) : ∃ y, DataW.trod enc P w base spare held n ft ((cs.drop o).take k) = some y := by
  have h := hf i f hi
  have hlt : i < fs.size := (Array.getElem?_eq_some_iff.1 hi).1
  rw [ho, ht, hk, List.getElem?_eq_getElem (by omega)] at h
  exact ⟨_, h⟩
theorem cs_last {l : List Value} {o k : Nat} (hl : cs.length = o + k) (h : (cs.drop o).take k = l) : cs.drop o = l := by
  rw [← h, List.take_of_length_le (by simp; omega)]
theorem cs_step {l r : List Value} {o k : Nat} (h : (cs.drop o).take k = l) (hr : cs.drop (o + k) = r) : cs.drop o = l ++ r := by
  rw [← h, ← hr, ← List.drop_drop, List.take_append_drop]
end

/-- A struct that is handed over. -/
theorem rd_agg {Ht : Type} {enc : TypeId × Value → Ht} {P : Program} {w : World} {r : Reach} {b0 base : Nat} {spare : Nat → Bool} {held : Bool} {t : TypeId} {fs : Array Field} {v : Value} {d : DataW Ht} {p : List MemPlace} (hs : P.underlying t = some (.struct fs)) (hv : Value.okWide P w r b0 t v)
    (h : DataW.Trod enc P w base spare held t v d p) : ∃ (l : List Value) (fuel : Nat), v = .agg l.toArray ∧ DataW.trod enc P w base spare held fuel t l = some (d, p) := by
  obtain ⟨cs, rfl, _⟩ := okWide_struct hs hv
  obtain ⟨fuel, hf⟩ := h
  exact ⟨cs.toList, fuel, rfl, hf⟩
theorem params_ok {P : Program} {ts : Array TypeId} (h : (ts.toList.all fun t => P.readableRec t && decide (t < P.types.size)) = true) : ∀ t ∈ ts.toList, P.readableRec t = true ∧ t < P.types.size := fun t ht => by
  have := List.all_eq_true.1 h t ht
  simpa using this
theorem rd_one_int {Ht : Type} {enc : TypeId × Value → Ht} {P : Program} {w : World} {r : Reach} {b0 base : Nat} {spare : Nat → Bool} {held : Bool} {t : TypeId} {k : IntKind} {v : Value} {d : DataW Ht} {p : List MemPlace} (hs : P.underlying t = some (.int k)) (hv : Value.okWide P w r b0 t v)
    (h : DataW.Trod enc P w base spare held t v d p) : ∃ z : Int, v = .int k z ∧ k.min ≤ z ∧ z ≤ k.max := by
  obtain ⟨z, rfl, _, _, hw⟩ := open_int hs hv h
  refine ⟨z, rfl, ?_⟩
  simp only [Lit.wf, Bool.and_eq_true, decide_eq_true_eq] at hw; exact hw
theorem rd_one_str {Ht : Type} {enc : TypeId × Value → Ht} {P : Program} {w : World} {r : Reach} {b0 base : Nat} {spare : Nat → Bool} {held : Bool} {t : TypeId} {v : Value} {d : DataW Ht} {p : List MemPlace} (hs : P.underlying t = some .string) (hv : Value.okWide P w r b0 t v)
    (h : DataW.Trod enc P w base spare held t v d p) : ∃ z : Bs, v = str z ∧ z.length ≤ 9223372036854775807 := by
  obtain ⟨s, rfl, _, _, hw⟩ := ChangeMaps.open_string hs hv h
  refine ⟨s.data.toList, str_of s, ?_⟩
  have : s.data.toList.length = s.size := Array.length_toList
  rw [this]; exact hw
/-- The cells of a datum. -/
def flatD : Nat → DataW Unit → List Value
  | _, .lit (.int k n) => [.int k n]
  | _, .lit (.string s) => [.string ⟨s.toArray⟩]
  | _, .lit (.bool b) => [.bool b]
  | n + 1, .agg l => l.flatMap (flatD n)
  | _, _ => []
/-- The settled world, with data laid in its variables. -/
def layD (d : DataW Unit) : Obj → Obj
  | .cells _ t frozen => .cells (flatD 5 d).toArray t frozen
  | o => o
noncomputable def laidW (P : Program) (os : Os) (l : List (Nat × DataW Unit)) : World :=
  let w0 := World.holding P os ⟨#[], #[], []⟩
  { w0 with heap := List.foldl (fun h x => h.modify x.1 (layD x.2)) w0.heap l }

/-- Each argument reads as it did, where below the heap's old size nothing has turned. -/
theorem trodAll_stays {Ht : Type} {enc : TypeId × Value → Ht} {P : Program} (hl : laidOutB P = true) {W W' : World} (hb : Below W.heap.size W W') {sp : Nat → Bool} : ∀ {ts : List TypeId} {vs : List Value} {ds : List (DataW Ht)} {ps : List MemPlace}, (∀ t ∈ ts, P.readableRec t = true ∧ t < P.types.size) →
    DataW.TrodAll enc P W 0 (fun _ => true) true ts vs ds ps → (∀ x ∈ ps, x.block < W.heap.size) → (∀ x ∈ ps, sp x.block = true) → DataW.TrodAll enc P W' 0 sp true ts vs ds ps := by
  intro ts
  induction ts with
  | nil => intro vs ds ps _ h _ _; cases vs <;> cases ds <;> first | exact h | exact h.elim
  | cons t ts ih =>
    intro vs ds ps hr h hlt hsp
    obtain ⟨v, vs', d, ds', p, q, rfl, rfl, rfl, h1, h2⟩ := trodAll_cons h
    exact trodAll_cons_mk (WideElems.Trod_stays hl (hr t (by simp)).1 (hr t (by simp)).2 h1 (fun x hx => hb.same (hlt x (by simp [hx]))) (fun x hx => hsp x (by simp [hx]))) (ih (fun u hu => hr u (by simp [hu])) h2 (fun x hx => hlt x (by simp [hx])) (fun x hx => hsp x (by simp [hx])))

section
variable {Ht : Type} {enc : TypeId × Value → Ht} {P : Program}
/-- A row's last step where below the heap's old size nothing has turned: it hands back true, and the arguments read as they did. -/
theorem law_post {f : Func} {s : ChangeSpec} {apart fresh again : Bool} {W W' : World} {args : Array Value} {ds : List (DataW Ht)} {before : List MemPlace} {tb : TypeId} (hvars : s.vars = [])
    (hW : DataW.Whole enc P f.params.toList s.vars apart W args.toList ds [] before) (hb : Below W.heap.size W W') (hl : laidOutB P = true) (hr : ∀ t ∈ f.params.toList, P.readableRec t = true ∧ t < P.types.size)
    (hres : f.resultTypes = #[tb]) (hu : P.underlying tb = some .bool) (hfn : s.fn Ht (ds ++ []) = { results := [.lit (.bool true)], args := ds }) : s.post enc P f apart fresh false again W args (.bool true) W' := by
  have hlt : ∀ p ∈ before, p.block < W.heap.size := fun p hp => hW.lt p hp
  have hold : ∀ p ∈ before, (fun b => decide (b < W.heap.size)) p.block = true := fun p hp => by simpa using hlt p hp
  have hW0 := hW
  obtain ⟨p, q, hA, hV, rfl, hz, hn⟩ := hW0
  have hq : q = [] := by
    rw [hvars] at hV
    exact (trodVars_none hV).2
  subst hq
  rw [List.append_nil] at hlt hold hz hn hW
  have hA0 : DataW.TrodAll enc P W 0 (fun _ => true) true f.params.toList args.toList ds p := hA
  have hargs : ∀ sp : Nat → Bool, (∀ x ∈ p, sp x.block = true) → DataW.TrodAll enc P W' 0 sp true f.params.toList args.toList ds p := fun sp hs => trodAll_stays hl hb hr hA0 hlt hs
  have hvs : ∀ sp : Nat → Bool, DataW.TrodVars enc P W' sp s.vars ([] : List (DataW Ht)) [] := fun sp => by rw [hvars]; rfl
  have hR : ∀ (b : Nat) (sp : Nat → Bool) (hd : Bool), DataW.TrodAll enc P W' b sp hd f.resultTypes.toList ((Value.bool true).resultList f.resultTypes.size) [.lit (.bool true)] [] := fun b sp hd => by
    rw [hres]
    exact trodAll_mk1 (shut_bool hu true)
  have hok : ∀ (j : Nat) (t : TypeId) (r : Value), f.resultTypes[j]? = some t → ((Value.bool true).resultList f.resultTypes.size)[j]? = some r → Value.okWide P W' .any 0 t r := ok_one hres rfl (okWide_bool_mk hu true)
  refine ⟨ds, [], p, [], p, [], hW, ?_, ?_, ?_, World.keptBut_mono (fun x hx => ⟨hx, Or.inr (by simpa using hx)⟩) (hb.frame (· ∈ p)), fun _ => ?_⟩
  · rw [hfn]; exact hR _ _ _
  · rw [hfn]; exact hargs _ hold
  · rw [hfn]; exact hvs _
  · refine ⟨hok, _, _, ([] ++ p) ++ [], ⟨[] ++ p, [], trodAll_append (hargs _ (fun _ _ => rfl)) (hR _ _ _), hvs _, rfl, ?_, ?_⟩, ?_⟩
    · intro b off hp
      have hin : MemPlace.cell b off ∈ p := by simpa using hp
      rw [hb.frozen (hlt _ hin)]
      exact hz b off hin
    · intro ha
      have := hn ha
      simpa using this
    · intro x hx _
      simpa using hx

/-- A variable of type int holds an int. -/
theorem gint_of_shape {w : World} {g : Nat} {t : TypeId} {zero : Array Value} (h : w.ShapedOpen P) (hg : g < P.globals.size)
    (h0 : ((begin P (fun _ _ => 0) default).world.heap[g]?).bind Obj.row? = some (zero, t)) (hz : zero.size = 1)
    (hb : P.buildable t = true) (hc : P.cellTypes P.depth t = some [t]) (hu : P.underlying t = some (.int .i64)) : GInt (hp w) g := by
  obtain ⟨cs, hh, hs, hr⟩ := h.1 g zero t hg h0
  obtain ⟨ts, hts, _, hall⟩ := hr hb
  rw [hc] at hts
  cases hts
  have h1 : 0 < cs.size := by omega
  obtain ⟨u, hu', hok⟩ := hall 0 cs[0] (by simp [h1])
  have : u = t := by simpa using hu'.symm
  subst this
  unfold Cell.ok at hok
  rw [hu] at hok
  have hv : ∃ m, cs[0] = .int .i64 m := by
    cases hv : cs[0] <;> rw [hv] at hok <;> first | exact ⟨_, by rw [hok.1]⟩ | simp at hok
  obtain ⟨m, hm⟩ := hv
  refine ⟨m, u, (0, 0), ?_⟩
  show w.heap[g]? = _
  rw [hh]
  have e : cs = #[.int .i64 m] := by
    apply Array.ext
    · simp; omega
    · intro i hi1 hi2
      have : i = 0 := by simp at hi2; omega
      subst this
      simpa using hm
  rw [e]

/-- A table of integers that the row lists. -/
theorem gtab_of {w : World} {g n : Nat} {name : String} {k : IntKind} {zs : List Int} {rest : List (String × DataW Unit)} {t e : TypeId} (hg : P.globalNamed name = some g) (hty : (P.globals[g]?).map (·.type) = some t) (ht : P.underlying t = some (.array n e)) (he : P.underlying e = some (.int k)) (hce : P.cellsOf e = 1) (hct : P.cellsOf t = n)
    (h : laidMet P ((name, Lib.tabData k zs) :: rest) w) : ∃ T fr, hp w g = some (.cells (zs.map (Value.int k)).toArray T fr) := by
  have hT := Lib.tabIs_of_head hg hty ht he hce hct h
  unfold Lib.TabIs World.var? at hT
  rw [hg] at hT
  simp only [Option.bind_some] at hT
  split at hT
  · rename_i cs T fr hh
    cases hT
    exact ⟨T, fr, hh⟩
  · cases hT
end
end Go.SW


namespace Go.SW
open Go.ChangeShapes Go.WideShapes Go.ChangeAt Go.RowKit
variable {P : Program}

theorem cells_of_strs {Ht : Type} {enc : TypeId × Value → Ht} {w : World} {base : Nat} {sp : Nat → Bool} {held : Bool} {fuel : Nat} {t e : TypeId} {n : Nat} {cs : List Value} {zs : List Bs} {p : List MemPlace}
    (ht : P.underlying t = some (.array n e)) (he : P.underlying e = some .string) (hce : P.cellsOf e = 1) (hct : P.cellsOf t = n)
    (h : DataW.trod enc P w base sp held fuel t cs = some (.agg (zs.map fun z => .lit (.string z)), p)) : cs = zs.map str := by
  cases fuel with
  | zero => simp [DataW.trod] at h
  | succ fuel =>
    simp only [DataW.trod, ht, hce, hct, Nat.mul_one] at h
    split at h
    · rename_i hl
      obtain ⟨xs, hm, hx⟩ := Option.map_eq_some_iff.1 h
      have hxs : xs.map (·.1) = zs.map fun z => (DataW.lit (.string z) : DataW Ht) := by
        have := congrArg Prod.fst hx
        simpa using this
      have hxl : xs.length = n := by simpa using Lib.mapM_length hm
      have hzl : zs.length = n := by
        have := congrArg List.length hxs
        simp at this
        omega
      apply List.ext_getElem?
      intro i
      by_cases hi : i < n
      · obtain ⟨b, hb, hf⟩ := Lib.mapM_at hm i i (by simp [hi])
        obtain ⟨z, hc, rfl, _⟩ := DataW.trod_string he hf
        have h1 : cs[i]? = some (.string z) := by
          have := congrArg (·[0]?) hc
          simpa [List.getElem?_take, List.getElem?_drop] using this
        have h2 : (xs.map (·.1))[i]? = some (DataW.lit (.string z.data.toList) : DataW Ht) := by simp [hb]
        rw [hxs] at h2
        simp only [List.getElem?_map, Option.map_eq_some_iff, DataW.lit.injEq, Lit.string.injEq] at h2
        obtain ⟨z', hz', rfl⟩ := h2
        rw [h1, List.getElem?_map, hz', str_of]
        rfl
      · rw [List.getElem?_eq_none (by omega), List.getElem?_eq_none (by simp; omega)]
    · cases h

theorem gstrs_of {w : World} {g n : Nat} {name : String} {zs : List Bs} {rest : List (String × DataW Unit)} {t e : TypeId} (hg : P.globalNamed name = some g) (hty : (P.globals[g]?).map (·.type) = some t) (ht : P.underlying t = some (.array n e)) (he : P.underlying e = some .string) (hce : P.cellsOf e = 1) (hct : P.cellsOf t = n)
    (h : laidMet P ((name, .agg (zs.map fun z => .lit (.string z))) :: rest) w) : GStrs (hp w) g zs := by
  obtain ⟨ps, ⟨g', t', cs, fuel, p, q, hg', ht', hvar, hd, _, _⟩, _⟩ := h
  obtain rfl := Option.some.inj (hg.symm.trans hg')
  obtain rfl := Option.some.inj (hty.symm.trans ht')
  have hc := cells_of_strs ht he hce hct hd
  obtain rfl : cs = (zs.map str).toArray := by rw [← hc]
  unfold World.var? at hvar
  rw [hg] at hvar
  simp only [Option.bind_some] at hvar
  split at hvar
  · rename_i cs T fr hh
    cases hvar
    exact ⟨T, fr, hh⟩
  · cases hvar
end Go.SW
