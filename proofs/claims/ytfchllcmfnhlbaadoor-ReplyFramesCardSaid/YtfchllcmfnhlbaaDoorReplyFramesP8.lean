/-
  A part of the proof of ReplyFrames: The walks of this seat, printed by program: stairwellref12.Frame, stairwelllaw12.ReplyFrames. From the data that a row's arguments read as to the ground of the walks, and back: a world seen as one that is read alone; integers, texts, bools, structs, slices opened; the row's last step. Over any program; no condition.
-/
import Derived.Test.YtfchllcmfnhlbaaDoorProg
import Derived.KernelRfl
import Derived.Test.YtfchllcmfnhlbaaDoorReplyFramesP7
import Derived.Test.YtfchllcmfnhlbaaDoorReplyFramesP2
import Derived.ProofKit
import Derived.OpenShut
import Derived.Deep.Slices
import Derived.Carry
import Derived.Lib.LaidTab
set_option linter.unusedVariables false
set_option linter.unusedSimpArgs false

set_option linter.unusedVariables false
set_option maxRecDepth 100000
set_option maxHeartbeats 4000000
namespace Go.SW
open Go.Proofs
theorem ag41 : Ag Tryd.prog 41 true := fun w => by kernel_rfl
theorem bd41_0u8_1u8_2s (a1 : Int) (a2 : Int) (a3 : Bs) (w : World) : (Instr.build 41 #[(0, .int .u8 a1), (1, .int .u8 a2), (2, str a3)]).run Tryd.prog w = .ok (.agg #[.int .u8 a1, .int .u8 a2, str a3]) w := by kernel_rfl
theorem cb19 : Callable Tryd.prog 19 := callable_of Tryd.func19 (by kernel_rfl) (by kernel_rfl)
theorem cb58 : Callable Tryd.prog 58 := callable_of Tryd.func58 (by kernel_rfl) (by kernel_rfl)
theorem eqr41 (p q : Frame) (d : Nat) : EqV Tryd.prog (d + 1 + 1) 41 (.agg (Frame.cells p).toArray) (.agg (Frame.cells q).toArray) (decide (p = q)) :=
  EqV.to (eqv_agg Tryd.underlying41 (by kernel_rfl) (eqf_1 (by decide) ag5 rfl rfl (eqv_int Tryd.underlying5) (eqf_1 (by decide) ag5 rfl rfl (eqv_int Tryd.underlying5) (eqf_1 (by decide) ag9 rfl rfl (eqv_str Tryd.underlying9) eqf_nil)))) (by obtain ⟨a0, a1, a2⟩ := p; obtain ⟨b0, b1, b2⟩ := q; rw [Bool.eq_iff_iff]; simp)
theorem eqg41 : Tryd.prog.eqGuardType Tryd.prog.depth 41 = false := by kernel_rfl
theorem sz41 : Sz Tryd.prog 41 3 := fun w => by kernel_rfl
theorem zr41 : Zr Tryd.prog 41 [.int .u8 0, .int .u8 0, str []] := fun w => ⟨.agg #[.int .u8 0, .int .u8 0, str []], by kernel_rfl, rfl⟩

theorem r12_Frame (H : Hp) (r : Reply) (r_mail_head_a : Option Addr) (r_mail_head_c : Nat) (r_mail_head_h : SlH pairE 4 H (.slice r_mail_head_a r.mail.head.length r_mail_head_c) r.mail.head) (r_w : Reply.wf r) (hE : replyE r = 0) (hs : smallH r.mail.head) (hwf : ∀ p ∈ r.mail.head, 0 ≤ p.kind) : Pr Tryd.prog 19 #[.agg (Reply.cells r r_mail_head_a r_mail_head_c).toArray] H (.agg (Frame.cells (⟨r.channel, IntKind.wrap .u8 (64 + r.kind), (replyOut r).s⟩ : Frame)).toArray) := by
  refine pr_cw Tryd.func19 rfl Tryd.ntmps19 rfl (fun N => ?_)
  have r_w' := r_w
  simp only [Reply.wf, Mail.wf] at r_w'
  have hrl := replyE_len r hE
  refine cw_seq ?_
  refine cw_region ?_
  refine ow1 (op1_box (cs := [_, _, _, _, _, _, _, _, _, _, _, _, _]) 0 rfl rfl (fun b1 => ?_))
  refine ow1 (op1_alloc 1 rfl zr41 (fun b2 => ?_))
  refine ow_nil ?_
  refine seqK_n ?_
  refine cw_seq ?_
  refine cw_region ?_
  refine ow1 (op1_l rfl (lo_assign (v := str _) rfl) ?_)
  refine ow_nil ?_
  refine seqK_n ?_
  refine cw_seq ?_
  refine cw_seq ?_
  refine cw_region ?_
  refine ow1 (op1_l rfl (lo_fieldAddr rfl fl32_1) ?_)
  refine ow1 (op1_l rfl (lo_load1 (i := 0) (v := .int _ _) rfl ag5 rfl rfl) ?_)
  refine ow1 (op1_l rfl (lo_eql rfl rfl) ?_)
  refine ow_nil ?_
  refine seqK_n ?_
  refine cw_cond rfl (fun h3 => ?_) (fun h3 => ?_)
  · have p4 := dt h3
    refine cw_region ?_
    refine ow1 (op1_l rfl (lo_fieldAddr rfl fl32_5) ?_)
    refine ow1 (op1_l rfl (lo_load1 (i := 0) (v := str _) rfl ag9 rfl rfl) ?_)
    refine ow1 (op1_pr (r1_Text _ r.name (by first | omega | (simp; done) | (simp; omega))) (en_f cb56 rfl) rfl ?_)
    have := txtB_len r.name
    refine ow1 (op1_l rfl (lo_assign (v := str _) rfl) ?_)
    refine ow_nil ?_
    refine seqK_n ?_
    refine cw_seq ?_
    refine cw_seq ?_
    refine cw_region ?_
    refine ow1 (op1_l rfl (lo_fieldAddr rfl fl32_1) ?_)
    refine ow1 (op1_l rfl (lo_load1 (i := 0) (v := .int _ _) rfl ag5 rfl rfl) ?_)
    refine ow1 (op1_pr (r12_tellsN _ r.kind (by omega)) (en_f cb39 rfl) rfl ?_)
    refine ow_nil ?_
    refine seqK_n ?_
    refine cw_cond_f rfl (fd (by omega)) ?_
    refine cw_skip ?_
    refine seqK_n ?_
    refine cw_seq ?_
    refine cw_seq ?_
    refine cw_region ?_
    refine ow1 (op1_l rfl (lo_fieldAddr rfl fl32_1) ?_)
    refine ow1 (op1_l rfl (lo_load1 (i := 0) (v := .int _ _) rfl ag5 rfl rfl) ?_)
    refine ow1 (op1_pr (r12_tellsM _ r.kind (by omega)) (en_f cb41 rfl) rfl ?_)
    refine ow_nil ?_
    refine seqK_n ?_
    refine cw_cond_f rfl (fd (by omega)) ?_
    refine cw_skip ?_
    refine seqK_n ?_
    refine cw_seq ?_
    refine cw_seq ?_
    refine cw_region ?_
    refine ow1 (op1_l rfl (lo_fieldAddr rfl fl32_1) ?_)
    refine ow1 (op1_l rfl (lo_load1 (i := 0) (v := .int _ _) rfl ag5 rfl rfl) ?_)
    refine ow1 (op1_l rfl (lo_eql rfl rfl) ?_)
    refine ow_nil ?_
    refine seqK_n ?_
    refine cw_cond_f rfl (fd (by omega)) ?_
    refine cw_skip ?_
    refine seqK_n ?_
    refine cw_seq ?_
    refine cw_region ?_
    refine ow1 (op1_l rfl (lo_fieldAddr rfl fl32_0) ?_)
    refine ow1 (op1_l rfl (lo_load1 (i := 0) (v := .int _ _) rfl ag5 rfl rfl) ?_)
    refine ow1 (op1_l rfl (lo_fieldAddr rfl fl32_1) ?_)
    refine ow1 (op1_l rfl (lo_load1 (i := 0) (v := .int _ _) rfl ag5 rfl rfl) ?_)
    have := wr_u8 (64 + r.kind)
    refine ow1 (op1_l rfl (lo_add_w rfl rfl) ?_)
    refine ow1 (op1_l rfl (lo_move (v := str _) rfl) ?_)
    refine ow1 (op1_l rfl (lo_build (v := .agg #[_, _, _]) rfl (bd41_0u8_1u8_2s _ _ _)) ?_)
    refine ow1 (op1_storeAn (i := 1) (vs := [_, _, _]) [_, _, _] rfl rfl rfl sz41 rfl rfl rfl rfl ?_)
    refine ow_nil ?_
    refine seqK_n ?_
    refine cw_ret ?_
    refine fnK_r (res1 rfl (rv_c (i := 1) (vs := [_, _, _]) rfl ag41 sz41 rfl rfl rfl)) (.refl _) ?_
    have hrl := replyE_len r hE
    first
      | (rw [replyOut_0 (r := r) (by omega) (by omega)]; rfl)
      | (rw [replyOut_n (r := r) (by omega)]; simp [Frame.cells, show numK 8 = 8 by decide]; done)
      | (rw [replyOut_6 (r := r) (by omega)]; simp [Frame.cells, show numK 8 = 8 by decide]; done)
      | (rw [replyOut_3 (r := r) (by omega) (by omega) (by omega) (by omega)]; unfold sentB; rw [headBytes_r9 (r := r) hE (by omega) hwf]; simp [Frame.cells, show numK 8 = 8 by decide, show numB 1 1 = [1] by decide, show numB 1 0 = [0] by decide, *]; done)
      | (rw [replyOut_e (r := r) (by omega) (by omega) (by omega)]; rfl)
      | (exfalso; omega)
  · have p5 := df h3
    refine cw_skip ?_
    refine seqK_n ?_
    refine cw_seq ?_
    refine cw_seq ?_
    refine cw_region ?_
    refine ow1 (op1_l rfl (lo_fieldAddr rfl fl32_1) ?_)
    refine ow1 (op1_l rfl (lo_load1 (i := 0) (v := .int _ _) rfl ag5 rfl rfl) ?_)
    refine ow1 (op1_pr (r12_tellsN _ r.kind (by omega)) (en_f cb39 rfl) rfl ?_)
    refine ow_nil ?_
    refine seqK_n ?_
    refine cw_cond rfl (fun h6 => ?_) (fun h6 => ?_)
    · have p7 := dt h6
      refine cw_region ?_
      refine ow1 (op1_l rfl (lo_move (v := str _) rfl) ?_)
      refine ow1 (op1_l rfl (lo_fieldAddr rfl fl32_2) ?_)
      refine ow1 (op1_l rfl (lo_load1 (i := 0) (v := .int _ _) rfl ag22 rfl rfl) ?_)
      refine ow1 (op1_pr (r1_Num _ r.n (by omega) 8 (by omega)) (en_f cb57 rfl) rfl ?_)
      have := numB_len (numK 8) (r.n).toNat
      have := numK_le 8
      have : numK 8 = 8 := by decide
      refine ow1 (op1_l rfl (lo_cat rfl rfl (by first | omega | (simp only [List.length_append, List.length_cons, List.length_nil]; omega))) ?_)
      refine ow1 (op1_l rfl (lo_assign (v := str _) rfl) ?_)
      refine ow_nil ?_
      refine seqK_n ?_
      refine cw_seq ?_
      refine cw_seq ?_
      refine cw_region ?_
      refine ow1 (op1_l rfl (lo_fieldAddr rfl fl32_1) ?_)
      refine ow1 (op1_l rfl (lo_load1 (i := 0) (v := .int _ _) rfl ag5 rfl rfl) ?_)
      refine ow1 (op1_pr (r12_tellsM _ r.kind (by omega)) (en_f cb41 rfl) rfl ?_)
      refine ow_nil ?_
      refine seqK_n ?_
      refine cw_cond rfl (fun h8 => ?_) (fun h8 => ?_)
      · have p9 := dt h8
        refine cw_region ?_
        refine ow1 (op1_l rfl (lo_move (v := str _) rfl) ?_)
        refine ow1 (op1_l rfl (lo_fieldAddr rfl fl32_3) ?_)
        refine ow1 (op1_l rfl (lo_load1 (i := 0) (v := .int _ _) rfl ag22 rfl rfl) ?_)
        refine ow1 (op1_pr (r1_Num _ r.m (by omega) 8 (by omega)) (en_f cb57 rfl) rfl ?_)
        have := numB_len (numK 8) (r.m).toNat
        have := numK_le 8
        have : numK 8 = 8 := by decide
        refine ow1 (op1_l rfl (lo_cat rfl rfl (by first | omega | (simp only [List.length_append, List.length_cons, List.length_nil]; omega))) ?_)
        refine ow1 (op1_l rfl (lo_assign (v := str _) rfl) ?_)
        refine ow_nil ?_
        refine seqK_n ?_
        refine cw_seq ?_
        refine cw_seq ?_
        refine cw_region ?_
        refine ow1 (op1_l rfl (lo_fieldAddr rfl fl32_1) ?_)
        refine ow1 (op1_l rfl (lo_load1 (i := 0) (v := .int _ _) rfl ag5 rfl rfl) ?_)
        refine ow1 (op1_l rfl (lo_eql rfl rfl) ?_)
        refine ow_nil ?_
        refine seqK_n ?_
        refine cw_cond rfl (fun h10 => ?_) (fun h10 => ?_)
        · have p11 := dt h10
          refine cw_seq ?_
          refine cw_region ?_
          refine ow1 (op1_l rfl (lo_assign (v := str _) rfl) ?_)
          refine ow_nil ?_
          refine seqK_n ?_
          refine cw_seq ?_
          refine cw_seq ?_
          refine cw_region ?_
          refine ow1 (op1_l rfl (lo_fieldAddr rfl fl32_4) ?_)
          refine ow1 (op1_l rfl (lo_load1 (i := 0) (v := .bool _) rfl ag4 rfl rfl) ?_)
          refine ow_nil ?_
          refine seqK_n ?_
          refine cw_cond rfl (fun h12 => ?_) (fun h12 => ?_)
          · refine cw_region ?_
            refine ow1 (op1_l rfl (lo_assign (v := str _) rfl) ?_)
            refine ow_nil ?_
            refine seqK_n ?_
            refine cw_anyL mixd ?_
            refine vw_q 0 rfl (by kernel_rfl) (by repeat (first | exact lle_l0 | exact LLe.refl _ | exact lle_none | refine lle_up ?_ rfl)) (fun _ _ hh hl => lo_move (v := str _) rfl) ?_
            refine vw_q 1 rfl (by kernel_rfl) (by repeat (first | exact lle_l0 | exact LLe.refl _ | exact lle_none | refine lle_up ?_ rfl)) (fun _ _ hh hl => lo_move (v := str _) rfl) ?_
            refine vw_q 2 rfl (by kernel_rfl) (by repeat (first | exact lle_l0 | exact LLe.refl _ | exact lle_none | refine lle_up ?_ rfl)) (fun _ _ hh hl => lo_cat rfl rfl (by first | omega | (simp only [List.length_append, List.length_cons, List.length_nil]; omega))) ?_
            refine vw_q 3 rfl (by kernel_rfl) (by repeat (first | exact lle_l0 | exact LLe.refl _ | exact lle_none | refine lle_up ?_ rfl)) (fun _ _ hh hl => lo_fieldAddr rfl fl32_6) ?_
            refine vw_q 4 rfl (by kernel_rfl) (by repeat (first | exact lle_l0 | exact LLe.refl _ | exact lle_none | refine lle_up ?_ rfl)) (fun _ _ hh hl => lo_fieldAddr rfl fl25_1) ?_
            refine vw_q 5 rfl (by kernel_rfl) (by repeat (first | exact lle_l0 | exact LLe.refl _ | exact lle_none | refine lle_up ?_ rfl)) (fun _ _ hh hl => lo_load1 (i := 0) (v := str _) rfl ag9 (hl _ _ rfl) rfl) ?_
            have := txtB_len r.mail.shop
            refine vw_qc 6 rfl (by kernel_rfl) (by repeat (first | exact lle_l0 | exact LLe.refl _ | exact lle_none | refine lle_up ?_ rfl)) (r1_Text _ r.mail.shop (by first | omega | (simp; done) | (simp; omega))) (en_f cb56 rfl) ?_
            refine vw_q 7 rfl (by kernel_rfl) (by repeat (first | exact lle_l0 | exact LLe.refl _ | exact lle_none | refine lle_up ?_ rfl)) (fun _ _ hh hl => lo_cat rfl rfl (by first | omega | (simp only [List.length_append, List.length_cons, List.length_nil]; omega))) ?_
            refine vw_q 8 rfl (by kernel_rfl) (by repeat (first | exact lle_l0 | exact LLe.refl _ | exact lle_none | refine lle_up ?_ rfl)) (fun _ _ hh hl => lo_fieldAddr rfl fl32_6) ?_
            refine vw_q 9 rfl (by kernel_rfl) (by repeat (first | exact lle_l0 | exact LLe.refl _ | exact lle_none | refine lle_up ?_ rfl)) (fun _ _ hh hl => lo_fieldAddr rfl fl25_2) ?_
            refine vw_q 10 rfl (by kernel_rfl) (by repeat (first | exact lle_l0 | exact LLe.refl _ | exact lle_none | refine lle_up ?_ rfl)) (fun _ _ hh hl => lo_load1 (i := 0) (v := str _) rfl ag9 (hl _ _ rfl) rfl) ?_
            have := txtB_len r.mail.key
            refine vw_qc 11 rfl (by kernel_rfl) (by repeat (first | exact lle_l0 | exact LLe.refl _ | exact lle_none | refine lle_up ?_ rfl)) (r1_Text _ r.mail.key (by first | omega | (simp; done) | (simp; omega))) (en_f cb56 rfl) ?_
            refine vw_q 12 rfl (by kernel_rfl) (by repeat (first | exact lle_l0 | exact LLe.refl _ | exact lle_none | refine lle_up ?_ rfl)) (fun _ _ hh hl => lo_cat rfl rfl (by first | omega | (simp only [List.length_append, List.length_cons, List.length_nil]; omega))) ?_
            refine vw_q 13 rfl (by kernel_rfl) (by repeat (first | exact lle_l0 | exact LLe.refl _ | exact lle_none | refine lle_up ?_ rfl)) (fun _ _ hh hl => lo_fieldAddr rfl fl32_6) ?_
            refine vw_q 14 rfl (by kernel_rfl) (by repeat (first | exact lle_l0 | exact LLe.refl _ | exact lle_none | refine lle_up ?_ rfl)) (fun _ _ hh hl => lo_fieldAddr rfl fl25_3) ?_
            refine vw_q 15 rfl (by kernel_rfl) (by repeat (first | exact lle_l0 | exact LLe.refl _ | exact lle_none | refine lle_up ?_ rfl)) (fun _ _ hh hl => lo_load1 (i := 0) (v := .slice _ _ _) rfl ag23 (hl _ _ rfl) rfl) ?_
            have hsmx : smallH r.mail.head := by first | assumption | exact smallH_lightR (by assumption) | exact smallH_light (by assumption)
            have := r9B_len hsmx
            have := hsmx.1
            refine vw_qc 16 rfl (by kernel_rfl) (by repeat (first | exact lle_l0 | exact LLe.refl _ | exact lle_none | refine lle_up ?_ rfl)) (r9_Bytes _ r_mail_head_a r.mail.head.length r_mail_head_c r.mail.head r_mail_head_h (by first | assumption | exact smallH_lightR (by assumption) | exact smallH_light (by assumption))) (en_f cb58 rfl) ?_
            refine vw_q 17 rfl (by kernel_rfl) (by repeat (first | exact lle_l0 | exact LLe.refl _ | exact lle_none | refine lle_up ?_ rfl)) (fun _ _ hh hl => lo_cat rfl rfl (by first | omega | (simp only [List.length_append, List.length_cons, List.length_nil]; omega))) ?_
            refine vw_q 18 rfl (by kernel_rfl) (by repeat (first | exact lle_l0 | exact LLe.refl _ | exact lle_none | refine lle_up ?_ rfl)) (fun _ _ hh hl => lo_fieldAddr rfl fl32_6) ?_
            refine vw_q 19 rfl (by kernel_rfl) (by repeat (first | exact lle_l0 | exact LLe.refl _ | exact lle_none | refine lle_up ?_ rfl)) (fun _ _ hh hl => lo_fieldAddr rfl fl25_4) ?_
            refine vw_q 20 rfl (by kernel_rfl) (by repeat (first | exact lle_l0 | exact LLe.refl _ | exact lle_none | refine lle_up ?_ rfl)) (fun _ _ hh hl => lo_load1 (i := 0) (v := str _) rfl ag9 (hl _ _ rfl) rfl) ?_
            have := txtB_len r.mail.body
            refine vw_qc 21 rfl (by kernel_rfl) (by repeat (first | exact lle_l0 | exact LLe.refl _ | exact lle_none | refine lle_up ?_ rfl)) (r1_Text _ r.mail.body (by first | omega | (simp; done) | (simp; omega))) (en_f cb56 rfl) ?_
            refine vw_q 22 rfl (by kernel_rfl) (by repeat (first | exact lle_l0 | exact LLe.refl _ | exact lle_none | refine lle_up ?_ rfl)) (fun _ _ hh hl => lo_cat rfl rfl (by first | omega | (simp only [List.length_append, List.length_cons, List.length_nil]; omega))) ?_
            refine vw_q 23 rfl (by kernel_rfl) (by repeat (first | exact lle_l0 | exact LLe.refl _ | exact lle_none | refine lle_up ?_ rfl)) (fun _ _ hh hl => lo_assign (v := str _) rfl) ?_
            refine vw_done (by kernel_rfl) ?_
            refine seqK_n ?_
            refine cw_seq ?_
            refine cw_region ?_
            refine ow1 (op1_l rfl (lo_fieldAddr rfl fl32_0) ?_)
            refine ow1 (op1_l rfl (lo_load1 (i := 0) (v := .int _ _) rfl ag5 rfl rfl) ?_)
            refine ow1 (op1_l rfl (lo_fieldAddr rfl fl32_1) ?_)
            refine ow1 (op1_l rfl (lo_load1 (i := 0) (v := .int _ _) rfl ag5 rfl rfl) ?_)
            have := wr_u8 (64 + r.kind)
            refine ow1 (op1_l rfl (lo_add_w rfl rfl) ?_)
            refine ow1 (op1_l rfl (lo_move (v := str _) rfl) ?_)
            refine ow1 (op1_l rfl (lo_build (v := .agg #[_, _, _]) rfl (bd41_0u8_1u8_2s _ _ _)) ?_)
            refine ow1 (op1_storeAn (i := 1) (vs := [_, _, _]) [_, _, _] rfl rfl rfl sz41 rfl rfl rfl rfl ?_)
            refine ow_nil ?_
            refine seqK_n ?_
            refine cw_ret ?_
            refine fnK_r (res1 rfl (rv_c (i := 1) (vs := [_, _, _]) rfl ag41 sz41 rfl rfl rfl)) (.refl _) ?_
            have hrl := replyE_len r hE
            first
              | (rw [replyOut_0 (r := r) (by omega) (by omega)]; rfl)
              | (rw [replyOut_n (r := r) (by omega)]; simp [Frame.cells, show numK 8 = 8 by decide]; done)
              | (rw [replyOut_6 (r := r) (by omega)]; simp [Frame.cells, show numK 8 = 8 by decide]; done)
              | (rw [replyOut_3 (r := r) (by omega) (by omega) (by omega) (by omega)]; unfold sentB; rw [headBytes_r9 (r := r) hE (by omega) hwf]; simp [Frame.cells, show numK 8 = 8 by decide, show numB 1 1 = [1] by decide, show numB 1 0 = [0] by decide, *]; done)
              | (rw [replyOut_e (r := r) (by omega) (by omega) (by omega)]; rfl)
              | (exfalso; omega)
          · refine cw_skip ?_
            refine seqK_n ?_
            refine cw_anyL mixd ?_
            refine vw_q 0 rfl (by kernel_rfl) (by repeat (first | exact lle_l0 | exact LLe.refl _ | exact lle_none | refine lle_up ?_ rfl)) (fun _ _ hh hl => lo_move (v := str _) rfl) ?_
            refine vw_q 1 rfl (by kernel_rfl) (by repeat (first | exact lle_l0 | exact LLe.refl _ | exact lle_none | refine lle_up ?_ rfl)) (fun _ _ hh hl => lo_move (v := str _) rfl) ?_
            refine vw_q 2 rfl (by kernel_rfl) (by repeat (first | exact lle_l0 | exact LLe.refl _ | exact lle_none | refine lle_up ?_ rfl)) (fun _ _ hh hl => lo_cat rfl rfl (by first | omega | (simp only [List.length_append, List.length_cons, List.length_nil]; omega))) ?_
            refine vw_q 3 rfl (by kernel_rfl) (by repeat (first | exact lle_l0 | exact LLe.refl _ | exact lle_none | refine lle_up ?_ rfl)) (fun _ _ hh hl => lo_fieldAddr rfl fl32_6) ?_
            refine vw_q 4 rfl (by kernel_rfl) (by repeat (first | exact lle_l0 | exact LLe.refl _ | exact lle_none | refine lle_up ?_ rfl)) (fun _ _ hh hl => lo_fieldAddr rfl fl25_1) ?_
            refine vw_q 5 rfl (by kernel_rfl) (by repeat (first | exact lle_l0 | exact LLe.refl _ | exact lle_none | refine lle_up ?_ rfl)) (fun _ _ hh hl => lo_load1 (i := 0) (v := str _) rfl ag9 (hl _ _ rfl) rfl) ?_
            have := txtB_len r.mail.shop
            refine vw_qc 6 rfl (by kernel_rfl) (by repeat (first | exact lle_l0 | exact LLe.refl _ | exact lle_none | refine lle_up ?_ rfl)) (r1_Text _ r.mail.shop (by first | omega | (simp; done) | (simp; omega))) (en_f cb56 rfl) ?_
            refine vw_q 7 rfl (by kernel_rfl) (by repeat (first | exact lle_l0 | exact LLe.refl _ | exact lle_none | refine lle_up ?_ rfl)) (fun _ _ hh hl => lo_cat rfl rfl (by first | omega | (simp only [List.length_append, List.length_cons, List.length_nil]; omega))) ?_
            refine vw_q 8 rfl (by kernel_rfl) (by repeat (first | exact lle_l0 | exact LLe.refl _ | exact lle_none | refine lle_up ?_ rfl)) (fun _ _ hh hl => lo_fieldAddr rfl fl32_6) ?_
            refine vw_q 9 rfl (by kernel_rfl) (by repeat (first | exact lle_l0 | exact LLe.refl _ | exact lle_none | refine lle_up ?_ rfl)) (fun _ _ hh hl => lo_fieldAddr rfl fl25_2) ?_
            refine vw_q 10 rfl (by kernel_rfl) (by repeat (first | exact lle_l0 | exact LLe.refl _ | exact lle_none | refine lle_up ?_ rfl)) (fun _ _ hh hl => lo_load1 (i := 0) (v := str _) rfl ag9 (hl _ _ rfl) rfl) ?_
            have := txtB_len r.mail.key
            refine vw_qc 11 rfl (by kernel_rfl) (by repeat (first | exact lle_l0 | exact LLe.refl _ | exact lle_none | refine lle_up ?_ rfl)) (r1_Text _ r.mail.key (by first | omega | (simp; done) | (simp; omega))) (en_f cb56 rfl) ?_
            refine vw_q 12 rfl (by kernel_rfl) (by repeat (first | exact lle_l0 | exact LLe.refl _ | exact lle_none | refine lle_up ?_ rfl)) (fun _ _ hh hl => lo_cat rfl rfl (by first | omega | (simp only [List.length_append, List.length_cons, List.length_nil]; omega))) ?_
            refine vw_q 13 rfl (by kernel_rfl) (by repeat (first | exact lle_l0 | exact LLe.refl _ | exact lle_none | refine lle_up ?_ rfl)) (fun _ _ hh hl => lo_fieldAddr rfl fl32_6) ?_
            refine vw_q 14 rfl (by kernel_rfl) (by repeat (first | exact lle_l0 | exact LLe.refl _ | exact lle_none | refine lle_up ?_ rfl)) (fun _ _ hh hl => lo_fieldAddr rfl fl25_3) ?_
            refine vw_q 15 rfl (by kernel_rfl) (by repeat (first | exact lle_l0 | exact LLe.refl _ | exact lle_none | refine lle_up ?_ rfl)) (fun _ _ hh hl => lo_load1 (i := 0) (v := .slice _ _ _) rfl ag23 (hl _ _ rfl) rfl) ?_
            have hsmx : smallH r.mail.head := by first | assumption | exact smallH_lightR (by assumption) | exact smallH_light (by assumption)
            have := r9B_len hsmx
            have := hsmx.1
            refine vw_qc 16 rfl (by kernel_rfl) (by repeat (first | exact lle_l0 | exact LLe.refl _ | exact lle_none | refine lle_up ?_ rfl)) (r9_Bytes _ r_mail_head_a r.mail.head.length r_mail_head_c r.mail.head r_mail_head_h (by first | assumption | exact smallH_lightR (by assumption) | exact smallH_light (by assumption))) (en_f cb58 rfl) ?_
            refine vw_q 17 rfl (by kernel_rfl) (by repeat (first | exact lle_l0 | exact LLe.refl _ | exact lle_none | refine lle_up ?_ rfl)) (fun _ _ hh hl => lo_cat rfl rfl (by first | omega | (simp only [List.length_append, List.length_cons, List.length_nil]; omega))) ?_
            refine vw_q 18 rfl (by kernel_rfl) (by repeat (first | exact lle_l0 | exact LLe.refl _ | exact lle_none | refine lle_up ?_ rfl)) (fun _ _ hh hl => lo_fieldAddr rfl fl32_6) ?_
            refine vw_q 19 rfl (by kernel_rfl) (by repeat (first | exact lle_l0 | exact LLe.refl _ | exact lle_none | refine lle_up ?_ rfl)) (fun _ _ hh hl => lo_fieldAddr rfl fl25_4) ?_
            refine vw_q 20 rfl (by kernel_rfl) (by repeat (first | exact lle_l0 | exact LLe.refl _ | exact lle_none | refine lle_up ?_ rfl)) (fun _ _ hh hl => lo_load1 (i := 0) (v := str _) rfl ag9 (hl _ _ rfl) rfl) ?_
            have := txtB_len r.mail.body
            refine vw_qc 21 rfl (by kernel_rfl) (by repeat (first | exact lle_l0 | exact LLe.refl _ | exact lle_none | refine lle_up ?_ rfl)) (r1_Text _ r.mail.body (by first | omega | (simp; done) | (simp; omega))) (en_f cb56 rfl) ?_
            refine vw_q 22 rfl (by kernel_rfl) (by repeat (first | exact lle_l0 | exact LLe.refl _ | exact lle_none | refine lle_up ?_ rfl)) (fun _ _ hh hl => lo_cat rfl rfl (by first | omega | (simp only [List.length_append, List.length_cons, List.length_nil]; omega))) ?_
            refine vw_q 23 rfl (by kernel_rfl) (by repeat (first | exact lle_l0 | exact LLe.refl _ | exact lle_none | refine lle_up ?_ rfl)) (fun _ _ hh hl => lo_assign (v := str _) rfl) ?_
            refine vw_done (by kernel_rfl) ?_
            refine seqK_n ?_
            refine cw_seq ?_
            refine cw_region ?_
            refine ow1 (op1_l rfl (lo_fieldAddr rfl fl32_0) ?_)
            refine ow1 (op1_l rfl (lo_load1 (i := 0) (v := .int _ _) rfl ag5 rfl rfl) ?_)
            refine ow1 (op1_l rfl (lo_fieldAddr rfl fl32_1) ?_)
            refine ow1 (op1_l rfl (lo_load1 (i := 0) (v := .int _ _) rfl ag5 rfl rfl) ?_)
            have := wr_u8 (64 + r.kind)
            refine ow1 (op1_l rfl (lo_add_w rfl rfl) ?_)
            refine ow1 (op1_l rfl (lo_move (v := str _) rfl) ?_)
            refine ow1 (op1_l rfl (lo_build (v := .agg #[_, _, _]) rfl (bd41_0u8_1u8_2s _ _ _)) ?_)
            refine ow1 (op1_storeAn (i := 1) (vs := [_, _, _]) [_, _, _] rfl rfl rfl sz41 rfl rfl rfl rfl ?_)
            refine ow_nil ?_
            refine seqK_n ?_
            refine cw_ret ?_
            refine fnK_r (res1 rfl (rv_c (i := 1) (vs := [_, _, _]) rfl ag41 sz41 rfl rfl rfl)) (.refl _) ?_
            have hrl := replyE_len r hE
            first
              | (rw [replyOut_0 (r := r) (by omega) (by omega)]; rfl)
              | (rw [replyOut_n (r := r) (by omega)]; simp [Frame.cells, show numK 8 = 8 by decide]; done)
              | (rw [replyOut_6 (r := r) (by omega)]; simp [Frame.cells, show numK 8 = 8 by decide]; done)
              | (rw [replyOut_3 (r := r) (by omega) (by omega) (by omega) (by omega)]; unfold sentB; rw [headBytes_r9 (r := r) hE (by omega) hwf]; simp [Frame.cells, show numK 8 = 8 by decide, show numB 1 1 = [1] by decide, show numB 1 0 = [0] by decide, *]; done)
              | (rw [replyOut_e (r := r) (by omega) (by omega) (by omega)]; rfl)
              | (exfalso; omega)
        · have p13 := df h10
          refine cw_skip ?_
          refine seqK_n ?_
          refine cw_seq ?_
          refine cw_region ?_
          refine ow1 (op1_l rfl (lo_fieldAddr rfl fl32_0) ?_)
          refine ow1 (op1_l rfl (lo_load1 (i := 0) (v := .int _ _) rfl ag5 rfl rfl) ?_)
          refine ow1 (op1_l rfl (lo_fieldAddr rfl fl32_1) ?_)
          refine ow1 (op1_l rfl (lo_load1 (i := 0) (v := .int _ _) rfl ag5 rfl rfl) ?_)
          have := wr_u8 (64 + r.kind)
          refine ow1 (op1_l rfl (lo_add_w rfl rfl) ?_)
          refine ow1 (op1_l rfl (lo_move (v := str _) rfl) ?_)
          refine ow1 (op1_l rfl (lo_build (v := .agg #[_, _, _]) rfl (bd41_0u8_1u8_2s _ _ _)) ?_)
          refine ow1 (op1_storeAn (i := 1) (vs := [_, _, _]) [_, _, _] rfl rfl rfl sz41 rfl rfl rfl rfl ?_)
          refine ow_nil ?_
          refine seqK_n ?_
          refine cw_ret ?_
          refine fnK_r (res1 rfl (rv_c (i := 1) (vs := [_, _, _]) rfl ag41 sz41 rfl rfl rfl)) (.refl _) ?_
          have hrl := replyE_len r hE
          first
            | (rw [replyOut_0 (r := r) (by omega) (by omega)]; rfl)
            | (rw [replyOut_n (r := r) (by omega)]; simp [Frame.cells, show numK 8 = 8 by decide]; done)
            | (rw [replyOut_6 (r := r) (by omega)]; simp [Frame.cells, show numK 8 = 8 by decide]; done)
            | (rw [replyOut_3 (r := r) (by omega) (by omega) (by omega) (by omega)]; unfold sentB; rw [headBytes_r9 (r := r) hE (by omega) hwf]; simp [Frame.cells, show numK 8 = 8 by decide, show numB 1 1 = [1] by decide, show numB 1 0 = [0] by decide, *]; done)
            | (rw [replyOut_e (r := r) (by omega) (by omega) (by omega)]; rfl)
            | (exfalso; omega)
      · have p14 := df h8
        refine cw_skip ?_
        refine seqK_n ?_
        refine cw_seq ?_
        refine cw_seq ?_
        refine cw_region ?_
        refine ow1 (op1_l rfl (lo_fieldAddr rfl fl32_1) ?_)
        refine ow1 (op1_l rfl (lo_load1 (i := 0) (v := .int _ _) rfl ag5 rfl rfl) ?_)
        refine ow1 (op1_l rfl (lo_eql rfl rfl) ?_)
        refine ow_nil ?_
        refine seqK_n ?_
        refine cw_cond_f rfl (fd (by omega)) ?_
        refine cw_skip ?_
        refine seqK_n ?_
        refine cw_seq ?_
        refine cw_region ?_
        refine ow1 (op1_l rfl (lo_fieldAddr rfl fl32_0) ?_)
        refine ow1 (op1_l rfl (lo_load1 (i := 0) (v := .int _ _) rfl ag5 rfl rfl) ?_)
        refine ow1 (op1_l rfl (lo_fieldAddr rfl fl32_1) ?_)
        refine ow1 (op1_l rfl (lo_load1 (i := 0) (v := .int _ _) rfl ag5 rfl rfl) ?_)
        have := wr_u8 (64 + r.kind)
        refine ow1 (op1_l rfl (lo_add_w rfl rfl) ?_)
        refine ow1 (op1_l rfl (lo_move (v := str _) rfl) ?_)
        refine ow1 (op1_l rfl (lo_build (v := .agg #[_, _, _]) rfl (bd41_0u8_1u8_2s _ _ _)) ?_)
        refine ow1 (op1_storeAn (i := 1) (vs := [_, _, _]) [_, _, _] rfl rfl rfl sz41 rfl rfl rfl rfl ?_)
        refine ow_nil ?_
        refine seqK_n ?_
        refine cw_ret ?_
        refine fnK_r (res1 rfl (rv_c (i := 1) (vs := [_, _, _]) rfl ag41 sz41 rfl rfl rfl)) (.refl _) ?_
        have hrl := replyE_len r hE
        first
          | (rw [replyOut_0 (r := r) (by omega) (by omega)]; rfl)
          | (rw [replyOut_n (r := r) (by omega)]; simp [Frame.cells, show numK 8 = 8 by decide]; done)
          | (rw [replyOut_6 (r := r) (by omega)]; simp [Frame.cells, show numK 8 = 8 by decide]; done)
          | (rw [replyOut_3 (r := r) (by omega) (by omega) (by omega) (by omega)]; unfold sentB; rw [headBytes_r9 (r := r) hE (by omega) hwf]; simp [Frame.cells, show numK 8 = 8 by decide, show numB 1 1 = [1] by decide, show numB 1 0 = [0] by decide, *]; done)
          | (rw [replyOut_e (r := r) (by omega) (by omega) (by omega)]; rfl)
          | (exfalso; omega)
    · have p15 := df h6
      refine cw_skip ?_
      refine seqK_n ?_
      refine cw_seq ?_
      refine cw_seq ?_
      refine cw_region ?_
      refine ow1 (op1_l rfl (lo_fieldAddr rfl fl32_1) ?_)
      refine ow1 (op1_l rfl (lo_load1 (i := 0) (v := .int _ _) rfl ag5 rfl rfl) ?_)
      refine ow1 (op1_pr (r12_tellsM _ r.kind (by omega)) (en_f cb41 rfl) rfl ?_)
      refine ow_nil ?_
      refine seqK_n ?_
      refine cw_cond_f rfl (fd (by omega)) ?_
      refine cw_skip ?_
      refine seqK_n ?_
      refine cw_seq ?_
      refine cw_seq ?_
      refine cw_region ?_
      refine ow1 (op1_l rfl (lo_fieldAddr rfl fl32_1) ?_)
      refine ow1 (op1_l rfl (lo_load1 (i := 0) (v := .int _ _) rfl ag5 rfl rfl) ?_)
      refine ow1 (op1_l rfl (lo_eql rfl rfl) ?_)
      refine ow_nil ?_
      refine seqK_n ?_
      refine cw_cond_f rfl (fd (by omega)) ?_
      refine cw_skip ?_
      refine seqK_n ?_
      refine cw_seq ?_
      refine cw_region ?_
      refine ow1 (op1_l rfl (lo_fieldAddr rfl fl32_0) ?_)
      refine ow1 (op1_l rfl (lo_load1 (i := 0) (v := .int _ _) rfl ag5 rfl rfl) ?_)
      refine ow1 (op1_l rfl (lo_fieldAddr rfl fl32_1) ?_)
      refine ow1 (op1_l rfl (lo_load1 (i := 0) (v := .int _ _) rfl ag5 rfl rfl) ?_)
      have := wr_u8 (64 + r.kind)
      refine ow1 (op1_l rfl (lo_add_w rfl rfl) ?_)
      refine ow1 (op1_l rfl (lo_move (v := str _) rfl) ?_)
      refine ow1 (op1_l rfl (lo_build (v := .agg #[_, _, _]) rfl (bd41_0u8_1u8_2s _ _ _)) ?_)
      refine ow1 (op1_storeAn (i := 1) (vs := [_, _, _]) [_, _, _] rfl rfl rfl sz41 rfl rfl rfl rfl ?_)
      refine ow_nil ?_
      refine seqK_n ?_
      refine cw_ret ?_
      refine fnK_r (res1 rfl (rv_c (i := 1) (vs := [_, _, _]) rfl ag41 sz41 rfl rfl rfl)) (.refl _) ?_
      have hrl := replyE_len r hE
      first
        | (rw [replyOut_0 (r := r) (by omega) (by omega)]; rfl)
        | (rw [replyOut_n (r := r) (by omega)]; simp [Frame.cells, show numK 8 = 8 by decide]; done)
        | (rw [replyOut_6 (r := r) (by omega)]; simp [Frame.cells, show numK 8 = 8 by decide]; done)
        | (rw [replyOut_3 (r := r) (by omega) (by omega) (by omega) (by omega)]; unfold sentB; rw [headBytes_r9 (r := r) hE (by omega) hwf]; simp [Frame.cells, show numK 8 = 8 by decide, show numB 1 1 = [1] by decide, show numB 1 0 = [0] by decide, *]; done)
        | (rw [replyOut_e (r := r) (by omega) (by omega) (by omega)]; rfl)
        | (exfalso; omega)

theorem reply_law_Frames (H : Hp) (r : Reply) (r_mail_head_a : Option Addr) (r_mail_head_c : Nat) (r_mail_head_h : SlH pairE 4 H (.slice r_mail_head_a r.mail.head.length r_mail_head_c) r.mail.head) (r_w : Reply.wf r) (hML : GInt H 2) (hCrc : GTab H 1 laidT) : Pr Tryd.prog 5 #[.agg (Reply.cells r r_mail_head_a r_mail_head_c).toArray] H (.bool true) := by
  refine pr_cw Tryd.func5 rfl Tryd.ntmps5 rfl (fun N => ?_)
  have r_w' := r_w
  simp only [Reply.wf, Mail.wf] at r_w'
  refine cw_seq ?_
  refine cw_region ?_
  refine ow1 (op1_box (cs := [_, _, _, _, _, _, _, _, _, _, _, _, _]) 0 rfl rfl (fun b1 => ?_))
  refine ow1 (op1_l rfl (lo_assign (v := .bool _) rfl) ?_)
  refine ow_nil ?_
  refine seqK_n ?_
  refine cw_seq ?_
  refine cw_seq ?_
  refine cw_region ?_
  refine ow1 (op1_pr (l12_awake _ hML hCrc) (en_f cb8 rfl) rfl ?_)
  refine ow1 (op1_l rfl (lo_not rfl) ?_)
  refine ow_nil ?_
  refine seqK_n ?_
  refine cw_cond_f rfl rfl ?_
  refine cw_skip ?_
  refine seqK_n ?_
  refine cw_seq ?_
  refine cw_seq ?_
  refine cw_region ?_
  refine ow1 (op1_l rfl (lo_loadA (i := 0) (vs := [_, _, _, _, _, _, _, _, _, _, _, _, _]) rfl ag27 sz27 rfl rfl rfl) ?_)
  refine ow1 (op1_pr (l12_Light _ r r_mail_head_a r_mail_head_c r_mail_head_h r_w) (en_f cb9 rfl) rfl ?_)
  have hlr1 := lightR_len r
  refine ow1 (op1_l rfl (lo_not rfl) ?_)
  refine ow_nil ?_
  refine seqK_n ?_
  refine cw_cond rfl (fun h2 => ?_) (fun h2 => ?_)
  · have h3 := not_t h2
    refine cw_seq ?_
    refine cw_region ?_
    refine ow1 (op1_l rfl (lo_assign (v := .bool _) rfl) ?_)
    refine ow_nil ?_
    refine seqK_n ?_
    refine cw_ret ?_
    refine seqK_r ?_
    refine fnK_r (res1 rfl (rv_t (v := .bool _) rfl)) (.refl _) ?_
    first
      | rfl
      | (exfalso; omega)
      | (exfalso; simp at *; done)
      | (refine congrArg Value.bool ?_; simp; done)
      | (have hz : replyE r = 0 := by omega
         have hh : ∀ p ∈ r.mail.head, p.wf := slh_wf r_mail_head_h
         have hf := replyOf_fwd r_w hh hz
         have he : replyFrame r = ⟨r.channel, IntKind.wrap .u8 (64 + r.kind), (replyOut r).s⟩ := by unfold replyFrame; rw [if_pos hz]
         have hf1 : (replyOf (replyFrame r)).1 = r := by rw [hf]
         have hf2 : (replyOf (replyFrame r)).2 = 0 := by rw [hf]
         first | (exfalso; omega) | (refine congrArg Value.bool ?_; rw [hf1]; simp; done) | (refine absurd he ?_; assumption) | (exfalso; simp only [hf2] at *; omega) | (exfalso; rw [hf1] at *; simp at *; done))
      | (have hz : replyE r ≠ 0 := by omega
         have he : replyFrame r = Frame.zero := by unfold replyFrame; rw [if_neg hz]
         refine congrArg Value.bool ?_
         rw [he]; simp [Frame.zero]; done)
  · have h4 := not_f h2
    refine cw_skip ?_
    refine seqK_n ?_
    refine cw_seq ?_
    refine cw_region ?_
    refine ow1 (op1_l rfl (lo_loadA (i := 0) (vs := [_, _, _, _, _, _, _, _, _, _, _, _, _]) rfl ag27 sz27 rfl rfl rfl) ?_)
    refine ow1 (op1_ph (l12_To _ r r_mail_head_a r_mail_head_c r_mail_head_h r_w (by first | omega | (have := lightR_len r (by assumption); omega))) (en_f cb12 rfl) rfl ?_)
    rintro _ H9 ⟨a5, c6, rfl, hs7⟩ hl8
    refine ow1 (op1_pr (r12_Check _ r a5 c6 hs7 r_w) (en_f cb17 rfl) rfl ?_)
    have hrl := replyE_len r
    refine ow1 (op1_l rfl (lo_assign (v := .int _ _) rfl) ?_)
    refine ow_nil ?_
    refine seqK_n ?_
    refine cw_seq ?_
    refine cw_region ?_
    refine ow1 (op1_l rfl (lo_loadA (i := 0) (vs := [_, _, _, _, _, _, _, _, _, _, _, _, _]) rfl ag27 sz27 rfl rfl rfl) ?_)
    refine ow1 (op1_pr (reply_Frame _ r r_mail_head_a r_mail_head_c (r_mail_head_h.mono ((HLe.refl _).trans hl8) (fun _ _ h => h)) r_w (hML.mono ((HLe.refl _).trans hl8))) (en_f cb15 rfl) rfl ?_)
    refine ow1 (op1_l rfl (lo_move (v := .tuple #[_, _]) rfl) ?_)
    refine ow1 (op1_l rfl (lo_extract (v := .agg #[_, _, _]) rfl rfl) ?_)
    refine ow1 (op1_l rfl (lo_extract (v := .int _ _) rfl rfl) ?_)
    refine ow1 (op1_alloc 1 rfl zr35 (fun b10 => ?_))
    refine ow1 (op1_storeAn (i := 1) (vs := [_, _, _]) [_, _, _] rfl rfl rfl sz35 rfl rfl rfl rfl ?_)
    refine ow1 (op1_l rfl (lo_assign (v := .int _ _) rfl) ?_)
    refine ow_nil ?_
    refine seqK_n ?_
    refine cw_seq ?_
    refine cw_seq ?_
    refine cw_region ?_
    refine ow1 (op1_l rfl (lo_loadA (i := 0) (vs := [_, _, _, _, _, _, _, _, _, _, _, _, _]) rfl ag27 sz27 rfl rfl rfl) ?_)
    refine ow1 (op1_pr (reply_Check _ r r_mail_head_a r_mail_head_c (r_mail_head_h.mono ((HLe.refl _).trans hl8) (fun _ _ h => h)) r_w (hML.mono ((HLe.refl _).trans hl8))) (en_f cb18 rfl) rfl ?_)
    have hrl := replyE_len r
    refine ow1 (op1_l rfl (lo_move (v := .int _ _) rfl) ?_)
    refine ow1 (op1_l rfl (lo_neq rfl rfl) ?_)
    refine ow1 (op1_l rfl (lo_move (v := .bool _) rfl) ?_)
    refine ow_sp (j := 4) rfl (fun h11 => ?_) (fun h11 => ?_)
    · have h12 := not_t h11
      have p13 := df h12
      refine ow1 (op1_gs rfl h11 rfl ?_)
      refine ow1 (op1_gs rfl h11 rfl ?_)
      refine ow1 (op1_gs rfl h11 rfl ?_)
      refine ow1 (op1_l rfl (lo_pick_t (v := .bool _) rfl h11 rfl) ?_)
      refine ow_nil ?_
      refine seqK_n ?_
      refine cw_cond_t rfl rfl ?_
      refine cw_seq ?_
      refine cw_region ?_
      refine ow1 (op1_l rfl (lo_assign (v := .bool _) rfl) ?_)
      refine ow_nil ?_
      refine seqK_n ?_
      refine cw_ret ?_
      refine seqK_r ?_
      refine fnK_r (res1 rfl (rv_t (v := .bool _) rfl)) ((HLe.refl _).trans hl8) ?_
      first
        | rfl
        | (exfalso; omega)
        | (exfalso; simp at *; done)
        | (refine congrArg Value.bool ?_; simp; done)
        | (have hz : replyE r = 0 := by omega
           have hh : ∀ p ∈ r.mail.head, p.wf := slh_wf r_mail_head_h
           have hf := replyOf_fwd r_w hh hz
           have he : replyFrame r = ⟨r.channel, IntKind.wrap .u8 (64 + r.kind), (replyOut r).s⟩ := by unfold replyFrame; rw [if_pos hz]
           have hf1 : (replyOf (replyFrame r)).1 = r := by rw [hf]
           have hf2 : (replyOf (replyFrame r)).2 = 0 := by rw [hf]
           first | (exfalso; omega) | (refine congrArg Value.bool ?_; rw [hf1]; simp; done) | (refine absurd he ?_; assumption) | (exfalso; simp only [hf2] at *; omega) | (exfalso; rw [hf1] at *; simp at *; done))
        | (have hz : replyE r ≠ 0 := by omega
           have he : replyFrame r = Frame.zero := by unfold replyFrame; rw [if_neg hz]
           refine congrArg Value.bool ?_
           rw [he]; simp [Frame.zero]; done)
    · have h14 := not_f h11
      have p15 := dt h14
      refine ow1 (op1_g rfl h11 rfl (lo_move (v := .int _ _) rfl) ?_)
      refine ow1 (op1_g rfl h11 rfl (lo_move (v := .int _ _) rfl) ?_)
      refine ow1 (op1_g rfl h11 rfl (lo_neq rfl rfl) ?_)
      refine ow1 (op1_l rfl (lo_pick_f (v := .bool _) rfl h11 rfl) ?_)
      refine ow_nil ?_
      refine seqK_n ?_
      refine cw_cond_f rfl h11 ?_
      refine cw_skip ?_
      refine seqK_n ?_
      refine cw_seq ?_
      refine cw_seq ?_
      refine cw_region ?_
      refine ow1 (op1_l rfl (lo_move (v := .int _ _) rfl) ?_)
      refine ow1 (op1_l rfl (lo_neq rfl rfl) ?_)
      refine ow_nil ?_
      refine seqK_n ?_
      refine cw_cond rfl (fun h16 => ?_) (fun h16 => ?_)
      · have h17 := not_t h16
        have p18 := df h17
        refine cw_seq ?_
        refine cw_region ?_
        refine ow1 (op1_l rfl (lo_loadA (i := 1) (vs := [_, _, _]) rfl ag35 sz35 rfl rfl rfl) ?_)
        refine ow1 (op1_l rfl (lo_build (v := .agg #[_, _, _]) rfl (bd35)) ?_)
        refine ow1 (op1_pr (frame_Same _ (replyFrame r) (replyFrame_wf r_w) (⟨0, 0, []⟩ : Frame) (by simp only [Frame.wf]; first | omega | (simp; done) | (simp; omega))) (en_f cb16 rfl) rfl ?_)
        refine ow1 (op1_l rfl (lo_assign (v := .bool _) rfl) ?_)
        refine ow_nil ?_
        refine seqK_n ?_
        refine cw_ret ?_
        refine seqK_r ?_
        refine fnK_r (res1 rfl (rv_t (v := .bool _) rfl)) ((HLe.refl _).trans hl8) ?_
        first
          | rfl
          | (exfalso; omega)
          | (exfalso; simp at *; done)
          | (refine congrArg Value.bool ?_; simp; done)
          | (have hz : replyE r = 0 := by omega
             have hh : ∀ p ∈ r.mail.head, p.wf := slh_wf r_mail_head_h
             have hf := replyOf_fwd r_w hh hz
             have he : replyFrame r = ⟨r.channel, IntKind.wrap .u8 (64 + r.kind), (replyOut r).s⟩ := by unfold replyFrame; rw [if_pos hz]
             have hf1 : (replyOf (replyFrame r)).1 = r := by rw [hf]
             have hf2 : (replyOf (replyFrame r)).2 = 0 := by rw [hf]
             first | (exfalso; omega) | (refine congrArg Value.bool ?_; rw [hf1]; simp; done) | (refine absurd he ?_; assumption) | (exfalso; simp only [hf2] at *; omega) | (exfalso; rw [hf1] at *; simp at *; done))
          | (have hz : replyE r ≠ 0 := by omega
             have he : replyFrame r = Frame.zero := by unfold replyFrame; rw [if_neg hz]
             refine congrArg Value.bool ?_
             rw [he]; simp [Frame.zero]; done)
      · have h19 := not_f h16
        have p20 := dt h19
        refine cw_skip ?_
        refine seqK_n ?_
        refine cw_seq ?_
        refine cw_region ?_
        refine ow1 (op1_l rfl (lo_loadA (i := 1) (vs := [_, _, _]) rfl ag35 sz35 rfl rfl rfl) ?_)
        refine ow1 (op1_ph (reply_Of _ (replyFrame r) (replyFrame_wf r_w) (hML.mono ((HLe.refl _).trans hl8))) (en_f cb13 rfl) rfl ?_)
        rintro _ H25 ⟨a21, c22, rfl, hs23⟩ hl24
        have := replyOf_len (replyFrame r)
        have := replyOf_err (replyFrame r)
        refine ow1 (op1_l rfl (lo_move (v := .tuple #[_, _]) rfl) ?_)
        refine ow1 (op1_l rfl (lo_extract (v := .agg #[_, _, _, _, _, _, _, _, _, _, _, _, _]) rfl rfl) ?_)
        refine ow1 (op1_l rfl (lo_extract (v := .int _ _) rfl rfl) ?_)
        refine ow1 (op1_alloc 2 rfl zr27 (fun b26 => ?_))
        refine ow1 (op1_storeAn (i := 2) (vs := [_, _, _, _, _, _, _, _, _, _, _, _, _]) [_, _, _, _, _, _, _, _, _, _, _, _, _] rfl rfl rfl sz27 rfl rfl rfl rfl ?_)
        refine ow1 (op1_l rfl (lo_assign (v := .int _ _) rfl) ?_)
        refine ow_nil ?_
        refine seqK_n ?_
        refine cw_seq ?_
        refine cw_anyL mixd ?_
        refine vw_q 0 rfl (by kernel_rfl) (by repeat (first | exact lle_l0 | exact LLe.refl _ | exact lle_none | refine lle_up ?_ rfl)) (fun _ _ hh hl => lo_loadA (i := 1) (vs := [_, _, _]) rfl ag35 sz35 (hl _ _ rfl) rfl rfl) ?_
        refine vw_q 1 rfl (by kernel_rfl) (by repeat (first | exact lle_l0 | exact LLe.refl _ | exact lle_none | refine lle_up ?_ rfl)) (fun _ _ hh hl => lo_loadA (i := 0) (vs := [_, _, _, _, _, _, _, _, _, _, _, _, _]) rfl ag27 sz27 (hl _ _ rfl) rfl rfl) ?_
        refine vw_e 2 rfl (by kernel_rfl) (op1_ph (l12_To _ r r_mail_head_a r_mail_head_c (r_mail_head_h.mono (((HLe.refl _).trans hl8).trans hl24) (fun _ _ h => h)) r_w (by first | omega | (have := lightR_len r (by assumption); omega))) (en_f cb12 rfl) rfl ?_)
        rintro _ H31 ⟨a27, c28, rfl, hs29⟩ hl30
        refine ⟨⟨((HLe.refl _).trans hl30), (by repeat (first | exact lle_l0 | exact LLe.refl _ | exact lle_none | refine lle_up ?_ rfl))⟩, ?_⟩
        refine vw_qc 3 rfl (by kernel_rfl) (by repeat (first | exact lle_l0 | exact LLe.refl _ | exact lle_none | refine lle_up ?_ rfl)) (r12_Frame _ r a27 c28 hs29 r_w (by first | assumption | omega) (by first | assumption | exact smallH_lightR (by assumption)) (by first | assumption | exact slh_kind (by assumption))) (en_f cb19 rfl) ?_
        refine vw_q 4 rfl (by kernel_rfl) (by repeat (first | exact lle_l0 | exact LLe.refl _ | exact lle_none | refine lle_up ?_ rfl)) (fun _ _ hh hl => lo_aeql (u := (Frame.cells (replyFrame r)).toArray) (v := (Frame.cells (⟨r.channel, IntKind.wrap .u8 (64 + r.kind), (replyOut r).s⟩ : Frame)).toArray) rfl rfl eqg41 (eqr41 _ _ 9998)) ?_
        refine vw_q 5 rfl (by kernel_rfl) (by repeat (first | exact lle_l0 | exact LLe.refl _ | exact lle_none | refine lle_up ?_ rfl)) (fun _ _ hh hl => lo_move (v := .bool _) rfl) ?_
        refine vw_sp (j := 5) rfl (fun h32 => ?_) (fun h32 => ?_)
        · have p33 := dt h32
          refine vw_qg 6 rfl (by kernel_rfl) (by repeat (first | exact lle_l0 | exact LLe.refl _ | exact lle_none | refine lle_up ?_ rfl)) rfl h32 (fun _ _ hh hl => lo_move (v := .int _ _) rfl) ?_
          refine vw_qg 7 rfl (by kernel_rfl) (by repeat (first | exact lle_l0 | exact LLe.refl _ | exact lle_none | refine lle_up ?_ rfl)) rfl h32 (fun _ _ hh hl => lo_eql rfl rfl) ?_
          refine vw_q 8 rfl (by kernel_rfl) (by repeat (first | exact lle_l0 | exact LLe.refl _ | exact lle_none | refine lle_up ?_ rfl)) (fun _ _ hh hl => lo_pick_t (v := .bool _) rfl h32 rfl) ?_
          refine vw_q 9 rfl (by kernel_rfl) (by repeat (first | exact lle_l0 | exact LLe.refl _ | exact lle_none | refine lle_up ?_ rfl)) (fun _ _ hh hl => lo_move (v := .bool _) rfl) ?_
          refine vw_sp (j := 9) rfl (fun h34 => ?_) (fun h34 => ?_)
          · have p35 := dt h34
            refine vw_qg 10 rfl (by kernel_rfl) (by repeat (first | exact lle_l0 | exact LLe.refl _ | exact lle_none | refine lle_up ?_ rfl)) rfl h34 (fun _ _ hh hl => lo_loadA (i := 0) (vs := [_, _, _, _, _, _, _, _, _, _, _, _, _]) rfl ag27 sz27 (hl _ _ rfl) rfl rfl) ?_
            refine vw_qg 11 rfl (by kernel_rfl) (by repeat (first | exact lle_l0 | exact LLe.refl _ | exact lle_none | refine lle_up ?_ rfl)) rfl h34 (fun _ _ hh hl => lo_loadA (i := 2) (vs := [_, _, _, _, _, _, _, _, _, _, _, _, _]) rfl ag27 sz27 (hl _ _ rfl) rfl rfl) ?_
            refine vw_qgc 12 rfl (by kernel_rfl) (by repeat (first | exact lle_l0 | exact LLe.refl _ | exact lle_none | refine lle_up ?_ rfl)) rfl h34 (reply_Same _ r r_mail_head_a r_mail_head_c (r_mail_head_h.mono ((((HLe.refl _).trans hl8).trans hl24).trans hl30) (fun _ _ h => h)) r_w ((replyOf (replyFrame r)).1) a21 c22 (hs23.mono ((HLe.refl _).trans hl30) (fun _ _ h => h)) (replyOf_wf (replyFrame_wf r_w))) (en_f cb10 rfl) ?_
            refine vw_q 13 rfl (by kernel_rfl) (by repeat (first | exact lle_l0 | exact LLe.refl _ | exact lle_none | refine lle_up ?_ rfl)) (fun _ _ hh hl => lo_pick_t (v := .bool _) rfl h34 rfl) ?_
            refine vw_q 14 rfl (by kernel_rfl) (by repeat (first | exact lle_l0 | exact LLe.refl _ | exact lle_none | refine lle_up ?_ rfl)) (fun _ _ hh hl => lo_assign (v := .bool _) rfl) ?_
            refine vw_done (by kernel_rfl) ?_
            refine seqK_n ?_
            refine cw_ret ?_
            refine fnK_r (res1 rfl (rv_t (v := .bool _) rfl)) ((((HLe.refl _).trans hl8).trans hl24).trans hl30) ?_
            first
              | rfl
              | (exfalso; omega)
              | (exfalso; simp at *; done)
              | (refine congrArg Value.bool ?_; simp; done)
              | (have hz : replyE r = 0 := by omega
                 have hh : ∀ p ∈ r.mail.head, p.wf := slh_wf r_mail_head_h
                 have hf := replyOf_fwd r_w hh hz
                 have he : replyFrame r = ⟨r.channel, IntKind.wrap .u8 (64 + r.kind), (replyOut r).s⟩ := by unfold replyFrame; rw [if_pos hz]
                 have hf1 : (replyOf (replyFrame r)).1 = r := by rw [hf]
                 have hf2 : (replyOf (replyFrame r)).2 = 0 := by rw [hf]
                 first | (exfalso; omega) | (refine congrArg Value.bool ?_; rw [hf1]; simp; done) | (refine absurd he ?_; assumption) | (exfalso; simp only [hf2] at *; omega) | (exfalso; rw [hf1] at *; simp at *; done))
              | (have hz : replyE r ≠ 0 := by omega
                 have he : replyFrame r = Frame.zero := by unfold replyFrame; rw [if_neg hz]
                 refine congrArg Value.bool ?_
                 rw [he]; simp [Frame.zero]; done)
          · have p36 := df h34
            refine vw_qgs 10 rfl (by kernel_rfl) (by repeat (first | exact lle_l0 | exact LLe.refl _ | exact lle_none | refine lle_up ?_ rfl)) rfl h34 ?_
            refine vw_qgs 11 rfl (by kernel_rfl) (by repeat (first | exact lle_l0 | exact LLe.refl _ | exact lle_none | refine lle_up ?_ rfl)) rfl h34 ?_
            refine vw_qgs 12 rfl (by kernel_rfl) (by repeat (first | exact lle_l0 | exact LLe.refl _ | exact lle_none | refine lle_up ?_ rfl)) rfl h34 ?_
            refine vw_q 13 rfl (by kernel_rfl) (by repeat (first | exact lle_l0 | exact LLe.refl _ | exact lle_none | refine lle_up ?_ rfl)) (fun _ _ hh hl => lo_pick_f (v := .bool _) rfl h34 rfl) ?_
            refine vw_q 14 rfl (by kernel_rfl) (by repeat (first | exact lle_l0 | exact LLe.refl _ | exact lle_none | refine lle_up ?_ rfl)) (fun _ _ hh hl => lo_assign (v := .bool _) rfl) ?_
            refine vw_done (by kernel_rfl) ?_
            refine seqK_n ?_
            refine cw_ret ?_
            refine fnK_r (res1 rfl (rv_t (v := .bool _) rfl)) ((((HLe.refl _).trans hl8).trans hl24).trans hl30) ?_
            first
              | rfl
              | (exfalso; omega)
              | (exfalso; simp at *; done)
              | (refine congrArg Value.bool ?_; simp; done)
              | (have hz : replyE r = 0 := by omega
                 have hh : ∀ p ∈ r.mail.head, p.wf := slh_wf r_mail_head_h
                 have hf := replyOf_fwd r_w hh hz
                 have he : replyFrame r = ⟨r.channel, IntKind.wrap .u8 (64 + r.kind), (replyOut r).s⟩ := by unfold replyFrame; rw [if_pos hz]
                 have hf1 : (replyOf (replyFrame r)).1 = r := by rw [hf]
                 have hf2 : (replyOf (replyFrame r)).2 = 0 := by rw [hf]
                 first | (exfalso; omega) | (refine congrArg Value.bool ?_; rw [hf1]; simp; done) | (refine absurd he ?_; assumption) | (exfalso; simp only [hf2] at *; omega) | (exfalso; rw [hf1] at *; simp at *; done))
              | (have hz : replyE r ≠ 0 := by omega
                 have he : replyFrame r = Frame.zero := by unfold replyFrame; rw [if_neg hz]
                 refine congrArg Value.bool ?_
                 rw [he]; simp [Frame.zero]; done)
        · have p37 := df h32
          refine vw_qgs 6 rfl (by kernel_rfl) (by repeat (first | exact lle_l0 | exact LLe.refl _ | exact lle_none | refine lle_up ?_ rfl)) rfl h32 ?_
          refine vw_qgs 7 rfl (by kernel_rfl) (by repeat (first | exact lle_l0 | exact LLe.refl _ | exact lle_none | refine lle_up ?_ rfl)) rfl h32 ?_
          refine vw_q 8 rfl (by kernel_rfl) (by repeat (first | exact lle_l0 | exact LLe.refl _ | exact lle_none | refine lle_up ?_ rfl)) (fun _ _ hh hl => lo_pick_f (v := .bool _) rfl h32 rfl) ?_
          refine vw_q 9 rfl (by kernel_rfl) (by repeat (first | exact lle_l0 | exact LLe.refl _ | exact lle_none | refine lle_up ?_ rfl)) (fun _ _ hh hl => lo_move (v := .bool _) rfl) ?_
          refine vw_qgs 10 rfl (by kernel_rfl) (by repeat (first | exact lle_l0 | exact LLe.refl _ | exact lle_none | refine lle_up ?_ rfl)) rfl rfl ?_
          refine vw_qgs 11 rfl (by kernel_rfl) (by repeat (first | exact lle_l0 | exact LLe.refl _ | exact lle_none | refine lle_up ?_ rfl)) rfl rfl ?_
          refine vw_qgs 12 rfl (by kernel_rfl) (by repeat (first | exact lle_l0 | exact LLe.refl _ | exact lle_none | refine lle_up ?_ rfl)) rfl rfl ?_
          refine vw_q 13 rfl (by kernel_rfl) (by repeat (first | exact lle_l0 | exact LLe.refl _ | exact lle_none | refine lle_up ?_ rfl)) (fun _ _ hh hl => lo_pick_f (v := .bool _) rfl rfl rfl) ?_
          refine vw_q 14 rfl (by kernel_rfl) (by repeat (first | exact lle_l0 | exact LLe.refl _ | exact lle_none | refine lle_up ?_ rfl)) (fun _ _ hh hl => lo_assign (v := .bool _) rfl) ?_
          refine vw_done (by kernel_rfl) ?_
          refine seqK_n ?_
          refine cw_ret ?_
          refine fnK_r (res1 rfl (rv_t (v := .bool _) rfl)) ((((HLe.refl _).trans hl8).trans hl24).trans hl30) ?_
          first
            | rfl
            | (exfalso; omega)
            | (exfalso; simp at *; done)
            | (refine congrArg Value.bool ?_; simp; done)
            | (have hz : replyE r = 0 := by omega
               have hh : ∀ p ∈ r.mail.head, p.wf := slh_wf r_mail_head_h
               have hf := replyOf_fwd r_w hh hz
               have he : replyFrame r = ⟨r.channel, IntKind.wrap .u8 (64 + r.kind), (replyOut r).s⟩ := by unfold replyFrame; rw [if_pos hz]
               have hf1 : (replyOf (replyFrame r)).1 = r := by rw [hf]
               have hf2 : (replyOf (replyFrame r)).2 = 0 := by rw [hf]
               first | (exfalso; omega) | (refine congrArg Value.bool ?_; rw [hf1]; simp; done) | (refine absurd he ?_; assumption) | (exfalso; simp only [hf2] at *; omega) | (exfalso; rw [hf1] at *; simp at *; done))
            | (have hz : replyE r ≠ 0 := by omega
               have he : replyFrame r = Frame.zero := by unfold replyFrame; rw [if_neg hz]
               refine congrArg Value.bool ?_
               rw [he]; simp [Frame.zero]; done)

end Go.SW


namespace Go.SW
open Go.ChangeShapes Go.WideShapes Go.ChangeAt Go.RowKit

def hp (w : World) : Hp := fun b => w.heap[b]?
def rest0 (w : World) : Rest := ⟨fun _ => none, w.os, w.tape, w.output⟩
theorem mem0 (w : World) : Mem (rest0 w) (hp w) l0 w :=
  { os := rfl, tape := rfl, output := rfl, n := fun _ _ h => (by cases h), h := fun _ _ h => h, l := fun _ _ _ h => (by cases h), nh := fun _ _ h => (by cases h), nl := fun _ _ _ h => (by cases h), ll := fun _ _ _ _ _ h => (by cases h) }
theorem mem0_below {w w' : World} {L : Ls} (h : Mem (rest0 w) (hp w) L w') : Below w.heap.size w w' := by
  have hb : ∀ k, k < w.heap.size → w'.heap[k]? = w.heap[k]? := fun k hk => by
    have e : w.heap[k]? = some w.heap[k] := Array.getElem?_eq_getElem hk
    rw [e]; exact h.h k _ e
  refine ⟨h.os, h.tape, h.output, ?_, hb⟩
  by_cases z : w.heap.size = 0
  · omega
  · have := hb (w.heap.size - 1) (by omega)
    rw [Array.getElem?_eq_getElem (show w.heap.size - 1 < w.heap.size by omega)] at this
    have := (Array.getElem?_eq_some_iff.1 this).1
    omega

section
variable {Ht : Type} {enc : TypeId × Value → Ht} {P : Program} {w : World} {base fuel : Nat} {spare : Nat → Bool} {held : Bool} {cs : List Value} {x : DataW Ht × List MemPlace} {t : TypeId}

theorem rd_int {k : IntKind} (ht : P.underlying t = some (.int k)) (h : DataW.trod enc P w base spare held fuel t cs = some x) : ∃ z : Int, cs = [.int k z] ∧ k.min ≤ z ∧ z ≤ k.max := by
  obtain ⟨z, h1, _, h2⟩ := DataW.trod_int ht h
  refine ⟨z, h1, ?_⟩
  simp only [Lit.wf, Bool.and_eq_true, decide_eq_true_eq] at h2; exact h2
theorem rd_u8 (ht : P.underlying t = some (.int .u8)) (h : DataW.trod enc P w base spare held fuel t cs = some x) : ∃ z : Int, cs = [.int .u8 z] ∧ 0 ≤ z ∧ z ≤ 255 := rd_int ht h
theorem rd_u16 (ht : P.underlying t = some (.int .u16)) (h : DataW.trod enc P w base spare held fuel t cs = some x) : ∃ z : Int, cs = [.int .u16 z] ∧ 0 ≤ z ∧ z ≤ 65535 := rd_int ht h
theorem rd_u32 (ht : P.underlying t = some (.int .u32)) (h : DataW.trod enc P w base spare held fuel t cs = some x) : ∃ z : Int, cs = [.int .u32 z] ∧ 0 ≤ z ∧ z ≤ 4294967295 := rd_int ht h
theorem rd_u64 (ht : P.underlying t = some (.int .u64)) (h : DataW.trod enc P w base spare held fuel t cs = some x) : ∃ z : Int, cs = [.int .u64 z] ∧ 0 ≤ z ∧ z ≤ 18446744073709551615 := rd_int ht h
theorem rd_i64 (ht : P.underlying t = some (.int .i64)) (h : DataW.trod enc P w base spare held fuel t cs = some x) : ∃ z : Int, cs = [.int .i64 z] ∧ -9223372036854775808 ≤ z ∧ z ≤ 9223372036854775807 := rd_int ht h
theorem rd_bool (ht : P.underlying t = some .bool) (h : DataW.trod enc P w base spare held fuel t cs = some x) : ∃ z : Bool, cs = [.bool z] := by
  obtain ⟨z, h1, _⟩ := DataW.trod_bool ht h
  exact ⟨z, h1⟩
theorem rd_str (ht : P.underlying t = some .string) (h : DataW.trod enc P w base spare held fuel t cs = some x) : ∃ s : Bs, cs = [str s] ∧ s.length ≤ 9223372036854775807 := by
  obtain ⟨s, h1, _, h2⟩ := DataW.trod_string ht h
  refine ⟨s.data.toList, by rw [h1, str_of], ?_⟩
  have : s.data.toList.length = s.size := Array.length_toList
  rw [this]; exact h2
theorem list_of {α : Type} {Q : Nat → α → Prop} : ∀ n, (∀ i, i < n → ∃ r, Q i r) → ∃ rs : List α, rs.length = n ∧ ∀ i (h : i < rs.length), Q i rs[i]
  | 0, _ => ⟨[], rfl, fun i h => by cases h⟩
  | n + 1, hq => by
    obtain ⟨rs, hl, hr⟩ := list_of n (fun i hi => hq i (by omega))
    obtain ⟨r, hr0⟩ := hq n (by omega)
    refine ⟨rs ++ [r], by simp [hl], fun i hi => ?_⟩
    by_cases e : i < rs.length
    · rw [List.getElem_append_left e]; exact hr i e
    · have : i = rs.length := by simp at hi; omega
      subst this
      rw [List.getElem_append_right (Nat.le_refl _)]
      simp only [Nat.sub_self, List.getElem_cons_zero]
      rw [hl]; exact hr0
theorem rd_slice {α : Type} {E : Hp → α → List Value → Prop} {k : Nat} {e : TypeId} (ht : P.underlying t = some (.slice e)) (hk : P.cellsOf e = k) (h0 : 0 < k) (he : ∀ fuel cs x, DataW.trod enc P w base spare held fuel e cs = some x → ∃ r, E (hp w) r cs)
    (h : DataW.trod enc P w base spare held fuel t cs = some x) : ∃ (a : Option Addr) (c : Nat) (rs : List α), cs = [.slice a rs.length c] ∧ SlH E k (hp w) (.slice a rs.length c) rs ∧ rs.length ≤ 9223372036854775807 := by
  rcases Go.Deep.open_slice ht h with ⟨h1, _⟩ | ⟨a, len, cap, m, nf, D, Pl, h1, _, hl, hm, hmm, _, hi⟩
  · exact ⟨none, 0, [], h1, slh_nil, Nat.zero_le _⟩
  · have hs0 : 0 < len → a = ⟨a.block, a.off, none⟩ := by
      intro hl0
      obtain ⟨cs', hc, hT⟩ := hi 0 (by rw [hmm]; split <;> omega)
      rw [hk, Nat.zero_mul] at hc
      obtain ⟨_, hcl, hat⟩ := World.cells?_some hc
      have ha0 := hat 0 h0
      rw [List.getElem?_eq_getElem (by omega)] at ha0
      obtain ⟨ab, ao, asp⟩ := a
      cases asp with
      | none => rfl
      | some z =>
        exfalso
        unfold World.cell? at ha0
        simp only [Addr.add] at ha0
        split at ha0 <;> simp at ha0
    have key : ∀ i, i < len → ∃ r : α, ∃ cs', E (hp w) r cs' ∧ SlAt (hp w) (.slice (some a) len cap) k i cs' := by
      intro i hil
      have ha := hs0 (by omega)
      obtain ⟨cs', hc, hT⟩ := hi i (by rw [hmm]; split <;> omega)
      obtain ⟨r, hr⟩ := he _ _ _ hT
      rw [hk] at hc
      obtain ⟨_, hcl, hat⟩ := World.cells?_some hc
      refine ⟨r, cs', hr, ?_⟩
      generalize a.block = ab at ha
      generalize a.off = ao at ha
      subst ha
      simp only [add_none] at hat
      have ha0 := hat 0 h0
      rw [List.getElem?_eq_getElem (by omega)] at ha0
      unfold World.cell? at ha0
      simp only at ha0
      split at ha0
      · rename_i c T fr hb
        refine ⟨ab, ao, len, cap, c, T, fr, rfl, hb, hcl, fun j hj => ?_⟩
        have := hat j hj
        unfold World.cell? at this
        simp only at this
        rw [hb] at this
        simpa using this
      · cases ha0
    obtain ⟨rs, hlen, hr⟩ := list_of (Q := fun i (r : α) => ∃ cs', E (hp w) r cs' ∧ SlAt (hp w) (.slice (some a) len cap) k i cs') len key
    refine ⟨some a, cap, rs, by rw [h1, hlen], ⟨⟨some a, cap, rfl, by omega⟩, fun i hi => ?_⟩, ?_⟩
    · rw [hlen]; exact hr i hi
    · have : cap ≤ 9223372036854775807 := hm
      omega

/-- A struct's field. -/
theorem rd_fld {fs : Array Field} {xs : List (DataW Ht × List MemPlace)} {n i o k : Nat} {f : Field} {ft : TypeId} (hf : ∀ (i : Nat) (f : Field), fs[i]? = some f → DataW.trod enc P w base spare held n f.type ((cs.drop f.offset).take (P.cellsOf f.type)) = xs[i]?) (hl : xs.length = fs.size)
    (hi : fs[i]? = some f) (ho : f.offset = o) (ht : f.type = ft) (hk : P.cellsOf ft = k) : ∃ y, DataW.trod enc P w base spare held n ft ((cs.drop o).take k) = some y := by
  have h := hf i f hi
  have hlt : i < fs.size := (Array.getElem?_eq_some_iff.1 hi).1
  rw [ho, ht, hk, List.getElem?_eq_getElem (by omega)] at h
  exact ⟨_, h⟩
theorem cs_last {l : List Value} {o k : Nat} (hl : cs.length = o + k) (h : (cs.drop o).take k = l) : cs.drop o = l := by
  rw [← h, List.take_of_length_le (by simp; omega)]
theorem cs_step {l r : List Value} {o k : Nat} (h : (cs.drop o).take k = l) (hr : cs.drop (o + k) = r) : cs.drop o = l ++ r := by
  rw [← h, ← hr, ← List.drop_drop, List.take_append_drop]
end

/-- A struct that is handed over. -/
theorem rd_agg {Ht : Type} {enc : TypeId × Value → Ht} {P : Program} {w : World} {r : Reach} {b0 base : Nat} {spare : Nat → Bool} {held : Bool} {t : TypeId} {fs : Array Field} {v : Value} {d : DataW Ht} {p : List MemPlace} (hs : P.underlying t = some (.struct fs)) (hv : Value.okWide P w r b0 t v)
    (h : DataW.Trod enc P w base spare held t v d p) : ∃ (l : List Value) (fuel : Nat), v = .agg l.toArray ∧ DataW.trod enc P w base spare held fuel t l = some (d, p) := by
  obtain ⟨cs, rfl, _⟩ := okWide_struct hs hv
  obtain ⟨fuel, hf⟩ := h
  exact ⟨cs.toList, fuel, rfl, hf⟩
theorem params_ok {P : Program} {ts : Array TypeId} (h : (ts.toList.all fun t => P.readableRec t && decide (t < P.types.size)) = true) : ∀ t ∈ ts.toList, P.readableRec t = true ∧ t < P.types.size := fun t ht => by
  have := List.all_eq_true.1 h t ht
  simpa using this
theorem rd_one_int {Ht : Type} {enc : TypeId × Value → Ht} {P : Program} {w : World} {r : Reach} {b0 base : Nat} {spare : Nat → Bool} {held : Bool} {t : TypeId} {k : IntKind} {v : Value} {d : DataW Ht} {p : List MemPlace} (hs : P.underlying t = some (.int k)) (hv : Value.okWide P w r b0 t v)
    (h : DataW.Trod enc P w base spare held t v d p) : ∃ z : Int, v = .int k z ∧ k.min ≤ z ∧ z ≤ k.max := by
  obtain ⟨z, rfl, _, _, hw⟩ := open_int hs hv h
  refine ⟨z, rfl, ?_⟩
  simp only [Lit.wf, Bool.and_eq_true, decide_eq_true_eq] at hw; exact hw
theorem rd_one_str {Ht : Type} {enc : TypeId × Value → Ht} {P : Program} {w : World} {r : Reach} {b0 base : Nat} {spare : Nat → Bool} {held : Bool} {t : TypeId} {v : Value} {d : DataW Ht} {p : List MemPlace} (hs : P.underlying t = some .string) (hv : Value.okWide P w r b0 t v)
    (h : DataW.Trod enc P w base spare held t v d p) : ∃ z : Bs, v = str z ∧ z.length ≤ 9223372036854775807 := by
  obtain ⟨s, rfl, _, _, hw⟩ := ChangeMaps.open_string hs hv h
  refine ⟨s.data.toList, str_of s, ?_⟩
  have : s.data.toList.length = s.size := Array.length_toList
  rw [this]; exact hw
/-- The cells of a datum. -/
def flatD : Nat → DataW Unit → List Value
  | _, .lit (.int k n) => [.int k n]
  | _, .lit (.string s) => [.string ⟨s.toArray⟩]
  | _, .lit (.bool b) => [.bool b]
  | n + 1, .agg l => l.flatMap (flatD n)
  | _, _ => []
/-- The settled world, with data laid in its variables. -/
def layD (d : DataW Unit) : Obj → Obj
  | .cells _ t frozen => .cells (flatD 5 d).toArray t frozen
  | o => o
noncomputable def laidW (P : Program) (os : Os) (l : List (Nat × DataW Unit)) : World :=
  let w0 := World.holding P os ⟨#[], #[], []⟩
  { w0 with heap := List.foldl (fun h x => h.modify x.1 (layD x.2)) w0.heap l }

/-- Each argument reads as it did, where below the heap's old size nothing has turned. -/
theorem trodAll_stays {Ht : Type} {enc : TypeId × Value → Ht} {P : Program} (hl : laidOutB P = true) {W W' : World} (hb : Below W.heap.size W W') {sp : Nat → Bool} : ∀ {ts : List TypeId} {vs : List Value} {ds : List (DataW Ht)} {ps : List MemPlace}, (∀ t ∈ ts, P.readableRec t = true ∧ t < P.types.size) →
    DataW.TrodAll enc P W 0 (fun _ => true) true ts vs ds ps → (∀ x ∈ ps, x.block < W.heap.size) → (∀ x ∈ ps, sp x.block = true) → DataW.TrodAll enc P W' 0 sp true ts vs ds ps := by
  intro ts
  induction ts with
  | nil => intro vs ds ps _ h _ _; cases vs <;> cases ds <;> first | exact h | exact h.elim
  | cons t ts ih =>
    intro vs ds ps hr h hlt hsp
    obtain ⟨v, vs', d, ds', p, q, rfl, rfl, rfl, h1, h2⟩ := trodAll_cons h
    exact trodAll_cons_mk (WideElems.Trod_stays hl (hr t (by simp)).1 (hr t (by simp)).2 h1 (fun x hx => hb.same (hlt x (by simp [hx]))) (fun x hx => hsp x (by simp [hx]))) (ih (fun u hu => hr u (by simp [hu])) h2 (fun x hx => hlt x (by simp [hx])) (fun x hx => hsp x (by simp [hx])))

section
variable {Ht : Type} {enc : TypeId × Value → Ht} {P : Program}
/-- A row's last step where below the heap's old size nothing has turned: it hands back true, and the arguments read as they did. -/
theorem law_post {f : Func} {s : ChangeSpec} {apart fresh again : Bool} {W W' : World} {args : Array Value} {ds : List (DataW Ht)} {before : List MemPlace} {tb : TypeId} (hvars : s.vars = [])
    (hW : DataW.Whole enc P f.params.toList s.vars apart W args.toList ds [] before) (hb : Below W.heap.size W W') (hl : laidOutB P = true) (hr : ∀ t ∈ f.params.toList, P.readableRec t = true ∧ t < P.types.size)
    (hres : f.resultTypes = #[tb]) (hu : P.underlying tb = some .bool) (hfn : s.fn Ht (ds ++ []) = { results := [.lit (.bool true)], args := ds }) : s.post enc P f apart fresh false again W args (.bool true) W' := by
  have hlt : ∀ p ∈ before, p.block < W.heap.size := fun p hp => hW.lt p hp
  have hold : ∀ p ∈ before, (fun b => decide (b < W.heap.size)) p.block = true := fun p hp => by simpa using hlt p hp
  have hW0 := hW
  obtain ⟨p, q, hA, hV, rfl, hz, hn⟩ := hW0
  have hq : q = [] := by
    rw [hvars] at hV
    exact (trodVars_none hV).2
  subst hq
  rw [List.append_nil] at hlt hold hz hn hW
  have hA0 : DataW.TrodAll enc P W 0 (fun _ => true) true f.params.toList args.toList ds p := hA
  have hargs : ∀ sp : Nat → Bool, (∀ x ∈ p, sp x.block = true) → DataW.TrodAll enc P W' 0 sp true f.params.toList args.toList ds p := fun sp hs => trodAll_stays hl hb hr hA0 hlt hs
  have hvs : ∀ sp : Nat → Bool, DataW.TrodVars enc P W' sp s.vars ([] : List (DataW Ht)) [] := fun sp => by rw [hvars]; rfl
  have hR : ∀ (b : Nat) (sp : Nat → Bool) (hd : Bool), DataW.TrodAll enc P W' b sp hd f.resultTypes.toList ((Value.bool true).resultList f.resultTypes.size) [.lit (.bool true)] [] := fun b sp hd => by
    rw [hres]
    exact trodAll_mk1 (shut_bool hu true)
  have hok : ∀ (j : Nat) (t : TypeId) (r : Value), f.resultTypes[j]? = some t → ((Value.bool true).resultList f.resultTypes.size)[j]? = some r → Value.okWide P W' .any 0 t r := ok_one hres rfl (okWide_bool_mk hu true)
  refine ⟨ds, [], p, [], p, [], hW, ?_, ?_, ?_, World.keptBut_mono (fun x hx => ⟨hx, Or.inr (by simpa using hx)⟩) (hb.frame (· ∈ p)), fun _ => ?_⟩
  · rw [hfn]; exact hR _ _ _
  · rw [hfn]; exact hargs _ hold
  · rw [hfn]; exact hvs _
  · refine ⟨hok, _, _, ([] ++ p) ++ [], ⟨[] ++ p, [], trodAll_append (hargs _ (fun _ _ => rfl)) (hR _ _ _), hvs _, rfl, ?_, ?_⟩, ?_⟩
    · intro b off hp
      have hin : MemPlace.cell b off ∈ p := by simpa using hp
      rw [hb.frozen (hlt _ hin)]
      exact hz b off hin
    · intro ha
      have := hn ha
      simpa using this
    · intro x hx _
      simpa using hx

/-- A variable of type int holds an int. -/
theorem gint_of_shape {w : World} {g : Nat} {t : TypeId} {zero : Array Value} (h : w.ShapedOpen P) (hg : g < P.globals.size)
    (h0 : ((begin P (fun _ _ => 0) default).world.heap[g]?).bind Obj.row? = some (zero, t)) (hz : zero.size = 1)
    (hb : P.buildable t = true) (hc : P.cellTypes P.depth t = some [t]) (hu : P.underlying t = some (.int .i64)) : GInt (hp w) g := by
  obtain ⟨cs, hh, hs, hr⟩ := h.1 g zero t hg h0
  obtain ⟨ts, hts, _, hall⟩ := hr hb
  rw [hc] at hts
  cases hts
  have h1 : 0 < cs.size := by omega
  obtain ⟨u, hu', hok⟩ := hall 0 cs[0] (by simp [h1])
  have : u = t := by simpa using hu'.symm
  subst this
  unfold Cell.ok at hok
  rw [hu] at hok
  have hv : ∃ m, cs[0] = .int .i64 m := by
    cases hv : cs[0] <;> rw [hv] at hok <;> first | exact ⟨_, by rw [hok.1]⟩ | simp at hok
  obtain ⟨m, hm⟩ := hv
  refine ⟨m, u, (0, 0), ?_⟩
  show w.heap[g]? = _
  rw [hh]
  have e : cs = #[.int .i64 m] := by
    apply Array.ext
    · simp; omega
    · intro i hi1 hi2
      have : i = 0 := by simp at hi2; omega
      subst this
      simpa using hm
  rw [e]

/-- A table of integers that the row lists. -/
theorem gtab_of {w : World} {g n : Nat} {name : String} {k : IntKind} {zs : List Int} {rest : List (String × DataW Unit)} {t e : TypeId} (hg : P.globalNamed name = some g) (hty : (P.globals[g]?).map (·.type) = some t) (ht : P.underlying t = some (.array n e)) (he : P.underlying e = some (.int k)) (hce : P.cellsOf e = 1) (hct : P.cellsOf t = n)
    (h : laidMet P ((name, Lib.tabData k zs) :: rest) w) : ∃ T fr, hp w g = some (.cells (zs.map (Value.int k)).toArray T fr) := by
  have hT := Lib.tabIs_of_head hg hty ht he hce hct h
  unfold Lib.TabIs World.var? at hT
  rw [hg] at hT
  simp only [Option.bind_some] at hT
  split at hT
  · rename_i cs T fr hh
    cases hT
    exact ⟨T, fr, hh⟩
  · cases hT
end
end Go.SW
