/-
  A part of the proof of DeedReads: The walks of this seat, printed by program: deed.Deed.Bytes. The walks of this seat, printed by program: stairwellref13.Same, stairwellref14.SameBind, stairwellref22.Same, stairwellref22.names, stairwellref22.maybe, stairwellref22.bit, stairwellref22.spare. The walks of this seat, printed by program: stairwellref22.checkBind, stairwellref13.Check, stairwellref22.Check. The walks of this seat, printed by program: stairwellref13.Bytes, stairwellref22.Bytes.
-/
import Derived.Test.YtbcoemocijnooaaGreatDoorProg
import Derived.Test.YtbcoemocijnooaaGreatDoorDeedReadsP2
import Derived.KernelRfl
import Derived.Test.YtbcoemocijnooaaGreatDoorDeedReadsP4
set_option linter.unusedVariables false
set_option linter.unusedSimpArgs false
set_option linter.unusedVariables false
set_option maxRecDepth 100000
set_option maxHeartbeats 4000000
namespace Go.SW
open Go.Proofs
theorem cb101 : Callable Tryz.prog 101 := callable_of Tryz.func101 (by kernel_rfl) (by kernel_rfl)
theorem cb103 : Callable Tryz.prog 103 := callable_of Tryz.func103 (by kernel_rfl) (by kernel_rfl)
theorem fl102_1 : Fld Tryz.prog 102 1 1 := fun b o w => by kernel_rfl
theorem fl102_2 : Fld Tryz.prog 102 2 2 := fun b o w => by kernel_rfl
theorem deed_Bytes (H : Hp) (d : DeedR) (d_bind_want_a : Option Addr) (d_bind_want_c : Nat) (d_bind_want_h : SlH pairE 4 H (.slice d_bind_want_a d.bind.want.length d_bind_want_c) d.bind.want) (d_mail_head_a : Option Addr) (d_mail_head_c : Nat) (d_mail_head_h : SlH pairE 4 H (.slice d_mail_head_a d.mail.head.length d_mail_head_c) d.mail.head) (d_w : DeedR.wf d) (hML : GInt H 2) : Pr Tryz.prog 45 #[.agg (DeedR.cells d d_bind_want_a d_bind_want_c d_mail_head_a d_mail_head_c).toArray] H (.tuple #[str (deedBytes d), .int .i64 (deedE d)]) := by
  refine pr_cw Tryz.func45 rfl Tryz.ntmps45 rfl (fun N => ?_)
  have d_w' := d_w
  simp only [DeedR.wf, ShopR.wf, QueueR.wf, BindR.wf, Mail.wf] at d_w'
  refine cw_seq (cw_region (ow1 (op1_box (cs := [_, _, _, _, _, _, _, _, _, _, _, _, _, _, _, _, _, _, _, _, _, _, _, _, _, _, _, _, _]) 0 rfl rfl (fun b1 => ?_))))
  refine ol rfl (lo_assign (v := str _) rfl) (oai rfl rfl (ow_nil (seqK_n (cw_seq (cw_seq ?_)))))
  refine cw_region (ol rfl (lo_loadA (i := 0) (vs := [_, _, _, _, _, _, _, _, _, _, _, _, _, _, _, _, _, _, _, _, _, _, _, _, _, _, _, _, _]) rfl ag106 sz106 rfl rfl rfl) ?_)
  refine ow1 (op1_pr (deed_Check _ d d_bind_want_a d_bind_want_c d_bind_want_h d_mail_head_a d_mail_head_c d_mail_head_h d_w hML) (en_f cb101 rfl) rfl ?_)
  have := deedE_r d
  refine oai rfl rfl (ow_nil (seqK_n (cw_seq (cw_region (omi rfl rfl ?_)))))
  refine ol rfl (lo_neq rfl rfl) (ow_nil (seqK_n (cw_cond rfl (fun h2 => ?_) (fun h2 => ?_))))
  · have h3 := not_t h2
    have p4 := df h3
    refine cw_seq (cw_region (omi rfl rfl (ol rfl (lo_assign (v := str _) rfl) (oai rfl rfl (ow_nil ?_)))))
    refine seqK_n (cw_ret (seqK_r (fnK_r (res2 rfl (rv_t (v := str _) rfl) (rv_t (v := .int _ _) rfl)) (.refl _) ?_)))
    have e : deedBytes d = [] := by
      unfold deedBytes
      first
        | (rw [if_neg (by assumption)]; done)
        | (rw [if_pos (by assumption)]; unfold deedOut; (repeat (first | rw [if_pos (by omega)] | rw [if_neg (by omega)] | rw [if_pos (by assumption)] | rw [if_neg (by assumption)] | rw [if_neg (fun q => q (by assumption))])); first | done | rfl)
    rw [e]
    try (rw [show deedE d = 0 by assumption])
  have h5 := not_f h2
  have p6 := dt h5
  have hdk := deedE_ok (d := d) (by omega) p6
  obtain ⟨dk1, dk2, dk3, dk4, dk5, dk6, dk7, dk8, dk9, dk10, dk11, dk12, dk13, dk14, dk15, dk16, dk17, dk18, dk19⟩ := hdk
  refine cw_skip (seqK_n (cw_seq (cw_anyL mixd (vw_q 0 rfl (by kernel_rfl) (by repeat (first | exact lle_l0 | exact LLe.refl _ | exact lle_none | refine lle_up ?_ rfl)) (fun _ _ hh hl => lo_build (v := .agg #[_, _]) rfl (bd157)) ?_))))
  refine vw_q 1 rfl (by kernel_rfl) (by repeat (first | exact lle_l0 | exact LLe.refl _ | exact lle_none | refine lle_up ?_ rfl)) (fun _ _ hh hl => lo_fieldAddr rfl fl106_0) ?_
  refine vw_q 2 rfl (by kernel_rfl) (by repeat (first | exact lle_l0 | exact LLe.refl _ | exact lle_none | refine lle_up ?_ rfl)) (fun _ _ hh hl => lo_load1 (i := 0) (v := .int _ _) rfl ag5 (hl _ _ rfl) rfl) ?_
  refine vw_q 3 rfl (by kernel_rfl) (by repeat (first | exact lle_l0 | exact LLe.refl _ | exact lle_none | refine lle_up ?_ rfl)) (fun _ _ hh hl => lo_conv_in rfl (by rw [Tryz.underlying5]; rfl) Tryz.underlying39 (rg_u64 (by omega))) ?_
  have nl0 : (⟨[], 0⟩ : Out).s.length = 0 := rfl
  have := outNum_len (⟨[], 0⟩ : Out) d.kind 1
  refine vw_qc 4 rfl (by kernel_rfl) (by repeat (first | exact lle_l0 | exact LLe.refl _ | exact lle_none | refine lle_up ?_ rfl)) (out_Num _ (⟨[], 0⟩ : Out) d.kind (by omega) 1 (by omega) (by first | omega | (have := hrl (by assumption); omega) | (simp [outNum, outRaw, numB_len, numK] <;> omega) | (have := hrl (by assumption); simp [outNum, outRaw, numB_len, numK] <;> omega))) (en_f cb90 rfl) ?_
  refine vw_q 5 rfl (by kernel_rfl) (by repeat (first | exact lle_l0 | exact LLe.refl _ | exact lle_none | refine lle_up ?_ rfl)) (fun _ _ hh hl => lo_fieldAddr rfl fl106_1) ?_
  refine vw_q 6 rfl (by kernel_rfl) (by repeat (first | exact lle_l0 | exact LLe.refl _ | exact lle_none | refine lle_up ?_ rfl)) (fun _ _ hh hl => lo_load1 (i := 0) (v := .int _ _) rfl ag39 (hl _ _ rfl) rfl) ?_
  have := outNum_len (outNum (⟨[], 0⟩ : Out) d.kind 1) d.tick 8
  refine vw_qc 7 rfl (by kernel_rfl) (by repeat (first | exact lle_l0 | exact LLe.refl _ | exact lle_none | refine lle_up ?_ rfl)) (out_Num _ (outNum (⟨[], 0⟩ : Out) d.kind 1) d.tick (by omega) 8 (by omega) (by first | omega | (have := hrl (by assumption); omega) | (simp [outNum, outRaw, numB_len, numK] <;> omega) | (have := hrl (by assumption); simp [outNum, outRaw, numB_len, numK] <;> omega))) (en_f cb90 rfl) ?_
  refine vw_e 8 rfl (by kernel_rfl) (op1_alloc 1 rfl zr157 (fun b7 => ?_))
  refine ⟨⟨(.refl _), (by repeat (first | exact lle_l0 | exact LLe.refl _ | exact lle_none | refine lle_up ?_ rfl))⟩, ?_⟩
  refine vw_t 9 rfl (by kernel_rfl) (by kernel_rfl) (op1_storeAll (i := 1) (vs := [_, _]) rfl rfl rfl sz157 rfl rfl rfl ?_)
  refine vw_done (by kernel_rfl) (seqK_n (cw_seq (cw_region (ol rfl (lo_fieldAddr rfl fl106_11) (ol rfl (lo_loadA (i := 0) (vs := [_, _, _, _, _, _, _]) rfl ag42 sz42 rfl rfl rfl) ?_)))))
  refine ow1 (op1_pr (mail_Bytes _ d.mail d_mail_head_a d_mail_head_c d_mail_head_h (by simp only [Mail.wf]; first | omega | (simp; done) | (simp; omega)) hML) (en_f cb102 rfl) rfl ?_)
  have := mailBytes_len d.mail
  refine ol rfl (lo_move (v := .tuple #[_, _]) rfl) (ol rfl (lo_extract (v := str _) rfl rfl) (ol rfl (lo_extract (v := .int _ _) rfl rfl) (ol rfl (lo_assign (v := str _) rfl) (oai rfl rfl (ow_nil ?_)))))
  refine seqK_n (cw_seq (cw_seq (cw_region (ol rfl (lo_fieldAddr rfl fl106_0) (ol rfl (lo_load1 (i := 0) (v := .int _ _) rfl ag5 rfl rfl) ?_)))))
  refine ow_nil (seqK_n (cw_block (cw_seq (cw_region (ol rfl (lo_eql rfl rfl) ?_)))))
  refine oab rfl rfl (ow_nil (seqK_n (cw_cond rfl (fun h8 => ?_) (fun h8 => ?_))))
  · have p9 := dt h8
    refine cw_anyL mixd (vw_q 0 rfl (by kernel_rfl) (by repeat (first | exact lle_l0 | exact LLe.refl _ | exact lle_none | refine lle_up ?_ rfl)) (fun _ _ hh hl => lo_loadA (i := 1) (vs := [_, _]) rfl ag157 sz157 (hl _ _ rfl) rfl rfl) ?_)
    refine vw_q 1 rfl (by kernel_rfl) (by repeat (first | exact lle_l0 | exact LLe.refl _ | exact lle_none | refine lle_up ?_ rfl)) (fun _ _ hh hl => lo_fieldAddr rfl fl106_2) ?_
    refine vw_q 2 rfl (by kernel_rfl) (by repeat (first | exact lle_l0 | exact LLe.refl _ | exact lle_none | refine lle_up ?_ rfl)) (fun _ _ hh hl => lo_fieldAddr rfl fl100_0) ?_
    refine vw_q 3 rfl (by kernel_rfl) (by repeat (first | exact lle_l0 | exact LLe.refl _ | exact lle_none | refine lle_up ?_ rfl)) (fun _ _ hh hl => lo_load1 (i := 0) (v := str _) rfl ag9 (hl _ _ rfl) rfl) ?_
    have := outText_len (outNum (outNum (⟨[], 0⟩ : Out) d.kind 1) d.tick 8) d.shop.name
    refine vw_qc 4 rfl (by kernel_rfl) (by repeat (first | exact lle_l0 | exact LLe.refl _ | exact lle_none | refine lle_up ?_ rfl)) (out_Text _ (outNum (outNum (⟨[], 0⟩ : Out) d.kind 1) d.tick 8) d.shop.name (by first | omega | (have := hrl (by assumption); omega) | (simp [outNum, outRaw, numB_len, numK] <;> omega) | (have := hrl (by assumption); simp [outNum, outRaw, numB_len, numK] <;> omega))) (en_f cb87 rfl) ?_
    refine vw_q 5 rfl (by kernel_rfl) (by repeat (first | exact lle_l0 | exact LLe.refl _ | exact lle_none | refine lle_up ?_ rfl)) (fun _ _ hh hl => lo_fieldAddr rfl fl106_2) ?_
    refine vw_q 6 rfl (by kernel_rfl) (by repeat (first | exact lle_l0 | exact LLe.refl _ | exact lle_none | refine lle_up ?_ rfl)) (fun _ _ hh hl => lo_fieldAddr rfl fl100_1) ?_
    refine vw_q 7 rfl (by kernel_rfl) (by repeat (first | exact lle_l0 | exact LLe.refl _ | exact lle_none | refine lle_up ?_ rfl)) (fun _ _ hh hl => lo_load1 (i := 0) (v := .int _ _) rfl ag5 (hl _ _ rfl) rfl) ?_
    refine vw_q 8 rfl (by kernel_rfl) (by repeat (first | exact lle_l0 | exact LLe.refl _ | exact lle_none | refine lle_up ?_ rfl)) (fun _ _ hh hl => lo_conv_in rfl (by rw [Tryz.underlying5]; rfl) Tryz.underlying39 (rg_u64 (by omega))) ?_
    have := outNum_len (outText (outNum (outNum (⟨[], 0⟩ : Out) d.kind 1) d.tick 8) d.shop.name) d.shop.sort 1
    refine vw_qc 9 rfl (by kernel_rfl) (by repeat (first | exact lle_l0 | exact LLe.refl _ | exact lle_none | refine lle_up ?_ rfl)) (out_Num _ (outText (outNum (outNum (⟨[], 0⟩ : Out) d.kind 1) d.tick 8) d.shop.name) d.shop.sort (by omega) 1 (by omega) (by first | omega | (have := hrl (by assumption); omega) | (simp [outNum, outRaw, numB_len, numK] <;> omega) | (have := hrl (by assumption); simp [outNum, outRaw, numB_len, numK] <;> omega))) (en_f cb90 rfl) ?_
    refine vw_q 10 rfl (by kernel_rfl) (by repeat (first | exact lle_l0 | exact LLe.refl _ | exact lle_none | refine lle_up ?_ rfl)) (fun _ _ hh hl => lo_fieldAddr rfl fl106_2) ?_
    refine vw_q 11 rfl (by kernel_rfl) (by repeat (first | exact lle_l0 | exact LLe.refl _ | exact lle_none | refine lle_up ?_ rfl)) (fun _ _ hh hl => lo_fieldAddr rfl fl100_2) ?_
    refine vw_q 12 rfl (by kernel_rfl) (by repeat (first | exact lle_l0 | exact LLe.refl _ | exact lle_none | refine lle_up ?_ rfl)) (fun _ _ hh hl => lo_load1 (i := 0) (v := str _) rfl ag9 (hl _ _ rfl) rfl) ?_
    have := outText_len (outNum (outText (outNum (outNum (⟨[], 0⟩ : Out) d.kind 1) d.tick 8) d.shop.name) d.shop.sort 1) d.shop.to
    refine vw_qc 13 rfl (by kernel_rfl) (by repeat (first | exact lle_l0 | exact LLe.refl _ | exact lle_none | refine lle_up ?_ rfl)) (out_Text _ (outNum (outText (outNum (outNum (⟨[], 0⟩ : Out) d.kind 1) d.tick 8) d.shop.name) d.shop.sort 1) d.shop.to (by first | omega | (have := hrl (by assumption); omega) | (simp [outNum, outRaw, numB_len, numK] <;> omega) | (have := hrl (by assumption); simp [outNum, outRaw, numB_len, numK] <;> omega))) (en_f cb87 rfl) ?_
    refine vw_t 14 rfl (by kernel_rfl) (by kernel_rfl) (op1_storeAll (i := 1) (vs := [_, _]) rfl rfl rfl sz157 rfl rfl rfl ?_)
    refine vw_done (by kernel_rfl) (blkK_n (seqK_n (cw_seq (cw_region (ol rfl (lo_loadA (i := 1) (vs := [_, _]) rfl ag157 sz157 rfl rfl rfl) ?_)))))
    refine ow1 (op1_pr (out_String _ (outText (outNum (outText (outNum (outNum (⟨[], 0⟩ : Out) d.kind 1) d.tick 8) d.shop.name) d.shop.sort 1) d.shop.to)) (en_f cb91 rfl) rfl ?_)
    refine ol rfl (lo_assign (v := str _) rfl) (oai rfl rfl (ow_nil (seqK_n (cw_ret (fnK_r (res2 rfl (rv_t (v := str _) rfl) (rv_t (v := .int _ _) rfl)) (.refl _) ?_)))))
    have e : deedBytes d = (outText (outNum (outText (outNum (outNum (⟨[], 0⟩ : Out) d.kind 1) d.tick 8) d.shop.name) d.shop.sort 1) d.shop.to).s := by
      unfold deedBytes
      first
        | (rw [if_neg (by assumption)]; done)
        | (rw [if_pos (by assumption)]; unfold deedOut; (repeat (first | rw [if_pos (by omega)] | rw [if_neg (by omega)] | rw [if_pos (by assumption)] | rw [if_neg (by assumption)] | rw [if_neg (fun q => q (by assumption))])); first | done | rfl)
    rw [e]
    try (rw [show deedE d = 0 by assumption])
  have p10 := df h8
  refine cw_seq (cw_region (ol rfl (lo_eql rfl rfl) (oab rfl rfl (ow_nil (seqK_n ?_)))))
  refine cw_cond rfl (fun h11 => ?_) (fun h11 => ?_)
  · have p12 := dt h11
    refine cw_anyL mixd (vw_q 0 rfl (by kernel_rfl) (by repeat (first | exact lle_l0 | exact LLe.refl _ | exact lle_none | refine lle_up ?_ rfl)) (fun _ _ hh hl => lo_loadA (i := 1) (vs := [_, _]) rfl ag157 sz157 (hl _ _ rfl) rfl rfl) ?_)
    refine vw_q 1 rfl (by kernel_rfl) (by repeat (first | exact lle_l0 | exact LLe.refl _ | exact lle_none | refine lle_up ?_ rfl)) (fun _ _ hh hl => lo_fieldAddr rfl fl106_3) ?_
    refine vw_q 2 rfl (by kernel_rfl) (by repeat (first | exact lle_l0 | exact LLe.refl _ | exact lle_none | refine lle_up ?_ rfl)) (fun _ _ hh hl => lo_fieldAddr rfl fl102_0) ?_
    refine vw_q 3 rfl (by kernel_rfl) (by repeat (first | exact lle_l0 | exact LLe.refl _ | exact lle_none | refine lle_up ?_ rfl)) (fun _ _ hh hl => lo_load1 (i := 0) (v := str _) rfl ag9 (hl _ _ rfl) rfl) ?_
    have := outText_len (outNum (outNum (⟨[], 0⟩ : Out) d.kind 1) d.tick 8) d.queue.name
    refine vw_qc 4 rfl (by kernel_rfl) (by repeat (first | exact lle_l0 | exact LLe.refl _ | exact lle_none | refine lle_up ?_ rfl)) (out_Text _ (outNum (outNum (⟨[], 0⟩ : Out) d.kind 1) d.tick 8) d.queue.name (by first | omega | (have := hrl (by assumption); omega) | (simp [outNum, outRaw, numB_len, numK] <;> omega) | (have := hrl (by assumption); simp [outNum, outRaw, numB_len, numK] <;> omega))) (en_f cb87 rfl) ?_
    refine vw_q 5 rfl (by kernel_rfl) (by repeat (first | exact lle_l0 | exact LLe.refl _ | exact lle_none | refine lle_up ?_ rfl)) (fun _ _ hh hl => lo_fieldAddr rfl fl106_3) ?_
    refine vw_q 6 rfl (by kernel_rfl) (by repeat (first | exact lle_l0 | exact LLe.refl _ | exact lle_none | refine lle_up ?_ rfl)) (fun _ _ hh hl => lo_fieldAddr rfl fl102_1) ?_
    refine vw_q 7 rfl (by kernel_rfl) (by repeat (first | exact lle_l0 | exact LLe.refl _ | exact lle_none | refine lle_up ?_ rfl)) (fun _ _ hh hl => lo_load1 (i := 0) (v := .int _ _) rfl ag39 (hl _ _ rfl) rfl) ?_
    have := outNum_len (outText (outNum (outNum (⟨[], 0⟩ : Out) d.kind 1) d.tick 8) d.queue.name) d.queue.most 8
    refine vw_qc 8 rfl (by kernel_rfl) (by repeat (first | exact lle_l0 | exact LLe.refl _ | exact lle_none | refine lle_up ?_ rfl)) (out_Num _ (outText (outNum (outNum (⟨[], 0⟩ : Out) d.kind 1) d.tick 8) d.queue.name) d.queue.most (by omega) 8 (by omega) (by first | omega | (have := hrl (by assumption); omega) | (simp [outNum, outRaw, numB_len, numK] <;> omega) | (have := hrl (by assumption); simp [outNum, outRaw, numB_len, numK] <;> omega))) (en_f cb90 rfl) ?_
    refine vw_q 9 rfl (by kernel_rfl) (by repeat (first | exact lle_l0 | exact LLe.refl _ | exact lle_none | refine lle_up ?_ rfl)) (fun _ _ hh hl => lo_fieldAddr rfl fl106_3) ?_
    refine vw_q 10 rfl (by kernel_rfl) (by repeat (first | exact lle_l0 | exact LLe.refl _ | exact lle_none | refine lle_up ?_ rfl)) (fun _ _ hh hl => lo_fieldAddr rfl fl102_2) ?_
    refine vw_q 11 rfl (by kernel_rfl) (by repeat (first | exact lle_l0 | exact LLe.refl _ | exact lle_none | refine lle_up ?_ rfl)) (fun _ _ hh hl => lo_load1 (i := 0) (v := .int _ _) rfl ag39 (hl _ _ rfl) rfl) ?_
    have := outNum_len (outNum (outText (outNum (outNum (⟨[], 0⟩ : Out) d.kind 1) d.tick 8) d.queue.name) d.queue.most 8) d.queue.life 8
    refine vw_qc 12 rfl (by kernel_rfl) (by repeat (first | exact lle_l0 | exact LLe.refl _ | exact lle_none | refine lle_up ?_ rfl)) (out_Num _ (outNum (outText (outNum (outNum (⟨[], 0⟩ : Out) d.kind 1) d.tick 8) d.queue.name) d.queue.most 8) d.queue.life (by omega) 8 (by omega) (by first | omega | (have := hrl (by assumption); omega) | (simp [outNum, outRaw, numB_len, numK] <;> omega) | (have := hrl (by assumption); simp [outNum, outRaw, numB_len, numK] <;> omega))) (en_f cb90 rfl) ?_
    refine vw_q 13 rfl (by kernel_rfl) (by repeat (first | exact lle_l0 | exact LLe.refl _ | exact lle_none | refine lle_up ?_ rfl)) (fun _ _ hh hl => lo_fieldAddr rfl fl106_3) ?_
    refine vw_q 14 rfl (by kernel_rfl) (by repeat (first | exact lle_l0 | exact LLe.refl _ | exact lle_none | refine lle_up ?_ rfl)) (fun _ _ hh hl => lo_fieldAddr rfl fl102_3) ?_
    refine vw_q 15 rfl (by kernel_rfl) (by repeat (first | exact lle_l0 | exact LLe.refl _ | exact lle_none | refine lle_up ?_ rfl)) (fun _ _ hh hl => lo_load1 (i := 0) (v := str _) rfl ag9 (hl _ _ rfl) rfl) ?_
    have := outText_len (outNum (outNum (outText (outNum (outNum (⟨[], 0⟩ : Out) d.kind 1) d.tick 8) d.queue.name) d.queue.most 8) d.queue.life 8) d.queue.dead
    refine vw_qc 16 rfl (by kernel_rfl) (by repeat (first | exact lle_l0 | exact LLe.refl _ | exact lle_none | refine lle_up ?_ rfl)) (out_Text _ (outNum (outNum (outText (outNum (outNum (⟨[], 0⟩ : Out) d.kind 1) d.tick 8) d.queue.name) d.queue.most 8) d.queue.life 8) d.queue.dead (by first | omega | (have := hrl (by assumption); omega) | (simp [outNum, outRaw, numB_len, numK] <;> omega) | (have := hrl (by assumption); simp [outNum, outRaw, numB_len, numK] <;> omega))) (en_f cb87 rfl) ?_
    refine vw_t 17 rfl (by kernel_rfl) (by kernel_rfl) (op1_storeAll (i := 1) (vs := [_, _]) rfl rfl rfl sz157 rfl rfl rfl ?_)
    refine vw_done (by kernel_rfl) (blkK_n (seqK_n (cw_seq (cw_region (ol rfl (lo_loadA (i := 1) (vs := [_, _]) rfl ag157 sz157 rfl rfl rfl) ?_)))))
    refine ow1 (op1_pr (out_String _ (outText (outNum (outNum (outText (outNum (outNum (⟨[], 0⟩ : Out) d.kind 1) d.tick 8) d.queue.name) d.queue.most 8) d.queue.life 8) d.queue.dead)) (en_f cb91 rfl) rfl ?_)
    refine ol rfl (lo_assign (v := str _) rfl) (oai rfl rfl (ow_nil (seqK_n (cw_ret (fnK_r (res2 rfl (rv_t (v := str _) rfl) (rv_t (v := .int _ _) rfl)) (.refl _) ?_)))))
    have e : deedBytes d = (outText (outNum (outNum (outText (outNum (outNum (⟨[], 0⟩ : Out) d.kind 1) d.tick 8) d.queue.name) d.queue.most 8) d.queue.life 8) d.queue.dead).s := by
      unfold deedBytes
      first
        | (rw [if_neg (by assumption)]; done)
        | (rw [if_pos (by assumption)]; unfold deedOut; (repeat (first | rw [if_pos (by omega)] | rw [if_neg (by omega)] | rw [if_pos (by assumption)] | rw [if_neg (by assumption)] | rw [if_neg (fun q => q (by assumption))])); first | done | rfl)
    rw [e]
    try (rw [show deedE d = 0 by assumption])
  have p13 := df h11
  refine cw_seq (cw_seq (cw_region (ol rfl (lo_eql rfl rfl) (oab rfl rfl (ow_nil ?_)))))
  refine seqK_n (cw_cond rfl (fun h14 => ?_) (fun h14 => ?_))
  · have p15 := dt h14
    refine cw_skip (seqK_n (cw_cond_t rfl h14 (cw_seq (cw_region (ol rfl (lo_fieldAddr rfl fl106_4) ?_)))))
    refine ol rfl (lo_loadA (i := 0) (vs := [_, _, _, _, _, _]) rfl ag104 sz104 rfl rfl rfl) (ow1 (op1_alloc 2 rfl zr104 (fun b16 => ?_)))
    refine ow1 (op1_storeAll (i := 2) (vs := [_, _, _, _, _, _]) rfl rfl rfl sz104 rfl rfl rfl ?_)
    refine ow_nil (seqK_n (cw_seq (cw_region (ol rfl (lo_fieldAddr rfl fl104_4) (ol rfl (lo_load1 (i := 2) (v := .slice _ _ _) rfl ag40 rfl rfl) ?_)))))
    refine ow1 (op1_pr (head_Bytes _ d_bind_want_a d.bind.want.length d_bind_want_c d.bind.want d_bind_want_h (by first | omega | (simp <;> omega))) (en_f cb88 rfl) rfl ?_)
    have := headBytes_len d.bind.want
    refine ol rfl (lo_move (v := .tuple #[_, _]) rfl) (ol rfl (lo_extract (v := str _) rfl rfl) (ol rfl (lo_extract (v := .int _ _) rfl rfl) (ol rfl (lo_assign (v := str _) rfl) (oai rfl rfl (ow_nil ?_)))))
    refine seqK_n (cw_anyL mixd (vw_q 0 rfl (by kernel_rfl) (by repeat (first | exact lle_l0 | exact LLe.refl _ | exact lle_none | refine lle_up ?_ rfl)) (fun _ _ hh hl => lo_loadA (i := 1) (vs := [_, _]) rfl ag157 sz157 (hl _ _ rfl) rfl rfl) ?_))
    refine vw_q 1 rfl (by kernel_rfl) (by repeat (first | exact lle_l0 | exact LLe.refl _ | exact lle_none | refine lle_up ?_ rfl)) (fun _ _ hh hl => lo_fieldAddr rfl fl104_0) ?_
    refine vw_q 2 rfl (by kernel_rfl) (by repeat (first | exact lle_l0 | exact LLe.refl _ | exact lle_none | refine lle_up ?_ rfl)) (fun _ _ hh hl => lo_load1 (i := 2) (v := str _) rfl ag9 (hl _ _ rfl) rfl) ?_
    have := outText_len (outNum (outNum (⟨[], 0⟩ : Out) d.kind 1) d.tick 8) d.bind.shop
    refine vw_qc 3 rfl (by kernel_rfl) (by repeat (first | exact lle_l0 | exact LLe.refl _ | exact lle_none | refine lle_up ?_ rfl)) (out_Text _ (outNum (outNum (⟨[], 0⟩ : Out) d.kind 1) d.tick 8) d.bind.shop (by first | omega | (have := hrl (by assumption); omega) | (simp [outNum, outRaw, numB_len, numK] <;> omega) | (have := hrl (by assumption); simp [outNum, outRaw, numB_len, numK] <;> omega))) (en_f cb87 rfl) ?_
    refine vw_q 4 rfl (by kernel_rfl) (by repeat (first | exact lle_l0 | exact LLe.refl _ | exact lle_none | refine lle_up ?_ rfl)) (fun _ _ hh hl => lo_fieldAddr rfl fl104_1) ?_
    refine vw_q 5 rfl (by kernel_rfl) (by repeat (first | exact lle_l0 | exact LLe.refl _ | exact lle_none | refine lle_up ?_ rfl)) (fun _ _ hh hl => lo_load1 (i := 2) (v := str _) rfl ag9 (hl _ _ rfl) rfl) ?_
    have := outText_len (outText (outNum (outNum (⟨[], 0⟩ : Out) d.kind 1) d.tick 8) d.bind.shop) d.bind.to
    refine vw_qc 6 rfl (by kernel_rfl) (by repeat (first | exact lle_l0 | exact LLe.refl _ | exact lle_none | refine lle_up ?_ rfl)) (out_Text _ (outText (outNum (outNum (⟨[], 0⟩ : Out) d.kind 1) d.tick 8) d.bind.shop) d.bind.to (by first | omega | (have := hrl (by assumption); omega) | (simp [outNum, outRaw, numB_len, numK] <;> omega) | (have := hrl (by assumption); simp [outNum, outRaw, numB_len, numK] <;> omega))) (en_f cb87 rfl) ?_
    refine vw_q 7 rfl (by kernel_rfl) (by repeat (first | exact lle_l0 | exact LLe.refl _ | exact lle_none | refine lle_up ?_ rfl)) (fun _ _ hh hl => lo_fieldAddr rfl fl104_2) ?_
    refine vw_q 8 rfl (by kernel_rfl) (by repeat (first | exact lle_l0 | exact LLe.refl _ | exact lle_none | refine lle_up ?_ rfl)) (fun _ _ hh hl => lo_load1 (i := 2) (v := .bool _) rfl ag4 (hl _ _ rfl) rfl) ?_
    have := bitN_r d.bind.up
    refine vw_qc 9 rfl (by kernel_rfl) (by repeat (first | exact lle_l0 | exact LLe.refl _ | exact lle_none | refine lle_up ?_ rfl)) (deed_bit _ d.bind.up) (en_f cb103 rfl) ?_
    have := outNum_len (outText (outText (outNum (outNum (⟨[], 0⟩ : Out) d.kind 1) d.tick 8) d.bind.shop) d.bind.to) (bitN d.bind.up) 1
    refine vw_qc 10 rfl (by kernel_rfl) (by repeat (first | exact lle_l0 | exact LLe.refl _ | exact lle_none | refine lle_up ?_ rfl)) (out_Num _ (outText (outText (outNum (outNum (⟨[], 0⟩ : Out) d.kind 1) d.tick 8) d.bind.shop) d.bind.to) (bitN d.bind.up) (by omega) 1 (by omega) (by first | omega | (have := hrl (by assumption); omega) | (simp [outNum, outRaw, numB_len, numK] <;> omega) | (have := hrl (by assumption); simp [outNum, outRaw, numB_len, numK] <;> omega))) (en_f cb90 rfl) ?_
    refine vw_q 11 rfl (by kernel_rfl) (by repeat (first | exact lle_l0 | exact LLe.refl _ | exact lle_none | refine lle_up ?_ rfl)) (fun _ _ hh hl => lo_fieldAddr rfl fl104_3) ?_
    refine vw_q 12 rfl (by kernel_rfl) (by repeat (first | exact lle_l0 | exact LLe.refl _ | exact lle_none | refine lle_up ?_ rfl)) (fun _ _ hh hl => lo_load1 (i := 2) (v := str _) rfl ag9 (hl _ _ rfl) rfl) ?_
    have := outText_len (outNum (outText (outText (outNum (outNum (⟨[], 0⟩ : Out) d.kind 1) d.tick 8) d.bind.shop) d.bind.to) (bitN d.bind.up) 1) d.bind.key
    refine vw_qc 13 rfl (by kernel_rfl) (by repeat (first | exact lle_l0 | exact LLe.refl _ | exact lle_none | refine lle_up ?_ rfl)) (out_Text _ (outNum (outText (outText (outNum (outNum (⟨[], 0⟩ : Out) d.kind 1) d.tick 8) d.bind.shop) d.bind.to) (bitN d.bind.up) 1) d.bind.key (by first | omega | (have := hrl (by assumption); omega) | (simp [outNum, outRaw, numB_len, numK] <;> omega) | (have := hrl (by assumption); simp [outNum, outRaw, numB_len, numK] <;> omega))) (en_f cb87 rfl) ?_
    refine vw_q 14 rfl (by kernel_rfl) (by repeat (first | exact lle_l0 | exact LLe.refl _ | exact lle_none | refine lle_up ?_ rfl)) (fun _ _ hh hl => lo_move (v := str _) rfl) ?_
    have := outRaw_len (outText (outNum (outText (outText (outNum (outNum (⟨[], 0⟩ : Out) d.kind 1) d.tick 8) d.bind.shop) d.bind.to) (bitN d.bind.up) 1) d.bind.key) (headBytes d.bind.want)
    refine vw_qc 15 rfl (by kernel_rfl) (by repeat (first | exact lle_l0 | exact LLe.refl _ | exact lle_none | refine lle_up ?_ rfl)) (out_Raw _ (outText (outNum (outText (outText (outNum (outNum (⟨[], 0⟩ : Out) d.kind 1) d.tick 8) d.bind.shop) d.bind.to) (bitN d.bind.up) 1) d.bind.key) (headBytes d.bind.want) (by first | omega | (have := hrl (by assumption); omega) | (simp [outNum, outRaw, numB_len, numK] <;> omega) | (have := hrl (by assumption); simp [outNum, outRaw, numB_len, numK] <;> omega))) (en_f cb89 rfl) ?_
    refine vw_q 16 rfl (by kernel_rfl) (by repeat (first | exact lle_l0 | exact LLe.refl _ | exact lle_none | refine lle_up ?_ rfl)) (fun _ _ hh hl => lo_fieldAddr rfl fl104_5) ?_
    refine vw_q 17 rfl (by kernel_rfl) (by repeat (first | exact lle_l0 | exact LLe.refl _ | exact lle_none | refine lle_up ?_ rfl)) (fun _ _ hh hl => lo_load1 (i := 2) (v := .bool _) rfl ag4 (hl _ _ rfl) rfl) ?_
    have := bitN_r d.bind.all
    refine vw_qc 18 rfl (by kernel_rfl) (by repeat (first | exact lle_l0 | exact LLe.refl _ | exact lle_none | refine lle_up ?_ rfl)) (deed_bit _ d.bind.all) (en_f cb103 rfl) ?_
    have := outNum_len (outRaw (outText (outNum (outText (outText (outNum (outNum (⟨[], 0⟩ : Out) d.kind 1) d.tick 8) d.bind.shop) d.bind.to) (bitN d.bind.up) 1) d.bind.key) (headBytes d.bind.want)) (bitN d.bind.all) 1
    refine vw_qc 19 rfl (by kernel_rfl) (by repeat (first | exact lle_l0 | exact LLe.refl _ | exact lle_none | refine lle_up ?_ rfl)) (out_Num _ (outRaw (outText (outNum (outText (outText (outNum (outNum (⟨[], 0⟩ : Out) d.kind 1) d.tick 8) d.bind.shop) d.bind.to) (bitN d.bind.up) 1) d.bind.key) (headBytes d.bind.want)) (bitN d.bind.all) (by omega) 1 (by omega) (by first | omega | (have := hrl (by assumption); omega) | (simp [outNum, outRaw, numB_len, numK] <;> omega) | (have := hrl (by assumption); simp [outNum, outRaw, numB_len, numK] <;> omega))) (en_f cb90 rfl) ?_
    refine vw_t 20 rfl (by kernel_rfl) (by kernel_rfl) (op1_storeAll (i := 1) (vs := [_, _]) rfl rfl rfl sz157 rfl rfl rfl ?_)
    refine vw_done (by kernel_rfl) (blkK_n (seqK_n (cw_seq (cw_region (ol rfl (lo_loadA (i := 1) (vs := [_, _]) rfl ag157 sz157 rfl rfl rfl) ?_)))))
    refine ow1 (op1_pr (out_String _ (outNum (outRaw (outText (outNum (outText (outText (outNum (outNum (⟨[], 0⟩ : Out) d.kind 1) d.tick 8) d.bind.shop) d.bind.to) (bitN d.bind.up) 1) d.bind.key) (headBytes d.bind.want)) (bitN d.bind.all) 1)) (en_f cb91 rfl) rfl ?_)
    refine ol rfl (lo_assign (v := str _) rfl) (oai rfl rfl (ow_nil (seqK_n (cw_ret (fnK_r (res2 rfl (rv_t (v := str _) rfl) (rv_t (v := .int _ _) rfl)) (.refl _) ?_)))))
    have e : deedBytes d = (outNum (outRaw (outText (outNum (outText (outText (outNum (outNum (⟨[], 0⟩ : Out) d.kind 1) d.tick 8) d.bind.shop) d.bind.to) (bitN d.bind.up) 1) d.bind.key) (headBytes d.bind.want)) (bitN d.bind.all) 1).s := by
      unfold deedBytes
      first
        | (rw [if_neg (by assumption)]; done)
        | (rw [if_pos (by assumption)]; unfold deedOut; (repeat (first | rw [if_pos (by omega)] | rw [if_neg (by omega)] | rw [if_pos (by assumption)] | rw [if_neg (by assumption)] | rw [if_neg (fun q => q (by assumption))])); first | done | rfl)
    rw [e]
    try (rw [show deedE d = 0 by assumption])
  have p17 := df h14
  refine cw_region (ol rfl (lo_eql rfl rfl) (oab rfl rfl (ow_nil (seqK_n (cw_cond rfl (fun h18 => ?_) (fun h18 => ?_))))))
  · have p19 := dt h18
    refine cw_seq (cw_region (ol rfl (lo_fieldAddr rfl fl106_4) (ol rfl (lo_loadA (i := 0) (vs := [_, _, _, _, _, _]) rfl ag104 sz104 rfl rfl rfl) (ow1 (op1_alloc 2 rfl zr104 (fun b20 => ?_))))))
    refine ow1 (op1_storeAll (i := 2) (vs := [_, _, _, _, _, _]) rfl rfl rfl sz104 rfl rfl rfl ?_)
    refine ow_nil (seqK_n (cw_seq (cw_region (ol rfl (lo_fieldAddr rfl fl104_4) (ol rfl (lo_load1 (i := 2) (v := .slice _ _ _) rfl ag40 rfl rfl) ?_)))))
    refine ow1 (op1_pr (head_Bytes _ d_bind_want_a d.bind.want.length d_bind_want_c d.bind.want d_bind_want_h (by first | omega | (simp <;> omega))) (en_f cb88 rfl) rfl ?_)
    have := headBytes_len d.bind.want
    refine ol rfl (lo_move (v := .tuple #[_, _]) rfl) (ol rfl (lo_extract (v := str _) rfl rfl) (ol rfl (lo_extract (v := .int _ _) rfl rfl) (ol rfl (lo_assign (v := str _) rfl) (oai rfl rfl (ow_nil ?_)))))
    refine seqK_n (cw_anyL mixd (vw_q 0 rfl (by kernel_rfl) (by repeat (first | exact lle_l0 | exact LLe.refl _ | exact lle_none | refine lle_up ?_ rfl)) (fun _ _ hh hl => lo_loadA (i := 1) (vs := [_, _]) rfl ag157 sz157 (hl _ _ rfl) rfl rfl) ?_))
    refine vw_q 1 rfl (by kernel_rfl) (by repeat (first | exact lle_l0 | exact LLe.refl _ | exact lle_none | refine lle_up ?_ rfl)) (fun _ _ hh hl => lo_fieldAddr rfl fl104_0) ?_
    refine vw_q 2 rfl (by kernel_rfl) (by repeat (first | exact lle_l0 | exact LLe.refl _ | exact lle_none | refine lle_up ?_ rfl)) (fun _ _ hh hl => lo_load1 (i := 2) (v := str _) rfl ag9 (hl _ _ rfl) rfl) ?_
    have := outText_len (outNum (outNum (⟨[], 0⟩ : Out) d.kind 1) d.tick 8) d.bind.shop
    refine vw_qc 3 rfl (by kernel_rfl) (by repeat (first | exact lle_l0 | exact LLe.refl _ | exact lle_none | refine lle_up ?_ rfl)) (out_Text _ (outNum (outNum (⟨[], 0⟩ : Out) d.kind 1) d.tick 8) d.bind.shop (by first | omega | (have := hrl (by assumption); omega) | (simp [outNum, outRaw, numB_len, numK] <;> omega) | (have := hrl (by assumption); simp [outNum, outRaw, numB_len, numK] <;> omega))) (en_f cb87 rfl) ?_
    refine vw_q 4 rfl (by kernel_rfl) (by repeat (first | exact lle_l0 | exact LLe.refl _ | exact lle_none | refine lle_up ?_ rfl)) (fun _ _ hh hl => lo_fieldAddr rfl fl104_1) ?_
    refine vw_q 5 rfl (by kernel_rfl) (by repeat (first | exact lle_l0 | exact LLe.refl _ | exact lle_none | refine lle_up ?_ rfl)) (fun _ _ hh hl => lo_load1 (i := 2) (v := str _) rfl ag9 (hl _ _ rfl) rfl) ?_
    have := outText_len (outText (outNum (outNum (⟨[], 0⟩ : Out) d.kind 1) d.tick 8) d.bind.shop) d.bind.to
    refine vw_qc 6 rfl (by kernel_rfl) (by repeat (first | exact lle_l0 | exact LLe.refl _ | exact lle_none | refine lle_up ?_ rfl)) (out_Text _ (outText (outNum (outNum (⟨[], 0⟩ : Out) d.kind 1) d.tick 8) d.bind.shop) d.bind.to (by first | omega | (have := hrl (by assumption); omega) | (simp [outNum, outRaw, numB_len, numK] <;> omega) | (have := hrl (by assumption); simp [outNum, outRaw, numB_len, numK] <;> omega))) (en_f cb87 rfl) ?_
    refine vw_q 7 rfl (by kernel_rfl) (by repeat (first | exact lle_l0 | exact LLe.refl _ | exact lle_none | refine lle_up ?_ rfl)) (fun _ _ hh hl => lo_fieldAddr rfl fl104_2) ?_
    refine vw_q 8 rfl (by kernel_rfl) (by repeat (first | exact lle_l0 | exact LLe.refl _ | exact lle_none | refine lle_up ?_ rfl)) (fun _ _ hh hl => lo_load1 (i := 2) (v := .bool _) rfl ag4 (hl _ _ rfl) rfl) ?_
    have := bitN_r d.bind.up
    refine vw_qc 9 rfl (by kernel_rfl) (by repeat (first | exact lle_l0 | exact LLe.refl _ | exact lle_none | refine lle_up ?_ rfl)) (deed_bit _ d.bind.up) (en_f cb103 rfl) ?_
    have := outNum_len (outText (outText (outNum (outNum (⟨[], 0⟩ : Out) d.kind 1) d.tick 8) d.bind.shop) d.bind.to) (bitN d.bind.up) 1
    refine vw_qc 10 rfl (by kernel_rfl) (by repeat (first | exact lle_l0 | exact LLe.refl _ | exact lle_none | refine lle_up ?_ rfl)) (out_Num _ (outText (outText (outNum (outNum (⟨[], 0⟩ : Out) d.kind 1) d.tick 8) d.bind.shop) d.bind.to) (bitN d.bind.up) (by omega) 1 (by omega) (by first | omega | (have := hrl (by assumption); omega) | (simp [outNum, outRaw, numB_len, numK] <;> omega) | (have := hrl (by assumption); simp [outNum, outRaw, numB_len, numK] <;> omega))) (en_f cb90 rfl) ?_
    refine vw_q 11 rfl (by kernel_rfl) (by repeat (first | exact lle_l0 | exact LLe.refl _ | exact lle_none | refine lle_up ?_ rfl)) (fun _ _ hh hl => lo_fieldAddr rfl fl104_3) ?_
    refine vw_q 12 rfl (by kernel_rfl) (by repeat (first | exact lle_l0 | exact LLe.refl _ | exact lle_none | refine lle_up ?_ rfl)) (fun _ _ hh hl => lo_load1 (i := 2) (v := str _) rfl ag9 (hl _ _ rfl) rfl) ?_
    have := outText_len (outNum (outText (outText (outNum (outNum (⟨[], 0⟩ : Out) d.kind 1) d.tick 8) d.bind.shop) d.bind.to) (bitN d.bind.up) 1) d.bind.key
    refine vw_qc 13 rfl (by kernel_rfl) (by repeat (first | exact lle_l0 | exact LLe.refl _ | exact lle_none | refine lle_up ?_ rfl)) (out_Text _ (outNum (outText (outText (outNum (outNum (⟨[], 0⟩ : Out) d.kind 1) d.tick 8) d.bind.shop) d.bind.to) (bitN d.bind.up) 1) d.bind.key (by first | omega | (have := hrl (by assumption); omega) | (simp [outNum, outRaw, numB_len, numK] <;> omega) | (have := hrl (by assumption); simp [outNum, outRaw, numB_len, numK] <;> omega))) (en_f cb87 rfl) ?_
    refine vw_q 14 rfl (by kernel_rfl) (by repeat (first | exact lle_l0 | exact LLe.refl _ | exact lle_none | refine lle_up ?_ rfl)) (fun _ _ hh hl => lo_move (v := str _) rfl) ?_
    have := outRaw_len (outText (outNum (outText (outText (outNum (outNum (⟨[], 0⟩ : Out) d.kind 1) d.tick 8) d.bind.shop) d.bind.to) (bitN d.bind.up) 1) d.bind.key) (headBytes d.bind.want)
    refine vw_qc 15 rfl (by kernel_rfl) (by repeat (first | exact lle_l0 | exact LLe.refl _ | exact lle_none | refine lle_up ?_ rfl)) (out_Raw _ (outText (outNum (outText (outText (outNum (outNum (⟨[], 0⟩ : Out) d.kind 1) d.tick 8) d.bind.shop) d.bind.to) (bitN d.bind.up) 1) d.bind.key) (headBytes d.bind.want) (by first | omega | (have := hrl (by assumption); omega) | (simp [outNum, outRaw, numB_len, numK] <;> omega) | (have := hrl (by assumption); simp [outNum, outRaw, numB_len, numK] <;> omega))) (en_f cb89 rfl) ?_
    refine vw_q 16 rfl (by kernel_rfl) (by repeat (first | exact lle_l0 | exact LLe.refl _ | exact lle_none | refine lle_up ?_ rfl)) (fun _ _ hh hl => lo_fieldAddr rfl fl104_5) ?_
    refine vw_q 17 rfl (by kernel_rfl) (by repeat (first | exact lle_l0 | exact LLe.refl _ | exact lle_none | refine lle_up ?_ rfl)) (fun _ _ hh hl => lo_load1 (i := 2) (v := .bool _) rfl ag4 (hl _ _ rfl) rfl) ?_
    have := bitN_r d.bind.all
    refine vw_qc 18 rfl (by kernel_rfl) (by repeat (first | exact lle_l0 | exact LLe.refl _ | exact lle_none | refine lle_up ?_ rfl)) (deed_bit _ d.bind.all) (en_f cb103 rfl) ?_
    have := outNum_len (outRaw (outText (outNum (outText (outText (outNum (outNum (⟨[], 0⟩ : Out) d.kind 1) d.tick 8) d.bind.shop) d.bind.to) (bitN d.bind.up) 1) d.bind.key) (headBytes d.bind.want)) (bitN d.bind.all) 1
    refine vw_qc 19 rfl (by kernel_rfl) (by repeat (first | exact lle_l0 | exact LLe.refl _ | exact lle_none | refine lle_up ?_ rfl)) (out_Num _ (outRaw (outText (outNum (outText (outText (outNum (outNum (⟨[], 0⟩ : Out) d.kind 1) d.tick 8) d.bind.shop) d.bind.to) (bitN d.bind.up) 1) d.bind.key) (headBytes d.bind.want)) (bitN d.bind.all) (by omega) 1 (by omega) (by first | omega | (have := hrl (by assumption); omega) | (simp [outNum, outRaw, numB_len, numK] <;> omega) | (have := hrl (by assumption); simp [outNum, outRaw, numB_len, numK] <;> omega))) (en_f cb90 rfl) ?_
    refine vw_t 20 rfl (by kernel_rfl) (by kernel_rfl) (op1_storeAll (i := 1) (vs := [_, _]) rfl rfl rfl sz157 rfl rfl rfl ?_)
    refine vw_done (by kernel_rfl) (blkK_n (seqK_n (cw_seq (cw_region (ol rfl (lo_loadA (i := 1) (vs := [_, _]) rfl ag157 sz157 rfl rfl rfl) ?_)))))
    refine ow1 (op1_pr (out_String _ (outNum (outRaw (outText (outNum (outText (outText (outNum (outNum (⟨[], 0⟩ : Out) d.kind 1) d.tick 8) d.bind.shop) d.bind.to) (bitN d.bind.up) 1) d.bind.key) (headBytes d.bind.want)) (bitN d.bind.all) 1)) (en_f cb91 rfl) rfl ?_)
    refine ol rfl (lo_assign (v := str _) rfl) (oai rfl rfl (ow_nil (seqK_n (cw_ret (fnK_r (res2 rfl (rv_t (v := str _) rfl) (rv_t (v := .int _ _) rfl)) (.refl _) ?_)))))
    have e : deedBytes d = (outNum (outRaw (outText (outNum (outText (outText (outNum (outNum (⟨[], 0⟩ : Out) d.kind 1) d.tick 8) d.bind.shop) d.bind.to) (bitN d.bind.up) 1) d.bind.key) (headBytes d.bind.want)) (bitN d.bind.all) 1).s := by
      unfold deedBytes
      first
        | (rw [if_neg (by assumption)]; done)
        | (rw [if_pos (by assumption)]; unfold deedOut; (repeat (first | rw [if_pos (by omega)] | rw [if_neg (by omega)] | rw [if_pos (by assumption)] | rw [if_neg (by assumption)] | rw [if_neg (fun q => q (by assumption))])); first | done | rfl)
    rw [e]
    try (rw [show deedE d = 0 by assumption])
  have p21 := df h18
  refine cw_seq (cw_region (ol rfl (lo_eql rfl rfl) (oab rfl rfl (ow_nil (seqK_n ?_)))))
  refine cw_cond rfl (fun h22 => ?_) (fun h22 => ?_)
  · have p23 := dt h22
    refine cw_region (ol rfl (lo_loadA (i := 1) (vs := [_, _]) rfl ag157 sz157 rfl rfl rfl) (ol rfl (lo_move (v := str _) rfl) ?_))
    refine ow1 (op1_pr (out_Raw _ (outNum (outNum (⟨[], 0⟩ : Out) d.kind 1) d.tick 8) (mailBytes d.mail) (by first | omega | (have := hrl (by assumption); omega) | (simp [outNum, outRaw, numB_len, numK] <;> omega) | (have := hrl (by assumption); simp [outNum, outRaw, numB_len, numK] <;> omega))) (en_f cb89 rfl) rfl ?_)
    have := outRaw_len (outNum (outNum (⟨[], 0⟩ : Out) d.kind 1) d.tick 8) (mailBytes d.mail)
    refine ow1 (op1_storeAll (i := 1) (vs := [_, _]) rfl rfl rfl sz157 rfl rfl rfl ?_)
    refine ow_nil (blkK_n (seqK_n (cw_seq (cw_region (ol rfl (lo_loadA (i := 1) (vs := [_, _]) rfl ag157 sz157 rfl rfl rfl) ?_)))))
    refine ow1 (op1_pr (out_String _ (outRaw (outNum (outNum (⟨[], 0⟩ : Out) d.kind 1) d.tick 8) (mailBytes d.mail))) (en_f cb91 rfl) rfl ?_)
    refine ol rfl (lo_assign (v := str _) rfl) (oai rfl rfl (ow_nil (seqK_n (cw_ret (fnK_r (res2 rfl (rv_t (v := str _) rfl) (rv_t (v := .int _ _) rfl)) (.refl _) ?_)))))
    have e : deedBytes d = (outRaw (outNum (outNum (⟨[], 0⟩ : Out) d.kind 1) d.tick 8) (mailBytes d.mail)).s := by
      unfold deedBytes
      first
        | (rw [if_neg (by assumption)]; done)
        | (rw [if_pos (by assumption)]; unfold deedOut; (repeat (first | rw [if_pos (by omega)] | rw [if_neg (by omega)] | rw [if_pos (by assumption)] | rw [if_neg (by assumption)] | rw [if_neg (fun q => q (by assumption))])); first | done | rfl)
    rw [e]
    try (rw [show deedE d = 0 by assumption])
  have p24 := df h22
  refine cw_seq (cw_seq (cw_region (ol rfl (lo_eql rfl rfl) (oab rfl rfl (ow_nil ?_)))))
  refine seqK_n (cw_cond rfl (fun h25 => ?_) (fun h25 => ?_))
  · have p26 := dt h25
    refine cw_skip (seqK_n (cw_cond_t rfl h25 (cw_region (ol rfl (lo_loadA (i := 1) (vs := [_, _]) rfl ag157 sz157 rfl rfl rfl) (ol rfl (lo_fieldAddr rfl fl106_5) ?_)))))
    refine ol rfl (lo_load1 (i := 0) (v := str _) rfl ag9 rfl rfl) ?_
    refine ow1 (op1_pr (out_Text _ (outNum (outNum (⟨[], 0⟩ : Out) d.kind 1) d.tick 8) d.name (by first | omega | (have := hrl (by assumption); omega) | (simp [outNum, outRaw, numB_len, numK] <;> omega) | (have := hrl (by assumption); simp [outNum, outRaw, numB_len, numK] <;> omega))) (en_f cb87 rfl) rfl ?_)
    have := outText_len (outNum (outNum (⟨[], 0⟩ : Out) d.kind 1) d.tick 8) d.name
    refine ow1 (op1_storeAll (i := 1) (vs := [_, _]) rfl rfl rfl sz157 rfl rfl rfl ?_)
    refine ow_nil (blkK_n (seqK_n (cw_seq (cw_region (ol rfl (lo_loadA (i := 1) (vs := [_, _]) rfl ag157 sz157 rfl rfl rfl) ?_)))))
    refine ow1 (op1_pr (out_String _ (outText (outNum (outNum (⟨[], 0⟩ : Out) d.kind 1) d.tick 8) d.name)) (en_f cb91 rfl) rfl ?_)
    refine ol rfl (lo_assign (v := str _) rfl) (oai rfl rfl (ow_nil (seqK_n (cw_ret (fnK_r (res2 rfl (rv_t (v := str _) rfl) (rv_t (v := .int _ _) rfl)) (.refl _) ?_)))))
    have e : deedBytes d = (outText (outNum (outNum (⟨[], 0⟩ : Out) d.kind 1) d.tick 8) d.name).s := by
      unfold deedBytes
      first
        | (rw [if_neg (by assumption)]; done)
        | (rw [if_pos (by assumption)]; unfold deedOut; (repeat (first | rw [if_pos (by omega)] | rw [if_neg (by omega)] | rw [if_pos (by assumption)] | rw [if_neg (by assumption)] | rw [if_neg (fun q => q (by assumption))])); first | done | rfl)
    rw [e]
    try (rw [show deedE d = 0 by assumption])
  have p27 := df h25
  refine cw_seq (cw_region (ol rfl (lo_eql rfl rfl) (oab rfl rfl (ow_nil (seqK_n ?_)))))
  refine cw_cond rfl (fun h28 => ?_) (fun h28 => ?_)
  · have p29 := dt h28
    refine cw_skip (seqK_n (cw_cond_t rfl h28 (cw_region (ol rfl (lo_loadA (i := 1) (vs := [_, _]) rfl ag157 sz157 rfl rfl rfl) (ol rfl (lo_fieldAddr rfl fl106_5) ?_)))))
    refine ol rfl (lo_load1 (i := 0) (v := str _) rfl ag9 rfl rfl) ?_
    refine ow1 (op1_pr (out_Text _ (outNum (outNum (⟨[], 0⟩ : Out) d.kind 1) d.tick 8) d.name (by first | omega | (have := hrl (by assumption); omega) | (simp [outNum, outRaw, numB_len, numK] <;> omega) | (have := hrl (by assumption); simp [outNum, outRaw, numB_len, numK] <;> omega))) (en_f cb87 rfl) rfl ?_)
    have := outText_len (outNum (outNum (⟨[], 0⟩ : Out) d.kind 1) d.tick 8) d.name
    refine ow1 (op1_storeAll (i := 1) (vs := [_, _]) rfl rfl rfl sz157 rfl rfl rfl ?_)
    refine ow_nil (blkK_n (seqK_n (cw_seq (cw_region (ol rfl (lo_loadA (i := 1) (vs := [_, _]) rfl ag157 sz157 rfl rfl rfl) ?_)))))
    refine ow1 (op1_pr (out_String _ (outText (outNum (outNum (⟨[], 0⟩ : Out) d.kind 1) d.tick 8) d.name)) (en_f cb91 rfl) rfl ?_)
    refine ol rfl (lo_assign (v := str _) rfl) (oai rfl rfl (ow_nil (seqK_n (cw_ret (fnK_r (res2 rfl (rv_t (v := str _) rfl) (rv_t (v := .int _ _) rfl)) (.refl _) ?_)))))
    have e : deedBytes d = (outText (outNum (outNum (⟨[], 0⟩ : Out) d.kind 1) d.tick 8) d.name).s := by
      unfold deedBytes
      first
        | (rw [if_neg (by assumption)]; done)
        | (rw [if_pos (by assumption)]; unfold deedOut; (repeat (first | rw [if_pos (by omega)] | rw [if_neg (by omega)] | rw [if_pos (by assumption)] | rw [if_neg (by assumption)] | rw [if_neg (fun q => q (by assumption))])); first | done | rfl)
    rw [e]
    try (rw [show deedE d = 0 by assumption])
  have p30 := df h28
  refine cw_region (ol rfl (lo_eql rfl rfl) (oab rfl rfl (ow_nil (seqK_n (cw_cond rfl (fun h31 => ?_) (fun h31 => ?_))))))
  · have p32 := dt h31
    refine cw_region (ol rfl (lo_loadA (i := 1) (vs := [_, _]) rfl ag157 sz157 rfl rfl rfl) (ol rfl (lo_fieldAddr rfl fl106_5) (ol rfl (lo_load1 (i := 0) (v := str _) rfl ag9 rfl rfl) ?_)))
    refine ow1 (op1_pr (out_Text _ (outNum (outNum (⟨[], 0⟩ : Out) d.kind 1) d.tick 8) d.name (by first | omega | (have := hrl (by assumption); omega) | (simp [outNum, outRaw, numB_len, numK] <;> omega) | (have := hrl (by assumption); simp [outNum, outRaw, numB_len, numK] <;> omega))) (en_f cb87 rfl) rfl ?_)
    have := outText_len (outNum (outNum (⟨[], 0⟩ : Out) d.kind 1) d.tick 8) d.name
    refine ow1 (op1_storeAll (i := 1) (vs := [_, _]) rfl rfl rfl sz157 rfl rfl rfl ?_)
    refine ow_nil (blkK_n (seqK_n (cw_seq (cw_region (ol rfl (lo_loadA (i := 1) (vs := [_, _]) rfl ag157 sz157 rfl rfl rfl) ?_)))))
    refine ow1 (op1_pr (out_String _ (outText (outNum (outNum (⟨[], 0⟩ : Out) d.kind 1) d.tick 8) d.name)) (en_f cb91 rfl) rfl ?_)
    refine ol rfl (lo_assign (v := str _) rfl) (oai rfl rfl (ow_nil (seqK_n (cw_ret (fnK_r (res2 rfl (rv_t (v := str _) rfl) (rv_t (v := .int _ _) rfl)) (.refl _) ?_)))))
    have e : deedBytes d = (outText (outNum (outNum (⟨[], 0⟩ : Out) d.kind 1) d.tick 8) d.name).s := by
      unfold deedBytes
      first
        | (rw [if_neg (by assumption)]; done)
        | (rw [if_pos (by assumption)]; unfold deedOut; (repeat (first | rw [if_pos (by omega)] | rw [if_neg (by omega)] | rw [if_pos (by assumption)] | rw [if_neg (by assumption)] | rw [if_neg (fun q => q (by assumption))])); first | done | rfl)
    rw [e]
    try (rw [show deedE d = 0 by assumption])
  have p33 := df h31
  refine cw_seq (cw_region (ol rfl (lo_eql rfl rfl) (oab rfl rfl (ow_nil (seqK_n ?_)))))
  refine cw_cond rfl (fun h34 => ?_) (fun h34 => ?_)
  · have p35 := dt h34
    refine cw_anyL mixd (vw_q 0 rfl (by kernel_rfl) (by repeat (first | exact lle_l0 | exact LLe.refl _ | exact lle_none | refine lle_up ?_ rfl)) (fun _ _ hh hl => lo_loadA (i := 1) (vs := [_, _]) rfl ag157 sz157 (hl _ _ rfl) rfl rfl) ?_)
    refine vw_q 1 rfl (by kernel_rfl) (by repeat (first | exact lle_l0 | exact LLe.refl _ | exact lle_none | refine lle_up ?_ rfl)) (fun _ _ hh hl => lo_fieldAddr rfl fl106_5) ?_
    refine vw_q 2 rfl (by kernel_rfl) (by repeat (first | exact lle_l0 | exact LLe.refl _ | exact lle_none | refine lle_up ?_ rfl)) (fun _ _ hh hl => lo_load1 (i := 0) (v := str _) rfl ag9 (hl _ _ rfl) rfl) ?_
    have := outText_len (outNum (outNum (⟨[], 0⟩ : Out) d.kind 1) d.tick 8) d.name
    refine vw_qc 3 rfl (by kernel_rfl) (by repeat (first | exact lle_l0 | exact LLe.refl _ | exact lle_none | refine lle_up ?_ rfl)) (out_Text _ (outNum (outNum (⟨[], 0⟩ : Out) d.kind 1) d.tick 8) d.name (by first | omega | (have := hrl (by assumption); omega) | (simp [outNum, outRaw, numB_len, numK] <;> omega) | (have := hrl (by assumption); simp [outNum, outRaw, numB_len, numK] <;> omega))) (en_f cb87 rfl) ?_
    refine vw_q 4 rfl (by kernel_rfl) (by repeat (first | exact lle_l0 | exact LLe.refl _ | exact lle_none | refine lle_up ?_ rfl)) (fun _ _ hh hl => lo_fieldAddr rfl fl106_6) ?_
    refine vw_q 5 rfl (by kernel_rfl) (by repeat (first | exact lle_l0 | exact LLe.refl _ | exact lle_none | refine lle_up ?_ rfl)) (fun _ _ hh hl => lo_load1 (i := 0) (v := .int _ _) rfl ag39 (hl _ _ rfl) rfl) ?_
    have := outNum_len (outText (outNum (outNum (⟨[], 0⟩ : Out) d.kind 1) d.tick 8) d.name) d.id 8
    refine vw_qc 6 rfl (by kernel_rfl) (by repeat (first | exact lle_l0 | exact LLe.refl _ | exact lle_none | refine lle_up ?_ rfl)) (out_Num _ (outText (outNum (outNum (⟨[], 0⟩ : Out) d.kind 1) d.tick 8) d.name) d.id (by omega) 8 (by omega) (by first | omega | (have := hrl (by assumption); omega) | (simp [outNum, outRaw, numB_len, numK] <;> omega) | (have := hrl (by assumption); simp [outNum, outRaw, numB_len, numK] <;> omega))) (en_f cb90 rfl) ?_
    refine vw_q 7 rfl (by kernel_rfl) (by repeat (first | exact lle_l0 | exact LLe.refl _ | exact lle_none | refine lle_up ?_ rfl)) (fun _ _ hh hl => lo_fieldAddr rfl fl106_7) ?_
    refine vw_q 8 rfl (by kernel_rfl) (by repeat (first | exact lle_l0 | exact LLe.refl _ | exact lle_none | refine lle_up ?_ rfl)) (fun _ _ hh hl => lo_load1 (i := 0) (v := .int _ _) rfl ag5 (hl _ _ rfl) rfl) ?_
    refine vw_q 9 rfl (by kernel_rfl) (by repeat (first | exact lle_l0 | exact LLe.refl _ | exact lle_none | refine lle_up ?_ rfl)) (fun _ _ hh hl => lo_conv_in rfl (by rw [Tryz.underlying5]; rfl) Tryz.underlying39 (rg_u64 (by omega))) ?_
    have := outNum_len (outNum (outText (outNum (outNum (⟨[], 0⟩ : Out) d.kind 1) d.tick 8) d.name) d.id 8) d.how 1
    refine vw_qc 10 rfl (by kernel_rfl) (by repeat (first | exact lle_l0 | exact LLe.refl _ | exact lle_none | refine lle_up ?_ rfl)) (out_Num _ (outNum (outText (outNum (outNum (⟨[], 0⟩ : Out) d.kind 1) d.tick 8) d.name) d.id 8) d.how (by omega) 1 (by omega) (by first | omega | (have := hrl (by assumption); omega) | (simp [outNum, outRaw, numB_len, numK] <;> omega) | (have := hrl (by assumption); simp [outNum, outRaw, numB_len, numK] <;> omega))) (en_f cb90 rfl) ?_
    refine vw_t 11 rfl (by kernel_rfl) (by kernel_rfl) (op1_storeAll (i := 1) (vs := [_, _]) rfl rfl rfl sz157 rfl rfl rfl ?_)
    refine vw_done (by kernel_rfl) (blkK_n (seqK_n (cw_seq (cw_region (ol rfl (lo_loadA (i := 1) (vs := [_, _]) rfl ag157 sz157 rfl rfl rfl) ?_)))))
    refine ow1 (op1_pr (out_String _ (outNum (outNum (outText (outNum (outNum (⟨[], 0⟩ : Out) d.kind 1) d.tick 8) d.name) d.id 8) d.how 1)) (en_f cb91 rfl) rfl ?_)
    refine ol rfl (lo_assign (v := str _) rfl) (oai rfl rfl (ow_nil (seqK_n (cw_ret (fnK_r (res2 rfl (rv_t (v := str _) rfl) (rv_t (v := .int _ _) rfl)) (.refl _) ?_)))))
    have e : deedBytes d = (outNum (outNum (outText (outNum (outNum (⟨[], 0⟩ : Out) d.kind 1) d.tick 8) d.name) d.id 8) d.how 1).s := by
      unfold deedBytes
      first
        | (rw [if_neg (by assumption)]; done)
        | (rw [if_pos (by assumption)]; unfold deedOut; (repeat (first | rw [if_pos (by omega)] | rw [if_neg (by omega)] | rw [if_pos (by assumption)] | rw [if_neg (by assumption)] | rw [if_neg (fun q => q (by assumption))])); first | done | rfl)
    rw [e]
    try (rw [show deedE d = 0 by assumption])
  have p36 := df h34
  refine cw_seq (cw_region (ol rfl (lo_eql rfl rfl) (oab rfl rfl (ow_nil (seqK_n ?_)))))
  refine cw_cond rfl (fun h37 => ?_) (fun h37 => ?_)
  · have p38 := dt h37
    refine cw_anyL mixd (vw_q 0 rfl (by kernel_rfl) (by repeat (first | exact lle_l0 | exact LLe.refl _ | exact lle_none | refine lle_up ?_ rfl)) (fun _ _ hh hl => lo_loadA (i := 1) (vs := [_, _]) rfl ag157 sz157 (hl _ _ rfl) rfl rfl) ?_)
    refine vw_q 1 rfl (by kernel_rfl) (by repeat (first | exact lle_l0 | exact LLe.refl _ | exact lle_none | refine lle_up ?_ rfl)) (fun _ _ hh hl => lo_fieldAddr rfl fl106_8) ?_
    refine vw_q 2 rfl (by kernel_rfl) (by repeat (first | exact lle_l0 | exact LLe.refl _ | exact lle_none | refine lle_up ?_ rfl)) (fun _ _ hh hl => lo_load1 (i := 0) (v := .int _ _) rfl ag5 (hl _ _ rfl) rfl) ?_
    refine vw_q 3 rfl (by kernel_rfl) (by repeat (first | exact lle_l0 | exact LLe.refl _ | exact lle_none | refine lle_up ?_ rfl)) (fun _ _ hh hl => lo_conv_in rfl (by rw [Tryz.underlying5]; rfl) Tryz.underlying39 (rg_u64 (by omega))) ?_
    have := outNum_len (outNum (outNum (⟨[], 0⟩ : Out) d.kind 1) d.tick 8) d.frm 1
    refine vw_qc 4 rfl (by kernel_rfl) (by repeat (first | exact lle_l0 | exact LLe.refl _ | exact lle_none | refine lle_up ?_ rfl)) (out_Num _ (outNum (outNum (⟨[], 0⟩ : Out) d.kind 1) d.tick 8) d.frm (by omega) 1 (by omega) (by first | omega | (have := hrl (by assumption); omega) | (simp [outNum, outRaw, numB_len, numK] <;> omega) | (have := hrl (by assumption); simp [outNum, outRaw, numB_len, numK] <;> omega))) (en_f cb90 rfl) ?_
    refine vw_q 5 rfl (by kernel_rfl) (by repeat (first | exact lle_l0 | exact LLe.refl _ | exact lle_none | refine lle_up ?_ rfl)) (fun _ _ hh hl => lo_fieldAddr rfl fl106_10) ?_
    refine vw_q 6 rfl (by kernel_rfl) (by repeat (first | exact lle_l0 | exact LLe.refl _ | exact lle_none | refine lle_up ?_ rfl)) (fun _ _ hh hl => lo_load1 (i := 0) (v := .int _ _) rfl ag39 (hl _ _ rfl) rfl) ?_
    have := outNum_len (outNum (outNum (outNum (⟨[], 0⟩ : Out) d.kind 1) d.tick 8) d.frm 1) d.number 8
    refine vw_qc 7 rfl (by kernel_rfl) (by repeat (first | exact lle_l0 | exact LLe.refl _ | exact lle_none | refine lle_up ?_ rfl)) (out_Num _ (outNum (outNum (outNum (⟨[], 0⟩ : Out) d.kind 1) d.tick 8) d.frm 1) d.number (by omega) 8 (by omega) (by first | omega | (have := hrl (by assumption); omega) | (simp [outNum, outRaw, numB_len, numK] <;> omega) | (have := hrl (by assumption); simp [outNum, outRaw, numB_len, numK] <;> omega))) (en_f cb90 rfl) ?_
    refine vw_q 8 rfl (by kernel_rfl) (by repeat (first | exact lle_l0 | exact LLe.refl _ | exact lle_none | refine lle_up ?_ rfl)) (fun _ _ hh hl => lo_move (v := str _) rfl) ?_
    have := outRaw_len (outNum (outNum (outNum (outNum (⟨[], 0⟩ : Out) d.kind 1) d.tick 8) d.frm 1) d.number 8) (mailBytes d.mail)
    refine vw_qc 9 rfl (by kernel_rfl) (by repeat (first | exact lle_l0 | exact LLe.refl _ | exact lle_none | refine lle_up ?_ rfl)) (out_Raw _ (outNum (outNum (outNum (outNum (⟨[], 0⟩ : Out) d.kind 1) d.tick 8) d.frm 1) d.number 8) (mailBytes d.mail) (by first | omega | (have := hrl (by assumption); omega) | (simp [outNum, outRaw, numB_len, numK] <;> omega) | (have := hrl (by assumption); simp [outNum, outRaw, numB_len, numK] <;> omega))) (en_f cb89 rfl) ?_
    refine vw_t 10 rfl (by kernel_rfl) (by kernel_rfl) (op1_storeAll (i := 1) (vs := [_, _]) rfl rfl rfl sz157 rfl rfl rfl ?_)
    refine vw_done (by kernel_rfl) (blkK_n (seqK_n (cw_seq (cw_region (ol rfl (lo_loadA (i := 1) (vs := [_, _]) rfl ag157 sz157 rfl rfl rfl) ?_)))))
    refine ow1 (op1_pr (out_String _ (outRaw (outNum (outNum (outNum (outNum (⟨[], 0⟩ : Out) d.kind 1) d.tick 8) d.frm 1) d.number 8) (mailBytes d.mail))) (en_f cb91 rfl) rfl ?_)
    refine ol rfl (lo_assign (v := str _) rfl) (oai rfl rfl (ow_nil (seqK_n (cw_ret (fnK_r (res2 rfl (rv_t (v := str _) rfl) (rv_t (v := .int _ _) rfl)) (.refl _) ?_)))))
    have e : deedBytes d = (outRaw (outNum (outNum (outNum (outNum (⟨[], 0⟩ : Out) d.kind 1) d.tick 8) d.frm 1) d.number 8) (mailBytes d.mail)).s := by
      unfold deedBytes
      first
        | (rw [if_neg (by assumption)]; done)
        | (rw [if_pos (by assumption)]; unfold deedOut; (repeat (first | rw [if_pos (by omega)] | rw [if_neg (by omega)] | rw [if_pos (by assumption)] | rw [if_neg (by assumption)] | rw [if_neg (fun q => q (by assumption))])); first | done | rfl)
    rw [e]
    try (rw [show deedE d = 0 by assumption])
  have p39 := df h37
  refine cw_seq (cw_region (ol rfl (lo_eql rfl rfl) (oab rfl rfl (ow_nil (seqK_n ?_)))))
  refine cw_cond rfl (fun h40 => ?_) (fun h40 => ?_)
  · have p41 := dt h40
    refine cw_anyL mixd (vw_q 0 rfl (by kernel_rfl) (by repeat (first | exact lle_l0 | exact LLe.refl _ | exact lle_none | refine lle_up ?_ rfl)) (fun _ _ hh hl => lo_loadA (i := 1) (vs := [_, _]) rfl ag157 sz157 (hl _ _ rfl) rfl rfl) ?_)
    refine vw_q 1 rfl (by kernel_rfl) (by repeat (first | exact lle_l0 | exact LLe.refl _ | exact lle_none | refine lle_up ?_ rfl)) (fun _ _ hh hl => lo_fieldAddr rfl fl106_9) ?_
    refine vw_q 2 rfl (by kernel_rfl) (by repeat (first | exact lle_l0 | exact LLe.refl _ | exact lle_none | refine lle_up ?_ rfl)) (fun _ _ hh hl => lo_load1 (i := 0) (v := .int _ _) rfl ag5 (hl _ _ rfl) rfl) ?_
    refine vw_q 3 rfl (by kernel_rfl) (by repeat (first | exact lle_l0 | exact LLe.refl _ | exact lle_none | refine lle_up ?_ rfl)) (fun _ _ hh hl => lo_conv_in rfl (by rw [Tryz.underlying5]; rfl) Tryz.underlying39 (rg_u64 (by omega))) ?_
    have := outNum_len (outNum (outNum (⟨[], 0⟩ : Out) d.kind 1) d.tick 8) d.code 1
    refine vw_qc 4 rfl (by kernel_rfl) (by repeat (first | exact lle_l0 | exact LLe.refl _ | exact lle_none | refine lle_up ?_ rfl)) (out_Num _ (outNum (outNum (⟨[], 0⟩ : Out) d.kind 1) d.tick 8) d.code (by omega) 1 (by omega) (by first | omega | (have := hrl (by assumption); omega) | (simp [outNum, outRaw, numB_len, numK] <;> omega) | (have := hrl (by assumption); simp [outNum, outRaw, numB_len, numK] <;> omega))) (en_f cb90 rfl) ?_
    refine vw_q 5 rfl (by kernel_rfl) (by repeat (first | exact lle_l0 | exact LLe.refl _ | exact lle_none | refine lle_up ?_ rfl)) (fun _ _ hh hl => lo_fieldAddr rfl fl106_12) ?_
    refine vw_q 6 rfl (by kernel_rfl) (by repeat (first | exact lle_l0 | exact LLe.refl _ | exact lle_none | refine lle_up ?_ rfl)) (fun _ _ hh hl => lo_load1 (i := 0) (v := str _) rfl ag9 (hl _ _ rfl) rfl) ?_
    have := outText_len (outNum (outNum (outNum (⟨[], 0⟩ : Out) d.kind 1) d.tick 8) d.code 1) d.text
    refine vw_qc 7 rfl (by kernel_rfl) (by repeat (first | exact lle_l0 | exact LLe.refl _ | exact lle_none | refine lle_up ?_ rfl)) (out_Text _ (outNum (outNum (outNum (⟨[], 0⟩ : Out) d.kind 1) d.tick 8) d.code 1) d.text (by first | omega | (have := hrl (by assumption); omega) | (simp [outNum, outRaw, numB_len, numK] <;> omega) | (have := hrl (by assumption); simp [outNum, outRaw, numB_len, numK] <;> omega))) (en_f cb87 rfl) ?_
    refine vw_t 8 rfl (by kernel_rfl) (by kernel_rfl) (op1_storeAll (i := 1) (vs := [_, _]) rfl rfl rfl sz157 rfl rfl rfl ?_)
    refine vw_done (by kernel_rfl) (blkK_n (seqK_n (cw_seq (cw_region (ol rfl (lo_loadA (i := 1) (vs := [_, _]) rfl ag157 sz157 rfl rfl rfl) ?_)))))
    refine ow1 (op1_pr (out_String _ (outText (outNum (outNum (outNum (⟨[], 0⟩ : Out) d.kind 1) d.tick 8) d.code 1) d.text)) (en_f cb91 rfl) rfl ?_)
    refine ol rfl (lo_assign (v := str _) rfl) (oai rfl rfl (ow_nil (seqK_n (cw_ret (fnK_r (res2 rfl (rv_t (v := str _) rfl) (rv_t (v := .int _ _) rfl)) (.refl _) ?_)))))
    have e : deedBytes d = (outText (outNum (outNum (outNum (⟨[], 0⟩ : Out) d.kind 1) d.tick 8) d.code 1) d.text).s := by
      unfold deedBytes
      first
        | (rw [if_neg (by assumption)]; done)
        | (rw [if_pos (by assumption)]; unfold deedOut; (repeat (first | rw [if_pos (by omega)] | rw [if_neg (by omega)] | rw [if_pos (by assumption)] | rw [if_neg (by assumption)] | rw [if_neg (fun q => q (by assumption))])); first | done | rfl)
    rw [e]
    try (rw [show deedE d = 0 by assumption])
  have p42 := df h40
  refine cw_skip (blkK_n (seqK_n (cw_seq (cw_region (ol rfl (lo_loadA (i := 1) (vs := [_, _]) rfl ag157 sz157 rfl rfl rfl) ?_)))))
  refine ow1 (op1_pr (out_String _ (outNum (outNum (⟨[], 0⟩ : Out) d.kind 1) d.tick 8)) (en_f cb91 rfl) rfl ?_)
  refine ol rfl (lo_assign (v := str _) rfl) (oai rfl rfl (ow_nil (seqK_n (cw_ret (fnK_r (res2 rfl (rv_t (v := str _) rfl) (rv_t (v := .int _ _) rfl)) (.refl _) ?_)))))
  have e : deedBytes d = (outNum (outNum (⟨[], 0⟩ : Out) d.kind 1) d.tick 8).s := by
    unfold deedBytes
    first
      | (rw [if_neg (by assumption)]; done)
      | (rw [if_pos (by assumption)]; unfold deedOut; (repeat (first | rw [if_pos (by omega)] | rw [if_neg (by omega)] | rw [if_pos (by assumption)] | rw [if_neg (by assumption)] | rw [if_neg (fun q => q (by assumption))])); first | done | rfl)
  rw [e]
  try (rw [show deedE d = 0 by assumption])
end Go.SW
set_option linter.unusedVariables false
set_option maxRecDepth 100000
set_option maxHeartbeats 4000000
namespace Go.SW
open Go.Proofs
theorem ag115 : Ag Tryz.prog 115 true := fun w => by kernel_rfl
theorem ag116 : Ag Tryz.prog 116 true := fun w => by kernel_rfl
theorem ag117 : Ag Tryz.prog 117 true := fun w => by kernel_rfl
theorem bd115  (w : World) : (Instr.build 115 #[]).run Tryz.prog w = .ok (.agg #[str [], .int .u8 0, str []]) w := by kernel_rfl
theorem bd116  (w : World) : (Instr.build 116 #[]).run Tryz.prog w = .ok (.agg #[str [], .int .u64 0, .int .u64 0, str []]) w := by kernel_rfl
theorem bd117  (w : World) : (Instr.build 117 #[]).run Tryz.prog w = .ok (.agg #[str [], str [], .bool false, str [], .slice none 0 0, .bool false]) w := by kernel_rfl
theorem bd42  (w : World) : (Instr.build 42 #[]).run Tryz.prog w = .ok (.agg #[.int .u64 0, str [], str [], .slice none 0 0, str [], .int .u64 0, .int .u8 0]) w := by kernel_rfl
theorem cb114 : Callable Tryz.prog 114 := callable_of Tryz.func114 (by kernel_rfl) (by kernel_rfl)
theorem cb119 : Callable Tryz.prog 119 := callable_of Tryz.func119 (by kernel_rfl) (by kernel_rfl)
theorem cb120 : Callable Tryz.prog 120 := callable_of Tryz.func120 (by kernel_rfl) (by kernel_rfl)
theorem eqr115 (p q : ShopR) (d : Nat) : EqV Tryz.prog (d + 1 + 1) 115 (.agg (ShopR.cells p).toArray) (.agg (ShopR.cells q).toArray) (decide (p = q)) :=
  EqV.to (eqv_agg Tryz.underlying115 (by kernel_rfl) (eqf_1 (by decide) ag9 rfl rfl (eqv_str Tryz.underlying9) (eqf_1 (by decide) ag5 rfl rfl (eqv_int Tryz.underlying5) (eqf_1 (by decide) ag9 rfl rfl (eqv_str Tryz.underlying9) eqf_nil)))) (by obtain ⟨a0, a1, a2⟩ := p; obtain ⟨b0, b1, b2⟩ := q; rw [Bool.eq_iff_iff]; simp)
theorem eqg115 : Tryz.prog.eqGuardType Tryz.prog.depth 115 = false := by kernel_rfl
theorem eqr116 (p q : QueueR) (d : Nat) : EqV Tryz.prog (d + 1 + 1) 116 (.agg (QueueR.cells p).toArray) (.agg (QueueR.cells q).toArray) (decide (p = q)) :=
  EqV.to (eqv_agg Tryz.underlying116 (by kernel_rfl) (eqf_1 (by decide) ag9 rfl rfl (eqv_str Tryz.underlying9) (eqf_1 (by decide) ag39 rfl rfl (eqv_int Tryz.underlying39) (eqf_1 (by decide) ag39 rfl rfl (eqv_int Tryz.underlying39) (eqf_1 (by decide) ag9 rfl rfl (eqv_str Tryz.underlying9) eqf_nil))))) (by obtain ⟨a0, a1, a2, a3⟩ := p; obtain ⟨b0, b1, b2, b3⟩ := q; rw [Bool.eq_iff_iff]; simp)
theorem eqg116 : Tryz.prog.eqGuardType Tryz.prog.depth 116 = false := by kernel_rfl
theorem fl117_0 : Fld Tryz.prog 117 0 0 := fun b o w => by kernel_rfl
theorem fl117_1 : Fld Tryz.prog 117 1 1 := fun b o w => by kernel_rfl
theorem fl117_2 : Fld Tryz.prog 117 2 2 := fun b o w => by kernel_rfl
theorem fl117_3 : Fld Tryz.prog 117 3 3 := fun b o w => by kernel_rfl
theorem fl117_4 : Fld Tryz.prog 117 4 4 := fun b o w => by kernel_rfl
theorem fl117_5 : Fld Tryz.prog 117 5 5 := fun b o w => by kernel_rfl
theorem fl119_0 : Fld Tryz.prog 119 0 0 := fun b o w => by kernel_rfl
theorem fl119_1 : Fld Tryz.prog 119 1 1 := fun b o w => by kernel_rfl
theorem fl119_10 : Fld Tryz.prog 119 10 20 := fun b o w => by kernel_rfl
theorem fl119_11 : Fld Tryz.prog 119 11 21 := fun b o w => by kernel_rfl
theorem fl119_12 : Fld Tryz.prog 119 12 28 := fun b o w => by kernel_rfl
theorem fl119_2 : Fld Tryz.prog 119 2 2 := fun b o w => by kernel_rfl
theorem fl119_3 : Fld Tryz.prog 119 3 5 := fun b o w => by kernel_rfl
theorem fl119_4 : Fld Tryz.prog 119 4 9 := fun b o w => by kernel_rfl
theorem fl119_5 : Fld Tryz.prog 119 5 15 := fun b o w => by kernel_rfl
theorem fl119_6 : Fld Tryz.prog 119 6 16 := fun b o w => by kernel_rfl
theorem fl119_7 : Fld Tryz.prog 119 7 17 := fun b o w => by kernel_rfl
theorem fl119_8 : Fld Tryz.prog 119 8 18 := fun b o w => by kernel_rfl
theorem fl119_9 : Fld Tryz.prog 119 9 19 := fun b o w => by kernel_rfl
theorem sz115 : Sz Tryz.prog 115 3 := fun w => by kernel_rfl
theorem sz116 : Sz Tryz.prog 116 4 := fun w => by kernel_rfl
theorem sz117 : Sz Tryz.prog 117 6 := fun w => by kernel_rfl
theorem r13_Same (H : Hp) (a : Mail) (a_head_a : Option Addr) (a_head_c : Nat) (a_head_h : SlH pairE 4 H (.slice a_head_a a.head.length a_head_c) a.head) (a_w : Mail.wf a) (b : Mail) (b_head_a : Option Addr) (b_head_c : Nat) (b_head_h : SlH pairE 4 H (.slice b_head_a b.head.length b_head_c) b.head) (b_w : Mail.wf b) : Pr Tryz.prog 120 #[.agg (Mail.cells a a_head_a a_head_c).toArray, .agg (Mail.cells b b_head_a b_head_c).toArray] H (.bool (decide (a = b))) := by
  refine pr_cw Tryz.func120 rfl Tryz.ntmps120 rfl (fun N => ?_)
  have a_w' := a_w
  simp only [Mail.wf] at a_w'
  have b_w' := b_w
  simp only [Mail.wf] at b_w'
  refine cw_seq (cw_region (ow1 (op1_box (cs := [_, _, _, _, _, _, _]) 0 rfl rfl (fun b1 => ?_))))
  refine ow1 (op1_box (cs := [_, _, _, _, _, _, _]) 1 rfl rfl (fun b2 => ?_))
  refine oab rfl rfl (ow_nil (seqK_n (cw_seq (cw_region (ol rfl (lo_fieldAddr rfl fl42_0) ?_)))))
  refine ol rfl (lo_load1 (i := 0) (v := .int _ _) rfl ag39 rfl rfl) (ol rfl (lo_fieldAddr rfl fl42_0) (ol rfl (lo_load1 (i := 1) (v := .int _ _) rfl ag39 rfl rfl) (ol rfl (lo_eql rfl rfl) (omb rfl rfl (gqt rfl rfl (fun hc => lo_fieldAddr rfl fl42_1) ?_)))))
  refine gqt rfl rfl (fun hc => lo_load1 (i := 0) (v := str _) (gvE rfl hc) ag9 rfl rfl) (gqt rfl rfl (fun hc => lo_fieldAddr rfl fl42_1) (gqt rfl rfl (fun hc => lo_load1 (i := 1) (v := str _) (gvE rfl hc) ag9 rfl rfl) (gqt rfl rfl (fun hc => lo_seql (gvE rfl hc) (gvE rfl hc)) (ol rfl (lo_pick_and rfl rfl rfl rfl) (omb rfl rfl ?_)))))
  refine gqt rfl rfl (fun hc => lo_fieldAddr rfl fl42_2) (gqt rfl rfl (fun hc => lo_load1 (i := 0) (v := str _) (gvE rfl hc) ag9 rfl rfl) (gqt rfl rfl (fun hc => lo_fieldAddr rfl fl42_2) (gqt rfl rfl (fun hc => lo_load1 (i := 1) (v := str _) (gvE rfl hc) ag9 rfl rfl) (gqt rfl rfl (fun hc => lo_seql (gvE rfl hc) (gvE rfl hc)) (ol rfl (lo_pick_and rfl rfl rfl rfl) ?_)))))
  refine omb rfl rfl (gqt rfl rfl (fun hc => lo_fieldAddr rfl fl42_3) (gqt rfl rfl (fun hc => lo_load1 (i := 0) (v := .slice _ _ _) (gvE rfl hc) ag40 rfl rfl) (gqt rfl rfl (fun hc => lo_fieldAddr rfl fl42_3) (gqt rfl rfl (fun hc => lo_load1 (i := 1) (v := .slice _ _ _) (gvE rfl hc) ag40 rfl rfl) (gpt rfl (fun hc => (r9_Same _ a_head_a a.head.length a_head_c a.head a_head_h b_head_a b.head.length b_head_c b.head b_head_h (by first | omega | (simp <;> omega)))) (fun hc => (en_f cb86 (evs1 (gvE rfl hc) (evs1 (gvE rfl hc) rfl)))) rfl ?_)))))
  refine ol rfl (lo_pick_and rfl rfl rfl rfl) (omb rfl rfl (gqt rfl rfl (fun hc => lo_fieldAddr rfl fl42_4) (gqt rfl rfl (fun hc => lo_load1 (i := 0) (v := str _) (gvE rfl hc) ag9 rfl rfl) (gqt rfl rfl (fun hc => lo_fieldAddr rfl fl42_4) (gqt rfl rfl (fun hc => lo_load1 (i := 1) (v := str _) (gvE rfl hc) ag9 rfl rfl) ?_)))))
  refine gqt rfl rfl (fun hc => lo_seql (gvE rfl hc) (gvE rfl hc)) (ol rfl (lo_pick_and rfl rfl rfl rfl) (omb rfl rfl (gqt rfl rfl (fun hc => lo_fieldAddr rfl fl42_5) (gqt rfl rfl (fun hc => lo_load1 (i := 0) (v := .int _ _) (gvE rfl hc) ag39 rfl rfl) (gqt rfl rfl (fun hc => lo_fieldAddr rfl fl42_5) ?_)))))
  refine gqt rfl rfl (fun hc => lo_load1 (i := 1) (v := .int _ _) (gvE rfl hc) ag39 rfl rfl) (gqt rfl rfl (fun hc => lo_eql (gvE rfl hc) (gvE rfl hc)) (ol rfl (lo_pick_and rfl rfl rfl rfl) (omb rfl rfl (gqt rfl rfl (fun hc => lo_fieldAddr rfl fl42_6) (gqt rfl rfl (fun hc => lo_load1 (i := 0) (v := .int _ _) (gvE rfl hc) ag5 rfl rfl) ?_)))))
  refine gqt rfl rfl (fun hc => lo_fieldAddr rfl fl42_6) (gqt rfl rfl (fun hc => lo_load1 (i := 1) (v := .int _ _) (gvE rfl hc) ag5 rfl rfl) (gqt rfl rfl (fun hc => lo_eql (gvE rfl hc) (gvE rfl hc)) (ol rfl (lo_pick_and rfl rfl rfl rfl) (oab rfl rfl (ow_nil ?_)))))
  refine seqK_n (cw_ret (fnK_r (res1 rfl (rv_t (v := .bool _) rfl)) (.refl _) ?_))
  exact congrArg Value.bool (by rw [Bool.eq_iff_iff]; first | (simp [Mail.eq_iff, and_assoc]; done) | (simp [Mail.eq_iff]; grind))
theorem r14_SameBind (H : Hp) (a : BindR) (a_want_a : Option Addr) (a_want_c : Nat) (a_want_h : SlH pairE 4 H (.slice a_want_a a.want.length a_want_c) a.want) (a_w : BindR.wf a) (b : BindR) (b_want_a : Option Addr) (b_want_c : Nat) (b_want_h : SlH pairE 4 H (.slice b_want_a b.want.length b_want_c) b.want) (b_w : BindR.wf b) : Pr Tryz.prog 119 #[.agg (BindR.cells a a_want_a a_want_c).toArray, .agg (BindR.cells b b_want_a b_want_c).toArray] H (.bool (decide (a = b))) := by
  refine pr_cw Tryz.func119 rfl Tryz.ntmps119 rfl (fun N => ?_)
  have a_w' := a_w
  simp only [BindR.wf] at a_w'
  have b_w' := b_w
  simp only [BindR.wf] at b_w'
  refine cw_seq (cw_region (ow1 (op1_box (cs := [_, _, _, _, _, _]) 0 rfl rfl (fun b1 => ?_))))
  refine ow1 (op1_box (cs := [_, _, _, _, _, _]) 1 rfl rfl (fun b2 => ?_))
  refine oab rfl rfl (ow_nil (seqK_n (cw_seq (cw_region (ol rfl (lo_fieldAddr rfl fl117_0) ?_)))))
  refine ol rfl (lo_load1 (i := 0) (v := str _) rfl ag9 rfl rfl) (ol rfl (lo_fieldAddr rfl fl117_0) (ol rfl (lo_load1 (i := 1) (v := str _) rfl ag9 rfl rfl) (ol rfl (lo_seql rfl rfl) (omb rfl rfl (gqt rfl rfl (fun hc => lo_fieldAddr rfl fl117_1) ?_)))))
  refine gqt rfl rfl (fun hc => lo_load1 (i := 0) (v := str _) (gvE rfl hc) ag9 rfl rfl) (gqt rfl rfl (fun hc => lo_fieldAddr rfl fl117_1) (gqt rfl rfl (fun hc => lo_load1 (i := 1) (v := str _) (gvE rfl hc) ag9 rfl rfl) (gqt rfl rfl (fun hc => lo_seql (gvE rfl hc) (gvE rfl hc)) (ol rfl (lo_pick_and rfl rfl rfl rfl) (omb rfl rfl ?_)))))
  refine gqt rfl rfl (fun hc => lo_fieldAddr rfl fl117_2) (gqt rfl rfl (fun hc => lo_load1 (i := 0) (v := .bool _) (gvE rfl hc) ag4 rfl rfl) (gqt rfl rfl (fun hc => lo_fieldAddr rfl fl117_2) (gqt rfl rfl (fun hc => lo_load1 (i := 1) (v := .bool _) (gvE rfl hc) ag4 rfl rfl) (gqt rfl rfl (fun hc => lo_beql (gvE rfl hc) (gvE rfl hc) Tryz.underlying4) (ol rfl (lo_pick_and rfl rfl rfl rfl) ?_)))))
  refine omb rfl rfl (gqt rfl rfl (fun hc => lo_fieldAddr rfl fl117_3) (gqt rfl rfl (fun hc => lo_load1 (i := 0) (v := str _) (gvE rfl hc) ag9 rfl rfl) (gqt rfl rfl (fun hc => lo_fieldAddr rfl fl117_3) (gqt rfl rfl (fun hc => lo_load1 (i := 1) (v := str _) (gvE rfl hc) ag9 rfl rfl) (gqt rfl rfl (fun hc => lo_seql (gvE rfl hc) (gvE rfl hc)) ?_)))))
  refine ol rfl (lo_pick_and rfl rfl rfl rfl) (omb rfl rfl (gqt rfl rfl (fun hc => lo_fieldAddr rfl fl117_5) (gqt rfl rfl (fun hc => lo_load1 (i := 0) (v := .bool _) (gvE rfl hc) ag4 rfl rfl) (gqt rfl rfl (fun hc => lo_fieldAddr rfl fl117_5) (gqt rfl rfl (fun hc => lo_load1 (i := 1) (v := .bool _) (gvE rfl hc) ag4 rfl rfl) ?_)))))
  refine gqt rfl rfl (fun hc => lo_beql (gvE rfl hc) (gvE rfl hc) Tryz.underlying4) (ol rfl (lo_pick_and rfl rfl rfl rfl) (omb rfl rfl (gqt rfl rfl (fun hc => lo_fieldAddr rfl fl117_4) (gqt rfl rfl (fun hc => lo_load1 (i := 0) (v := .slice _ _ _) (gvE rfl hc) ag40 rfl rfl) (gqt rfl rfl (fun hc => lo_fieldAddr rfl fl117_4) ?_)))))
  refine gqt rfl rfl (fun hc => lo_load1 (i := 1) (v := .slice _ _ _) (gvE rfl hc) ag40 rfl rfl) (gpt rfl (fun hc => (r9_Same _ a_want_a a.want.length a_want_c a.want a_want_h b_want_a b.want.length b_want_c b.want b_want_h (by first | omega | (simp <;> omega)))) (fun hc => (en_f cb86 (evs1 (gvE rfl hc) (evs1 (gvE rfl hc) rfl)))) rfl (ol rfl (lo_pick_and rfl rfl rfl rfl) (oab rfl rfl (ow_nil (seqK_n ?_)))))
  refine cw_ret (fnK_r (res1 rfl (rv_t (v := .bool _) rfl)) (.refl _) ?_)
  exact congrArg Value.bool (by rw [Bool.eq_iff_iff]; first | (simp [BindR.eq_iff, and_assoc]; done) | (simp [BindR.eq_iff]; grind))
theorem r22_Same (H : Hp) (a : DeedR) (a_bind_want_a : Option Addr) (a_bind_want_c : Nat) (a_bind_want_h : SlH pairE 4 H (.slice a_bind_want_a a.bind.want.length a_bind_want_c) a.bind.want) (a_mail_head_a : Option Addr) (a_mail_head_c : Nat) (a_mail_head_h : SlH pairE 4 H (.slice a_mail_head_a a.mail.head.length a_mail_head_c) a.mail.head) (a_w : DeedR.wf a) (b : DeedR) (b_bind_want_a : Option Addr) (b_bind_want_c : Nat) (b_bind_want_h : SlH pairE 4 H (.slice b_bind_want_a b.bind.want.length b_bind_want_c) b.bind.want) (b_mail_head_a : Option Addr) (b_mail_head_c : Nat) (b_mail_head_h : SlH pairE 4 H (.slice b_mail_head_a b.mail.head.length b_mail_head_c) b.mail.head) (b_w : DeedR.wf b) : Pr Tryz.prog 59 #[.agg (DeedR.cells a a_bind_want_a a_bind_want_c a_mail_head_a a_mail_head_c).toArray, .agg (DeedR.cells b b_bind_want_a b_bind_want_c b_mail_head_a b_mail_head_c).toArray] H (.bool (decide (a = b))) := by
  refine pr_cw Tryz.func59 rfl Tryz.ntmps59 rfl (fun N => ?_)
  have a_w' := a_w
  simp only [DeedR.wf, ShopR.wf, QueueR.wf, BindR.wf, Mail.wf] at a_w'
  have b_w' := b_w
  simp only [DeedR.wf, ShopR.wf, QueueR.wf, BindR.wf, Mail.wf] at b_w'
  refine cw_seq (cw_region (ow1 (op1_box (cs := [_, _, _, _, _, _, _, _, _, _, _, _, _, _, _, _, _, _, _, _, _, _, _, _, _, _, _, _, _]) 0 rfl rfl (fun b1 => ?_))))
  refine ow1 (op1_box (cs := [_, _, _, _, _, _, _, _, _, _, _, _, _, _, _, _, _, _, _, _, _, _, _, _, _, _, _, _, _]) 1 rfl rfl (fun b2 => ?_))
  refine oab rfl rfl (ow_nil (seqK_n (cw_seq (cw_seq (cw_region ?_)))))
  refine ol rfl (lo_fieldAddr rfl fl119_0) (ol rfl (lo_load1 (i := 0) (v := .int _ _) rfl ag5 rfl rfl) (ol rfl (lo_fieldAddr rfl fl119_0) (ol rfl (lo_load1 (i := 1) (v := .int _ _) rfl ag5 rfl rfl) (ol rfl (lo_neq rfl rfl) (omb rfl rfl ?_)))))
  refine ow_sp (j := 5) rfl (fun h3 => ?_) (fun h3 => ?_)
  · have h4 := not_t h3
    have p5 := df h4
    refine og rfl h3 rfl (og rfl h3 rfl (og rfl h3 rfl (og rfl h3 rfl (og rfl h3 rfl (ol rfl (lo_pick_t (v := .bool _) rfl h3 rfl) ?_)))))
    refine omb rfl rfl (og rfl rfl rfl (og rfl rfl rfl (og rfl rfl rfl (og rfl rfl rfl (og rfl rfl rfl ?_)))))
    refine ol rfl (lo_pick_t (v := .bool _) rfl rfl rfl) (omb rfl rfl (og rfl rfl rfl (og rfl rfl rfl (og rfl rfl rfl (og rfl rfl rfl ?_)))))
    refine og rfl rfl rfl (ol rfl (lo_pick_t (v := .bool _) rfl rfl rfl) (omb rfl rfl (og rfl rfl rfl (og rfl rfl rfl (og rfl rfl rfl ?_)))))
    refine og rfl rfl rfl (og rfl rfl rfl (ol rfl (lo_pick_t (v := .bool _) rfl rfl rfl) (omb rfl rfl (og rfl rfl rfl (og rfl rfl rfl ?_)))))
    refine og rfl rfl rfl (og rfl rfl rfl (og rfl rfl rfl (ol rfl (lo_pick_t (v := .bool _) rfl rfl rfl) (ow_nil (seqK_n ?_)))))
    refine cw_cond_t rfl rfl (cw_seq (cw_region (oab rfl rfl (ow_nil (seqK_n ?_)))))
    refine cw_ret (seqK_r (fnK_r (res1 rfl (rv_t (v := .bool _) rfl)) (.refl _) ?_))
    first | (simp [DeedR.eq_iff, *]; done)
  have h6 := not_f h3
  have p7 := dt h6
  refine ow1 (op1_g rfl h3 rfl (lo_fieldAddr rfl fl119_1) ?_)
  refine ow1 (op1_g rfl h3 rfl (lo_load1 (i := 0) (v := .int _ _) rfl ag39 rfl rfl) ?_)
  refine ow1 (op1_g rfl h3 rfl (lo_fieldAddr rfl fl119_1) ?_)
  refine ow1 (op1_g rfl h3 rfl (lo_load1 (i := 1) (v := .int _ _) rfl ag39 rfl rfl) ?_)
  refine ow1 (op1_g rfl h3 rfl (lo_neq rfl rfl) ?_)
  refine ol rfl (lo_pick_f (v := .bool _) rfl h3 rfl) (omb rfl rfl (ow_sp (j := 12) rfl (fun h8 => ?_) (fun h8 => ?_)))
  · have h9 := not_t h8
    have p10 := df h9
    refine og rfl h8 rfl (og rfl h8 rfl (og rfl h8 rfl (og rfl h8 rfl (og rfl h8 rfl (ol rfl (lo_pick_t (v := .bool _) rfl h8 rfl) ?_)))))
    refine omb rfl rfl (og rfl rfl rfl (og rfl rfl rfl (og rfl rfl rfl (og rfl rfl rfl (og rfl rfl rfl ?_)))))
    refine ol rfl (lo_pick_t (v := .bool _) rfl rfl rfl) (omb rfl rfl (og rfl rfl rfl (og rfl rfl rfl (og rfl rfl rfl (og rfl rfl rfl ?_)))))
    refine og rfl rfl rfl (ol rfl (lo_pick_t (v := .bool _) rfl rfl rfl) (omb rfl rfl (og rfl rfl rfl (og rfl rfl rfl (og rfl rfl rfl ?_)))))
    refine og rfl rfl rfl (og rfl rfl rfl (ol rfl (lo_pick_t (v := .bool _) rfl rfl rfl) (ow_nil (seqK_n (cw_cond_t rfl rfl ?_)))))
    refine cw_seq (cw_region (oab rfl rfl (ow_nil (seqK_n (cw_ret ?_)))))
    refine seqK_r (fnK_r (res1 rfl (rv_t (v := .bool _) rfl)) (.refl _) ?_)
    first | (simp [DeedR.eq_iff, *]; done)
  have h11 := not_f h8
  have p12 := dt h11
  refine ow1 (op1_g rfl h8 rfl (lo_fieldAddr rfl fl119_2) ?_)
  refine ow1 (op1_g rfl h8 rfl (lo_loadA (i := 0) (vs := [_, _, _]) rfl ag115 sz115 rfl rfl rfl) ?_)
  refine ow1 (op1_g rfl h8 rfl (lo_fieldAddr rfl fl119_2) ?_)
  refine ow1 (op1_g rfl h8 rfl (lo_loadA (i := 1) (vs := [_, _, _]) rfl ag115 sz115 rfl rfl rfl) ?_)
  refine ow1 (op1_g rfl h8 rfl (lo_aneq (u := (ShopR.cells a.shop).toArray) (v := (ShopR.cells b.shop).toArray) rfl rfl eqg115 (eqr115 _ _ 9998)) ?_)
  refine ol rfl (lo_pick_f (v := .bool _) rfl h8 rfl) (omb rfl rfl (ow_sp (j := 19) rfl (fun h13 => ?_) (fun h13 => ?_)))
  · have h14 := not_t h13
    have p15 := df h14
    refine og rfl h13 rfl (og rfl h13 rfl (og rfl h13 rfl (og rfl h13 rfl (og rfl h13 rfl (ol rfl (lo_pick_t (v := .bool _) rfl h13 rfl) ?_)))))
    refine omb rfl rfl (og rfl rfl rfl (og rfl rfl rfl (og rfl rfl rfl (og rfl rfl rfl (og rfl rfl rfl ?_)))))
    refine ol rfl (lo_pick_t (v := .bool _) rfl rfl rfl) (omb rfl rfl (og rfl rfl rfl (og rfl rfl rfl (og rfl rfl rfl (og rfl rfl rfl ?_)))))
    refine og rfl rfl rfl (ol rfl (lo_pick_t (v := .bool _) rfl rfl rfl) (ow_nil (seqK_n (cw_cond_t rfl rfl (cw_seq ?_)))))
    refine cw_region (oab rfl rfl (ow_nil (seqK_n (cw_ret (seqK_r ?_)))))
    refine fnK_r (res1 rfl (rv_t (v := .bool _) rfl)) (.refl _) ?_
    first | (simp [DeedR.eq_iff, *]; done)
  have h16 := not_f h13
  have p17 := dt h16
  refine ow1 (op1_g rfl h13 rfl (lo_fieldAddr rfl fl119_3) ?_)
  refine ow1 (op1_g rfl h13 rfl (lo_loadA (i := 0) (vs := [_, _, _, _]) rfl ag116 sz116 rfl rfl rfl) ?_)
  refine ow1 (op1_g rfl h13 rfl (lo_fieldAddr rfl fl119_3) ?_)
  refine ow1 (op1_g rfl h13 rfl (lo_loadA (i := 1) (vs := [_, _, _, _]) rfl ag116 sz116 rfl rfl rfl) ?_)
  refine ow1 (op1_g rfl h13 rfl (lo_aneq (u := (QueueR.cells a.queue).toArray) (v := (QueueR.cells b.queue).toArray) rfl rfl eqg116 (eqr116 _ _ 9998)) ?_)
  refine ol rfl (lo_pick_f (v := .bool _) rfl h13 rfl) (omb rfl rfl (ow_sp (j := 26) rfl (fun h18 => ?_) (fun h18 => ?_)))
  · have h19 := not_t h18
    have p20 := df h19
    refine og rfl h18 rfl (og rfl h18 rfl (og rfl h18 rfl (og rfl h18 rfl (og rfl h18 rfl (ol rfl (lo_pick_t (v := .bool _) rfl h18 rfl) ?_)))))
    refine omb rfl rfl (og rfl rfl rfl (og rfl rfl rfl (og rfl rfl rfl (og rfl rfl rfl (og rfl rfl rfl ?_)))))
    refine ol rfl (lo_pick_t (v := .bool _) rfl rfl rfl) (ow_nil (seqK_n (cw_cond_t rfl rfl (cw_seq (cw_region ?_)))))
    refine oab rfl rfl (ow_nil (seqK_n (cw_ret (seqK_r (fnK_r (res1 rfl (rv_t (v := .bool _) rfl)) (.refl _) ?_)))))
    first | (simp [DeedR.eq_iff, *]; done)
  have h21 := not_f h18
  have p22 := dt h21
  refine ow1 (op1_g rfl h18 rfl (lo_fieldAddr rfl fl119_5) ?_)
  refine ow1 (op1_g rfl h18 rfl (lo_load1 (i := 0) (v := str _) rfl ag9 rfl rfl) ?_)
  refine ow1 (op1_g rfl h18 rfl (lo_fieldAddr rfl fl119_5) ?_)
  refine ow1 (op1_g rfl h18 rfl (lo_load1 (i := 1) (v := str _) rfl ag9 rfl rfl) ?_)
  refine ow1 (op1_g rfl h18 rfl (lo_sneq rfl rfl) ?_)
  refine ol rfl (lo_pick_f (v := .bool _) rfl h18 rfl) (omb rfl rfl (ow_sp (j := 33) rfl (fun h23 => ?_) (fun h23 => ?_)))
  · have h24 := not_t h23
    have p25 := df h24
    refine og rfl h23 rfl (og rfl h23 rfl (og rfl h23 rfl (og rfl h23 rfl (og rfl h23 rfl (ol rfl (lo_pick_t (v := .bool _) rfl h23 rfl) ?_)))))
    refine ow_nil (seqK_n (cw_cond_t rfl rfl (cw_seq (cw_region (oab rfl rfl ?_)))))
    refine ow_nil (seqK_n (cw_ret (seqK_r (fnK_r (res1 rfl (rv_t (v := .bool _) rfl)) (.refl _) ?_))))
    first | (simp [DeedR.eq_iff, *]; done)
  have h26 := not_f h23
  have p27 := dt h26
  refine ow1 (op1_g rfl h23 rfl (lo_fieldAddr rfl fl119_6) ?_)
  refine ow1 (op1_g rfl h23 rfl (lo_load1 (i := 0) (v := .int _ _) rfl ag39 rfl rfl) ?_)
  refine ow1 (op1_g rfl h23 rfl (lo_fieldAddr rfl fl119_6) ?_)
  refine ow1 (op1_g rfl h23 rfl (lo_load1 (i := 1) (v := .int _ _) rfl ag39 rfl rfl) ?_)
  refine ow1 (op1_g rfl h23 rfl (lo_neq rfl rfl) ?_)
  refine ol rfl (lo_pick_f (v := .bool _) rfl h23 rfl) (ow_nil (seqK_n (cw_cond rfl (fun h28 => ?_) (fun h28 => ?_))))
  · have h29 := not_t h28
    have p30 := df h29
    refine cw_seq (cw_region (oab rfl rfl (ow_nil (seqK_n (cw_ret ?_)))))
    refine seqK_r (fnK_r (res1 rfl (rv_t (v := .bool _) rfl)) (.refl _) ?_)
    first | (simp [DeedR.eq_iff, *]; done)
  have h31 := not_f h28
  have p32 := dt h31
  refine cw_skip (seqK_n (cw_seq (cw_seq (cw_region (ol rfl (lo_fieldAddr rfl fl119_7) ?_)))))
  refine ol rfl (lo_load1 (i := 0) (v := .int _ _) rfl ag5 rfl rfl) (ol rfl (lo_fieldAddr rfl fl119_7) (ol rfl (lo_load1 (i := 1) (v := .int _ _) rfl ag5 rfl rfl) (ol rfl (lo_neq rfl rfl) (omb rfl rfl (ow_sp (j := 5) rfl (fun h33 => ?_) (fun h33 => ?_))))))
  · have h34 := not_t h33
    have p35 := df h34
    refine og rfl h33 rfl (og rfl h33 rfl (og rfl h33 rfl (og rfl h33 rfl (og rfl h33 rfl (ol rfl (lo_pick_t (v := .bool _) rfl h33 rfl) ?_)))))
    refine omb rfl rfl (og rfl rfl rfl (og rfl rfl rfl (og rfl rfl rfl (og rfl rfl rfl (og rfl rfl rfl ?_)))))
    refine ol rfl (lo_pick_t (v := .bool _) rfl rfl rfl) (omb rfl rfl (og rfl rfl rfl (og rfl rfl rfl (og rfl rfl rfl (og rfl rfl rfl ?_)))))
    refine og rfl rfl rfl (ol rfl (lo_pick_t (v := .bool _) rfl rfl rfl) (omb rfl rfl (og rfl rfl rfl (og rfl rfl rfl (og rfl rfl rfl ?_)))))
    refine og rfl rfl rfl (og rfl rfl rfl (ol rfl (lo_pick_t (v := .bool _) rfl rfl rfl) (ow_nil (seqK_n (cw_cond_t rfl rfl ?_)))))
    refine cw_seq (cw_region (oab rfl rfl (ow_nil (seqK_n (cw_ret ?_)))))
    refine seqK_r (fnK_r (res1 rfl (rv_t (v := .bool _) rfl)) (.refl _) ?_)
    first | (simp [DeedR.eq_iff, *]; done)
  have h36 := not_f h33
  have p37 := dt h36
  refine ow1 (op1_g rfl h33 rfl (lo_fieldAddr rfl fl119_8) ?_)
  refine ow1 (op1_g rfl h33 rfl (lo_load1 (i := 0) (v := .int _ _) rfl ag5 rfl rfl) ?_)
  refine ow1 (op1_g rfl h33 rfl (lo_fieldAddr rfl fl119_8) ?_)
  refine ow1 (op1_g rfl h33 rfl (lo_load1 (i := 1) (v := .int _ _) rfl ag5 rfl rfl) ?_)
  refine ow1 (op1_g rfl h33 rfl (lo_neq rfl rfl) ?_)
  refine ol rfl (lo_pick_f (v := .bool _) rfl h33 rfl) (omb rfl rfl (ow_sp (j := 12) rfl (fun h38 => ?_) (fun h38 => ?_)))
  · have h39 := not_t h38
    have p40 := df h39
    refine og rfl h38 rfl (og rfl h38 rfl (og rfl h38 rfl (og rfl h38 rfl (og rfl h38 rfl (ol rfl (lo_pick_t (v := .bool _) rfl h38 rfl) ?_)))))
    refine omb rfl rfl (og rfl rfl rfl (og rfl rfl rfl (og rfl rfl rfl (og rfl rfl rfl (og rfl rfl rfl ?_)))))
    refine ol rfl (lo_pick_t (v := .bool _) rfl rfl rfl) (omb rfl rfl (og rfl rfl rfl (og rfl rfl rfl (og rfl rfl rfl (og rfl rfl rfl ?_)))))
    refine og rfl rfl rfl (ol rfl (lo_pick_t (v := .bool _) rfl rfl rfl) (ow_nil (seqK_n (cw_cond_t rfl rfl (cw_seq ?_)))))
    refine cw_region (oab rfl rfl (ow_nil (seqK_n (cw_ret (seqK_r ?_)))))
    refine fnK_r (res1 rfl (rv_t (v := .bool _) rfl)) (.refl _) ?_
    first | (simp [DeedR.eq_iff, *]; done)
  have h41 := not_f h38
  have p42 := dt h41
  refine ow1 (op1_g rfl h38 rfl (lo_fieldAddr rfl fl119_9) ?_)
  refine ow1 (op1_g rfl h38 rfl (lo_load1 (i := 0) (v := .int _ _) rfl ag5 rfl rfl) ?_)
  refine ow1 (op1_g rfl h38 rfl (lo_fieldAddr rfl fl119_9) ?_)
  refine ow1 (op1_g rfl h38 rfl (lo_load1 (i := 1) (v := .int _ _) rfl ag5 rfl rfl) ?_)
  refine ow1 (op1_g rfl h38 rfl (lo_neq rfl rfl) ?_)
  refine ol rfl (lo_pick_f (v := .bool _) rfl h38 rfl) (omb rfl rfl (ow_sp (j := 19) rfl (fun h43 => ?_) (fun h43 => ?_)))
  · have h44 := not_t h43
    have p45 := df h44
    refine og rfl h43 rfl (og rfl h43 rfl (og rfl h43 rfl (og rfl h43 rfl (og rfl h43 rfl (ol rfl (lo_pick_t (v := .bool _) rfl h43 rfl) ?_)))))
    refine omb rfl rfl (og rfl rfl rfl (og rfl rfl rfl (og rfl rfl rfl (og rfl rfl rfl (og rfl rfl rfl ?_)))))
    refine ol rfl (lo_pick_t (v := .bool _) rfl rfl rfl) (ow_nil (seqK_n (cw_cond_t rfl rfl (cw_seq (cw_region ?_)))))
    refine oab rfl rfl (ow_nil (seqK_n (cw_ret (seqK_r (fnK_r (res1 rfl (rv_t (v := .bool _) rfl)) (.refl _) ?_)))))
    first | (simp [DeedR.eq_iff, *]; done)
  have h46 := not_f h43
  have p47 := dt h46
  refine ow1 (op1_g rfl h43 rfl (lo_fieldAddr rfl fl119_10) ?_)
  refine ow1 (op1_g rfl h43 rfl (lo_load1 (i := 0) (v := .int _ _) rfl ag39 rfl rfl) ?_)
  refine ow1 (op1_g rfl h43 rfl (lo_fieldAddr rfl fl119_10) ?_)
  refine ow1 (op1_g rfl h43 rfl (lo_load1 (i := 1) (v := .int _ _) rfl ag39 rfl rfl) ?_)
  refine ow1 (op1_g rfl h43 rfl (lo_neq rfl rfl) ?_)
  refine ol rfl (lo_pick_f (v := .bool _) rfl h43 rfl) (omb rfl rfl (ow_sp (j := 26) rfl (fun h48 => ?_) (fun h48 => ?_)))
  · have h49 := not_t h48
    have p50 := df h49
    refine og rfl h48 rfl (og rfl h48 rfl (og rfl h48 rfl (og rfl h48 rfl (og rfl h48 rfl (ol rfl (lo_pick_t (v := .bool _) rfl h48 rfl) ?_)))))
    refine ow_nil (seqK_n (cw_cond_t rfl rfl (cw_seq (cw_region (oab rfl rfl ?_)))))
    refine ow_nil (seqK_n (cw_ret (seqK_r (fnK_r (res1 rfl (rv_t (v := .bool _) rfl)) (.refl _) ?_))))
    first | (simp [DeedR.eq_iff, *]; done)
  have h51 := not_f h48
  have p52 := dt h51
  refine ow1 (op1_g rfl h48 rfl (lo_fieldAddr rfl fl119_12) ?_)
  refine ow1 (op1_g rfl h48 rfl (lo_load1 (i := 0) (v := str _) rfl ag9 rfl rfl) ?_)
  refine ow1 (op1_g rfl h48 rfl (lo_fieldAddr rfl fl119_12) ?_)
  refine ow1 (op1_g rfl h48 rfl (lo_load1 (i := 1) (v := str _) rfl ag9 rfl rfl) ?_)
  refine ow1 (op1_g rfl h48 rfl (lo_sneq rfl rfl) ?_)
  refine ol rfl (lo_pick_f (v := .bool _) rfl h48 rfl) (ow_nil (seqK_n (cw_cond rfl (fun h53 => ?_) (fun h53 => ?_))))
  · have h54 := not_t h53
    have p55 := df h54
    refine cw_seq (cw_region (oab rfl rfl (ow_nil (seqK_n (cw_ret ?_)))))
    refine seqK_r (fnK_r (res1 rfl (rv_t (v := .bool _) rfl)) (.refl _) ?_)
    first | (simp [DeedR.eq_iff, *]; done)
  have h56 := not_f h53
  have p57 := dt h56
  refine cw_skip (seqK_n (cw_seq (cw_region (ol rfl (lo_fieldAddr rfl fl119_4) (ol rfl (lo_loadA (i := 0) (vs := [_, _, _, _, _, _]) rfl ag117 sz117 rfl rfl rfl) ?_)))))
  refine ol rfl (lo_fieldAddr rfl fl119_4) (ol rfl (lo_loadA (i := 1) (vs := [_, _, _, _, _, _]) rfl ag117 sz117 rfl rfl rfl) ?_)
  refine ow1 (op1_pr (r14_SameBind _ a.bind a_bind_want_a a_bind_want_c a_bind_want_h (by simp only [BindR.wf]; first | omega | (simp; done) | (simp; omega)) b.bind b_bind_want_a b_bind_want_c b_bind_want_h (by simp only [BindR.wf]; first | omega | (simp; done) | (simp; omega))) (en_f cb119 rfl) rfl ?_)
  refine omb rfl rfl (ow_sp (j := 5) rfl (fun h58 => ?_) (fun h58 => ?_))
  · have p59 := dt h58
    refine ow1 (op1_g rfl h58 rfl (lo_fieldAddr rfl fl119_11) ?_)
    refine ow1 (op1_g rfl h58 rfl (lo_loadA (i := 0) (vs := [_, _, _, _, _, _, _]) rfl ag42 sz42 rfl rfl rfl) ?_)
    refine ow1 (op1_g rfl h58 rfl (lo_fieldAddr rfl fl119_11) ?_)
    refine ow1 (op1_g rfl h58 rfl (lo_loadA (i := 1) (vs := [_, _, _, _, _, _, _]) rfl ag42 sz42 rfl rfl rfl) ?_)
    refine ow1 (op1_prg rfl h58 (r13_Same _ a.mail a_mail_head_a a_mail_head_c a_mail_head_h (by simp only [Mail.wf]; first | omega | (simp; done) | (simp; omega)) b.mail b_mail_head_a b_mail_head_c b_mail_head_h (by simp only [Mail.wf]; first | omega | (simp; done) | (simp; omega))) (en_f cb120 rfl) rfl ?_)
    refine ol rfl (lo_pick_t (v := .bool _) rfl h58 rfl) (oab rfl rfl (ow_nil (seqK_n (cw_ret (fnK_r (res1 rfl (rv_t (v := .bool _) rfl)) (.refl _) ?_)))))
    first | (simp [DeedR.eq_iff, *]; done)
  have p60 := df h58
  refine og rfl h58 rfl (og rfl h58 rfl (og rfl h58 rfl (og rfl h58 rfl (og rfl h58 rfl (ol rfl (lo_pick_f (v := .bool _) rfl h58 rfl) ?_)))))
  refine oab rfl rfl (ow_nil (seqK_n (cw_ret (fnK_r (res1 rfl (rv_t (v := .bool _) rfl)) (.refl _) ?_))))
  first | (simp [DeedR.eq_iff, *]; done)
theorem r22_names (H : Hp) (k : Int) (k_r : 0 ≤ k ∧ k ≤ 255) : Pr Tryz.prog 114 #[.int .u8 k] H (.bool (decide (k = 1 ∨ k = 3 ∨ k = 7 ∨ k = 8))) := by
  refine pr_cw Tryz.func114 rfl Tryz.ntmps114 rfl (fun N => ?_)
  refine cw_seq (cw_region (oab rfl rfl (ow_nil (seqK_n (cw_seq ?_)))))
  refine cw_region (omi rfl rfl (ol rfl (lo_eql rfl rfl) (omb rfl rfl (ow_sp (j := 2) rfl (fun h1 => ?_) (fun h1 => ?_)))))
  · have p2 := dt h1
    refine og rfl h1 rfl (og rfl h1 rfl (ol rfl (lo_pick_t (v := .bool _) rfl h1 rfl) (omb rfl rfl (og rfl rfl rfl (og rfl rfl rfl ?_)))))
    refine ol rfl (lo_pick_t (v := .bool _) rfl rfl rfl) (omb rfl rfl (og rfl rfl rfl (og rfl rfl rfl (ol rfl (lo_pick_t (v := .bool _) rfl rfl rfl) (oab rfl rfl ?_)))))
    refine ow_nil (seqK_n (cw_ret (fnK_r (res1 rfl (rv_t (v := .bool _) rfl)) (.refl _) ?_)))
    refine congrArg Value.bool ?_; rw [Bool.eq_iff_iff]; simp only [decide_eq_true_eq, Bool.false_eq_true, false_iff, true_iff]; omega
  have p3 := df h1
  refine ow1 (op1_g rfl h1 rfl (lo_move (v := .int _ _) rfl) ?_)
  refine ow1 (op1_g rfl h1 rfl (lo_eql rfl rfl) ?_)
  refine ol rfl (lo_pick_f (v := .bool _) rfl h1 rfl) (omb rfl rfl (ow_sp (j := 6) rfl (fun h4 => ?_) (fun h4 => ?_)))
  · have p5 := dt h4
    refine og rfl h4 rfl (og rfl h4 rfl (ol rfl (lo_pick_t (v := .bool _) rfl h4 rfl) (omb rfl rfl (og rfl rfl rfl (og rfl rfl rfl ?_)))))
    refine ol rfl (lo_pick_t (v := .bool _) rfl rfl rfl) (oab rfl rfl (ow_nil (seqK_n (cw_ret (fnK_r (res1 rfl (rv_t (v := .bool _) rfl)) (.refl _) ?_)))))
    refine congrArg Value.bool ?_; rw [Bool.eq_iff_iff]; simp only [decide_eq_true_eq, Bool.false_eq_true, false_iff, true_iff]; omega
  have p6 := df h4
  refine ow1 (op1_g rfl h4 rfl (lo_move (v := .int _ _) rfl) ?_)
  refine ow1 (op1_g rfl h4 rfl (lo_eql rfl rfl) ?_)
  refine ol rfl (lo_pick_f (v := .bool _) rfl h4 rfl) (omb rfl rfl (ow_sp (j := 10) rfl (fun h7 => ?_) (fun h7 => ?_)))
  · have p8 := dt h7
    refine og rfl h7 rfl (og rfl h7 rfl (ol rfl (lo_pick_t (v := .bool _) rfl h7 rfl) (oab rfl rfl (ow_nil (seqK_n ?_)))))
    refine cw_ret (fnK_r (res1 rfl (rv_t (v := .bool _) rfl)) (.refl _) ?_)
    refine congrArg Value.bool ?_; rw [Bool.eq_iff_iff]; simp only [decide_eq_true_eq, Bool.false_eq_true, false_iff, true_iff]; omega
  have p9 := df h7
  refine ow1 (op1_g rfl h7 rfl (lo_move (v := .int _ _) rfl) ?_)
  refine ow1 (op1_g rfl h7 rfl (lo_eql rfl rfl) ?_)
  refine ol rfl (lo_pick_f (v := .bool _) rfl h7 rfl) (oab rfl rfl (ow_nil (seqK_n (cw_ret (fnK_r (res1 rfl (rv_t (v := .bool _) rfl)) (.refl _) ?_)))))
  refine congrArg Value.bool ?_; rw [Bool.eq_iff_iff]; simp only [decide_eq_true_eq, Bool.false_eq_true, false_iff, true_iff]; omega
theorem r22_maybe (H : Hp) (s : Bs) (hs : s.length ≤ 9223372036854775807) : Pr Tryz.prog 157 #[str s] H (.int .i64 (maybeE s)) := by
  refine pr_cw Tryz.func157 rfl Tryz.ntmps157 rfl (fun N => ?_)
  refine cw_seq (cw_region (oai rfl rfl (ow_nil (seqK_n (cw_seq ?_)))))
  refine cw_seq (cw_region (ol rfl (lo_move (v := str _) rfl) (ol rfl (lo_seql rfl rfl) (ow_nil (seqK_n ?_)))))
  refine cw_cond rfl (fun h1 => ?_) (fun h1 => ?_)
  · have p2 := dt h1
    refine cw_seq (cw_region (oai rfl rfl (ow_nil (seqK_n (cw_ret ?_)))))
    refine seqK_r (fnK_r (res1 rfl (rv_t (v := .int _ _) rfl)) (.refl _) ?_)
    simp [maybeE, *]
  have p3 := df h1
  refine cw_skip (seqK_n (cw_seq (cw_region (ol rfl (lo_move (v := str _) rfl) ?_))))
  refine ow1 (op1_pr (r4_Name _ s (by first | omega | decide | (simp; done))) (en_f cb69 rfl) rfl ?_)
  refine oai rfl rfl (ow_nil (seqK_n (cw_ret (fnK_r (res1 rfl (rv_t (v := .int _ _) rfl)) (.refl _) ?_))))
  simp [maybeE, *]
theorem r22_bit (H : Hp) (yes : Bool) : Pr Tryz.prog 159 #[.bool yes] H (str (numB 1 (bitN yes).toNat)) := by
  refine pr_cw Tryz.func159 rfl Tryz.ntmps159 rfl (fun N => ?_)
  refine cw_seq (cw_region (ol rfl (lo_assign (v := str _) rfl) (ow_nil (seqK_n (cw_seq ?_)))))
  refine cw_seq (cw_region (omb rfl rfl (ow_nil (seqK_n (cw_cond rfl (fun h1 => ?_) (fun h1 => ?_))))))
  · refine cw_seq (cw_region (ol rfl (lo_assign (v := str _) rfl) (ow_nil (seqK_n (cw_ret ?_)))))
    refine seqK_r (fnK_r (res1 rfl (rv_t (v := str _) rfl)) (.refl _) ?_)
    simp only [bitN, *]; rfl
  refine cw_skip (seqK_n (cw_seq (cw_region (ol rfl (lo_assign (v := str _) rfl) (ow_nil ?_)))))
  refine seqK_n (cw_ret (fnK_r (res1 rfl (rv_t (v := str _) rfl)) (.refl _) ?_))
  simp only [bitN, *]; rfl
theorem r22_spare (H : Hp) (d : DeedR) (d_bind_want_a : Option Addr) (d_bind_want_c : Nat) (d_bind_want_h : SlH pairE 4 H (.slice d_bind_want_a d.bind.want.length d_bind_want_c) d.bind.want) (d_mail_head_a : Option Addr) (d_mail_head_c : Nat) (d_mail_head_h : SlH pairE 4 H (.slice d_mail_head_a d.mail.head.length d_mail_head_c) d.mail.head) (d_w : DeedR.wf d) : Pr Tryz.prog 156 #[.agg (DeedR.cells d d_bind_want_a d_bind_want_c d_mail_head_a d_mail_head_c).toArray] H (.bool (!decide (d = toldD d))) := by
  refine pr_cw Tryz.func156 rfl Tryz.ntmps156 rfl (fun N => ?_)
  have d_w' := d_w
  simp only [DeedR.wf, ShopR.wf, QueueR.wf, BindR.wf, Mail.wf] at d_w'
  refine cw_seq (cw_region (ow1 (op1_box (cs := [_, _, _, _, _, _, _, _, _, _, _, _, _, _, _, _, _, _, _, _, _, _, _, _, _, _, _, _, _]) 0 rfl rfl (fun b1 => ?_))))
  refine oab rfl rfl (ow_nil (seqK_n (cw_seq (cw_region (ol rfl (lo_fieldAddr rfl fl119_0) ?_)))))
  refine ol rfl (lo_load1 (i := 0) (v := .int _ _) rfl ag5 rfl rfl) (oai rfl rfl (ow_nil (seqK_n (cw_seq (cw_seq ?_)))))
  refine cw_region (omi rfl rfl (ol rfl (lo_neq rfl rfl) (omb rfl rfl (gqt rfl rfl (fun hc => lo_fieldAddr rfl fl119_2) (gqt rfl rfl (fun hc => lo_loadA (i := 0) (vs := [_, _, _]) (gvE rfl hc) ag115 sz115 rfl rfl rfl) ?_)))))
  refine gqt rfl rfl (fun hc => lo_build (v := .agg #[_, _, _]) rfl (bd115)) (gqt rfl rfl (fun hc => lo_aneq (u := (ShopR.cells d.shop).toArray) (v := (ShopR.cells (⟨[], 0, []⟩ : ShopR)).toArray) (gvE rfl hc) (gvE rfl hc) eqg115 (eqr115 _ _ 9998)) (ol rfl (lo_pick_and rfl rfl rfl rfl) (omb rfl rfl (gqf rfl rfl (fun hc => lo_move (v := .int _ _) rfl) (gqf rfl rfl (fun hc => lo_neq (gvE rfl hc) rfl) ?_)))))
  refine gqf rfl rfl (fun hc => lo_move (v := .bool _) (gvE rfl hc)) (ggt rfl rfl (fun hc => lo_fieldAddr rfl fl119_3) (ggt rfl rfl (fun hc => lo_loadA (i := 0) (vs := [_, _, _, _]) (gvE rfl hc) ag116 sz116 rfl rfl rfl) (ggt rfl rfl (fun hc => lo_build (v := .agg #[_, _, _, _]) rfl (bd116)) (ggt rfl rfl (fun hc => lo_aneq (u := (QueueR.cells d.queue).toArray) (v := (QueueR.cells (⟨[], 0, 0, []⟩ : QueueR)).toArray) (gvE rfl hc) (gvE rfl hc) eqg116 (eqr116 _ _ 9998)) (gqf rfl rfl (fun hc => lo_pick_and (gvE rfl hc) rfl rfl (by rw [hc]; rfl)) ?_)))))
  refine ol rfl (lo_pick_or rfl rfl rfl rfl) (ow_nil (seqK_n (cw_cond rfl (fun h2 => ?_) (fun h2 => ?_))))
  · refine cw_seq (cw_region (oab rfl rfl (ow_nil (seqK_n (cw_ret ?_)))))
    refine seqK_r (fnK_r (res1 rfl (rv_t (v := .bool _) rfl)) (.refl _) ?_)
    refine congrArg Value.bool (spare_t fun hh => ?_)
    obtain ⟨t1, t2, t3, t4, t5, t6, t7, t8, t9, t10, t11⟩ := told_iff.1 hh
    clear hh
    simp only [Bool.or_eq_true, Bool.and_eq_true, Bool.not_eq_true', decide_eq_true_eq, decide_eq_false_iff_not] at *
    grind
  have h3 := orl h2
  have h4 := orr h2
  refine cw_skip (seqK_n (cw_seq (cw_seq (cw_region (omi rfl rfl ?_)))))
  refine ol rfl (lo_neq rfl rfl) (omb rfl rfl (gqt rfl rfl (fun hc => lo_move (v := .int _ _) rfl) (gqt rfl rfl (fun hc => lo_neq (gvE rfl hc) rfl) (ol rfl (lo_pick_and rfl rfl rfl rfl) (omb rfl rfl ?_)))))
  refine gqt rfl rfl (fun hc => lo_fieldAddr rfl fl119_4) (gqt rfl rfl (fun hc => lo_loadA (i := 0) (vs := [_, _, _, _, _, _]) (gvE rfl hc) ag117 sz117 rfl rfl rfl) (gqt rfl rfl (fun hc => lo_build (v := .agg #[_, _, _, _, _, _]) rfl (bd117)) (gpt rfl (fun hc => (r14_SameBind _ d.bind d_bind_want_a d_bind_want_c d_bind_want_h (by simp only [BindR.wf]; first | omega | (simp; done) | (simp; omega)) (⟨[], [], false, [], [], false⟩ : BindR) none 0 slh_nil (by simp only [BindR.wf]; first | omega | (simp; done) | (simp; omega)))) (fun hc => (en_f cb119 (evs1 (gvE rfl hc) (evs1 (gvE rfl hc) rfl)))) rfl (gqt rfl rfl (fun hc => lo_not (gvE rfl hc)) (ol rfl (lo_pick_and rfl rfl rfl rfl) ?_)))))
  refine ow_nil (seqK_n (cw_cond rfl (fun h5 => ?_) (fun h5 => ?_)))
  · have h6 := bl h5
    have h7 := bl h6
    have h8 := not_t h7
    have p9 := df h8
    have h10 := br h6
    have h11 := not_t h10
    have p12 := df h11
    have h13 := br h5
    have h14 := not_t h13
    have p15 := df h14
    refine cw_seq (cw_region (oab rfl rfl (ow_nil (seqK_n (cw_ret ?_)))))
    refine seqK_r (fnK_r (res1 rfl (rv_t (v := .bool _) rfl)) (.refl _) ?_)
    refine congrArg Value.bool (spare_t fun hh => ?_)
    obtain ⟨t1, t2, t3, t4, t5, t6, t7, t8, t9, t10, t11⟩ := told_iff.1 hh
    clear hh
    simp only [Bool.or_eq_true, Bool.and_eq_true, Bool.not_eq_true', decide_eq_true_eq, decide_eq_false_iff_not] at *
    grind
  refine cw_skip (seqK_n (cw_seq (cw_seq (cw_region (omi rfl rfl ?_)))))
  refine ow1 (op1_pr (r22_names _ d.kind (by omega)) (en_f cb114 rfl) rfl ?_)
  refine ol rfl (lo_not rfl) (omb rfl rfl (gqt rfl rfl (fun hc => lo_fieldAddr rfl fl119_5) (gqt rfl rfl (fun hc => lo_load1 (i := 0) (v := str _) (gvE rfl hc) ag9 rfl rfl) (gqt rfl rfl (fun hc => lo_sneq (gvE rfl hc) rfl) (ol rfl (lo_pick_and rfl rfl rfl rfl) ?_)))))
  refine omb rfl rfl (gqf rfl rfl (fun hc => lo_move (v := .int _ _) rfl) (gqf rfl rfl (fun hc => lo_neq (gvE rfl hc) rfl) (gqf rfl rfl (fun hc => lo_move (v := .bool _) (gvE rfl hc)) (ggt rfl rfl (fun hc => lo_fieldAddr rfl fl119_6) (ggt rfl rfl (fun hc => lo_load1 (i := 0) (v := .int _ _) (gvE rfl hc) ag39 rfl rfl) ?_)))))
  refine ggt rfl rfl (fun hc => lo_neq (gvE rfl hc) rfl) (ggt rfl rfl (fun hc => lo_move (v := .bool _) (gvE rfl hc)) (ggf rfl rfl (fun hc => lo_fieldAddr rfl fl119_7) (ggf rfl rfl (fun hc => lo_load1 (i := 0) (v := .int _ _) (gvE rfl hc) ag5 rfl rfl) (ggf rfl rfl (fun hc => lo_neq (gvE rfl hc) rfl) (ggt rfl rfl (fun hc => lo_pick_or (gvE rfl hc) rfl rfl (by rw [hc]; rfl)) ?_)))))
  refine gqf rfl rfl (fun hc => lo_pick_and (gvE rfl hc) rfl rfl (by rw [hc]; rfl)) (ol rfl (lo_pick_or rfl rfl rfl rfl) (ow_nil (seqK_n (cw_cond rfl (fun h16 => ?_) (fun h16 => ?_)))))
  · refine cw_seq (cw_region (oab rfl rfl (ow_nil (seqK_n (cw_ret ?_)))))
    refine seqK_r (fnK_r (res1 rfl (rv_t (v := .bool _) rfl)) (.refl _) ?_)
    refine congrArg Value.bool (spare_t fun hh => ?_)
    obtain ⟨t1, t2, t3, t4, t5, t6, t7, t8, t9, t10, t11⟩ := told_iff.1 hh
    clear hh
    simp only [Bool.or_eq_true, Bool.and_eq_true, Bool.not_eq_true', decide_eq_true_eq, decide_eq_false_iff_not] at *
    grind
  have h17 := orl h16
  have h18 := orr h16
  refine cw_skip (seqK_n (cw_seq (cw_seq (cw_region (omi rfl rfl ?_)))))
  refine ol rfl (lo_neq rfl rfl) (omb rfl rfl (gqt rfl rfl (fun hc => lo_fieldAddr rfl fl119_8) (gqt rfl rfl (fun hc => lo_load1 (i := 0) (v := .int _ _) (gvE rfl hc) ag5 rfl rfl) (gqt rfl rfl (fun hc => lo_neq (gvE rfl hc) rfl) (gqt rfl rfl (fun hc => lo_move (v := .bool _) (gvE rfl hc)) ?_)))))
  refine ggf rfl rfl (fun hc => lo_fieldAddr rfl fl119_10) (ggf rfl rfl (fun hc => lo_load1 (i := 0) (v := .int _ _) (gvE rfl hc) ag39 rfl rfl) (ggf rfl rfl (fun hc => lo_neq (gvE rfl hc) rfl) (gqt rfl rfl (fun hc => lo_pick_or (gvE rfl hc) rfl rfl (by rw [hc]; rfl)) (ol rfl (lo_pick_and rfl rfl rfl rfl) (omb rfl rfl ?_)))))
  refine gqf rfl rfl (fun hc => lo_move (v := .int _ _) rfl) (gqf rfl rfl (fun hc => lo_neq (gvE rfl hc) rfl) (gqf rfl rfl (fun hc => lo_move (v := .bool _) (gvE rfl hc)) (ggt rfl rfl (fun hc => lo_fieldAddr rfl fl119_9) (ggt rfl rfl (fun hc => lo_load1 (i := 0) (v := .int _ _) (gvE rfl hc) ag5 rfl rfl) (ggt rfl rfl (fun hc => lo_neq (gvE rfl hc) rfl) ?_)))))
  refine ggt rfl rfl (fun hc => lo_move (v := .bool _) (gvE rfl hc)) (ggf rfl rfl (fun hc => lo_fieldAddr rfl fl119_12) (ggf rfl rfl (fun hc => lo_load1 (i := 0) (v := str _) (gvE rfl hc) ag9 rfl rfl) (ggf rfl rfl (fun hc => lo_sneq (gvE rfl hc) rfl) (ggt rfl rfl (fun hc => lo_pick_or (gvE rfl hc) rfl rfl (by rw [hc]; rfl)) (gqf rfl rfl (fun hc => lo_pick_and (gvE rfl hc) rfl rfl (by rw [hc]; rfl)) ?_)))))
  refine ol rfl (lo_pick_or rfl rfl rfl rfl) (ow_nil (seqK_n (cw_cond rfl (fun h19 => ?_) (fun h19 => ?_))))
  · refine cw_seq (cw_region (oab rfl rfl (ow_nil (seqK_n (cw_ret ?_)))))
    refine seqK_r (fnK_r (res1 rfl (rv_t (v := .bool _) rfl)) (.refl _) ?_)
    refine congrArg Value.bool (spare_t fun hh => ?_)
    obtain ⟨t1, t2, t3, t4, t5, t6, t7, t8, t9, t10, t11⟩ := told_iff.1 hh
    clear hh
    simp only [Bool.or_eq_true, Bool.and_eq_true, Bool.not_eq_true', decide_eq_true_eq, decide_eq_false_iff_not] at *
    grind
  have h20 := orl h19
  have h21 := orr h19
  refine cw_skip (seqK_n (cw_seq (cw_region (omi rfl rfl (ol rfl (lo_neq rfl rfl) ?_)))))
  refine omb rfl rfl (gqt rfl rfl (fun hc => lo_move (v := .int _ _) rfl) (gqt rfl rfl (fun hc => lo_neq (gvE rfl hc) rfl) (ol rfl (lo_pick_and rfl rfl rfl rfl) (omb rfl rfl (gqt rfl rfl (fun hc => lo_fieldAddr rfl fl119_11) ?_)))))
  refine gqt rfl rfl (fun hc => lo_loadA (i := 0) (vs := [_, _, _, _, _, _, _]) (gvE rfl hc) ag42 sz42 rfl rfl rfl) (gqt rfl rfl (fun hc => lo_build (v := .agg #[_, _, _, _, _, _, _]) rfl (bd42)) (gpt rfl (fun hc => (r13_Same _ d.mail d_mail_head_a d_mail_head_c d_mail_head_h (by simp only [Mail.wf]; first | omega | (simp; done) | (simp; omega)) (⟨0, [], [], [], [], 0, 0⟩ : Mail) none 0 slh_nil (by simp only [Mail.wf]; first | omega | (simp; done) | (simp; omega)))) (fun hc => (en_f cb120 (evs1 (gvE rfl hc) (evs1 (gvE rfl hc) rfl)))) rfl (gqt rfl rfl (fun hc => lo_not (gvE rfl hc)) (ol rfl (lo_pick_and rfl rfl rfl rfl) (oab rfl rfl ?_)))))
  refine ow_nil (seqK_n (cw_ret (fnK_r (res1 rfl (rv_t (v := .bool _) rfl)) (.refl _) (congrArg Value.bool ?_))))
  rw [Bool.eq_iff_iff]
  simp only [Bool.or_eq_false_iff, Bool.and_eq_false_iff, Bool.not_eq_false', Bool.not_eq_true', Bool.and_eq_true, decide_eq_true_eq, decide_eq_false_iff_not] at *
  constructor
  · intro hm hh
    obtain ⟨_, _, _, _, _, _, _, _, _, _, t11⟩ := told_iff.1 hh
    exact hm.2 (t11 hm.1.1 hm.1.2)
  intro hn
  refine Classical.byContradiction fun q => hn (told_iff.2 ⟨?_, ?_, ?_, ?_, ?_, ?_, ?_, ?_, ?_, ?_, ?_⟩) <;> clear hn <;> grind
end Go.SW
set_option linter.unusedVariables false
set_option maxRecDepth 100000
set_option maxHeartbeats 4000000
namespace Go.SW
open Go.Proofs
theorem ag119 : Ag Tryz.prog 119 true := fun w => by kernel_rfl
theorem cb155 : Callable Tryz.prog 155 := callable_of Tryz.func155 (by kernel_rfl) (by kernel_rfl)
theorem cb156 : Callable Tryz.prog 156 := callable_of Tryz.func156 (by kernel_rfl) (by kernel_rfl)
theorem cb157 : Callable Tryz.prog 157 := callable_of Tryz.func157 (by kernel_rfl) (by kernel_rfl)
theorem cb158 : Callable Tryz.prog 158 := callable_of Tryz.func158 (by kernel_rfl) (by kernel_rfl)
theorem fl115_0 : Fld Tryz.prog 115 0 0 := fun b o w => by kernel_rfl
theorem fl115_1 : Fld Tryz.prog 115 1 1 := fun b o w => by kernel_rfl
theorem fl115_2 : Fld Tryz.prog 115 2 2 := fun b o w => by kernel_rfl
theorem fl116_0 : Fld Tryz.prog 116 0 0 := fun b o w => by kernel_rfl
theorem fl116_3 : Fld Tryz.prog 116 3 3 := fun b o w => by kernel_rfl
theorem sz119 : Sz Tryz.prog 119 29 := fun w => by kernel_rfl
theorem r22_checkBind (H : Hp) (b : BindR) (b_want_a : Option Addr) (b_want_c : Nat) (b_want_h : SlH pairE 4 H (.slice b_want_a b.want.length b_want_c) b.want) (b_w : BindR.wf b) : Pr Tryz.prog 158 #[.agg (BindR.cells b b_want_a b_want_c).toArray] H (.int .i64 (firstE [nameE b.shop, nameE b.to, boundE (decide ((64 : Int) < b.key.length)) 5, headE b.want])) := by
  refine pr_cw Tryz.func158 rfl Tryz.ntmps158 rfl (fun N => ?_)
  have b_w' := b_w
  simp only [BindR.wf] at b_w'
  refine cw_seq (cw_region (ow1 (op1_box (cs := [_, _, _, _, _, _]) 0 rfl rfl (fun b1 => ?_))))
  refine oai rfl rfl (ow_nil (seqK_n (cw_seq (cw_region (ol rfl (lo_fieldAddr rfl fl117_0) ?_)))))
  refine ol rfl (lo_load1 (i := 0) (v := str _) rfl ag9 rfl rfl) ?_
  refine ow1 (op1_pr (r4_Name _ b.shop (by first | omega | decide | (simp; done))) (en_f cb69 rfl) rfl ?_)
  refine oai rfl rfl (ow_nil (seqK_n (cw_seq (cw_seq (cw_region ?_)))))
  refine omi rfl rfl (ol rfl (lo_eql rfl rfl) (ow_nil (seqK_n (cw_cond rfl (fun h2 => ?_) (fun h2 => ?_)))))
  · have p3 := dt h2
    refine cw_region (ol rfl (lo_fieldAddr rfl fl117_1) (ol rfl (lo_load1 (i := 0) (v := str _) rfl ag9 rfl rfl) ?_))
    refine ow1 (op1_pr (r4_Name _ b.to (by first | omega | decide | (simp; done))) (en_f cb69 rfl) rfl ?_)
    refine oai rfl rfl (ow_nil (seqK_n (cw_seq (cw_seq (cw_region ?_)))))
    refine omi rfl rfl (ol rfl (lo_eql rfl rfl) (omb rfl rfl (ow_sp (j := 2) rfl (fun h4 => ?_) (fun h4 => ?_))))
    · have p5 := dt h4
      refine ow1 (op1_g rfl h4 rfl (lo_fieldAddr rfl fl117_3) ?_)
      refine ow1 (op1_g rfl h4 rfl (lo_load1 (i := 0) (v := str _) rfl ag9 rfl rfl) ?_)
      refine ow1 (op1_g rfl h4 rfl (lo_len_str rfl Tryz.underlying9) ?_)
      refine ow1 (op1_g rfl h4 rfl (lo_gtr rfl rfl) ?_)
      refine ol rfl (lo_pick_t (v := .bool _) rfl h4 rfl) (ow_nil (seqK_n (cw_cond rfl (fun h6 => ?_) (fun h6 => ?_))))
      · have p7 := dt h6
        refine cw_region (oai rfl rfl (ow_nil (seqK_n (cw_seq (cw_seq ?_)))))
        refine cw_region (omi rfl rfl (ol rfl (lo_eql rfl rfl) (ow_nil (seqK_n (cw_cond_f rfl (by decide) ?_)))))
        refine cw_skip (seqK_n (cw_seq (cw_region (omi rfl rfl (oai rfl rfl ?_)))))
        refine ow_nil (seqK_n (cw_ret (fnK_r (res1 rfl (rv_t (v := .int _ _) rfl)) (.refl _) (congrArg (Value.int .i64) ?_))))
        simp [firstE, boundE, *]
      have p8 := df h6
      refine cw_skip (seqK_n (cw_seq (cw_seq (cw_region (omi rfl rfl ?_)))))
      refine ol rfl (lo_eql rfl rfl) (ow_nil (seqK_n (cw_cond_t rfl h4 (cw_region (ol rfl (lo_fieldAddr rfl fl117_4) ?_)))))
      refine ol rfl (lo_load1 (i := 0) (v := .slice _ _ _) rfl ag40 rfl rfl) ?_
      refine ow1 (op1_pr (r9_Check _ b_want_a b.want.length b_want_c b.want b_want_h) (en_f cb71 rfl) rfl ?_)
      refine oai rfl rfl (ow_nil (seqK_n (cw_seq (cw_region (omi rfl rfl ?_)))))
      refine oai rfl rfl (ow_nil (seqK_n (cw_ret (fnK_r (res1 rfl (rv_t (v := .int _ _) rfl)) (.refl _) (congrArg (Value.int .i64) ?_)))))
      simp [firstE, boundE, *]
    have p9 := df h4
    refine og rfl h4 rfl (og rfl h4 rfl (og rfl h4 rfl (og rfl h4 rfl (ol rfl (lo_pick_f (v := .bool _) rfl h4 rfl) (ow_nil ?_)))))
    refine seqK_n (cw_cond_f rfl rfl (cw_skip (seqK_n (cw_seq (cw_seq ?_)))))
    refine cw_region (omi rfl rfl (ol rfl (lo_eql rfl rfl) (ow_nil (seqK_n (cw_cond_f rfl h4 ?_)))))
    refine cw_skip (seqK_n (cw_seq (cw_region (omi rfl rfl (oai rfl rfl ?_)))))
    refine ow_nil (seqK_n (cw_ret (fnK_r (res1 rfl (rv_t (v := .int _ _) rfl)) (.refl _) (congrArg (Value.int .i64) ?_))))
    simp [firstE, boundE, *]
  have p10 := df h2
  refine cw_skip (seqK_n (cw_seq (cw_seq (cw_region (omi rfl rfl ?_)))))
  refine ol rfl (lo_eql rfl rfl) (omb rfl rfl (og rfl h2 rfl (og rfl h2 rfl (og rfl h2 rfl (og rfl h2 rfl ?_)))))
  refine ol rfl (lo_pick_f (v := .bool _) rfl h2 rfl) (ow_nil (seqK_n (cw_cond_f rfl rfl (cw_skip (seqK_n ?_)))))
  refine cw_seq (cw_seq (cw_region (omi rfl rfl (ol rfl (lo_eql rfl rfl) (ow_nil ?_)))))
  refine seqK_n (cw_cond_f rfl h2 (cw_skip (seqK_n (cw_seq (cw_region ?_)))))
  refine omi rfl rfl (oai rfl rfl (ow_nil (seqK_n (cw_ret (fnK_r (res1 rfl (rv_t (v := .int _ _) rfl)) (.refl _) ?_)))))
  refine congrArg (Value.int .i64) ?_
  simp [firstE, boundE, *]
theorem r13_Check (H : Hp) (m : Mail) (m_head_a : Option Addr) (m_head_c : Nat) (m_head_h : SlH pairE 4 H (.slice m_head_a m.head.length m_head_c) m.head) (m_w : Mail.wf m) : Pr Tryz.prog 155 #[.agg (Mail.cells m m_head_a m_head_c).toArray] H (.int .i64 (mailC m)) := by
  refine pr_cw Tryz.func155 rfl Tryz.ntmps155 rfl (fun N => ?_)
  have m_w' := m_w
  simp only [Mail.wf] at m_w'
  refine cw_seq (cw_region (ow1 (op1_box (cs := [_, _, _, _, _, _, _]) 0 rfl rfl (fun b1 => ?_))))
  refine oai rfl rfl (ow_nil (seqK_n (cw_seq (cw_region (ol rfl (lo_fieldAddr rfl fl42_1) ?_)))))
  refine ol rfl (lo_load1 (i := 0) (v := str _) rfl ag9 rfl rfl) ?_
  refine ow1 (op1_pr (r4_Name _ m.shop (by first | omega | decide | (simp; done))) (en_f cb69 rfl) rfl ?_)
  refine oai rfl rfl (ow_nil (seqK_n (cw_seq (cw_seq (cw_region ?_)))))
  refine omi rfl rfl (ol rfl (lo_eql rfl rfl) (ow_nil (seqK_n (cw_cond rfl (fun h2 => ?_) (fun h2 => ?_)))))
  · have p3 := dt h2
    refine cw_region (ol rfl (lo_fieldAddr rfl fl42_2) (ol rfl (lo_load1 (i := 0) (v := str _) rfl ag9 rfl rfl) ?_))
    refine ow1 (op1_pr (r4_Key _ m.key false) (en_f cb70 rfl) rfl ?_)
    refine oai rfl rfl (ow_nil (seqK_n (cw_seq (cw_seq (cw_region ?_)))))
    refine omi rfl rfl (ol rfl (lo_eql rfl rfl) (ow_nil (seqK_n (cw_cond rfl (fun h4 => ?_) (fun h4 => ?_)))))
    · have p5 := dt h4
      refine cw_region (ol rfl (lo_fieldAddr rfl fl42_3) (ol rfl (lo_load1 (i := 0) (v := .slice _ _ _) rfl ag40 rfl rfl) ?_))
      refine ow1 (op1_pr (r9_Check _ m_head_a m.head.length m_head_c m.head m_head_h) (en_f cb71 rfl) rfl ?_)
      refine oai rfl rfl (ow_nil (seqK_n (cw_seq (cw_seq (cw_region ?_)))))
      refine omi rfl rfl (ol rfl (lo_eql rfl rfl) (omb rfl rfl (ow_sp (j := 2) rfl (fun h6 => ?_) (fun h6 => ?_))))
      · have p7 := dt h6
        refine ow1 (op1_g rfl h6 rfl (lo_fieldAddr rfl fl42_4) ?_)
        refine ow1 (op1_g rfl h6 rfl (lo_load1 (i := 0) (v := str _) rfl ag9 rfl rfl) ?_)
        refine ow1 (op1_g rfl h6 rfl (lo_len_str rfl Tryz.underlying9) ?_)
        refine ow1 (op1_g rfl h6 rfl (lo_gtr rfl rfl) ?_)
        refine ol rfl (lo_pick_t (v := .bool _) rfl h6 rfl) (ow_nil (seqK_n (cw_cond rfl (fun h8 => ?_) (fun h8 => ?_))))
        · have p9 := dt h8
          refine cw_region (oai rfl rfl (ow_nil (seqK_n (cw_seq (cw_seq ?_)))))
          refine cw_region (omi rfl rfl (ol rfl (lo_eql rfl rfl) (omb rfl rfl ?_)))
          refine ow1 (op1_gs rfl (by decide) rfl ?_)
          refine ow1 (op1_gs rfl (by decide) rfl ?_)
          refine ow1 (op1_gs rfl (by decide) rfl ?_)
          refine ol rfl (lo_pick_f (v := .bool _) rfl (by decide) rfl) (ow_nil (seqK_n (cw_cond_f rfl rfl (cw_skip (seqK_n ?_)))))
          refine cw_seq (cw_region (omi rfl rfl (oai rfl rfl (ow_nil (seqK_n ?_)))))
          refine cw_ret (fnK_r (res1 rfl (rv_t (v := .int _ _) rfl)) (.refl _) ?_)
          have hbo : besidesOf false = [] := rfl
          simp only [hbo] at *
          refine congrArg (Value.int .i64) ?_
          unfold mailC
          (repeat (first | rw [if_pos (by omega)] | rw [if_neg (by omega)] | rw [if_pos (by assumption)] | rw [if_neg (by assumption)] | rw [if_neg (fun q => q (by assumption))]))
          all_goals first | done | rfl | omega
        have p10 := df h8
        refine cw_skip (seqK_n (cw_seq (cw_seq (cw_region (omi rfl rfl ?_)))))
        refine ol rfl (lo_eql rfl rfl) (omb rfl rfl ?_)
        refine ow1 (op1_g rfl h6 rfl (lo_fieldAddr rfl fl42_6) ?_)
        refine ow1 (op1_g rfl h6 rfl (lo_load1 (i := 0) (v := .int _ _) rfl ag5 rfl rfl) ?_)
        refine ow1 (op1_g rfl h6 rfl (lo_gtr rfl rfl) ?_)
        refine ol rfl (lo_pick_t (v := .bool _) rfl h6 rfl) (ow_nil (seqK_n (cw_cond rfl (fun h11 => ?_) (fun h11 => ?_))))
        · have p12 := dt h11
          refine cw_region (oai rfl rfl (ow_nil (seqK_n (cw_seq (cw_region ?_)))))
          refine omi rfl rfl (oai rfl rfl (ow_nil (seqK_n (cw_ret (fnK_r (res1 rfl (rv_t (v := .int _ _) rfl)) (.refl _) ?_)))))
          have hbo : besidesOf false = [] := rfl
          simp only [hbo] at *
          refine congrArg (Value.int .i64) ?_
          unfold mailC
          (repeat (first | rw [if_pos (by omega)] | rw [if_neg (by omega)] | rw [if_pos (by assumption)] | rw [if_neg (by assumption)] | rw [if_neg (fun q => q (by assumption))]))
          all_goals first | done | rfl | omega
        have p13 := df h11
        refine cw_skip (seqK_n (cw_seq (cw_region (omi rfl rfl (oai rfl rfl ?_)))))
        refine ow_nil (seqK_n (cw_ret (fnK_r (res1 rfl (rv_t (v := .int _ _) rfl)) (.refl _) ?_)))
        have hbo : besidesOf false = [] := rfl
        simp only [hbo] at *
        refine congrArg (Value.int .i64) ?_
        unfold mailC
        (repeat (first | rw [if_pos (by omega)] | rw [if_neg (by omega)] | rw [if_pos (by assumption)] | rw [if_neg (by assumption)] | rw [if_neg (fun q => q (by assumption))]))
        all_goals first | done | rfl | omega
      have p14 := df h6
      refine og rfl h6 rfl (og rfl h6 rfl (og rfl h6 rfl (og rfl h6 rfl (ol rfl (lo_pick_f (v := .bool _) rfl h6 rfl) (ow_nil ?_)))))
      refine seqK_n (cw_cond_f rfl rfl (cw_skip (seqK_n (cw_seq (cw_seq ?_)))))
      refine cw_region (omi rfl rfl (ol rfl (lo_eql rfl rfl) (omb rfl rfl (og rfl h6 rfl (og rfl h6 rfl ?_)))))
      refine og rfl h6 rfl (ol rfl (lo_pick_f (v := .bool _) rfl h6 rfl) (ow_nil (seqK_n (cw_cond_f rfl rfl (cw_skip ?_)))))
      refine seqK_n (cw_seq (cw_region (omi rfl rfl (oai rfl rfl (ow_nil ?_)))))
      refine seqK_n (cw_ret (fnK_r (res1 rfl (rv_t (v := .int _ _) rfl)) (.refl _) ?_))
      have hbo : besidesOf false = [] := rfl
      simp only [hbo] at *
      refine congrArg (Value.int .i64) ?_
      unfold mailC
      (repeat (first | rw [if_pos (by omega)] | rw [if_neg (by omega)] | rw [if_pos (by assumption)] | rw [if_neg (by assumption)] | rw [if_neg (fun q => q (by assumption))]))
      all_goals first | done | rfl | omega
    have p15 := df h4
    refine cw_skip (seqK_n (cw_seq (cw_seq (cw_region (omi rfl rfl ?_)))))
    refine ol rfl (lo_eql rfl rfl) (omb rfl rfl (og rfl h4 rfl (og rfl h4 rfl (og rfl h4 rfl (og rfl h4 rfl ?_)))))
    refine ol rfl (lo_pick_f (v := .bool _) rfl h4 rfl) (ow_nil (seqK_n (cw_cond_f rfl rfl (cw_skip (seqK_n ?_)))))
    refine cw_seq (cw_seq (cw_region (omi rfl rfl (ol rfl (lo_eql rfl rfl) (omb rfl rfl ?_)))))
    refine og rfl h4 rfl (og rfl h4 rfl (og rfl h4 rfl (ol rfl (lo_pick_f (v := .bool _) rfl h4 rfl) (ow_nil (seqK_n ?_)))))
    refine cw_cond_f rfl rfl (cw_skip (seqK_n (cw_seq (cw_region (omi rfl rfl ?_)))))
    refine oai rfl rfl (ow_nil (seqK_n (cw_ret (fnK_r (res1 rfl (rv_t (v := .int _ _) rfl)) (.refl _) ?_))))
    have hbo : besidesOf false = [] := rfl
    simp only [hbo] at *
    refine congrArg (Value.int .i64) ?_
    unfold mailC
    (repeat (first | rw [if_pos (by omega)] | rw [if_neg (by omega)] | rw [if_pos (by assumption)] | rw [if_neg (by assumption)] | rw [if_neg (fun q => q (by assumption))]))
    all_goals first | done | rfl | omega
  have p16 := df h2
  refine cw_skip (seqK_n (cw_seq (cw_seq (cw_region (omi rfl rfl ?_)))))
  refine ol rfl (lo_eql rfl rfl) (ow_nil (seqK_n (cw_cond_f rfl h2 (cw_skip (seqK_n ?_)))))
  refine cw_seq (cw_seq (cw_region (omi rfl rfl (ol rfl (lo_eql rfl rfl) (omb rfl rfl ?_)))))
  refine og rfl h2 rfl (og rfl h2 rfl (og rfl h2 rfl (og rfl h2 rfl (ol rfl (lo_pick_f (v := .bool _) rfl h2 rfl) (ow_nil ?_)))))
  refine seqK_n (cw_cond_f rfl rfl (cw_skip (seqK_n (cw_seq (cw_seq ?_)))))
  refine cw_region (omi rfl rfl (ol rfl (lo_eql rfl rfl) (omb rfl rfl (og rfl h2 rfl (og rfl h2 rfl ?_)))))
  refine og rfl h2 rfl (ol rfl (lo_pick_f (v := .bool _) rfl h2 rfl) (ow_nil (seqK_n (cw_cond_f rfl rfl (cw_skip ?_)))))
  refine seqK_n (cw_seq (cw_region (omi rfl rfl (oai rfl rfl (ow_nil ?_)))))
  refine seqK_n (cw_ret (fnK_r (res1 rfl (rv_t (v := .int _ _) rfl)) (.refl _) ?_))
  have hbo : besidesOf false = [] := rfl
  simp only [hbo] at *
  refine congrArg (Value.int .i64) ?_
  unfold mailC
  (repeat (first | rw [if_pos (by omega)] | rw [if_neg (by omega)] | rw [if_pos (by assumption)] | rw [if_neg (by assumption)] | rw [if_neg (fun q => q (by assumption))]))
  all_goals first | done | rfl | omega
theorem r22_Check (H : Hp) (d : DeedR) (d_bind_want_a : Option Addr) (d_bind_want_c : Nat) (d_bind_want_h : SlH pairE 4 H (.slice d_bind_want_a d.bind.want.length d_bind_want_c) d.bind.want) (d_mail_head_a : Option Addr) (d_mail_head_c : Nat) (d_mail_head_h : SlH pairE 4 H (.slice d_mail_head_a d.mail.head.length d_mail_head_c) d.mail.head) (d_w : DeedR.wf d) : Pr Tryz.prog 115 #[.agg (DeedR.cells d d_bind_want_a d_bind_want_c d_mail_head_a d_mail_head_c).toArray] H (.int .i64 (deedE d)) := by
  refine pr_cw Tryz.func115 rfl Tryz.ntmps115 rfl (fun N => ?_)
  have d_w' := d_w
  simp only [DeedR.wf, ShopR.wf, QueueR.wf, BindR.wf, Mail.wf] at d_w'
  refine cw_seq (cw_region (ow1 (op1_box (cs := [_, _, _, _, _, _, _, _, _, _, _, _, _, _, _, _, _, _, _, _, _, _, _, _, _, _, _, _, _]) 0 rfl rfl (fun b1 => ?_))))
  refine oai rfl rfl (ow_nil (seqK_n (cw_seq (cw_seq (cw_region ?_)))))
  refine ol rfl (lo_fieldAddr rfl fl119_0) (ol rfl (lo_load1 (i := 0) (v := .int _ _) rfl ag5 rfl rfl) (ol rfl (lo_gtr rfl rfl) (ow_nil (seqK_n (cw_cond rfl (fun h2 => ?_) (fun h2 => ?_))))))
  · have p3 := dt h2
    refine cw_seq (cw_region (oai rfl rfl (ow_nil (seqK_n (cw_ret ?_)))))
    refine seqK_r (fnK_r (res1 rfl (rv_t (v := .int _ _) rfl)) (.refl _) (congrArg (Value.int .i64) ?_))
    unfold deedE
    (repeat (first | rw [if_pos (by omega)] | rw [if_neg (by omega)] | rw [if_pos (by assumption)] | rw [if_neg (by assumption)] | rw [if_neg (fun q => q (by assumption))]))
    all_goals first | done | rfl | omega | (simp only [firstE, boundE, h2, if_true, if_false, Bool.false_eq_true]; (repeat (first | rw [if_pos (by omega)] | rw [if_neg (by omega)] | rw [if_pos (by assumption)] | rw [if_neg (by assumption)] | rw [if_neg (fun q => q (by assumption))])); first | done | rfl | omega)
  have p4 := df h2
  refine cw_skip (seqK_n (cw_seq (cw_seq (cw_region (ol rfl (lo_loadA (i := 0) (vs := [_, _, _, _, _, _, _, _, _, _, _, _, _, _, _, _, _, _, _, _, _, _, _, _, _, _, _, _, _]) rfl ag119 sz119 rfl rfl rfl) ?_)))))
  refine ow1 (op1_pr (r22_spare _ d d_bind_want_a d_bind_want_c d_bind_want_h d_mail_head_a d_mail_head_c d_mail_head_h d_w) (en_f cb156 rfl) rfl ?_)
  refine ow_nil (seqK_n (cw_cond rfl (fun h5 => ?_) (fun h5 => ?_)))
  · have h6 := not_t h5
    have p7 := df h6
    refine cw_seq (cw_region (oai rfl rfl (ow_nil (seqK_n (cw_ret ?_)))))
    refine seqK_r (fnK_r (res1 rfl (rv_t (v := .int _ _) rfl)) (.refl _) (congrArg (Value.int .i64) ?_))
    unfold deedE
    (repeat (first | rw [if_pos (by omega)] | rw [if_neg (by omega)] | rw [if_pos (by assumption)] | rw [if_neg (by assumption)] | rw [if_neg (fun q => q (by assumption))]))
    all_goals first | done | rfl | omega | (simp only [firstE, boundE, h2, h5, h6, if_true, if_false, Bool.false_eq_true]; (repeat (first | rw [if_pos (by omega)] | rw [if_neg (by omega)] | rw [if_pos (by assumption)] | rw [if_neg (by assumption)] | rw [if_neg (fun q => q (by assumption))])); first | done | rfl | omega)
  have h8 := not_f h5
  have p9 := dt h8
  obtain ⟨t1, t2, t3, t4, t5, t6, t7, t8, t9, t10, t11⟩ := told_iff.1 p9
  refine cw_skip (seqK_n (cw_seq (cw_region (oai rfl rfl (ow_nil ?_)))))
  refine seqK_n (cw_seq (cw_seq (cw_region (ol rfl (lo_fieldAddr rfl fl119_0) (ol rfl (lo_load1 (i := 0) (v := .int _ _) rfl ag5 rfl rfl) ?_)))))
  refine ow_nil (seqK_n (cw_block (cw_seq (cw_region (ol rfl (lo_eql rfl rfl) ?_)))))
  refine oab rfl rfl (ow_nil (seqK_n (cw_cond rfl (fun h10 => ?_) (fun h10 => ?_))))
  · have p11 := dt h10
    refine cw_seq (cw_region (ol rfl (lo_fieldAddr rfl fl119_2) (ol rfl (lo_fieldAddr rfl fl115_0) (ol rfl (lo_load1 (i := 0) (v := str _) rfl ag9 rfl rfl) ?_))))
    refine ow1 (op1_pr (r4_Name _ d.shop.name (by first | omega | decide | (simp; done))) (en_f cb69 rfl) rfl ?_)
    refine oai rfl rfl (ow_nil (seqK_n (cw_seq (cw_seq (cw_region ?_)))))
    refine omi rfl rfl (ol rfl (lo_eql rfl rfl) (omb rfl rfl (ow_sp (j := 2) rfl (fun h12 => ?_) (fun h12 => ?_))))
    · have p13 := dt h12
      refine ow1 (op1_g rfl h12 rfl (lo_fieldAddr rfl fl119_2) ?_)
      refine ow1 (op1_g rfl h12 rfl (lo_fieldAddr rfl fl115_1) ?_)
      refine ow1 (op1_g rfl h12 rfl (lo_load1 (i := 0) (v := .int _ _) rfl ag5 rfl rfl) ?_)
      refine ow1 (op1_g rfl h12 rfl (lo_gtr rfl rfl) ?_)
      refine ol rfl (lo_pick_t (v := .bool _) rfl h12 rfl) (ow_nil (seqK_n (cw_cond rfl (fun h14 => ?_) (fun h14 => ?_))))
      · have p15 := dt h14
        refine cw_region (oai rfl rfl (ow_nil (seqK_n (cw_seq (cw_region ?_)))))
        refine omi rfl rfl (ol rfl (lo_eql rfl rfl) (ow_nil (seqK_n (cw_cond_f rfl (by decide) (cw_skip ?_)))))
        refine blkK_n (seqK_n (cw_seq (cw_seq (cw_region (ol rfl (lo_fieldAddr rfl fl119_0) ?_)))))
        refine ol rfl (lo_load1 (i := 0) (v := .int _ _) rfl ag5 rfl rfl) ?_
        refine ow1 (op1_pr (r22_names _ d.kind (by omega)) (en_f cb114 rfl) rfl ?_)
        refine ow_nil (seqK_n (cw_cond_f rfl (fd (by omega)) (cw_skip (seqK_n (cw_seq ?_)))))
        refine cw_seq (cw_region (omi rfl rfl (ol rfl (lo_eql rfl rfl) (omb rfl rfl ?_))))
        refine ow1 (op1_gs rfl (by decide) rfl ?_)
        refine ow1 (op1_gs rfl (by decide) rfl ?_)
        refine ow1 (op1_gs rfl (by decide) rfl ?_)
        refine ol rfl (lo_pick_f (v := .bool _) rfl (by decide) rfl) (ow_nil (seqK_n (cw_cond_f rfl rfl (cw_skip (seqK_n ?_)))))
        refine cw_seq (cw_region (omi rfl rfl (oai rfl rfl (ow_nil (seqK_n ?_)))))
        refine cw_ret (fnK_r (res1 rfl (rv_t (v := .int _ _) rfl)) (.refl _) (congrArg (Value.int .i64) ?_))
        unfold deedE
        (repeat (first | rw [if_pos (by omega)] | rw [if_neg (by omega)] | rw [if_pos (by assumption)] | rw [if_neg (by assumption)] | rw [if_neg (fun q => q (by assumption))]))
        all_goals first | done | rfl | omega | (simp only [firstE, boundE, h2, h5, h8, h10, h12, h14, if_true, if_false, Bool.false_eq_true]; (repeat (first | rw [if_pos (by omega)] | rw [if_neg (by omega)] | rw [if_pos (by assumption)] | rw [if_neg (by assumption)] | rw [if_neg (fun q => q (by assumption))])); first | done | rfl | omega)
      have p16 := df h14
      refine cw_skip (seqK_n (cw_seq (cw_region (omi rfl rfl (ol rfl (lo_eql rfl rfl) ?_)))))
      refine ow_nil (seqK_n (cw_cond_t rfl h12 (cw_region (ol rfl (lo_fieldAddr rfl fl119_2) (ol rfl (lo_fieldAddr rfl fl115_2) ?_)))))
      refine ol rfl (lo_load1 (i := 0) (v := str _) rfl ag9 rfl rfl) ?_
      refine ow1 (op1_pr (r22_maybe _ d.shop.to (by first | omega | decide | (simp; done))) (en_f cb157 rfl) rfl ?_)
      have := maybeE_r d.shop.to
      refine oai rfl rfl (ow_nil (blkK_n (seqK_n (cw_seq (cw_seq ?_)))))
      refine cw_region (ol rfl (lo_fieldAddr rfl fl119_0) (ol rfl (lo_load1 (i := 0) (v := .int _ _) rfl ag5 rfl rfl) ?_))
      refine ow1 (op1_pr (r22_names _ d.kind (by omega)) (en_f cb114 rfl) rfl ?_)
      refine ow_nil (seqK_n (cw_cond_f rfl (fd (by omega)) (cw_skip (seqK_n (cw_seq ?_)))))
      refine cw_seq (cw_region (omi rfl rfl (ol rfl (lo_eql rfl rfl) (omb rfl rfl (ow_sp (j := 2) rfl (fun h17 => ?_) (fun h17 => ?_))))))
      · have p18 := dt h17
        refine ow1 (op1_g rfl h17 rfl (lo_fieldAddr rfl fl119_7) ?_)
        refine ow1 (op1_g rfl h17 rfl (lo_load1 (i := 0) (v := .int _ _) rfl ag5 rfl rfl) ?_)
        refine ow1 (op1_g rfl h17 rfl (lo_gtr rfl rfl) ?_)
        refine ol rfl (lo_pick_t (v := .bool _) rfl h17 rfl) (ow_nil (seqK_n (cw_cond rfl (fun h19 => ?_) (fun h19 => ?_))))
        · have p20 := dt h19
          refine cw_region (oai rfl rfl (ow_nil (seqK_n (cw_seq (cw_region ?_)))))
          refine omi rfl rfl (oai rfl rfl (ow_nil (seqK_n (cw_ret (fnK_r (res1 rfl (rv_t (v := .int _ _) rfl)) (.refl _) ?_)))))
          refine congrArg (Value.int .i64) ?_
          unfold deedE
          (repeat (first | rw [if_pos (by omega)] | rw [if_neg (by omega)] | rw [if_pos (by assumption)] | rw [if_neg (by assumption)] | rw [if_neg (fun q => q (by assumption))]))
          all_goals first | done | rfl | omega | (simp only [firstE, boundE, h2, h5, h8, h10, h12, h14, h17, h19, if_true, if_false, Bool.false_eq_true]; (repeat (first | rw [if_pos (by omega)] | rw [if_neg (by omega)] | rw [if_pos (by assumption)] | rw [if_neg (by assumption)] | rw [if_neg (fun q => q (by assumption))])); first | done | rfl | omega)
        have p21 := df h19
        refine cw_skip (seqK_n (cw_seq (cw_region (omi rfl rfl (oai rfl rfl ?_)))))
        refine ow_nil (seqK_n (cw_ret (fnK_r (res1 rfl (rv_t (v := .int _ _) rfl)) (.refl _) (congrArg (Value.int .i64) ?_))))
        unfold deedE
        (repeat (first | rw [if_pos (by omega)] | rw [if_neg (by omega)] | rw [if_pos (by assumption)] | rw [if_neg (by assumption)] | rw [if_neg (fun q => q (by assumption))]))
        all_goals first | done | rfl | omega | (simp only [firstE, boundE, h2, h5, h8, h10, h12, h14, h17, h19, if_true, if_false, Bool.false_eq_true]; (repeat (first | rw [if_pos (by omega)] | rw [if_neg (by omega)] | rw [if_pos (by assumption)] | rw [if_neg (by assumption)] | rw [if_neg (fun q => q (by assumption))])); first | done | rfl | omega)
      have p22 := df h17
      refine og rfl h17 rfl (og rfl h17 rfl (og rfl h17 rfl (ol rfl (lo_pick_f (v := .bool _) rfl h17 rfl) (ow_nil (seqK_n ?_)))))
      refine cw_cond_f rfl rfl (cw_skip (seqK_n (cw_seq (cw_region (omi rfl rfl ?_)))))
      refine oai rfl rfl (ow_nil (seqK_n (cw_ret (fnK_r (res1 rfl (rv_t (v := .int _ _) rfl)) (.refl _) (congrArg (Value.int .i64) ?_)))))
      unfold deedE
      (repeat (first | rw [if_pos (by omega)] | rw [if_neg (by omega)] | rw [if_pos (by assumption)] | rw [if_neg (by assumption)] | rw [if_neg (fun q => q (by assumption))]))
      all_goals first | done | rfl | omega | (simp only [firstE, boundE, h2, h5, h8, h10, h12, h14, h17, if_true, if_false, Bool.false_eq_true]; (repeat (first | rw [if_pos (by omega)] | rw [if_neg (by omega)] | rw [if_pos (by assumption)] | rw [if_neg (by assumption)] | rw [if_neg (fun q => q (by assumption))])); first | done | rfl | omega)
    have p23 := df h12
    refine og rfl h12 rfl (og rfl h12 rfl (og rfl h12 rfl (og rfl h12 rfl (ol rfl (lo_pick_f (v := .bool _) rfl h12 rfl) (ow_nil ?_)))))
    refine seqK_n (cw_cond_f rfl rfl (cw_skip (seqK_n (cw_seq (cw_region ?_)))))
    refine omi rfl rfl (ol rfl (lo_eql rfl rfl) (ow_nil (seqK_n (cw_cond_f rfl h12 (cw_skip ?_)))))
    refine blkK_n (seqK_n (cw_seq (cw_seq (cw_region (ol rfl (lo_fieldAddr rfl fl119_0) ?_)))))
    refine ol rfl (lo_load1 (i := 0) (v := .int _ _) rfl ag5 rfl rfl) ?_
    refine ow1 (op1_pr (r22_names _ d.kind (by omega)) (en_f cb114 rfl) rfl ?_)
    refine ow_nil (seqK_n (cw_cond_f rfl (fd (by omega)) (cw_skip (seqK_n (cw_seq ?_)))))
    refine cw_seq (cw_region (omi rfl rfl (ol rfl (lo_eql rfl rfl) (omb rfl rfl (og rfl h12 rfl ?_)))))
    refine og rfl h12 rfl (og rfl h12 rfl (ol rfl (lo_pick_f (v := .bool _) rfl h12 rfl) (ow_nil (seqK_n (cw_cond_f rfl rfl ?_)))))
    refine cw_skip (seqK_n (cw_seq (cw_region (omi rfl rfl (oai rfl rfl ?_)))))
    refine ow_nil (seqK_n (cw_ret (fnK_r (res1 rfl (rv_t (v := .int _ _) rfl)) (.refl _) (congrArg (Value.int .i64) ?_))))
    unfold deedE
    (repeat (first | rw [if_pos (by omega)] | rw [if_neg (by omega)] | rw [if_pos (by assumption)] | rw [if_neg (by assumption)] | rw [if_neg (fun q => q (by assumption))]))
    all_goals first | done | rfl | omega | (simp only [firstE, boundE, h2, h5, h8, h10, h12, if_true, if_false, Bool.false_eq_true]; (repeat (first | rw [if_pos (by omega)] | rw [if_neg (by omega)] | rw [if_pos (by assumption)] | rw [if_neg (by assumption)] | rw [if_neg (fun q => q (by assumption))])); first | done | rfl | omega)
  have p24 := df h10
  refine cw_seq (cw_region (ol rfl (lo_eql rfl rfl) (oab rfl rfl (ow_nil (seqK_n ?_)))))
  refine cw_cond rfl (fun h25 => ?_) (fun h25 => ?_)
  · have p26 := dt h25
    refine cw_seq (cw_region (ol rfl (lo_fieldAddr rfl fl119_3) (ol rfl (lo_fieldAddr rfl fl116_0) (ol rfl (lo_load1 (i := 0) (v := str _) rfl ag9 rfl rfl) ?_))))
    refine ow1 (op1_pr (r4_Name _ d.queue.name (by first | omega | decide | (simp; done))) (en_f cb69 rfl) rfl ?_)
    refine oai rfl rfl (ow_nil (seqK_n (cw_seq (cw_region (omi rfl rfl ?_)))))
    refine ol rfl (lo_eql rfl rfl) (ow_nil (seqK_n (cw_cond rfl (fun h27 => ?_) (fun h27 => ?_))))
    · have p28 := dt h27
      refine cw_region (ol rfl (lo_fieldAddr rfl fl119_3) (ol rfl (lo_fieldAddr rfl fl116_3) (ol rfl (lo_load1 (i := 0) (v := str _) rfl ag9 rfl rfl) ?_)))
      refine ow1 (op1_pr (r22_maybe _ d.queue.dead (by first | omega | decide | (simp; done))) (en_f cb157 rfl) rfl ?_)
      have := maybeE_r d.queue.dead
      refine oai rfl rfl (ow_nil (blkK_n (seqK_n (cw_seq (cw_seq ?_)))))
      refine cw_region (ol rfl (lo_fieldAddr rfl fl119_0) (ol rfl (lo_load1 (i := 0) (v := .int _ _) rfl ag5 rfl rfl) ?_))
      refine ow1 (op1_pr (r22_names _ d.kind (by omega)) (en_f cb114 rfl) rfl ?_)
      refine ow_nil (seqK_n (cw_cond_f rfl (fd (by omega)) (cw_skip (seqK_n (cw_seq ?_)))))
      refine cw_seq (cw_region (omi rfl rfl (ol rfl (lo_eql rfl rfl) (omb rfl rfl (ow_sp (j := 2) rfl (fun h29 => ?_) (fun h29 => ?_))))))
      · have p30 := dt h29
        refine ow1 (op1_g rfl h29 rfl (lo_fieldAddr rfl fl119_7) ?_)
        refine ow1 (op1_g rfl h29 rfl (lo_load1 (i := 0) (v := .int _ _) rfl ag5 rfl rfl) ?_)
        refine ow1 (op1_g rfl h29 rfl (lo_gtr rfl rfl) ?_)
        refine ol rfl (lo_pick_t (v := .bool _) rfl h29 rfl) (ow_nil (seqK_n (cw_cond rfl (fun h31 => ?_) (fun h31 => ?_))))
        · have p32 := dt h31
          refine cw_region (oai rfl rfl (ow_nil (seqK_n (cw_seq (cw_region ?_)))))
          refine omi rfl rfl (oai rfl rfl (ow_nil (seqK_n (cw_ret (fnK_r (res1 rfl (rv_t (v := .int _ _) rfl)) (.refl _) ?_)))))
          refine congrArg (Value.int .i64) ?_
          unfold deedE
          (repeat (first | rw [if_pos (by omega)] | rw [if_neg (by omega)] | rw [if_pos (by assumption)] | rw [if_neg (by assumption)] | rw [if_neg (fun q => q (by assumption))]))
          all_goals first | done | rfl | omega | (simp only [firstE, boundE, h2, h5, h8, h10, h25, h27, h29, h31, if_true, if_false, Bool.false_eq_true]; (repeat (first | rw [if_pos (by omega)] | rw [if_neg (by omega)] | rw [if_pos (by assumption)] | rw [if_neg (by assumption)] | rw [if_neg (fun q => q (by assumption))])); first | done | rfl | omega)
        have p33 := df h31
        refine cw_skip (seqK_n (cw_seq (cw_region (omi rfl rfl (oai rfl rfl ?_)))))
        refine ow_nil (seqK_n (cw_ret (fnK_r (res1 rfl (rv_t (v := .int _ _) rfl)) (.refl _) (congrArg (Value.int .i64) ?_))))
        unfold deedE
        (repeat (first | rw [if_pos (by omega)] | rw [if_neg (by omega)] | rw [if_pos (by assumption)] | rw [if_neg (by assumption)] | rw [if_neg (fun q => q (by assumption))]))
        all_goals first | done | rfl | omega | (simp only [firstE, boundE, h2, h5, h8, h10, h25, h27, h29, h31, if_true, if_false, Bool.false_eq_true]; (repeat (first | rw [if_pos (by omega)] | rw [if_neg (by omega)] | rw [if_pos (by assumption)] | rw [if_neg (by assumption)] | rw [if_neg (fun q => q (by assumption))])); first | done | rfl | omega)
      have p34 := df h29
      refine og rfl h29 rfl (og rfl h29 rfl (og rfl h29 rfl (ol rfl (lo_pick_f (v := .bool _) rfl h29 rfl) (ow_nil (seqK_n ?_)))))
      refine cw_cond_f rfl rfl (cw_skip (seqK_n (cw_seq (cw_region (omi rfl rfl ?_)))))
      refine oai rfl rfl (ow_nil (seqK_n (cw_ret (fnK_r (res1 rfl (rv_t (v := .int _ _) rfl)) (.refl _) (congrArg (Value.int .i64) ?_)))))
      unfold deedE
      (repeat (first | rw [if_pos (by omega)] | rw [if_neg (by omega)] | rw [if_pos (by assumption)] | rw [if_neg (by assumption)] | rw [if_neg (fun q => q (by assumption))]))
      all_goals first | done | rfl | omega | (simp only [firstE, boundE, h2, h5, h8, h10, h25, h27, h29, if_true, if_false, Bool.false_eq_true]; (repeat (first | rw [if_pos (by omega)] | rw [if_neg (by omega)] | rw [if_pos (by assumption)] | rw [if_neg (by assumption)] | rw [if_neg (fun q => q (by assumption))])); first | done | rfl | omega)
    have p35 := df h27
    refine cw_skip (blkK_n (seqK_n (cw_seq (cw_seq (cw_region ?_)))))
    refine ol rfl (lo_fieldAddr rfl fl119_0) (ol rfl (lo_load1 (i := 0) (v := .int _ _) rfl ag5 rfl rfl) ?_)
    refine ow1 (op1_pr (r22_names _ d.kind (by omega)) (en_f cb114 rfl) rfl ?_)
    refine ow_nil (seqK_n (cw_cond_f rfl (fd (by omega)) (cw_skip (seqK_n (cw_seq ?_)))))
    refine cw_seq (cw_region (omi rfl rfl (ol rfl (lo_eql rfl rfl) (omb rfl rfl (og rfl h27 rfl ?_)))))
    refine og rfl h27 rfl (og rfl h27 rfl (ol rfl (lo_pick_f (v := .bool _) rfl h27 rfl) (ow_nil (seqK_n (cw_cond_f rfl rfl ?_)))))
    refine cw_skip (seqK_n (cw_seq (cw_region (omi rfl rfl (oai rfl rfl ?_)))))
    refine ow_nil (seqK_n (cw_ret (fnK_r (res1 rfl (rv_t (v := .int _ _) rfl)) (.refl _) (congrArg (Value.int .i64) ?_))))
    unfold deedE
    (repeat (first | rw [if_pos (by omega)] | rw [if_neg (by omega)] | rw [if_pos (by assumption)] | rw [if_neg (by assumption)] | rw [if_neg (fun q => q (by assumption))]))
    all_goals first | done | rfl | omega | (simp only [firstE, boundE, h2, h5, h8, h10, h25, h27, if_true, if_false, Bool.false_eq_true]; (repeat (first | rw [if_pos (by omega)] | rw [if_neg (by omega)] | rw [if_pos (by assumption)] | rw [if_neg (by assumption)] | rw [if_neg (fun q => q (by assumption))])); first | done | rfl | omega)
  have p36 := df h25
  refine cw_seq (cw_seq (cw_region (ol rfl (lo_eql rfl rfl) (oab rfl rfl (ow_nil ?_)))))
  refine seqK_n (cw_cond rfl (fun h37 => ?_) (fun h37 => ?_))
  · have p38 := dt h37
    refine cw_skip (seqK_n (cw_cond_t rfl h37 (cw_region (ol rfl (lo_fieldAddr rfl fl119_4) (ol rfl (lo_loadA (i := 0) (vs := [_, _, _, _, _, _]) rfl ag117 sz117 rfl rfl rfl) ?_)))))
    refine ow1 (op1_pr (r22_checkBind _ d.bind d_bind_want_a d_bind_want_c d_bind_want_h (by simp only [BindR.wf]; first | omega | (simp; done) | (simp; omega))) (en_f cb158 rfl) rfl ?_)
    have := bindE_r d.bind
    refine oai rfl rfl (ow_nil (blkK_n (seqK_n (cw_seq (cw_seq ?_)))))
    refine cw_region (ol rfl (lo_fieldAddr rfl fl119_0) (ol rfl (lo_load1 (i := 0) (v := .int _ _) rfl ag5 rfl rfl) ?_))
    refine ow1 (op1_pr (r22_names _ d.kind (by omega)) (en_f cb114 rfl) rfl ?_)
    refine ow_nil (seqK_n (cw_cond_f rfl (fd (by omega)) (cw_skip (seqK_n (cw_seq ?_)))))
    refine cw_seq (cw_region (omi rfl rfl (ol rfl (lo_eql rfl rfl) (omb rfl rfl (ow_sp (j := 2) rfl (fun h39 => ?_) (fun h39 => ?_))))))
    · have p40 := dt h39
      refine ow1 (op1_g rfl h39 rfl (lo_fieldAddr rfl fl119_7) ?_)
      refine ow1 (op1_g rfl h39 rfl (lo_load1 (i := 0) (v := .int _ _) rfl ag5 rfl rfl) ?_)
      refine ow1 (op1_g rfl h39 rfl (lo_gtr rfl rfl) ?_)
      refine ol rfl (lo_pick_t (v := .bool _) rfl h39 rfl) (ow_nil (seqK_n (cw_cond rfl (fun h41 => ?_) (fun h41 => ?_))))
      · have p42 := dt h41
        refine cw_region (oai rfl rfl (ow_nil (seqK_n (cw_seq (cw_region ?_)))))
        refine omi rfl rfl (oai rfl rfl (ow_nil (seqK_n (cw_ret (fnK_r (res1 rfl (rv_t (v := .int _ _) rfl)) (.refl _) ?_)))))
        refine congrArg (Value.int .i64) ?_
        unfold deedE
        (repeat (first | rw [if_pos (by omega)] | rw [if_neg (by omega)] | rw [if_pos (by assumption)] | rw [if_neg (by assumption)] | rw [if_neg (fun q => q (by assumption))]))
        all_goals first | done | rfl | omega | (simp only [firstE, boundE, h2, h5, h8, h10, h25, h37, h39, h41, if_true, if_false, Bool.false_eq_true]; (repeat (first | rw [if_pos (by omega)] | rw [if_neg (by omega)] | rw [if_pos (by assumption)] | rw [if_neg (by assumption)] | rw [if_neg (fun q => q (by assumption))])); first | done | rfl | omega)
      have p43 := df h41
      refine cw_skip (seqK_n (cw_seq (cw_region (omi rfl rfl (oai rfl rfl ?_)))))
      refine ow_nil (seqK_n (cw_ret (fnK_r (res1 rfl (rv_t (v := .int _ _) rfl)) (.refl _) (congrArg (Value.int .i64) ?_))))
      unfold deedE
      (repeat (first | rw [if_pos (by omega)] | rw [if_neg (by omega)] | rw [if_pos (by assumption)] | rw [if_neg (by assumption)] | rw [if_neg (fun q => q (by assumption))]))
      all_goals first | done | rfl | omega | (simp only [firstE, boundE, h2, h5, h8, h10, h25, h37, h39, h41, if_true, if_false, Bool.false_eq_true]; (repeat (first | rw [if_pos (by omega)] | rw [if_neg (by omega)] | rw [if_pos (by assumption)] | rw [if_neg (by assumption)] | rw [if_neg (fun q => q (by assumption))])); first | done | rfl | omega)
    have p44 := df h39
    refine og rfl h39 rfl (og rfl h39 rfl (og rfl h39 rfl (ol rfl (lo_pick_f (v := .bool _) rfl h39 rfl) (ow_nil (seqK_n ?_)))))
    refine cw_cond_f rfl rfl (cw_skip (seqK_n (cw_seq (cw_region (omi rfl rfl ?_)))))
    refine oai rfl rfl (ow_nil (seqK_n (cw_ret (fnK_r (res1 rfl (rv_t (v := .int _ _) rfl)) (.refl _) (congrArg (Value.int .i64) ?_)))))
    unfold deedE
    (repeat (first | rw [if_pos (by omega)] | rw [if_neg (by omega)] | rw [if_pos (by assumption)] | rw [if_neg (by assumption)] | rw [if_neg (fun q => q (by assumption))]))
    all_goals first | done | rfl | omega | (simp only [firstE, boundE, h2, h5, h8, h10, h25, h37, h39, if_true, if_false, Bool.false_eq_true]; (repeat (first | rw [if_pos (by omega)] | rw [if_neg (by omega)] | rw [if_pos (by assumption)] | rw [if_neg (by assumption)] | rw [if_neg (fun q => q (by assumption))])); first | done | rfl | omega)
  have p45 := df h37
  refine cw_region (ol rfl (lo_eql rfl rfl) (oab rfl rfl (ow_nil (seqK_n (cw_cond rfl (fun h46 => ?_) (fun h46 => ?_))))))
  · have p47 := dt h46
    refine cw_region (ol rfl (lo_fieldAddr rfl fl119_4) (ol rfl (lo_loadA (i := 0) (vs := [_, _, _, _, _, _]) rfl ag117 sz117 rfl rfl rfl) ?_))
    refine ow1 (op1_pr (r22_checkBind _ d.bind d_bind_want_a d_bind_want_c d_bind_want_h (by simp only [BindR.wf]; first | omega | (simp; done) | (simp; omega))) (en_f cb158 rfl) rfl ?_)
    have := bindE_r d.bind
    refine oai rfl rfl (ow_nil (blkK_n (seqK_n (cw_seq (cw_seq ?_)))))
    refine cw_region (ol rfl (lo_fieldAddr rfl fl119_0) (ol rfl (lo_load1 (i := 0) (v := .int _ _) rfl ag5 rfl rfl) ?_))
    refine ow1 (op1_pr (r22_names _ d.kind (by omega)) (en_f cb114 rfl) rfl ?_)
    refine ow_nil (seqK_n (cw_cond_f rfl (fd (by omega)) (cw_skip (seqK_n (cw_seq ?_)))))
    refine cw_seq (cw_region (omi rfl rfl (ol rfl (lo_eql rfl rfl) (omb rfl rfl (ow_sp (j := 2) rfl (fun h48 => ?_) (fun h48 => ?_))))))
    · have p49 := dt h48
      refine ow1 (op1_g rfl h48 rfl (lo_fieldAddr rfl fl119_7) ?_)
      refine ow1 (op1_g rfl h48 rfl (lo_load1 (i := 0) (v := .int _ _) rfl ag5 rfl rfl) ?_)
      refine ow1 (op1_g rfl h48 rfl (lo_gtr rfl rfl) ?_)
      refine ol rfl (lo_pick_t (v := .bool _) rfl h48 rfl) (ow_nil (seqK_n (cw_cond rfl (fun h50 => ?_) (fun h50 => ?_))))
      · have p51 := dt h50
        refine cw_region (oai rfl rfl (ow_nil (seqK_n (cw_seq (cw_region ?_)))))
        refine omi rfl rfl (oai rfl rfl (ow_nil (seqK_n (cw_ret (fnK_r (res1 rfl (rv_t (v := .int _ _) rfl)) (.refl _) ?_)))))
        refine congrArg (Value.int .i64) ?_
        unfold deedE
        (repeat (first | rw [if_pos (by omega)] | rw [if_neg (by omega)] | rw [if_pos (by assumption)] | rw [if_neg (by assumption)] | rw [if_neg (fun q => q (by assumption))]))
        all_goals first | done | rfl | omega | (simp only [firstE, boundE, h2, h5, h8, h10, h25, h37, h46, h48, h50, if_true, if_false, Bool.false_eq_true]; (repeat (first | rw [if_pos (by omega)] | rw [if_neg (by omega)] | rw [if_pos (by assumption)] | rw [if_neg (by assumption)] | rw [if_neg (fun q => q (by assumption))])); first | done | rfl | omega)
      have p52 := df h50
      refine cw_skip (seqK_n (cw_seq (cw_region (omi rfl rfl (oai rfl rfl ?_)))))
      refine ow_nil (seqK_n (cw_ret (fnK_r (res1 rfl (rv_t (v := .int _ _) rfl)) (.refl _) (congrArg (Value.int .i64) ?_))))
      unfold deedE
      (repeat (first | rw [if_pos (by omega)] | rw [if_neg (by omega)] | rw [if_pos (by assumption)] | rw [if_neg (by assumption)] | rw [if_neg (fun q => q (by assumption))]))
      all_goals first | done | rfl | omega | (simp only [firstE, boundE, h2, h5, h8, h10, h25, h37, h46, h48, h50, if_true, if_false, Bool.false_eq_true]; (repeat (first | rw [if_pos (by omega)] | rw [if_neg (by omega)] | rw [if_pos (by assumption)] | rw [if_neg (by assumption)] | rw [if_neg (fun q => q (by assumption))])); first | done | rfl | omega)
    have p53 := df h48
    refine og rfl h48 rfl (og rfl h48 rfl (og rfl h48 rfl (ol rfl (lo_pick_f (v := .bool _) rfl h48 rfl) (ow_nil (seqK_n ?_)))))
    refine cw_cond_f rfl rfl (cw_skip (seqK_n (cw_seq (cw_region (omi rfl rfl ?_)))))
    refine oai rfl rfl (ow_nil (seqK_n (cw_ret (fnK_r (res1 rfl (rv_t (v := .int _ _) rfl)) (.refl _) (congrArg (Value.int .i64) ?_)))))
    unfold deedE
    (repeat (first | rw [if_pos (by omega)] | rw [if_neg (by omega)] | rw [if_pos (by assumption)] | rw [if_neg (by assumption)] | rw [if_neg (fun q => q (by assumption))]))
    all_goals first | done | rfl | omega | (simp only [firstE, boundE, h2, h5, h8, h10, h25, h37, h46, h48, if_true, if_false, Bool.false_eq_true]; (repeat (first | rw [if_pos (by omega)] | rw [if_neg (by omega)] | rw [if_pos (by assumption)] | rw [if_neg (by assumption)] | rw [if_neg (fun q => q (by assumption))])); first | done | rfl | omega)
  have p54 := df h46
  refine cw_seq (cw_seq (cw_region (ol rfl (lo_eql rfl rfl) (oab rfl rfl (ow_nil ?_)))))
  refine seqK_n (cw_cond rfl (fun h55 => ?_) (fun h55 => ?_))
  · have p56 := dt h55
    refine cw_skip (seqK_n (cw_cond_t rfl h55 (cw_region (ol rfl (lo_fieldAddr rfl fl119_11) (ol rfl (lo_loadA (i := 0) (vs := [_, _, _, _, _, _, _]) rfl ag42 sz42 rfl rfl rfl) ?_)))))
    refine ow1 (op1_pr (r13_Check _ d.mail d_mail_head_a d_mail_head_c d_mail_head_h (by simp only [Mail.wf]; first | omega | (simp; done) | (simp; omega))) (en_f cb155 rfl) rfl ?_)
    have := mailC_r d.mail
    refine oai rfl rfl (ow_nil (blkK_n (seqK_n (cw_seq (cw_seq ?_)))))
    refine cw_region (ol rfl (lo_fieldAddr rfl fl119_0) (ol rfl (lo_load1 (i := 0) (v := .int _ _) rfl ag5 rfl rfl) ?_))
    refine ow1 (op1_pr (r22_names _ d.kind (by omega)) (en_f cb114 rfl) rfl ?_)
    refine ow_nil (seqK_n (cw_cond_f rfl (fd (by omega)) (cw_skip (seqK_n (cw_seq ?_)))))
    refine cw_seq (cw_region (omi rfl rfl (ol rfl (lo_eql rfl rfl) (omb rfl rfl (ow_sp (j := 2) rfl (fun h57 => ?_) (fun h57 => ?_))))))
    · have p58 := dt h57
      refine ow1 (op1_g rfl h57 rfl (lo_fieldAddr rfl fl119_7) ?_)
      refine ow1 (op1_g rfl h57 rfl (lo_load1 (i := 0) (v := .int _ _) rfl ag5 rfl rfl) ?_)
      refine ow1 (op1_g rfl h57 rfl (lo_gtr rfl rfl) ?_)
      refine ol rfl (lo_pick_t (v := .bool _) rfl h57 rfl) (ow_nil (seqK_n (cw_cond rfl (fun h59 => ?_) (fun h59 => ?_))))
      · have p60 := dt h59
        refine cw_region (oai rfl rfl (ow_nil (seqK_n (cw_seq (cw_region ?_)))))
        refine omi rfl rfl (oai rfl rfl (ow_nil (seqK_n (cw_ret (fnK_r (res1 rfl (rv_t (v := .int _ _) rfl)) (.refl _) ?_)))))
        refine congrArg (Value.int .i64) ?_
        unfold deedE
        (repeat (first | rw [if_pos (by omega)] | rw [if_neg (by omega)] | rw [if_pos (by assumption)] | rw [if_neg (by assumption)] | rw [if_neg (fun q => q (by assumption))]))
        all_goals first | done | rfl | omega | (simp only [firstE, boundE, h2, h5, h8, h10, h25, h37, h46, h55, h57, h59, if_true, if_false, Bool.false_eq_true]; (repeat (first | rw [if_pos (by omega)] | rw [if_neg (by omega)] | rw [if_pos (by assumption)] | rw [if_neg (by assumption)] | rw [if_neg (fun q => q (by assumption))])); first | done | rfl | omega)
      have p61 := df h59
      refine cw_skip (seqK_n (cw_seq (cw_region (omi rfl rfl (oai rfl rfl ?_)))))
      refine ow_nil (seqK_n (cw_ret (fnK_r (res1 rfl (rv_t (v := .int _ _) rfl)) (.refl _) (congrArg (Value.int .i64) ?_))))
      unfold deedE
      (repeat (first | rw [if_pos (by omega)] | rw [if_neg (by omega)] | rw [if_pos (by assumption)] | rw [if_neg (by assumption)] | rw [if_neg (fun q => q (by assumption))]))
      all_goals first | done | rfl | omega | (simp only [firstE, boundE, h2, h5, h8, h10, h25, h37, h46, h55, h57, h59, if_true, if_false, Bool.false_eq_true]; (repeat (first | rw [if_pos (by omega)] | rw [if_neg (by omega)] | rw [if_pos (by assumption)] | rw [if_neg (by assumption)] | rw [if_neg (fun q => q (by assumption))])); first | done | rfl | omega)
    have p62 := df h57
    refine og rfl h57 rfl (og rfl h57 rfl (og rfl h57 rfl (ol rfl (lo_pick_f (v := .bool _) rfl h57 rfl) (ow_nil (seqK_n ?_)))))
    refine cw_cond_f rfl rfl (cw_skip (seqK_n (cw_seq (cw_region (omi rfl rfl ?_)))))
    refine oai rfl rfl (ow_nil (seqK_n (cw_ret (fnK_r (res1 rfl (rv_t (v := .int _ _) rfl)) (.refl _) (congrArg (Value.int .i64) ?_)))))
    unfold deedE
    (repeat (first | rw [if_pos (by omega)] | rw [if_neg (by omega)] | rw [if_pos (by assumption)] | rw [if_neg (by assumption)] | rw [if_neg (fun q => q (by assumption))]))
    all_goals first | done | rfl | omega | (simp only [firstE, boundE, h2, h5, h8, h10, h25, h37, h46, h55, h57, if_true, if_false, Bool.false_eq_true]; (repeat (first | rw [if_pos (by omega)] | rw [if_neg (by omega)] | rw [if_pos (by assumption)] | rw [if_neg (by assumption)] | rw [if_neg (fun q => q (by assumption))])); first | done | rfl | omega)
  have p63 := df h55
  refine cw_region (ol rfl (lo_eql rfl rfl) (oab rfl rfl (ow_nil (seqK_n (cw_cond rfl (fun h64 => ?_) (fun h64 => ?_))))))
  · have p65 := dt h64
    refine cw_region (ol rfl (lo_fieldAddr rfl fl119_11) (ol rfl (lo_loadA (i := 0) (vs := [_, _, _, _, _, _, _]) rfl ag42 sz42 rfl rfl rfl) ?_))
    refine ow1 (op1_pr (r13_Check _ d.mail d_mail_head_a d_mail_head_c d_mail_head_h (by simp only [Mail.wf]; first | omega | (simp; done) | (simp; omega))) (en_f cb155 rfl) rfl ?_)
    have := mailC_r d.mail
    refine oai rfl rfl (ow_nil (blkK_n (seqK_n (cw_seq (cw_seq ?_)))))
    refine cw_region (ol rfl (lo_fieldAddr rfl fl119_0) (ol rfl (lo_load1 (i := 0) (v := .int _ _) rfl ag5 rfl rfl) ?_))
    refine ow1 (op1_pr (r22_names _ d.kind (by omega)) (en_f cb114 rfl) rfl ?_)
    refine ow_nil (seqK_n (cw_cond_f rfl (fd (by omega)) (cw_skip (seqK_n (cw_seq ?_)))))
    refine cw_seq (cw_region (omi rfl rfl (ol rfl (lo_eql rfl rfl) (omb rfl rfl (ow_sp (j := 2) rfl (fun h66 => ?_) (fun h66 => ?_))))))
    · have p67 := dt h66
      refine ow1 (op1_g rfl h66 rfl (lo_fieldAddr rfl fl119_7) ?_)
      refine ow1 (op1_g rfl h66 rfl (lo_load1 (i := 0) (v := .int _ _) rfl ag5 rfl rfl) ?_)
      refine ow1 (op1_g rfl h66 rfl (lo_gtr rfl rfl) ?_)
      refine ol rfl (lo_pick_t (v := .bool _) rfl h66 rfl) (ow_nil (seqK_n (cw_cond rfl (fun h68 => ?_) (fun h68 => ?_))))
      · have p69 := dt h68
        refine cw_region (oai rfl rfl (ow_nil (seqK_n (cw_seq (cw_region ?_)))))
        refine omi rfl rfl (oai rfl rfl (ow_nil (seqK_n (cw_ret (fnK_r (res1 rfl (rv_t (v := .int _ _) rfl)) (.refl _) ?_)))))
        refine congrArg (Value.int .i64) ?_
        unfold deedE
        (repeat (first | rw [if_pos (by omega)] | rw [if_neg (by omega)] | rw [if_pos (by assumption)] | rw [if_neg (by assumption)] | rw [if_neg (fun q => q (by assumption))]))
        all_goals first | done | rfl | omega | (simp only [firstE, boundE, h2, h5, h8, h10, h25, h37, h46, h55, h64, h66, h68, if_true, if_false, Bool.false_eq_true]; (repeat (first | rw [if_pos (by omega)] | rw [if_neg (by omega)] | rw [if_pos (by assumption)] | rw [if_neg (by assumption)] | rw [if_neg (fun q => q (by assumption))])); first | done | rfl | omega)
      have p70 := df h68
      refine cw_skip (seqK_n (cw_seq (cw_region (omi rfl rfl (oai rfl rfl ?_)))))
      refine ow_nil (seqK_n (cw_ret (fnK_r (res1 rfl (rv_t (v := .int _ _) rfl)) (.refl _) (congrArg (Value.int .i64) ?_))))
      unfold deedE
      (repeat (first | rw [if_pos (by omega)] | rw [if_neg (by omega)] | rw [if_pos (by assumption)] | rw [if_neg (by assumption)] | rw [if_neg (fun q => q (by assumption))]))
      all_goals first | done | rfl | omega | (simp only [firstE, boundE, h2, h5, h8, h10, h25, h37, h46, h55, h64, h66, h68, if_true, if_false, Bool.false_eq_true]; (repeat (first | rw [if_pos (by omega)] | rw [if_neg (by omega)] | rw [if_pos (by assumption)] | rw [if_neg (by assumption)] | rw [if_neg (fun q => q (by assumption))])); first | done | rfl | omega)
    have p71 := df h66
    refine og rfl h66 rfl (og rfl h66 rfl (og rfl h66 rfl (ol rfl (lo_pick_f (v := .bool _) rfl h66 rfl) (ow_nil (seqK_n ?_)))))
    refine cw_cond_f rfl rfl (cw_skip (seqK_n (cw_seq (cw_region (omi rfl rfl ?_)))))
    refine oai rfl rfl (ow_nil (seqK_n (cw_ret (fnK_r (res1 rfl (rv_t (v := .int _ _) rfl)) (.refl _) (congrArg (Value.int .i64) ?_)))))
    unfold deedE
    (repeat (first | rw [if_pos (by omega)] | rw [if_neg (by omega)] | rw [if_pos (by assumption)] | rw [if_neg (by assumption)] | rw [if_neg (fun q => q (by assumption))]))
    all_goals first | done | rfl | omega | (simp only [firstE, boundE, h2, h5, h8, h10, h25, h37, h46, h55, h64, h66, if_true, if_false, Bool.false_eq_true]; (repeat (first | rw [if_pos (by omega)] | rw [if_neg (by omega)] | rw [if_pos (by assumption)] | rw [if_neg (by assumption)] | rw [if_neg (fun q => q (by assumption))])); first | done | rfl | omega)
  have p72 := df h64
  refine cw_seq (cw_region (ol rfl (lo_eql rfl rfl) (oab rfl rfl (ow_nil (seqK_n ?_)))))
  refine cw_cond rfl (fun h73 => ?_) (fun h73 => ?_)
  · have p74 := dt h73
    refine cw_seq (cw_region (ol rfl (lo_fieldAddr rfl fl119_12) (ol rfl (lo_load1 (i := 0) (v := str _) rfl ag9 rfl rfl) (ol rfl (lo_len_str rfl Tryz.underlying9) (ol rfl (lo_gtr rfl rfl) ?_)))))
    refine ow_nil (seqK_n (cw_cond rfl (fun h75 => ?_) (fun h75 => ?_)))
    · have p76 := dt h75
      refine cw_region (oai rfl rfl (ow_nil (blkK_n (seqK_n (cw_seq ?_)))))
      refine cw_seq (cw_region (ol rfl (lo_fieldAddr rfl fl119_0) (ol rfl (lo_load1 (i := 0) (v := .int _ _) rfl ag5 rfl rfl) ?_)))
      refine ow1 (op1_pr (r22_names _ d.kind (by omega)) (en_f cb114 rfl) rfl ?_)
      refine ow_nil (seqK_n (cw_cond_f rfl (fd (by omega)) (cw_skip (seqK_n (cw_seq ?_)))))
      refine cw_seq (cw_region (omi rfl rfl (ol rfl (lo_eql rfl rfl) (omb rfl rfl ?_))))
      refine ow1 (op1_gs rfl (by decide) rfl ?_)
      refine ow1 (op1_gs rfl (by decide) rfl ?_)
      refine ow1 (op1_gs rfl (by decide) rfl ?_)
      refine ol rfl (lo_pick_f (v := .bool _) rfl (by decide) rfl) (ow_nil (seqK_n (cw_cond_f rfl rfl (cw_skip (seqK_n ?_)))))
      refine cw_seq (cw_region (omi rfl rfl (oai rfl rfl (ow_nil (seqK_n ?_)))))
      refine cw_ret (fnK_r (res1 rfl (rv_t (v := .int _ _) rfl)) (.refl _) (congrArg (Value.int .i64) ?_))
      unfold deedE
      (repeat (first | rw [if_pos (by omega)] | rw [if_neg (by omega)] | rw [if_pos (by assumption)] | rw [if_neg (by assumption)] | rw [if_neg (fun q => q (by assumption))]))
      all_goals first | done | rfl | omega | (simp only [firstE, boundE, h2, h5, h8, h10, h25, h37, h46, h55, h64, h73, h75, if_true, if_false, Bool.false_eq_true]; (repeat (first | rw [if_pos (by omega)] | rw [if_neg (by omega)] | rw [if_pos (by assumption)] | rw [if_neg (by assumption)] | rw [if_neg (fun q => q (by assumption))])); first | done | rfl | omega)
    have p77 := df h75
    refine cw_skip (blkK_n (seqK_n (cw_seq (cw_seq (cw_region ?_)))))
    refine ol rfl (lo_fieldAddr rfl fl119_0) (ol rfl (lo_load1 (i := 0) (v := .int _ _) rfl ag5 rfl rfl) ?_)
    refine ow1 (op1_pr (r22_names _ d.kind (by omega)) (en_f cb114 rfl) rfl ?_)
    refine ow_nil (seqK_n (cw_cond_f rfl (fd (by omega)) (cw_skip (seqK_n (cw_seq ?_)))))
    refine cw_seq (cw_region (omi rfl rfl (ol rfl (lo_eql rfl rfl) (omb rfl rfl ?_))))
    refine ow1 (op1_g rfl (by decide) rfl (lo_fieldAddr rfl fl119_7) ?_)
    refine ow1 (op1_g rfl (by decide) rfl (lo_load1 (i := 0) (v := .int _ _) rfl ag5 rfl rfl) ?_)
    refine ow1 (op1_g rfl (by decide) rfl (lo_gtr rfl rfl) ?_)
    refine ol rfl (lo_pick_t (v := .bool _) rfl (by decide) rfl) (ow_nil (seqK_n (cw_cond rfl (fun h78 => ?_) (fun h78 => ?_))))
    · have p79 := dt h78
      refine cw_region (oai rfl rfl (ow_nil (seqK_n (cw_seq (cw_region ?_)))))
      refine omi rfl rfl (oai rfl rfl (ow_nil (seqK_n (cw_ret (fnK_r (res1 rfl (rv_t (v := .int _ _) rfl)) (.refl _) ?_)))))
      refine congrArg (Value.int .i64) ?_
      unfold deedE
      (repeat (first | rw [if_pos (by omega)] | rw [if_neg (by omega)] | rw [if_pos (by assumption)] | rw [if_neg (by assumption)] | rw [if_neg (fun q => q (by assumption))]))
      all_goals first | done | rfl | omega | (simp only [firstE, boundE, h2, h5, h8, h10, h25, h37, h46, h55, h64, h73, h75, h78, if_true, if_false, Bool.false_eq_true]; (repeat (first | rw [if_pos (by omega)] | rw [if_neg (by omega)] | rw [if_pos (by assumption)] | rw [if_neg (by assumption)] | rw [if_neg (fun q => q (by assumption))])); first | done | rfl | omega)
    have p80 := df h78
    refine cw_skip (seqK_n (cw_seq (cw_region (omi rfl rfl (oai rfl rfl ?_)))))
    refine ow_nil (seqK_n (cw_ret (fnK_r (res1 rfl (rv_t (v := .int _ _) rfl)) (.refl _) (congrArg (Value.int .i64) ?_))))
    unfold deedE
    (repeat (first | rw [if_pos (by omega)] | rw [if_neg (by omega)] | rw [if_pos (by assumption)] | rw [if_neg (by assumption)] | rw [if_neg (fun q => q (by assumption))]))
    all_goals first | done | rfl | omega | (simp only [firstE, boundE, h2, h5, h8, h10, h25, h37, h46, h55, h64, h73, h75, h78, if_true, if_false, Bool.false_eq_true]; (repeat (first | rw [if_pos (by omega)] | rw [if_neg (by omega)] | rw [if_pos (by assumption)] | rw [if_neg (by assumption)] | rw [if_neg (fun q => q (by assumption))])); first | done | rfl | omega)
  have p81 := df h73
  refine cw_skip (blkK_n (seqK_n (cw_seq (cw_seq (cw_region ?_)))))
  refine ol rfl (lo_fieldAddr rfl fl119_0) (ol rfl (lo_load1 (i := 0) (v := .int _ _) rfl ag5 rfl rfl) ?_)
  refine ow1 (op1_pr (r22_names _ d.kind (by omega)) (en_f cb114 rfl) rfl ?_)
  refine ow_nil (seqK_n (cw_cond rfl (fun h82 => ?_) (fun h82 => ?_)))
  · have p83 := dt h82
    refine cw_region (ol rfl (lo_fieldAddr rfl fl119_5) (ol rfl (lo_load1 (i := 0) (v := str _) rfl ag9 rfl rfl) ?_))
    refine ow1 (op1_pr (r4_Name _ d.name (by first | omega | decide | (simp; done))) (en_f cb69 rfl) rfl ?_)
    refine oai rfl rfl (ow_nil (seqK_n (cw_seq (cw_seq (cw_region ?_)))))
    refine omi rfl rfl (ol rfl (lo_eql rfl rfl) (omb rfl rfl (ow_sp (j := 2) rfl (fun h84 => ?_) (fun h84 => ?_))))
    · have p85 := dt h84
      refine ow1 (op1_g rfl h84 rfl (lo_fieldAddr rfl fl119_7) ?_)
      refine ow1 (op1_g rfl h84 rfl (lo_load1 (i := 0) (v := .int _ _) rfl ag5 rfl rfl) ?_)
      refine ow1 (op1_g rfl h84 rfl (lo_gtr rfl rfl) ?_)
      refine ol rfl (lo_pick_t (v := .bool _) rfl h84 rfl) (ow_nil (seqK_n (cw_cond rfl (fun h86 => ?_) (fun h86 => ?_))))
      · have p87 := dt h86
        refine cw_region (oai rfl rfl (ow_nil (seqK_n (cw_seq (cw_region ?_)))))
        refine omi rfl rfl (oai rfl rfl (ow_nil (seqK_n (cw_ret (fnK_r (res1 rfl (rv_t (v := .int _ _) rfl)) (.refl _) ?_)))))
        refine congrArg (Value.int .i64) ?_
        unfold deedE
        (repeat (first | rw [if_pos (by omega)] | rw [if_neg (by omega)] | rw [if_pos (by assumption)] | rw [if_neg (by assumption)] | rw [if_neg (fun q => q (by assumption))]))
        all_goals first | done | rfl | omega | (simp only [firstE, boundE, h2, h5, h8, h10, h25, h37, h46, h55, h64, h73, h82, h84, h86, if_true, if_false, Bool.false_eq_true]; (repeat (first | rw [if_pos (by omega)] | rw [if_neg (by omega)] | rw [if_pos (by assumption)] | rw [if_neg (by assumption)] | rw [if_neg (fun q => q (by assumption))])); first | done | rfl | omega)
      have p88 := df h86
      refine cw_skip (seqK_n (cw_seq (cw_region (omi rfl rfl (oai rfl rfl ?_)))))
      refine ow_nil (seqK_n (cw_ret (fnK_r (res1 rfl (rv_t (v := .int _ _) rfl)) (.refl _) (congrArg (Value.int .i64) ?_))))
      unfold deedE
      (repeat (first | rw [if_pos (by omega)] | rw [if_neg (by omega)] | rw [if_pos (by assumption)] | rw [if_neg (by assumption)] | rw [if_neg (fun q => q (by assumption))]))
      all_goals first | done | rfl | omega | (simp only [firstE, boundE, h2, h5, h8, h10, h25, h37, h46, h55, h64, h73, h82, h84, h86, if_true, if_false, Bool.false_eq_true]; (repeat (first | rw [if_pos (by omega)] | rw [if_neg (by omega)] | rw [if_pos (by assumption)] | rw [if_neg (by assumption)] | rw [if_neg (fun q => q (by assumption))])); first | done | rfl | omega)
    have p89 := df h84
    refine og rfl h84 rfl (og rfl h84 rfl (og rfl h84 rfl (ol rfl (lo_pick_f (v := .bool _) rfl h84 rfl) (ow_nil (seqK_n ?_)))))
    refine cw_cond_f rfl rfl (cw_skip (seqK_n (cw_seq (cw_region (omi rfl rfl ?_)))))
    refine oai rfl rfl (ow_nil (seqK_n (cw_ret (fnK_r (res1 rfl (rv_t (v := .int _ _) rfl)) (.refl _) (congrArg (Value.int .i64) ?_)))))
    unfold deedE
    (repeat (first | rw [if_pos (by omega)] | rw [if_neg (by omega)] | rw [if_pos (by assumption)] | rw [if_neg (by assumption)] | rw [if_neg (fun q => q (by assumption))]))
    all_goals first | done | rfl | omega | (simp only [firstE, boundE, h2, h5, h8, h10, h25, h37, h46, h55, h64, h73, h82, h84, if_true, if_false, Bool.false_eq_true]; (repeat (first | rw [if_pos (by omega)] | rw [if_neg (by omega)] | rw [if_pos (by assumption)] | rw [if_neg (by assumption)] | rw [if_neg (fun q => q (by assumption))])); first | done | rfl | omega)
  have p90 := df h82
  refine cw_skip (seqK_n (cw_seq (cw_seq (cw_region (omi rfl rfl ?_)))))
  refine ol rfl (lo_eql rfl rfl) (omb rfl rfl ?_)
  refine ow1 (op1_g rfl (by decide) rfl (lo_fieldAddr rfl fl119_7) ?_)
  refine ow1 (op1_g rfl (by decide) rfl (lo_load1 (i := 0) (v := .int _ _) rfl ag5 rfl rfl) ?_)
  refine ow1 (op1_g rfl (by decide) rfl (lo_gtr rfl rfl) ?_)
  refine ol rfl (lo_pick_t (v := .bool _) rfl (by decide) rfl) (ow_nil (seqK_n (cw_cond rfl (fun h91 => ?_) (fun h91 => ?_))))
  · have p92 := dt h91
    refine cw_region (oai rfl rfl (ow_nil (seqK_n (cw_seq (cw_region ?_)))))
    refine omi rfl rfl (oai rfl rfl (ow_nil (seqK_n (cw_ret (fnK_r (res1 rfl (rv_t (v := .int _ _) rfl)) (.refl _) ?_)))))
    refine congrArg (Value.int .i64) ?_
    unfold deedE
    (repeat (first | rw [if_pos (by omega)] | rw [if_neg (by omega)] | rw [if_pos (by assumption)] | rw [if_neg (by assumption)] | rw [if_neg (fun q => q (by assumption))]))
    all_goals first | done | rfl | omega | (simp only [firstE, boundE, h2, h5, h8, h10, h25, h37, h46, h55, h64, h73, h82, h91, if_true, if_false, Bool.false_eq_true]; (repeat (first | rw [if_pos (by omega)] | rw [if_neg (by omega)] | rw [if_pos (by assumption)] | rw [if_neg (by assumption)] | rw [if_neg (fun q => q (by assumption))])); first | done | rfl | omega)
  have p93 := df h91
  refine cw_skip (seqK_n (cw_seq (cw_region (omi rfl rfl (oai rfl rfl ?_)))))
  refine ow_nil (seqK_n (cw_ret (fnK_r (res1 rfl (rv_t (v := .int _ _) rfl)) (.refl _) (congrArg (Value.int .i64) ?_))))
  unfold deedE
  (repeat (first | rw [if_pos (by omega)] | rw [if_neg (by omega)] | rw [if_pos (by assumption)] | rw [if_neg (by assumption)] | rw [if_neg (fun q => q (by assumption))]))
  all_goals first | done | rfl | omega | (simp only [firstE, boundE, h2, h5, h8, h10, h25, h37, h46, h55, h64, h73, h82, h91, if_true, if_false, Bool.false_eq_true]; (repeat (first | rw [if_pos (by omega)] | rw [if_neg (by omega)] | rw [if_pos (by assumption)] | rw [if_neg (by assumption)] | rw [if_neg (fun q => q (by assumption))])); first | done | rfl | omega)
end Go.SW
set_option linter.unusedVariables false
set_option maxRecDepth 100000
set_option maxHeartbeats 4000000
namespace Go.SW
open Go.Proofs
theorem cb159 : Callable Tryz.prog 159 := callable_of Tryz.func159 (by kernel_rfl) (by kernel_rfl)
theorem cb160 : Callable Tryz.prog 160 := callable_of Tryz.func160 (by kernel_rfl) (by kernel_rfl)
theorem fl116_1 : Fld Tryz.prog 116 1 1 := fun b o w => by kernel_rfl
theorem fl116_2 : Fld Tryz.prog 116 2 2 := fun b o w => by kernel_rfl
theorem zr117 : Zr Tryz.prog 117 [str [], str [], .bool false, str [], .slice none 0 0, .bool false] := fun w => ⟨.agg #[str [], str [], .bool false, str [], .slice none 0 0, .bool false], by kernel_rfl, rfl⟩
theorem r13_Bytes (H : Hp) (m : Mail) (m_head_a : Option Addr) (m_head_c : Nat) (m_head_h : SlH pairE 4 H (.slice m_head_a m.head.length m_head_c) m.head) (m_w : Mail.wf m) (hE : mailC m = 0) : Pr Tryz.prog 160 #[.agg (Mail.cells m m_head_a m_head_c).toArray] H (str (mailB m)) := by
  refine pr_cw Tryz.func160 rfl Tryz.ntmps160 rfl (fun N => ?_)
  have m_w' := m_w
  simp only [Mail.wf] at m_w'
  obtain ⟨mk1, mk2, mk3, mk4, mk5⟩ := mailC_ok hE
  have hkd : ∀ p ∈ m.head, 0 ≤ p.kind := slh_kind m_head_h
  have hsx := smallH_ok mk3
  have hrl := r9B_le mk3 hkd
  refine cw_seq (cw_region (ow1 (op1_box (cs := [_, _, _, _, _, _, _]) 0 rfl rfl (fun b1 => ?_))))
  refine ol rfl (lo_assign (v := str _) rfl) (ow_nil (seqK_n (cw_seq (cw_anyL mixd (vw_q 0 rfl (by kernel_rfl) (by repeat (first | exact lle_l0 | exact LLe.refl _ | exact lle_none | refine lle_up ?_ rfl)) (fun _ _ hh hl => lo_fieldAddr rfl fl42_0) ?_)))))
  refine vw_q 1 rfl (by kernel_rfl) (by repeat (first | exact lle_l0 | exact LLe.refl _ | exact lle_none | refine lle_up ?_ rfl)) (fun _ _ hh hl => lo_load1 (i := 0) (v := .int _ _) rfl ag39 (hl _ _ rfl) rfl) ?_
  have := numB_len (numK 8) (m.id).toNat
  have := numK_le 8
  have : numK 8 = 8 := by decide
  refine vw_qc 2 rfl (by kernel_rfl) (by repeat (first | exact lle_l0 | exact LLe.refl _ | exact lle_none | refine lle_up ?_ rfl)) (r1_Num _ m.id (by omega) 8 (by omega)) (en_f cb95 rfl) ?_
  refine vw_q 3 rfl (by kernel_rfl) (by repeat (first | exact lle_l0 | exact LLe.refl _ | exact lle_none | refine lle_up ?_ rfl)) (fun _ _ hh hl => lo_fieldAddr rfl fl42_1) ?_
  refine vw_q 4 rfl (by kernel_rfl) (by repeat (first | exact lle_l0 | exact LLe.refl _ | exact lle_none | refine lle_up ?_ rfl)) (fun _ _ hh hl => lo_load1 (i := 0) (v := str _) rfl ag9 (hl _ _ rfl) rfl) ?_
  have := txtB_len m.shop
  refine vw_qc 5 rfl (by kernel_rfl) (by repeat (first | exact lle_l0 | exact LLe.refl _ | exact lle_none | refine lle_up ?_ rfl)) (r1_Text _ m.shop (by first | omega | (simp; done) | (simp; omega))) (en_f cb94 rfl) ?_
  refine vw_q 6 rfl (by kernel_rfl) (by repeat (first | exact lle_l0 | exact LLe.refl _ | exact lle_none | refine lle_up ?_ rfl)) (fun _ _ hh hl => lo_cat rfl rfl (by first | omega | (simp only [List.length_append, List.length_cons, List.length_nil]; omega))) ?_
  refine vw_q 7 rfl (by kernel_rfl) (by repeat (first | exact lle_l0 | exact LLe.refl _ | exact lle_none | refine lle_up ?_ rfl)) (fun _ _ hh hl => lo_fieldAddr rfl fl42_2) ?_
  refine vw_q 8 rfl (by kernel_rfl) (by repeat (first | exact lle_l0 | exact LLe.refl _ | exact lle_none | refine lle_up ?_ rfl)) (fun _ _ hh hl => lo_load1 (i := 0) (v := str _) rfl ag9 (hl _ _ rfl) rfl) ?_
  have := txtB_len m.key
  refine vw_qc 9 rfl (by kernel_rfl) (by repeat (first | exact lle_l0 | exact LLe.refl _ | exact lle_none | refine lle_up ?_ rfl)) (r1_Text _ m.key (by first | omega | (simp; done) | (simp; omega))) (en_f cb94 rfl) ?_
  refine vw_q 10 rfl (by kernel_rfl) (by repeat (first | exact lle_l0 | exact LLe.refl _ | exact lle_none | refine lle_up ?_ rfl)) (fun _ _ hh hl => lo_cat rfl rfl (by first | omega | (simp only [List.length_append, List.length_cons, List.length_nil]; omega))) ?_
  refine vw_q 11 rfl (by kernel_rfl) (by repeat (first | exact lle_l0 | exact LLe.refl _ | exact lle_none | refine lle_up ?_ rfl)) (fun _ _ hh hl => lo_fieldAddr rfl fl42_3) ?_
  refine vw_q 12 rfl (by kernel_rfl) (by repeat (first | exact lle_l0 | exact LLe.refl _ | exact lle_none | refine lle_up ?_ rfl)) (fun _ _ hh hl => lo_load1 (i := 0) (v := .slice _ _ _) rfl ag40 (hl _ _ rfl) rfl) ?_
  have hsmx : smallH m.head := by first | assumption | exact smallH_lightR (by assumption) | exact smallH_light (by assumption)
  have := r9B_len hsmx
  have := hsmx.1
  refine vw_qc 13 rfl (by kernel_rfl) (by repeat (first | exact lle_l0 | exact LLe.refl _ | exact lle_none | refine lle_up ?_ rfl)) (r9_Bytes _ m_head_a m.head.length m_head_c m.head m_head_h (by first | assumption | exact smallH_lightR (by assumption) | exact smallH_light (by assumption))) (en_f cb96 rfl) ?_
  refine vw_q 14 rfl (by kernel_rfl) (by repeat (first | exact lle_l0 | exact LLe.refl _ | exact lle_none | refine lle_up ?_ rfl)) (fun _ _ hh hl => lo_cat rfl rfl (by first | omega | (simp only [List.length_append, List.length_cons, List.length_nil]; omega))) ?_
  refine vw_q 15 rfl (by kernel_rfl) (by repeat (first | exact lle_l0 | exact LLe.refl _ | exact lle_none | refine lle_up ?_ rfl)) (fun _ _ hh hl => lo_fieldAddr rfl fl42_4) ?_
  refine vw_q 16 rfl (by kernel_rfl) (by repeat (first | exact lle_l0 | exact LLe.refl _ | exact lle_none | refine lle_up ?_ rfl)) (fun _ _ hh hl => lo_load1 (i := 0) (v := str _) rfl ag9 (hl _ _ rfl) rfl) ?_
  have := txtB_len m.body
  refine vw_qc 17 rfl (by kernel_rfl) (by repeat (first | exact lle_l0 | exact LLe.refl _ | exact lle_none | refine lle_up ?_ rfl)) (r1_Text _ m.body (by first | omega | (simp; done) | (simp; omega))) (en_f cb94 rfl) ?_
  refine vw_q 18 rfl (by kernel_rfl) (by repeat (first | exact lle_l0 | exact LLe.refl _ | exact lle_none | refine lle_up ?_ rfl)) (fun _ _ hh hl => lo_cat rfl rfl (by first | omega | (simp only [List.length_append, List.length_cons, List.length_nil]; omega))) ?_
  refine vw_q 19 rfl (by kernel_rfl) (by repeat (first | exact lle_l0 | exact LLe.refl _ | exact lle_none | refine lle_up ?_ rfl)) (fun _ _ hh hl => lo_fieldAddr rfl fl42_5) ?_
  refine vw_q 20 rfl (by kernel_rfl) (by repeat (first | exact lle_l0 | exact LLe.refl _ | exact lle_none | refine lle_up ?_ rfl)) (fun _ _ hh hl => lo_load1 (i := 0) (v := .int _ _) rfl ag39 (hl _ _ rfl) rfl) ?_
  have := numB_len (numK 8) (m.due).toNat
  have := numK_le 8
  have : numK 8 = 8 := by decide
  refine vw_qc 21 rfl (by kernel_rfl) (by repeat (first | exact lle_l0 | exact LLe.refl _ | exact lle_none | refine lle_up ?_ rfl)) (r1_Num _ m.due (by omega) 8 (by omega)) (en_f cb95 rfl) ?_
  refine vw_q 22 rfl (by kernel_rfl) (by repeat (first | exact lle_l0 | exact LLe.refl _ | exact lle_none | refine lle_up ?_ rfl)) (fun _ _ hh hl => lo_cat rfl rfl (by first | omega | (simp only [List.length_append, List.length_cons, List.length_nil]; omega))) ?_
  refine vw_q 23 rfl (by kernel_rfl) (by repeat (first | exact lle_l0 | exact LLe.refl _ | exact lle_none | refine lle_up ?_ rfl)) (fun _ _ hh hl => lo_fieldAddr rfl fl42_6) ?_
  refine vw_q 24 rfl (by kernel_rfl) (by repeat (first | exact lle_l0 | exact LLe.refl _ | exact lle_none | refine lle_up ?_ rfl)) (fun _ _ hh hl => lo_load1 (i := 0) (v := .int _ _) rfl ag5 (hl _ _ rfl) rfl) ?_
  refine vw_q 25 rfl (by kernel_rfl) (by repeat (first | exact lle_l0 | exact LLe.refl _ | exact lle_none | refine lle_up ?_ rfl)) (fun _ _ hh hl => lo_conv_in rfl (by rw [Tryz.underlying5]; rfl) Tryz.underlying39 (rg_u64 (by omega))) ?_
  have := numB_len (numK 1) (m.hops).toNat
  have := numK_le 1
  have : numK 1 = 1 := by decide
  refine vw_qc 26 rfl (by kernel_rfl) (by repeat (first | exact lle_l0 | exact LLe.refl _ | exact lle_none | refine lle_up ?_ rfl)) (r1_Num _ m.hops (by omega) 1 (by omega)) (en_f cb95 rfl) ?_
  refine vw_q 27 rfl (by kernel_rfl) (by repeat (first | exact lle_l0 | exact LLe.refl _ | exact lle_none | refine lle_up ?_ rfl)) (fun _ _ hh hl => lo_cat rfl rfl (by first | omega | (simp only [List.length_append, List.length_cons, List.length_nil]; omega))) ?_
  refine vw_q 28 rfl (by kernel_rfl) (by repeat (first | exact lle_l0 | exact LLe.refl _ | exact lle_none | refine lle_up ?_ rfl)) (fun _ _ hh hl => lo_assign (v := str _) rfl) ?_
  refine vw_done (by kernel_rfl) (seqK_n (cw_ret (fnK_r (res1 rfl (rv_t (v := str _) rfl)) (.refl _) ?_)))
  have k1 : numK 1 = 1 := by decide
  have k8 : numK 8 = 8 := by decide
  simp only [k1, k8, List.append_assoc]
  rfl
theorem r22_Bytes (H : Hp) (d : DeedR) (d_bind_want_a : Option Addr) (d_bind_want_c : Nat) (d_bind_want_h : SlH pairE 4 H (.slice d_bind_want_a d.bind.want.length d_bind_want_c) d.bind.want) (d_mail_head_a : Option Addr) (d_mail_head_c : Nat) (d_mail_head_h : SlH pairE 4 H (.slice d_mail_head_a d.mail.head.length d_mail_head_c) d.mail.head) (d_w : DeedR.wf d) (hE : deedE d = 0) : Pr Tryz.prog 116 #[.agg (DeedR.cells d d_bind_want_a d_bind_want_c d_mail_head_a d_mail_head_c).toArray] H (str (deedB d)) := by
  refine pr_cw Tryz.func116 rfl Tryz.ntmps116 rfl (fun N => ?_)
  have d_w' := d_w
  simp only [DeedR.wf, ShopR.wf, QueueR.wf, BindR.wf, Mail.wf] at d_w'
  obtain ⟨dk1, dk2, dk3, dk4, dk5, dk6, dk7, dk8, dk9, dk10, dk11, dk12, dk13, dk14, dk15, dk16, dk17, dk18, dk19⟩ := deedE_ok (d := d) (by omega) hE
  have hkd : ∀ p ∈ d.bind.want, 0 ≤ p.kind := slh_kind d_bind_want_h
  have hkm : ∀ p ∈ d.mail.head, 0 ≤ p.kind := slh_kind d_mail_head_h
  have hsx := smallH_ok dk11
  have hrl := r9B_le dk11 hkd
  have hmz := deedE_mail hE
  refine cw_seq (cw_region (ow1 (op1_box (cs := [_, _, _, _, _, _, _, _, _, _, _, _, _, _, _, _, _, _, _, _, _, _, _, _, _, _, _, _, _]) 0 rfl rfl (fun b1 => ?_))))
  refine ol rfl (lo_assign (v := str _) rfl) (ow_nil (seqK_n (cw_seq (cw_anyL mixd (vw_q 0 rfl (by kernel_rfl) (by repeat (first | exact lle_l0 | exact LLe.refl _ | exact lle_none | refine lle_up ?_ rfl)) (fun _ _ hh hl => lo_fieldAddr rfl fl119_0) ?_)))))
  refine vw_q 1 rfl (by kernel_rfl) (by repeat (first | exact lle_l0 | exact LLe.refl _ | exact lle_none | refine lle_up ?_ rfl)) (fun _ _ hh hl => lo_load1 (i := 0) (v := .int _ _) rfl ag5 (hl _ _ rfl) rfl) ?_
  refine vw_q 2 rfl (by kernel_rfl) (by repeat (first | exact lle_l0 | exact LLe.refl _ | exact lle_none | refine lle_up ?_ rfl)) (fun _ _ hh hl => lo_conv_in rfl (by rw [Tryz.underlying5]; rfl) Tryz.underlying39 (rg_u64 (by omega))) ?_
  have := numB_len (numK 1) (d.kind).toNat
  have := numK_le 1
  have : numK 1 = 1 := by decide
  refine vw_qc 3 rfl (by kernel_rfl) (by repeat (first | exact lle_l0 | exact LLe.refl _ | exact lle_none | refine lle_up ?_ rfl)) (r1_Num _ d.kind (by omega) 1 (by omega)) (en_f cb95 rfl) ?_
  refine vw_q 4 rfl (by kernel_rfl) (by repeat (first | exact lle_l0 | exact LLe.refl _ | exact lle_none | refine lle_up ?_ rfl)) (fun _ _ hh hl => lo_fieldAddr rfl fl119_1) ?_
  refine vw_q 5 rfl (by kernel_rfl) (by repeat (first | exact lle_l0 | exact LLe.refl _ | exact lle_none | refine lle_up ?_ rfl)) (fun _ _ hh hl => lo_load1 (i := 0) (v := .int _ _) rfl ag39 (hl _ _ rfl) rfl) ?_
  have := numB_len (numK 8) (d.tick).toNat
  have := numK_le 8
  have : numK 8 = 8 := by decide
  refine vw_qc 6 rfl (by kernel_rfl) (by repeat (first | exact lle_l0 | exact LLe.refl _ | exact lle_none | refine lle_up ?_ rfl)) (r1_Num _ d.tick (by omega) 8 (by omega)) (en_f cb95 rfl) ?_
  refine vw_q 7 rfl (by kernel_rfl) (by repeat (first | exact lle_l0 | exact LLe.refl _ | exact lle_none | refine lle_up ?_ rfl)) (fun _ _ hh hl => lo_cat rfl rfl (by first | omega | (simp only [List.length_append, List.length_cons, List.length_nil, numB_len]; omega))) ?_
  refine vw_q 8 rfl (by kernel_rfl) (by repeat (first | exact lle_l0 | exact LLe.refl _ | exact lle_none | refine lle_up ?_ rfl)) (fun _ _ hh hl => lo_assign (v := str _) rfl) ?_
  refine vw_done (by kernel_rfl) (seqK_n (cw_seq (cw_seq (cw_region (ol rfl (lo_fieldAddr rfl fl119_0) ?_)))))
  refine ol rfl (lo_load1 (i := 0) (v := .int _ _) rfl ag5 rfl rfl) (ow_nil (seqK_n (cw_block (cw_seq (cw_region ?_)))))
  refine ol rfl (lo_eql rfl rfl) (oab rfl rfl (ow_nil (seqK_n (cw_cond rfl (fun h2 => ?_) (fun h2 => ?_)))))
  · have p3 := dt h2
    refine cw_seq (cw_anyL mixd (vw_q 0 rfl (by kernel_rfl) (by repeat (first | exact lle_l0 | exact LLe.refl _ | exact lle_none | refine lle_up ?_ rfl)) (fun _ _ hh hl => lo_move (v := str _) rfl) ?_))
    refine vw_q 1 rfl (by kernel_rfl) (by repeat (first | exact lle_l0 | exact LLe.refl _ | exact lle_none | refine lle_up ?_ rfl)) (fun _ _ hh hl => lo_fieldAddr rfl fl119_2) ?_
    refine vw_q 2 rfl (by kernel_rfl) (by repeat (first | exact lle_l0 | exact LLe.refl _ | exact lle_none | refine lle_up ?_ rfl)) (fun _ _ hh hl => lo_fieldAddr rfl fl115_0) ?_
    refine vw_q 3 rfl (by kernel_rfl) (by repeat (first | exact lle_l0 | exact LLe.refl _ | exact lle_none | refine lle_up ?_ rfl)) (fun _ _ hh hl => lo_load1 (i := 0) (v := str _) rfl ag9 (hl _ _ rfl) rfl) ?_
    have := txtB_len d.shop.name
    refine vw_qc 4 rfl (by kernel_rfl) (by repeat (first | exact lle_l0 | exact LLe.refl _ | exact lle_none | refine lle_up ?_ rfl)) (r1_Text _ d.shop.name (by first | omega | (simp; done) | (simp; omega))) (en_f cb94 rfl) ?_
    refine vw_q 5 rfl (by kernel_rfl) (by repeat (first | exact lle_l0 | exact LLe.refl _ | exact lle_none | refine lle_up ?_ rfl)) (fun _ _ hh hl => lo_cat rfl rfl (by first | omega | (simp only [List.length_append, List.length_cons, List.length_nil, numB_len]; omega))) ?_
    refine vw_q 6 rfl (by kernel_rfl) (by repeat (first | exact lle_l0 | exact LLe.refl _ | exact lle_none | refine lle_up ?_ rfl)) (fun _ _ hh hl => lo_fieldAddr rfl fl119_2) ?_
    refine vw_q 7 rfl (by kernel_rfl) (by repeat (first | exact lle_l0 | exact LLe.refl _ | exact lle_none | refine lle_up ?_ rfl)) (fun _ _ hh hl => lo_fieldAddr rfl fl115_1) ?_
    refine vw_q 8 rfl (by kernel_rfl) (by repeat (first | exact lle_l0 | exact LLe.refl _ | exact lle_none | refine lle_up ?_ rfl)) (fun _ _ hh hl => lo_load1 (i := 0) (v := .int _ _) rfl ag5 (hl _ _ rfl) rfl) ?_
    refine vw_q 9 rfl (by kernel_rfl) (by repeat (first | exact lle_l0 | exact LLe.refl _ | exact lle_none | refine lle_up ?_ rfl)) (fun _ _ hh hl => lo_conv_in rfl (by rw [Tryz.underlying5]; rfl) Tryz.underlying39 (rg_u64 (by omega))) ?_
    have := numB_len (numK 1) (d.shop.sort).toNat
    have := numK_le 1
    have : numK 1 = 1 := by decide
    refine vw_qc 10 rfl (by kernel_rfl) (by repeat (first | exact lle_l0 | exact LLe.refl _ | exact lle_none | refine lle_up ?_ rfl)) (r1_Num _ d.shop.sort (by omega) 1 (by omega)) (en_f cb95 rfl) ?_
    refine vw_q 11 rfl (by kernel_rfl) (by repeat (first | exact lle_l0 | exact LLe.refl _ | exact lle_none | refine lle_up ?_ rfl)) (fun _ _ hh hl => lo_cat rfl rfl (by first | omega | (simp only [List.length_append, List.length_cons, List.length_nil, numB_len]; omega))) ?_
    refine vw_q 12 rfl (by kernel_rfl) (by repeat (first | exact lle_l0 | exact LLe.refl _ | exact lle_none | refine lle_up ?_ rfl)) (fun _ _ hh hl => lo_fieldAddr rfl fl119_2) ?_
    refine vw_q 13 rfl (by kernel_rfl) (by repeat (first | exact lle_l0 | exact LLe.refl _ | exact lle_none | refine lle_up ?_ rfl)) (fun _ _ hh hl => lo_fieldAddr rfl fl115_2) ?_
    refine vw_q 14 rfl (by kernel_rfl) (by repeat (first | exact lle_l0 | exact LLe.refl _ | exact lle_none | refine lle_up ?_ rfl)) (fun _ _ hh hl => lo_load1 (i := 0) (v := str _) rfl ag9 (hl _ _ rfl) rfl) ?_
    have := txtB_len d.shop.to
    refine vw_qc 15 rfl (by kernel_rfl) (by repeat (first | exact lle_l0 | exact LLe.refl _ | exact lle_none | refine lle_up ?_ rfl)) (r1_Text _ d.shop.to (by first | omega | (simp; done) | (simp; omega))) (en_f cb94 rfl) ?_
    refine vw_q 16 rfl (by kernel_rfl) (by repeat (first | exact lle_l0 | exact LLe.refl _ | exact lle_none | refine lle_up ?_ rfl)) (fun _ _ hh hl => lo_cat rfl rfl (by first | omega | (simp only [List.length_append, List.length_cons, List.length_nil, numB_len]; omega))) ?_
    refine vw_q 17 rfl (by kernel_rfl) (by repeat (first | exact lle_l0 | exact LLe.refl _ | exact lle_none | refine lle_up ?_ rfl)) (fun _ _ hh hl => lo_assign (v := str _) rfl) ?_
    refine vw_done (by kernel_rfl) (seqK_n (cw_ret (blkK_r (seqK_r (fnK_r (res1 rfl (rv_t (v := str _) rfl)) (.refl _) ?_)))))
    have k1 : numK 1 = 1 := by decide
    have k8 : numK 8 = 8 := by decide
    simp only [k1, k8, List.append_assoc]
    unfold deedB
    (repeat (first | rw [if_pos (by omega)] | rw [if_neg (by omega)] | rw [if_pos (by assumption)] | rw [if_neg (by assumption)] | rw [if_neg (fun q => q (by assumption))]))
    all_goals first | done | rfl | (simp only [List.append_assoc, List.append_nil]; done)
  have p4 := df h2
  refine cw_seq (cw_region (ol rfl (lo_eql rfl rfl) (oab rfl rfl (ow_nil (seqK_n ?_)))))
  refine cw_cond rfl (fun h5 => ?_) (fun h5 => ?_)
  · have p6 := dt h5
    refine cw_seq (cw_anyL mixd (vw_q 0 rfl (by kernel_rfl) (by repeat (first | exact lle_l0 | exact LLe.refl _ | exact lle_none | refine lle_up ?_ rfl)) (fun _ _ hh hl => lo_move (v := str _) rfl) ?_))
    refine vw_q 1 rfl (by kernel_rfl) (by repeat (first | exact lle_l0 | exact LLe.refl _ | exact lle_none | refine lle_up ?_ rfl)) (fun _ _ hh hl => lo_fieldAddr rfl fl119_3) ?_
    refine vw_q 2 rfl (by kernel_rfl) (by repeat (first | exact lle_l0 | exact LLe.refl _ | exact lle_none | refine lle_up ?_ rfl)) (fun _ _ hh hl => lo_fieldAddr rfl fl116_0) ?_
    refine vw_q 3 rfl (by kernel_rfl) (by repeat (first | exact lle_l0 | exact LLe.refl _ | exact lle_none | refine lle_up ?_ rfl)) (fun _ _ hh hl => lo_load1 (i := 0) (v := str _) rfl ag9 (hl _ _ rfl) rfl) ?_
    have := txtB_len d.queue.name
    refine vw_qc 4 rfl (by kernel_rfl) (by repeat (first | exact lle_l0 | exact LLe.refl _ | exact lle_none | refine lle_up ?_ rfl)) (r1_Text _ d.queue.name (by first | omega | (simp; done) | (simp; omega))) (en_f cb94 rfl) ?_
    refine vw_q 5 rfl (by kernel_rfl) (by repeat (first | exact lle_l0 | exact LLe.refl _ | exact lle_none | refine lle_up ?_ rfl)) (fun _ _ hh hl => lo_cat rfl rfl (by first | omega | (simp only [List.length_append, List.length_cons, List.length_nil, numB_len]; omega))) ?_
    refine vw_q 6 rfl (by kernel_rfl) (by repeat (first | exact lle_l0 | exact LLe.refl _ | exact lle_none | refine lle_up ?_ rfl)) (fun _ _ hh hl => lo_fieldAddr rfl fl119_3) ?_
    refine vw_q 7 rfl (by kernel_rfl) (by repeat (first | exact lle_l0 | exact LLe.refl _ | exact lle_none | refine lle_up ?_ rfl)) (fun _ _ hh hl => lo_fieldAddr rfl fl116_1) ?_
    refine vw_q 8 rfl (by kernel_rfl) (by repeat (first | exact lle_l0 | exact LLe.refl _ | exact lle_none | refine lle_up ?_ rfl)) (fun _ _ hh hl => lo_load1 (i := 0) (v := .int _ _) rfl ag39 (hl _ _ rfl) rfl) ?_
    have := numB_len (numK 8) (d.queue.most).toNat
    have := numK_le 8
    have : numK 8 = 8 := by decide
    refine vw_qc 9 rfl (by kernel_rfl) (by repeat (first | exact lle_l0 | exact LLe.refl _ | exact lle_none | refine lle_up ?_ rfl)) (r1_Num _ d.queue.most (by omega) 8 (by omega)) (en_f cb95 rfl) ?_
    refine vw_q 10 rfl (by kernel_rfl) (by repeat (first | exact lle_l0 | exact LLe.refl _ | exact lle_none | refine lle_up ?_ rfl)) (fun _ _ hh hl => lo_cat rfl rfl (by first | omega | (simp only [List.length_append, List.length_cons, List.length_nil, numB_len]; omega))) ?_
    refine vw_q 11 rfl (by kernel_rfl) (by repeat (first | exact lle_l0 | exact LLe.refl _ | exact lle_none | refine lle_up ?_ rfl)) (fun _ _ hh hl => lo_fieldAddr rfl fl119_3) ?_
    refine vw_q 12 rfl (by kernel_rfl) (by repeat (first | exact lle_l0 | exact LLe.refl _ | exact lle_none | refine lle_up ?_ rfl)) (fun _ _ hh hl => lo_fieldAddr rfl fl116_2) ?_
    refine vw_q 13 rfl (by kernel_rfl) (by repeat (first | exact lle_l0 | exact LLe.refl _ | exact lle_none | refine lle_up ?_ rfl)) (fun _ _ hh hl => lo_load1 (i := 0) (v := .int _ _) rfl ag39 (hl _ _ rfl) rfl) ?_
    have := numB_len (numK 8) (d.queue.life).toNat
    have := numK_le 8
    have : numK 8 = 8 := by decide
    refine vw_qc 14 rfl (by kernel_rfl) (by repeat (first | exact lle_l0 | exact LLe.refl _ | exact lle_none | refine lle_up ?_ rfl)) (r1_Num _ d.queue.life (by omega) 8 (by omega)) (en_f cb95 rfl) ?_
    refine vw_q 15 rfl (by kernel_rfl) (by repeat (first | exact lle_l0 | exact LLe.refl _ | exact lle_none | refine lle_up ?_ rfl)) (fun _ _ hh hl => lo_cat rfl rfl (by first | omega | (simp only [List.length_append, List.length_cons, List.length_nil, numB_len]; omega))) ?_
    refine vw_q 16 rfl (by kernel_rfl) (by repeat (first | exact lle_l0 | exact LLe.refl _ | exact lle_none | refine lle_up ?_ rfl)) (fun _ _ hh hl => lo_fieldAddr rfl fl119_3) ?_
    refine vw_q 17 rfl (by kernel_rfl) (by repeat (first | exact lle_l0 | exact LLe.refl _ | exact lle_none | refine lle_up ?_ rfl)) (fun _ _ hh hl => lo_fieldAddr rfl fl116_3) ?_
    refine vw_q 18 rfl (by kernel_rfl) (by repeat (first | exact lle_l0 | exact LLe.refl _ | exact lle_none | refine lle_up ?_ rfl)) (fun _ _ hh hl => lo_load1 (i := 0) (v := str _) rfl ag9 (hl _ _ rfl) rfl) ?_
    have := txtB_len d.queue.dead
    refine vw_qc 19 rfl (by kernel_rfl) (by repeat (first | exact lle_l0 | exact LLe.refl _ | exact lle_none | refine lle_up ?_ rfl)) (r1_Text _ d.queue.dead (by first | omega | (simp; done) | (simp; omega))) (en_f cb94 rfl) ?_
    refine vw_q 20 rfl (by kernel_rfl) (by repeat (first | exact lle_l0 | exact LLe.refl _ | exact lle_none | refine lle_up ?_ rfl)) (fun _ _ hh hl => lo_cat rfl rfl (by first | omega | (simp only [List.length_append, List.length_cons, List.length_nil, numB_len]; omega))) ?_
    refine vw_q 21 rfl (by kernel_rfl) (by repeat (first | exact lle_l0 | exact LLe.refl _ | exact lle_none | refine lle_up ?_ rfl)) (fun _ _ hh hl => lo_assign (v := str _) rfl) ?_
    refine vw_done (by kernel_rfl) (seqK_n (cw_ret (blkK_r (seqK_r (fnK_r (res1 rfl (rv_t (v := str _) rfl)) (.refl _) ?_)))))
    have k1 : numK 1 = 1 := by decide
    have k8 : numK 8 = 8 := by decide
    simp only [k1, k8, List.append_assoc]
    unfold deedB
    (repeat (first | rw [if_pos (by omega)] | rw [if_neg (by omega)] | rw [if_pos (by assumption)] | rw [if_neg (by assumption)] | rw [if_neg (fun q => q (by assumption))]))
    all_goals first | done | rfl | (simp only [List.append_assoc, List.append_nil]; done)
  have p7 := df h5
  refine cw_seq (cw_seq (cw_region (ol rfl (lo_eql rfl rfl) (oab rfl rfl (ow_nil ?_)))))
  refine seqK_n (cw_cond rfl (fun h8 => ?_) (fun h8 => ?_))
  · have p9 := dt h8
    refine cw_skip (seqK_n (cw_cond_t rfl h8 (cw_seq (cw_region (ol rfl (lo_fieldAddr rfl fl119_4) ?_)))))
    refine ol rfl (lo_loadA (i := 0) (vs := [_, _, _, _, _, _]) rfl ag117 sz117 rfl rfl rfl) (ow1 (op1_alloc 1 rfl zr117 (fun b10 => ?_)))
    refine ow1 (op1_storeAll (i := 1) (vs := [_, _, _, _, _, _]) rfl rfl rfl sz117 rfl rfl rfl ?_)
    refine ow_nil (seqK_n (cw_seq (cw_anyL mixd (vw_q 0 rfl (by kernel_rfl) (by repeat (first | exact lle_l0 | exact LLe.refl _ | exact lle_none | refine lle_up ?_ rfl)) (fun _ _ hh hl => lo_move (v := str _) rfl) ?_))))
    refine vw_q 1 rfl (by kernel_rfl) (by repeat (first | exact lle_l0 | exact LLe.refl _ | exact lle_none | refine lle_up ?_ rfl)) (fun _ _ hh hl => lo_fieldAddr rfl fl117_0) ?_
    refine vw_q 2 rfl (by kernel_rfl) (by repeat (first | exact lle_l0 | exact LLe.refl _ | exact lle_none | refine lle_up ?_ rfl)) (fun _ _ hh hl => lo_load1 (i := 1) (v := str _) rfl ag9 (hl _ _ rfl) rfl) ?_
    have := txtB_len d.bind.shop
    refine vw_qc 3 rfl (by kernel_rfl) (by repeat (first | exact lle_l0 | exact LLe.refl _ | exact lle_none | refine lle_up ?_ rfl)) (r1_Text _ d.bind.shop (by first | omega | (simp; done) | (simp; omega))) (en_f cb94 rfl) ?_
    refine vw_q 4 rfl (by kernel_rfl) (by repeat (first | exact lle_l0 | exact LLe.refl _ | exact lle_none | refine lle_up ?_ rfl)) (fun _ _ hh hl => lo_cat rfl rfl (by first | omega | (simp only [List.length_append, List.length_cons, List.length_nil, numB_len]; omega))) ?_
    refine vw_q 5 rfl (by kernel_rfl) (by repeat (first | exact lle_l0 | exact LLe.refl _ | exact lle_none | refine lle_up ?_ rfl)) (fun _ _ hh hl => lo_fieldAddr rfl fl117_1) ?_
    refine vw_q 6 rfl (by kernel_rfl) (by repeat (first | exact lle_l0 | exact LLe.refl _ | exact lle_none | refine lle_up ?_ rfl)) (fun _ _ hh hl => lo_load1 (i := 1) (v := str _) rfl ag9 (hl _ _ rfl) rfl) ?_
    have := txtB_len d.bind.to
    refine vw_qc 7 rfl (by kernel_rfl) (by repeat (first | exact lle_l0 | exact LLe.refl _ | exact lle_none | refine lle_up ?_ rfl)) (r1_Text _ d.bind.to (by first | omega | (simp; done) | (simp; omega))) (en_f cb94 rfl) ?_
    refine vw_q 8 rfl (by kernel_rfl) (by repeat (first | exact lle_l0 | exact LLe.refl _ | exact lle_none | refine lle_up ?_ rfl)) (fun _ _ hh hl => lo_cat rfl rfl (by first | omega | (simp only [List.length_append, List.length_cons, List.length_nil, numB_len]; omega))) ?_
    refine vw_q 9 rfl (by kernel_rfl) (by repeat (first | exact lle_l0 | exact LLe.refl _ | exact lle_none | refine lle_up ?_ rfl)) (fun _ _ hh hl => lo_fieldAddr rfl fl117_2) ?_
    refine vw_q 10 rfl (by kernel_rfl) (by repeat (first | exact lle_l0 | exact LLe.refl _ | exact lle_none | refine lle_up ?_ rfl)) (fun _ _ hh hl => lo_load1 (i := 1) (v := .bool _) rfl ag4 (hl _ _ rfl) rfl) ?_
    refine vw_qc 11 rfl (by kernel_rfl) (by repeat (first | exact lle_l0 | exact LLe.refl _ | exact lle_none | refine lle_up ?_ rfl)) (r22_bit _ d.bind.up) (en_f cb159 rfl) ?_
    refine vw_q 12 rfl (by kernel_rfl) (by repeat (first | exact lle_l0 | exact LLe.refl _ | exact lle_none | refine lle_up ?_ rfl)) (fun _ _ hh hl => lo_cat rfl rfl (by first | omega | (simp only [List.length_append, List.length_cons, List.length_nil, numB_len]; omega))) ?_
    refine vw_q 13 rfl (by kernel_rfl) (by repeat (first | exact lle_l0 | exact LLe.refl _ | exact lle_none | refine lle_up ?_ rfl)) (fun _ _ hh hl => lo_fieldAddr rfl fl117_3) ?_
    refine vw_q 14 rfl (by kernel_rfl) (by repeat (first | exact lle_l0 | exact LLe.refl _ | exact lle_none | refine lle_up ?_ rfl)) (fun _ _ hh hl => lo_load1 (i := 1) (v := str _) rfl ag9 (hl _ _ rfl) rfl) ?_
    have := txtB_len d.bind.key
    refine vw_qc 15 rfl (by kernel_rfl) (by repeat (first | exact lle_l0 | exact LLe.refl _ | exact lle_none | refine lle_up ?_ rfl)) (r1_Text _ d.bind.key (by first | omega | (simp; done) | (simp; omega))) (en_f cb94 rfl) ?_
    refine vw_q 16 rfl (by kernel_rfl) (by repeat (first | exact lle_l0 | exact LLe.refl _ | exact lle_none | refine lle_up ?_ rfl)) (fun _ _ hh hl => lo_cat rfl rfl (by first | omega | (simp only [List.length_append, List.length_cons, List.length_nil, numB_len]; omega))) ?_
    refine vw_q 17 rfl (by kernel_rfl) (by repeat (first | exact lle_l0 | exact LLe.refl _ | exact lle_none | refine lle_up ?_ rfl)) (fun _ _ hh hl => lo_fieldAddr rfl fl117_4) ?_
    refine vw_q 18 rfl (by kernel_rfl) (by repeat (first | exact lle_l0 | exact LLe.refl _ | exact lle_none | refine lle_up ?_ rfl)) (fun _ _ hh hl => lo_load1 (i := 1) (v := .slice _ _ _) rfl ag40 (hl _ _ rfl) rfl) ?_
    have hsmx : smallH d.bind.want := by first | assumption | exact smallH_lightR (by assumption) | exact smallH_light (by assumption)
    have := r9B_len hsmx
    have := hsmx.1
    refine vw_qc 19 rfl (by kernel_rfl) (by repeat (first | exact lle_l0 | exact LLe.refl _ | exact lle_none | refine lle_up ?_ rfl)) (r9_Bytes _ d_bind_want_a d.bind.want.length d_bind_want_c d.bind.want d_bind_want_h (by first | assumption | exact smallH_lightR (by assumption) | exact smallH_light (by assumption))) (en_f cb96 rfl) ?_
    refine vw_q 20 rfl (by kernel_rfl) (by repeat (first | exact lle_l0 | exact LLe.refl _ | exact lle_none | refine lle_up ?_ rfl)) (fun _ _ hh hl => lo_cat rfl rfl (by first | omega | (simp only [List.length_append, List.length_cons, List.length_nil, numB_len]; omega))) ?_
    refine vw_q 21 rfl (by kernel_rfl) (by repeat (first | exact lle_l0 | exact LLe.refl _ | exact lle_none | refine lle_up ?_ rfl)) (fun _ _ hh hl => lo_fieldAddr rfl fl117_5) ?_
    refine vw_q 22 rfl (by kernel_rfl) (by repeat (first | exact lle_l0 | exact LLe.refl _ | exact lle_none | refine lle_up ?_ rfl)) (fun _ _ hh hl => lo_load1 (i := 1) (v := .bool _) rfl ag4 (hl _ _ rfl) rfl) ?_
    refine vw_qc 23 rfl (by kernel_rfl) (by repeat (first | exact lle_l0 | exact LLe.refl _ | exact lle_none | refine lle_up ?_ rfl)) (r22_bit _ d.bind.all) (en_f cb159 rfl) ?_
    refine vw_q 24 rfl (by kernel_rfl) (by repeat (first | exact lle_l0 | exact LLe.refl _ | exact lle_none | refine lle_up ?_ rfl)) (fun _ _ hh hl => lo_cat rfl rfl (by first | omega | (simp only [List.length_append, List.length_cons, List.length_nil, numB_len]; omega))) ?_
    refine vw_q 25 rfl (by kernel_rfl) (by repeat (first | exact lle_l0 | exact LLe.refl _ | exact lle_none | refine lle_up ?_ rfl)) (fun _ _ hh hl => lo_assign (v := str _) rfl) ?_
    refine vw_done (by kernel_rfl) (seqK_n (cw_ret (blkK_r (seqK_r (fnK_r (res1 rfl (rv_t (v := str _) rfl)) (.refl _) ?_)))))
    have k1 : numK 1 = 1 := by decide
    have k8 : numK 8 = 8 := by decide
    simp only [k1, k8, List.append_assoc]
    unfold deedB
    (repeat (first | rw [if_pos (by omega)] | rw [if_neg (by omega)] | rw [if_pos (by assumption)] | rw [if_neg (by assumption)] | rw [if_neg (fun q => q (by assumption))]))
    all_goals first | done | rfl | (simp only [List.append_assoc, List.append_nil]; done)
  have p11 := df h8
  refine cw_region (ol rfl (lo_eql rfl rfl) (oab rfl rfl (ow_nil (seqK_n (cw_cond rfl (fun h12 => ?_) (fun h12 => ?_))))))
  · have p13 := dt h12
    refine cw_seq (cw_region (ol rfl (lo_fieldAddr rfl fl119_4) (ol rfl (lo_loadA (i := 0) (vs := [_, _, _, _, _, _]) rfl ag117 sz117 rfl rfl rfl) (ow1 (op1_alloc 1 rfl zr117 (fun b14 => ?_))))))
    refine ow1 (op1_storeAll (i := 1) (vs := [_, _, _, _, _, _]) rfl rfl rfl sz117 rfl rfl rfl ?_)
    refine ow_nil (seqK_n (cw_seq (cw_anyL mixd (vw_q 0 rfl (by kernel_rfl) (by repeat (first | exact lle_l0 | exact LLe.refl _ | exact lle_none | refine lle_up ?_ rfl)) (fun _ _ hh hl => lo_move (v := str _) rfl) ?_))))
    refine vw_q 1 rfl (by kernel_rfl) (by repeat (first | exact lle_l0 | exact LLe.refl _ | exact lle_none | refine lle_up ?_ rfl)) (fun _ _ hh hl => lo_fieldAddr rfl fl117_0) ?_
    refine vw_q 2 rfl (by kernel_rfl) (by repeat (first | exact lle_l0 | exact LLe.refl _ | exact lle_none | refine lle_up ?_ rfl)) (fun _ _ hh hl => lo_load1 (i := 1) (v := str _) rfl ag9 (hl _ _ rfl) rfl) ?_
    have := txtB_len d.bind.shop
    refine vw_qc 3 rfl (by kernel_rfl) (by repeat (first | exact lle_l0 | exact LLe.refl _ | exact lle_none | refine lle_up ?_ rfl)) (r1_Text _ d.bind.shop (by first | omega | (simp; done) | (simp; omega))) (en_f cb94 rfl) ?_
    refine vw_q 4 rfl (by kernel_rfl) (by repeat (first | exact lle_l0 | exact LLe.refl _ | exact lle_none | refine lle_up ?_ rfl)) (fun _ _ hh hl => lo_cat rfl rfl (by first | omega | (simp only [List.length_append, List.length_cons, List.length_nil, numB_len]; omega))) ?_
    refine vw_q 5 rfl (by kernel_rfl) (by repeat (first | exact lle_l0 | exact LLe.refl _ | exact lle_none | refine lle_up ?_ rfl)) (fun _ _ hh hl => lo_fieldAddr rfl fl117_1) ?_
    refine vw_q 6 rfl (by kernel_rfl) (by repeat (first | exact lle_l0 | exact LLe.refl _ | exact lle_none | refine lle_up ?_ rfl)) (fun _ _ hh hl => lo_load1 (i := 1) (v := str _) rfl ag9 (hl _ _ rfl) rfl) ?_
    have := txtB_len d.bind.to
    refine vw_qc 7 rfl (by kernel_rfl) (by repeat (first | exact lle_l0 | exact LLe.refl _ | exact lle_none | refine lle_up ?_ rfl)) (r1_Text _ d.bind.to (by first | omega | (simp; done) | (simp; omega))) (en_f cb94 rfl) ?_
    refine vw_q 8 rfl (by kernel_rfl) (by repeat (first | exact lle_l0 | exact LLe.refl _ | exact lle_none | refine lle_up ?_ rfl)) (fun _ _ hh hl => lo_cat rfl rfl (by first | omega | (simp only [List.length_append, List.length_cons, List.length_nil, numB_len]; omega))) ?_
    refine vw_q 9 rfl (by kernel_rfl) (by repeat (first | exact lle_l0 | exact LLe.refl _ | exact lle_none | refine lle_up ?_ rfl)) (fun _ _ hh hl => lo_fieldAddr rfl fl117_2) ?_
    refine vw_q 10 rfl (by kernel_rfl) (by repeat (first | exact lle_l0 | exact LLe.refl _ | exact lle_none | refine lle_up ?_ rfl)) (fun _ _ hh hl => lo_load1 (i := 1) (v := .bool _) rfl ag4 (hl _ _ rfl) rfl) ?_
    refine vw_qc 11 rfl (by kernel_rfl) (by repeat (first | exact lle_l0 | exact LLe.refl _ | exact lle_none | refine lle_up ?_ rfl)) (r22_bit _ d.bind.up) (en_f cb159 rfl) ?_
    refine vw_q 12 rfl (by kernel_rfl) (by repeat (first | exact lle_l0 | exact LLe.refl _ | exact lle_none | refine lle_up ?_ rfl)) (fun _ _ hh hl => lo_cat rfl rfl (by first | omega | (simp only [List.length_append, List.length_cons, List.length_nil, numB_len]; omega))) ?_
    refine vw_q 13 rfl (by kernel_rfl) (by repeat (first | exact lle_l0 | exact LLe.refl _ | exact lle_none | refine lle_up ?_ rfl)) (fun _ _ hh hl => lo_fieldAddr rfl fl117_3) ?_
    refine vw_q 14 rfl (by kernel_rfl) (by repeat (first | exact lle_l0 | exact LLe.refl _ | exact lle_none | refine lle_up ?_ rfl)) (fun _ _ hh hl => lo_load1 (i := 1) (v := str _) rfl ag9 (hl _ _ rfl) rfl) ?_
    have := txtB_len d.bind.key
    refine vw_qc 15 rfl (by kernel_rfl) (by repeat (first | exact lle_l0 | exact LLe.refl _ | exact lle_none | refine lle_up ?_ rfl)) (r1_Text _ d.bind.key (by first | omega | (simp; done) | (simp; omega))) (en_f cb94 rfl) ?_
    refine vw_q 16 rfl (by kernel_rfl) (by repeat (first | exact lle_l0 | exact LLe.refl _ | exact lle_none | refine lle_up ?_ rfl)) (fun _ _ hh hl => lo_cat rfl rfl (by first | omega | (simp only [List.length_append, List.length_cons, List.length_nil, numB_len]; omega))) ?_
    refine vw_q 17 rfl (by kernel_rfl) (by repeat (first | exact lle_l0 | exact LLe.refl _ | exact lle_none | refine lle_up ?_ rfl)) (fun _ _ hh hl => lo_fieldAddr rfl fl117_4) ?_
    refine vw_q 18 rfl (by kernel_rfl) (by repeat (first | exact lle_l0 | exact LLe.refl _ | exact lle_none | refine lle_up ?_ rfl)) (fun _ _ hh hl => lo_load1 (i := 1) (v := .slice _ _ _) rfl ag40 (hl _ _ rfl) rfl) ?_
    have hsmx : smallH d.bind.want := by first | assumption | exact smallH_lightR (by assumption) | exact smallH_light (by assumption)
    have := r9B_len hsmx
    have := hsmx.1
    refine vw_qc 19 rfl (by kernel_rfl) (by repeat (first | exact lle_l0 | exact LLe.refl _ | exact lle_none | refine lle_up ?_ rfl)) (r9_Bytes _ d_bind_want_a d.bind.want.length d_bind_want_c d.bind.want d_bind_want_h (by first | assumption | exact smallH_lightR (by assumption) | exact smallH_light (by assumption))) (en_f cb96 rfl) ?_
    refine vw_q 20 rfl (by kernel_rfl) (by repeat (first | exact lle_l0 | exact LLe.refl _ | exact lle_none | refine lle_up ?_ rfl)) (fun _ _ hh hl => lo_cat rfl rfl (by first | omega | (simp only [List.length_append, List.length_cons, List.length_nil, numB_len]; omega))) ?_
    refine vw_q 21 rfl (by kernel_rfl) (by repeat (first | exact lle_l0 | exact LLe.refl _ | exact lle_none | refine lle_up ?_ rfl)) (fun _ _ hh hl => lo_fieldAddr rfl fl117_5) ?_
    refine vw_q 22 rfl (by kernel_rfl) (by repeat (first | exact lle_l0 | exact LLe.refl _ | exact lle_none | refine lle_up ?_ rfl)) (fun _ _ hh hl => lo_load1 (i := 1) (v := .bool _) rfl ag4 (hl _ _ rfl) rfl) ?_
    refine vw_qc 23 rfl (by kernel_rfl) (by repeat (first | exact lle_l0 | exact LLe.refl _ | exact lle_none | refine lle_up ?_ rfl)) (r22_bit _ d.bind.all) (en_f cb159 rfl) ?_
    refine vw_q 24 rfl (by kernel_rfl) (by repeat (first | exact lle_l0 | exact LLe.refl _ | exact lle_none | refine lle_up ?_ rfl)) (fun _ _ hh hl => lo_cat rfl rfl (by first | omega | (simp only [List.length_append, List.length_cons, List.length_nil, numB_len]; omega))) ?_
    refine vw_q 25 rfl (by kernel_rfl) (by repeat (first | exact lle_l0 | exact LLe.refl _ | exact lle_none | refine lle_up ?_ rfl)) (fun _ _ hh hl => lo_assign (v := str _) rfl) ?_
    refine vw_done (by kernel_rfl) (seqK_n (cw_ret (blkK_r (seqK_r (fnK_r (res1 rfl (rv_t (v := str _) rfl)) (.refl _) ?_)))))
    have k1 : numK 1 = 1 := by decide
    have k8 : numK 8 = 8 := by decide
    simp only [k1, k8, List.append_assoc]
    unfold deedB
    (repeat (first | rw [if_pos (by omega)] | rw [if_neg (by omega)] | rw [if_pos (by assumption)] | rw [if_neg (by assumption)] | rw [if_neg (fun q => q (by assumption))]))
    all_goals first | done | rfl | (simp only [List.append_assoc, List.append_nil]; done)
  have p15 := df h12
  refine cw_seq (cw_region (ol rfl (lo_eql rfl rfl) (oab rfl rfl (ow_nil (seqK_n ?_)))))
  refine cw_cond rfl (fun h16 => ?_) (fun h16 => ?_)
  · have p17 := dt h16
    refine cw_seq (cw_region (ol rfl (lo_move (v := str _) rfl) (ol rfl (lo_fieldAddr rfl fl119_11) (ol rfl (lo_loadA (i := 0) (vs := [_, _, _, _, _, _, _]) rfl ag42 sz42 rfl rfl rfl) ?_))))
    refine ow1 (op1_pr (r13_Bytes _ d.mail d_mail_head_a d_mail_head_c d_mail_head_h (by simp only [Mail.wf]; first | omega | (simp; done) | (simp; omega)) (by first | assumption | omega)) (en_f cb160 rfl) rfl ?_)
    have := mailB_len (m := d.mail) (by first | assumption | omega) (by first | assumption | exact slh_kind (by assumption))
    refine ol rfl (lo_cat rfl rfl (by first | omega | (simp only [List.length_append, List.length_cons, List.length_nil, numB_len]; omega))) (ol rfl (lo_assign (v := str _) rfl) (ow_nil (seqK_n (cw_ret (blkK_r ?_)))))
    refine seqK_r (fnK_r (res1 rfl (rv_t (v := str _) rfl)) (.refl _) ?_)
    have k1 : numK 1 = 1 := by decide
    have k8 : numK 8 = 8 := by decide
    simp only [k1, k8, List.append_assoc]
    unfold deedB
    (repeat (first | rw [if_pos (by omega)] | rw [if_neg (by omega)] | rw [if_pos (by assumption)] | rw [if_neg (by assumption)] | rw [if_neg (fun q => q (by assumption))]))
    all_goals first | done | rfl | (simp only [List.append_assoc, List.append_nil]; done)
  have p18 := df h16
  refine cw_seq (cw_region (ol rfl (lo_eql rfl rfl) (oab rfl rfl (ow_nil (seqK_n ?_)))))
  refine cw_cond rfl (fun h19 => ?_) (fun h19 => ?_)
  · have p20 := dt h19
    refine cw_seq (cw_anyL mixd (vw_q 0 rfl (by kernel_rfl) (by repeat (first | exact lle_l0 | exact LLe.refl _ | exact lle_none | refine lle_up ?_ rfl)) (fun _ _ hh hl => lo_move (v := str _) rfl) ?_))
    refine vw_q 1 rfl (by kernel_rfl) (by repeat (first | exact lle_l0 | exact LLe.refl _ | exact lle_none | refine lle_up ?_ rfl)) (fun _ _ hh hl => lo_fieldAddr rfl fl119_5) ?_
    refine vw_q 2 rfl (by kernel_rfl) (by repeat (first | exact lle_l0 | exact LLe.refl _ | exact lle_none | refine lle_up ?_ rfl)) (fun _ _ hh hl => lo_load1 (i := 0) (v := str _) rfl ag9 (hl _ _ rfl) rfl) ?_
    have := txtB_len d.name
    refine vw_qc 3 rfl (by kernel_rfl) (by repeat (first | exact lle_l0 | exact LLe.refl _ | exact lle_none | refine lle_up ?_ rfl)) (r1_Text _ d.name (by first | omega | (simp; done) | (simp; omega))) (en_f cb94 rfl) ?_
    refine vw_q 4 rfl (by kernel_rfl) (by repeat (first | exact lle_l0 | exact LLe.refl _ | exact lle_none | refine lle_up ?_ rfl)) (fun _ _ hh hl => lo_cat rfl rfl (by first | omega | (simp only [List.length_append, List.length_cons, List.length_nil, numB_len]; omega))) ?_
    refine vw_q 5 rfl (by kernel_rfl) (by repeat (first | exact lle_l0 | exact LLe.refl _ | exact lle_none | refine lle_up ?_ rfl)) (fun _ _ hh hl => lo_fieldAddr rfl fl119_6) ?_
    refine vw_q 6 rfl (by kernel_rfl) (by repeat (first | exact lle_l0 | exact LLe.refl _ | exact lle_none | refine lle_up ?_ rfl)) (fun _ _ hh hl => lo_load1 (i := 0) (v := .int _ _) rfl ag39 (hl _ _ rfl) rfl) ?_
    have := numB_len (numK 8) (d.id).toNat
    have := numK_le 8
    have : numK 8 = 8 := by decide
    refine vw_qc 7 rfl (by kernel_rfl) (by repeat (first | exact lle_l0 | exact LLe.refl _ | exact lle_none | refine lle_up ?_ rfl)) (r1_Num _ d.id (by omega) 8 (by omega)) (en_f cb95 rfl) ?_
    refine vw_q 8 rfl (by kernel_rfl) (by repeat (first | exact lle_l0 | exact LLe.refl _ | exact lle_none | refine lle_up ?_ rfl)) (fun _ _ hh hl => lo_cat rfl rfl (by first | omega | (simp only [List.length_append, List.length_cons, List.length_nil, numB_len]; omega))) ?_
    refine vw_q 9 rfl (by kernel_rfl) (by repeat (first | exact lle_l0 | exact LLe.refl _ | exact lle_none | refine lle_up ?_ rfl)) (fun _ _ hh hl => lo_fieldAddr rfl fl119_7) ?_
    refine vw_q 10 rfl (by kernel_rfl) (by repeat (first | exact lle_l0 | exact LLe.refl _ | exact lle_none | refine lle_up ?_ rfl)) (fun _ _ hh hl => lo_load1 (i := 0) (v := .int _ _) rfl ag5 (hl _ _ rfl) rfl) ?_
    refine vw_q 11 rfl (by kernel_rfl) (by repeat (first | exact lle_l0 | exact LLe.refl _ | exact lle_none | refine lle_up ?_ rfl)) (fun _ _ hh hl => lo_conv_in rfl (by rw [Tryz.underlying5]; rfl) Tryz.underlying39 (rg_u64 (by omega))) ?_
    have := numB_len (numK 1) (d.how).toNat
    have := numK_le 1
    have : numK 1 = 1 := by decide
    refine vw_qc 12 rfl (by kernel_rfl) (by repeat (first | exact lle_l0 | exact LLe.refl _ | exact lle_none | refine lle_up ?_ rfl)) (r1_Num _ d.how (by omega) 1 (by omega)) (en_f cb95 rfl) ?_
    refine vw_q 13 rfl (by kernel_rfl) (by repeat (first | exact lle_l0 | exact LLe.refl _ | exact lle_none | refine lle_up ?_ rfl)) (fun _ _ hh hl => lo_cat rfl rfl (by first | omega | (simp only [List.length_append, List.length_cons, List.length_nil, numB_len]; omega))) ?_
    refine vw_q 14 rfl (by kernel_rfl) (by repeat (first | exact lle_l0 | exact LLe.refl _ | exact lle_none | refine lle_up ?_ rfl)) (fun _ _ hh hl => lo_assign (v := str _) rfl) ?_
    refine vw_done (by kernel_rfl) (seqK_n (cw_ret (blkK_r (seqK_r (fnK_r (res1 rfl (rv_t (v := str _) rfl)) (.refl _) ?_)))))
    have k1 : numK 1 = 1 := by decide
    have k8 : numK 8 = 8 := by decide
    simp only [k1, k8, List.append_assoc]
    unfold deedB
    (repeat (first | rw [if_pos (by omega)] | rw [if_neg (by omega)] | rw [if_pos (by assumption)] | rw [if_neg (by assumption)] | rw [if_neg (fun q => q (by assumption))]))
    all_goals first | done | rfl | (simp only [List.append_assoc, List.append_nil]; done)
  have p21 := df h19
  refine cw_seq (cw_seq (cw_region (ol rfl (lo_eql rfl rfl) (oab rfl rfl (ow_nil ?_)))))
  refine seqK_n (cw_cond rfl (fun h22 => ?_) (fun h22 => ?_))
  · have p23 := dt h22
    refine cw_skip (seqK_n (cw_cond_t rfl h22 (cw_seq (cw_region (ol rfl (lo_move (v := str _) rfl) ?_)))))
    refine ol rfl (lo_assign (v := str _) rfl) (ow_nil (seqK_n (cw_ret (blkK_r (seqK_r ?_)))))
    refine fnK_r (res1 rfl (rv_t (v := str _) rfl)) (.refl _) ?_
    have k1 : numK 1 = 1 := by decide
    have k8 : numK 8 = 8 := by decide
    simp only [k1, k8, List.append_assoc]
    unfold deedB
    (repeat (first | rw [if_pos (by omega)] | rw [if_neg (by omega)] | rw [if_pos (by assumption)] | rw [if_neg (by assumption)] | rw [if_neg (fun q => q (by assumption))]))
    all_goals first | done | rfl | (simp only [List.append_assoc, List.append_nil]; done)
  have p24 := df h22
  refine cw_region (ol rfl (lo_eql rfl rfl) (oab rfl rfl (ow_nil (seqK_n (cw_cond rfl (fun h25 => ?_) (fun h25 => ?_))))))
  · have p26 := dt h25
    refine cw_seq (cw_region (ol rfl (lo_move (v := str _) rfl) (ol rfl (lo_assign (v := str _) rfl) (ow_nil (seqK_n ?_)))))
    refine cw_ret (blkK_r (seqK_r (fnK_r (res1 rfl (rv_t (v := str _) rfl)) (.refl _) ?_)))
    have k1 : numK 1 = 1 := by decide
    have k8 : numK 8 = 8 := by decide
    simp only [k1, k8, List.append_assoc]
    unfold deedB
    (repeat (first | rw [if_pos (by omega)] | rw [if_neg (by omega)] | rw [if_pos (by assumption)] | rw [if_neg (by assumption)] | rw [if_neg (fun q => q (by assumption))]))
    all_goals first | done | rfl | (simp only [List.append_assoc, List.append_nil]; done)
  have p27 := df h25
  refine cw_seq (cw_region (ol rfl (lo_eql rfl rfl) (oab rfl rfl (ow_nil (seqK_n ?_)))))
  refine cw_cond rfl (fun h28 => ?_) (fun h28 => ?_)
  · have p29 := dt h28
    refine cw_seq (cw_anyL mixd (vw_q 0 rfl (by kernel_rfl) (by repeat (first | exact lle_l0 | exact LLe.refl _ | exact lle_none | refine lle_up ?_ rfl)) (fun _ _ hh hl => lo_move (v := str _) rfl) ?_))
    refine vw_q 1 rfl (by kernel_rfl) (by repeat (first | exact lle_l0 | exact LLe.refl _ | exact lle_none | refine lle_up ?_ rfl)) (fun _ _ hh hl => lo_fieldAddr rfl fl119_8) ?_
    refine vw_q 2 rfl (by kernel_rfl) (by repeat (first | exact lle_l0 | exact LLe.refl _ | exact lle_none | refine lle_up ?_ rfl)) (fun _ _ hh hl => lo_load1 (i := 0) (v := .int _ _) rfl ag5 (hl _ _ rfl) rfl) ?_
    refine vw_q 3 rfl (by kernel_rfl) (by repeat (first | exact lle_l0 | exact LLe.refl _ | exact lle_none | refine lle_up ?_ rfl)) (fun _ _ hh hl => lo_conv_in rfl (by rw [Tryz.underlying5]; rfl) Tryz.underlying39 (rg_u64 (by omega))) ?_
    have := numB_len (numK 1) (d.frm).toNat
    have := numK_le 1
    have : numK 1 = 1 := by decide
    refine vw_qc 4 rfl (by kernel_rfl) (by repeat (first | exact lle_l0 | exact LLe.refl _ | exact lle_none | refine lle_up ?_ rfl)) (r1_Num _ d.frm (by omega) 1 (by omega)) (en_f cb95 rfl) ?_
    refine vw_q 5 rfl (by kernel_rfl) (by repeat (first | exact lle_l0 | exact LLe.refl _ | exact lle_none | refine lle_up ?_ rfl)) (fun _ _ hh hl => lo_cat rfl rfl (by first | omega | (simp only [List.length_append, List.length_cons, List.length_nil, numB_len]; omega))) ?_
    refine vw_q 6 rfl (by kernel_rfl) (by repeat (first | exact lle_l0 | exact LLe.refl _ | exact lle_none | refine lle_up ?_ rfl)) (fun _ _ hh hl => lo_fieldAddr rfl fl119_10) ?_
    refine vw_q 7 rfl (by kernel_rfl) (by repeat (first | exact lle_l0 | exact LLe.refl _ | exact lle_none | refine lle_up ?_ rfl)) (fun _ _ hh hl => lo_load1 (i := 0) (v := .int _ _) rfl ag39 (hl _ _ rfl) rfl) ?_
    have := numB_len (numK 8) (d.number).toNat
    have := numK_le 8
    have : numK 8 = 8 := by decide
    refine vw_qc 8 rfl (by kernel_rfl) (by repeat (first | exact lle_l0 | exact LLe.refl _ | exact lle_none | refine lle_up ?_ rfl)) (r1_Num _ d.number (by omega) 8 (by omega)) (en_f cb95 rfl) ?_
    refine vw_q 9 rfl (by kernel_rfl) (by repeat (first | exact lle_l0 | exact LLe.refl _ | exact lle_none | refine lle_up ?_ rfl)) (fun _ _ hh hl => lo_cat rfl rfl (by first | omega | (simp only [List.length_append, List.length_cons, List.length_nil, numB_len]; omega))) ?_
    refine vw_q 10 rfl (by kernel_rfl) (by repeat (first | exact lle_l0 | exact LLe.refl _ | exact lle_none | refine lle_up ?_ rfl)) (fun _ _ hh hl => lo_fieldAddr rfl fl119_11) ?_
    refine vw_q 11 rfl (by kernel_rfl) (by repeat (first | exact lle_l0 | exact LLe.refl _ | exact lle_none | refine lle_up ?_ rfl)) (fun _ _ hh hl => lo_loadA (i := 0) (vs := [_, _, _, _, _, _, _]) rfl ag42 sz42 (hl _ _ rfl) rfl rfl) ?_
    have := mailB_len (m := d.mail) (by first | assumption | omega) (by first | assumption | exact slh_kind (by assumption))
    refine vw_qc 12 rfl (by kernel_rfl) (by repeat (first | exact lle_l0 | exact LLe.refl _ | exact lle_none | refine lle_up ?_ rfl)) (r13_Bytes _ d.mail d_mail_head_a d_mail_head_c d_mail_head_h (by simp only [Mail.wf]; first | omega | (simp; done) | (simp; omega)) (by first | assumption | omega)) (en_f cb160 rfl) ?_
    refine vw_q 13 rfl (by kernel_rfl) (by repeat (first | exact lle_l0 | exact LLe.refl _ | exact lle_none | refine lle_up ?_ rfl)) (fun _ _ hh hl => lo_cat rfl rfl (by first | omega | (simp only [List.length_append, List.length_cons, List.length_nil, numB_len]; omega))) ?_
    refine vw_q 14 rfl (by kernel_rfl) (by repeat (first | exact lle_l0 | exact LLe.refl _ | exact lle_none | refine lle_up ?_ rfl)) (fun _ _ hh hl => lo_assign (v := str _) rfl) ?_
    refine vw_done (by kernel_rfl) (seqK_n (cw_ret (blkK_r (seqK_r (fnK_r (res1 rfl (rv_t (v := str _) rfl)) (.refl _) ?_)))))
    have k1 : numK 1 = 1 := by decide
    have k8 : numK 8 = 8 := by decide
    simp only [k1, k8, List.append_assoc]
    unfold deedB
    (repeat (first | rw [if_pos (by omega)] | rw [if_neg (by omega)] | rw [if_pos (by assumption)] | rw [if_neg (by assumption)] | rw [if_neg (fun q => q (by assumption))]))
    all_goals first | done | rfl | (simp only [List.append_assoc, List.append_nil]; done)
  have p30 := df h28
  refine cw_seq (cw_region (ol rfl (lo_eql rfl rfl) (oab rfl rfl (ow_nil (seqK_n ?_)))))
  refine cw_cond rfl (fun h31 => ?_) (fun h31 => ?_)
  · have p32 := dt h31
    refine cw_seq (cw_anyL mixd (vw_q 0 rfl (by kernel_rfl) (by repeat (first | exact lle_l0 | exact LLe.refl _ | exact lle_none | refine lle_up ?_ rfl)) (fun _ _ hh hl => lo_move (v := str _) rfl) ?_))
    refine vw_q 1 rfl (by kernel_rfl) (by repeat (first | exact lle_l0 | exact LLe.refl _ | exact lle_none | refine lle_up ?_ rfl)) (fun _ _ hh hl => lo_fieldAddr rfl fl119_9) ?_
    refine vw_q 2 rfl (by kernel_rfl) (by repeat (first | exact lle_l0 | exact LLe.refl _ | exact lle_none | refine lle_up ?_ rfl)) (fun _ _ hh hl => lo_load1 (i := 0) (v := .int _ _) rfl ag5 (hl _ _ rfl) rfl) ?_
    refine vw_q 3 rfl (by kernel_rfl) (by repeat (first | exact lle_l0 | exact LLe.refl _ | exact lle_none | refine lle_up ?_ rfl)) (fun _ _ hh hl => lo_conv_in rfl (by rw [Tryz.underlying5]; rfl) Tryz.underlying39 (rg_u64 (by omega))) ?_
    have := numB_len (numK 1) (d.code).toNat
    have := numK_le 1
    have : numK 1 = 1 := by decide
    refine vw_qc 4 rfl (by kernel_rfl) (by repeat (first | exact lle_l0 | exact LLe.refl _ | exact lle_none | refine lle_up ?_ rfl)) (r1_Num _ d.code (by omega) 1 (by omega)) (en_f cb95 rfl) ?_
    refine vw_q 5 rfl (by kernel_rfl) (by repeat (first | exact lle_l0 | exact LLe.refl _ | exact lle_none | refine lle_up ?_ rfl)) (fun _ _ hh hl => lo_cat rfl rfl (by first | omega | (simp only [List.length_append, List.length_cons, List.length_nil, numB_len]; omega))) ?_
    refine vw_q 6 rfl (by kernel_rfl) (by repeat (first | exact lle_l0 | exact LLe.refl _ | exact lle_none | refine lle_up ?_ rfl)) (fun _ _ hh hl => lo_fieldAddr rfl fl119_12) ?_
    refine vw_q 7 rfl (by kernel_rfl) (by repeat (first | exact lle_l0 | exact LLe.refl _ | exact lle_none | refine lle_up ?_ rfl)) (fun _ _ hh hl => lo_load1 (i := 0) (v := str _) rfl ag9 (hl _ _ rfl) rfl) ?_
    have := txtB_len d.text
    refine vw_qc 8 rfl (by kernel_rfl) (by repeat (first | exact lle_l0 | exact LLe.refl _ | exact lle_none | refine lle_up ?_ rfl)) (r1_Text _ d.text (by first | omega | (simp; done) | (simp; omega))) (en_f cb94 rfl) ?_
    refine vw_q 9 rfl (by kernel_rfl) (by repeat (first | exact lle_l0 | exact LLe.refl _ | exact lle_none | refine lle_up ?_ rfl)) (fun _ _ hh hl => lo_cat rfl rfl (by first | omega | (simp only [List.length_append, List.length_cons, List.length_nil, numB_len]; omega))) ?_
    refine vw_q 10 rfl (by kernel_rfl) (by repeat (first | exact lle_l0 | exact LLe.refl _ | exact lle_none | refine lle_up ?_ rfl)) (fun _ _ hh hl => lo_assign (v := str _) rfl) ?_
    refine vw_done (by kernel_rfl) (seqK_n (cw_ret (blkK_r (seqK_r (fnK_r (res1 rfl (rv_t (v := str _) rfl)) (.refl _) ?_)))))
    have k1 : numK 1 = 1 := by decide
    have k8 : numK 8 = 8 := by decide
    simp only [k1, k8, List.append_assoc]
    unfold deedB
    (repeat (first | rw [if_pos (by omega)] | rw [if_neg (by omega)] | rw [if_pos (by assumption)] | rw [if_neg (by assumption)] | rw [if_neg (fun q => q (by assumption))]))
    all_goals first | done | rfl | (simp only [List.append_assoc, List.append_nil]; done)
  have p33 := df h31
  refine cw_skip (blkK_n (seqK_n (cw_seq (cw_region (ol rfl (lo_move (v := str _) rfl) ?_)))))
  refine ol rfl (lo_fieldAddr rfl fl119_5) (ol rfl (lo_load1 (i := 0) (v := str _) rfl ag9 rfl rfl) ?_)
  refine ow1 (op1_pr (r1_Text _ d.name (by first | omega | (simp; done) | (simp; omega))) (en_f cb94 rfl) rfl ?_)
  have := txtB_len d.name
  refine ol rfl (lo_cat rfl rfl (by first | omega | (simp only [List.length_append, List.length_cons, List.length_nil, numB_len]; omega))) (ol rfl (lo_assign (v := str _) rfl) (ow_nil (seqK_n (cw_ret (fnK_r (res1 rfl (rv_t (v := str _) rfl)) (.refl _) ?_)))))
  have k1 : numK 1 = 1 := by decide
  have k8 : numK 8 = 8 := by decide
  simp only [k1, k8, List.append_assoc]
  unfold deedB
  (repeat (first | rw [if_pos (by omega)] | rw [if_neg (by omega)] | rw [if_pos (by assumption)] | rw [if_neg (by assumption)] | rw [if_neg (fun q => q (by assumption))]))
  all_goals first | done | rfl | (simp only [List.append_assoc, List.append_nil]; done)
end Go.SW
