/-
  A part of the proof of DeedShort: The walks of this seat, printed by program: deed.Deed.Bytes. The walks of this seat, printed by program: stairwellref13.Same, stairwellref14.SameBind, stairwellref22.Same, stairwellref22.names, stairwellref22.maybe, stairwellref22.bit, stairwellref22.spare. The walks of this seat, printed by program: stairwellref22.checkBind, stairwellref13.Check, stairwellref22.Check. The walks of this seat, printed by program: stairwellref13.Bytes, stairwellref22.Bytes. The walks of this seat, printed by program: stairwelllaw13.Light, stairwelllaw22.Light, stairwelllaw14.To, stairwelllaw22.To. The walks of this seat, printed by program: slices.Equal[[]string,string], slices.Index[[]string,string], slices.Contains[[]string,string], route.Shop.check, route.Book.Shop. The walks of this seat, printed by program: route.Shop], route.Bind]. The walks of this seat, printed by program: route.Book.Make. The walks of this seat, printed by program: route.Bind.rule, route.Bind.same, route.Bind.clone, route.Book.there. The walks of this seat, printed by program: route.Book.Bind. The walks of this seat, printed by program: route.Book.Leads. The walks of this seat, printed by program: stairwelllaw14.awake, stairwelllaw14.Awake. The walks of this seat, printed by program: stairwelllaw22.awake, stairwelllaw22.Awake.
-/
import Derived.Test.YtbcoemocijnooaaGreatDoorProg
import Derived.Test.YtbcoemocijnooaaGreatDoorDeedShortP2
import Derived.KernelRfl
import Derived.Test.YtbcoemocijnooaaGreatDoorDeedShortP3
set_option linter.unusedVariables false
set_option linter.unusedSimpArgs false
set_option linter.unusedVariables false
set_option maxRecDepth 100000
set_option maxHeartbeats 4000000
namespace Go.SW
open Go.Proofs
theorem cb101 : Callable Tryz.prog 101 := callable_of Tryz.func101 (by kernel_rfl) (by kernel_rfl)
theorem cb103 : Callable Tryz.prog 103 := callable_of Tryz.func103 (by kernel_rfl) (by kernel_rfl)
theorem fl102_1 : Fld Tryz.prog 102 1 1 := fun b o w => by kernel_rfl
theorem fl102_2 : Fld Tryz.prog 102 2 2 := fun b o w => by kernel_rfl
theorem deed_Bytes (H : Hp) (d : DeedR) (d_bind_want_a : Option Addr) (d_bind_want_c : Nat) (d_bind_want_h : SlH pairE 4 H (.slice d_bind_want_a d.bind.want.length d_bind_want_c) d.bind.want) (d_mail_head_a : Option Addr) (d_mail_head_c : Nat) (d_mail_head_h : SlH pairE 4 H (.slice d_mail_head_a d.mail.head.length d_mail_head_c) d.mail.head) (d_w : DeedR.wf d) (hML : GInt H 2) : Pr Tryz.prog 45 #[.agg (DeedR.cells d d_bind_want_a d_bind_want_c d_mail_head_a d_mail_head_c).toArray] H (.tuple #[str (deedBytes d), .int .i64 (deedE d)]) := by
  refine pr_cw Tryz.func45 rfl Tryz.ntmps45 rfl (fun N => ?_)
  have d_w' := d_w
  simp only [DeedR.wf, ShopR.wf, QueueR.wf, BindR.wf, Mail.wf] at d_w'
  refine cw_seq (cw_region (ow1 (op1_box (cs := [_, _, _, _, _, _, _, _, _, _, _, _, _, _, _, _, _, _, _, _, _, _, _, _, _, _, _, _, _]) 0 rfl rfl (fun b1 => ?_))))
  refine ol rfl (lo_assign (v := str _) rfl) (oai rfl rfl (ow_nil (seqK_n (cw_seq (cw_seq ?_)))))
  refine cw_region (ol rfl (lo_loadA (i := 0) (vs := [_, _, _, _, _, _, _, _, _, _, _, _, _, _, _, _, _, _, _, _, _, _, _, _, _, _, _, _, _]) rfl ag106 sz106 rfl rfl rfl) ?_)
  refine ow1 (op1_pr (deed_Check _ d d_bind_want_a d_bind_want_c d_bind_want_h d_mail_head_a d_mail_head_c d_mail_head_h d_w hML) (en_f cb101 rfl) rfl ?_)
  have := deedE_r d
  refine oai rfl rfl (ow_nil (seqK_n (cw_seq (cw_region (omi rfl rfl ?_)))))
  refine ol rfl (lo_neq rfl rfl) (ow_nil (seqK_n (cw_cond rfl (fun h2 => ?_) (fun h2 => ?_))))
  · have h3 := not_t h2
    have p4 := df h3
    refine cw_seq (cw_region (omi rfl rfl (ol rfl (lo_assign (v := str _) rfl) (oai rfl rfl (ow_nil ?_)))))
    refine seqK_n (cw_ret (seqK_r (fnK_r (res2 rfl (rv_t (v := str _) rfl) (rv_t (v := .int _ _) rfl)) (.refl _) ?_)))
    have e : deedBytes d = [] := by
      unfold deedBytes
      first
        | (rw [if_neg (by assumption)]; done)
        | (rw [if_pos (by assumption)]; unfold deedOut; (repeat (first | rw [if_pos (by omega)] | rw [if_neg (by omega)] | rw [if_pos (by assumption)] | rw [if_neg (by assumption)] | rw [if_neg (fun q => q (by assumption))])); first | done | rfl)
    rw [e]
    try (rw [show deedE d = 0 by assumption])
  have h5 := not_f h2
  have p6 := dt h5
  have hdk := deedE_ok (d := d) (by omega) p6
  obtain ⟨dk1, dk2, dk3, dk4, dk5, dk6, dk7, dk8, dk9, dk10, dk11, dk12, dk13, dk14, dk15, dk16, dk17, dk18, dk19⟩ := hdk
  refine cw_skip (seqK_n (cw_seq (cw_anyL mixd (vw_q 0 rfl (by kernel_rfl) (by repeat (first | exact lle_l0 | exact LLe.refl _ | exact lle_none | refine lle_up ?_ rfl)) (fun _ _ hh hl => lo_build (v := .agg #[_, _]) rfl (bd157)) ?_))))
  refine vw_q 1 rfl (by kernel_rfl) (by repeat (first | exact lle_l0 | exact LLe.refl _ | exact lle_none | refine lle_up ?_ rfl)) (fun _ _ hh hl => lo_fieldAddr rfl fl106_0) ?_
  refine vw_q 2 rfl (by kernel_rfl) (by repeat (first | exact lle_l0 | exact LLe.refl _ | exact lle_none | refine lle_up ?_ rfl)) (fun _ _ hh hl => lo_load1 (i := 0) (v := .int _ _) rfl ag5 (hl _ _ rfl) rfl) ?_
  refine vw_q 3 rfl (by kernel_rfl) (by repeat (first | exact lle_l0 | exact LLe.refl _ | exact lle_none | refine lle_up ?_ rfl)) (fun _ _ hh hl => lo_conv_in rfl (by rw [Tryz.underlying5]; rfl) Tryz.underlying39 (rg_u64 (by omega))) ?_
  have nl0 : (⟨[], 0⟩ : Out).s.length = 0 := rfl
  have := outNum_len (⟨[], 0⟩ : Out) d.kind 1
  refine vw_qc 4 rfl (by kernel_rfl) (by repeat (first | exact lle_l0 | exact LLe.refl _ | exact lle_none | refine lle_up ?_ rfl)) (out_Num _ (⟨[], 0⟩ : Out) d.kind (by omega) 1 (by omega) (by first | omega | (have := hrl (by assumption); omega) | (simp [outNum, outRaw, numB_len, numK] <;> omega) | (have := hrl (by assumption); simp [outNum, outRaw, numB_len, numK] <;> omega))) (en_f cb90 rfl) ?_
  refine vw_q 5 rfl (by kernel_rfl) (by repeat (first | exact lle_l0 | exact LLe.refl _ | exact lle_none | refine lle_up ?_ rfl)) (fun _ _ hh hl => lo_fieldAddr rfl fl106_1) ?_
  refine vw_q 6 rfl (by kernel_rfl) (by repeat (first | exact lle_l0 | exact LLe.refl _ | exact lle_none | refine lle_up ?_ rfl)) (fun _ _ hh hl => lo_load1 (i := 0) (v := .int _ _) rfl ag39 (hl _ _ rfl) rfl) ?_
  have := outNum_len (outNum (⟨[], 0⟩ : Out) d.kind 1) d.tick 8
  refine vw_qc 7 rfl (by kernel_rfl) (by repeat (first | exact lle_l0 | exact LLe.refl _ | exact lle_none | refine lle_up ?_ rfl)) (out_Num _ (outNum (⟨[], 0⟩ : Out) d.kind 1) d.tick (by omega) 8 (by omega) (by first | omega | (have := hrl (by assumption); omega) | (simp [outNum, outRaw, numB_len, numK] <;> omega) | (have := hrl (by assumption); simp [outNum, outRaw, numB_len, numK] <;> omega))) (en_f cb90 rfl) ?_
  refine vw_e 8 rfl (by kernel_rfl) (op1_alloc 1 rfl zr157 (fun b7 => ?_))
  refine ⟨⟨(.refl _), (by repeat (first | exact lle_l0 | exact LLe.refl _ | exact lle_none | refine lle_up ?_ rfl))⟩, ?_⟩
  refine vw_t 9 rfl (by kernel_rfl) (by kernel_rfl) (op1_storeAll (i := 1) (vs := [_, _]) rfl rfl rfl sz157 rfl rfl rfl ?_)
  refine vw_done (by kernel_rfl) (seqK_n (cw_seq (cw_region (ol rfl (lo_fieldAddr rfl fl106_11) (ol rfl (lo_loadA (i := 0) (vs := [_, _, _, _, _, _, _]) rfl ag42 sz42 rfl rfl rfl) ?_)))))
  refine ow1 (op1_pr (mail_Bytes _ d.mail d_mail_head_a d_mail_head_c d_mail_head_h (by simp only [Mail.wf]; first | omega | (simp; done) | (simp; omega)) hML) (en_f cb102 rfl) rfl ?_)
  have := mailBytes_len d.mail
  refine ol rfl (lo_move (v := .tuple #[_, _]) rfl) (ol rfl (lo_extract (v := str _) rfl rfl) (ol rfl (lo_extract (v := .int _ _) rfl rfl) (ol rfl (lo_assign (v := str _) rfl) (oai rfl rfl (ow_nil ?_)))))
  refine seqK_n (cw_seq (cw_seq (cw_region (ol rfl (lo_fieldAddr rfl fl106_0) (ol rfl (lo_load1 (i := 0) (v := .int _ _) rfl ag5 rfl rfl) ?_)))))
  refine ow_nil (seqK_n (cw_block (cw_seq (cw_region (ol rfl (lo_eql rfl rfl) ?_)))))
  refine oab rfl rfl (ow_nil (seqK_n (cw_cond rfl (fun h8 => ?_) (fun h8 => ?_))))
  · have p9 := dt h8
    refine cw_anyL mixd (vw_q 0 rfl (by kernel_rfl) (by repeat (first | exact lle_l0 | exact LLe.refl _ | exact lle_none | refine lle_up ?_ rfl)) (fun _ _ hh hl => lo_loadA (i := 1) (vs := [_, _]) rfl ag157 sz157 (hl _ _ rfl) rfl rfl) ?_)
    refine vw_q 1 rfl (by kernel_rfl) (by repeat (first | exact lle_l0 | exact LLe.refl _ | exact lle_none | refine lle_up ?_ rfl)) (fun _ _ hh hl => lo_fieldAddr rfl fl106_2) ?_
    refine vw_q 2 rfl (by kernel_rfl) (by repeat (first | exact lle_l0 | exact LLe.refl _ | exact lle_none | refine lle_up ?_ rfl)) (fun _ _ hh hl => lo_fieldAddr rfl fl100_0) ?_
    refine vw_q 3 rfl (by kernel_rfl) (by repeat (first | exact lle_l0 | exact LLe.refl _ | exact lle_none | refine lle_up ?_ rfl)) (fun _ _ hh hl => lo_load1 (i := 0) (v := str _) rfl ag9 (hl _ _ rfl) rfl) ?_
    have := outText_len (outNum (outNum (⟨[], 0⟩ : Out) d.kind 1) d.tick 8) d.shop.name
    refine vw_qc 4 rfl (by kernel_rfl) (by repeat (first | exact lle_l0 | exact LLe.refl _ | exact lle_none | refine lle_up ?_ rfl)) (out_Text _ (outNum (outNum (⟨[], 0⟩ : Out) d.kind 1) d.tick 8) d.shop.name (by first | omega | (have := hrl (by assumption); omega) | (simp [outNum, outRaw, numB_len, numK] <;> omega) | (have := hrl (by assumption); simp [outNum, outRaw, numB_len, numK] <;> omega))) (en_f cb87 rfl) ?_
    refine vw_q 5 rfl (by kernel_rfl) (by repeat (first | exact lle_l0 | exact LLe.refl _ | exact lle_none | refine lle_up ?_ rfl)) (fun _ _ hh hl => lo_fieldAddr rfl fl106_2) ?_
    refine vw_q 6 rfl (by kernel_rfl) (by repeat (first | exact lle_l0 | exact LLe.refl _ | exact lle_none | refine lle_up ?_ rfl)) (fun _ _ hh hl => lo_fieldAddr rfl fl100_1) ?_
    refine vw_q 7 rfl (by kernel_rfl) (by repeat (first | exact lle_l0 | exact LLe.refl _ | exact lle_none | refine lle_up ?_ rfl)) (fun _ _ hh hl => lo_load1 (i := 0) (v := .int _ _) rfl ag5 (hl _ _ rfl) rfl) ?_
    refine vw_q 8 rfl (by kernel_rfl) (by repeat (first | exact lle_l0 | exact LLe.refl _ | exact lle_none | refine lle_up ?_ rfl)) (fun _ _ hh hl => lo_conv_in rfl (by rw [Tryz.underlying5]; rfl) Tryz.underlying39 (rg_u64 (by omega))) ?_
    have := outNum_len (outText (outNum (outNum (⟨[], 0⟩ : Out) d.kind 1) d.tick 8) d.shop.name) d.shop.sort 1
    refine vw_qc 9 rfl (by kernel_rfl) (by repeat (first | exact lle_l0 | exact LLe.refl _ | exact lle_none | refine lle_up ?_ rfl)) (out_Num _ (outText (outNum (outNum (⟨[], 0⟩ : Out) d.kind 1) d.tick 8) d.shop.name) d.shop.sort (by omega) 1 (by omega) (by first | omega | (have := hrl (by assumption); omega) | (simp [outNum, outRaw, numB_len, numK] <;> omega) | (have := hrl (by assumption); simp [outNum, outRaw, numB_len, numK] <;> omega))) (en_f cb90 rfl) ?_
    refine vw_q 10 rfl (by kernel_rfl) (by repeat (first | exact lle_l0 | exact LLe.refl _ | exact lle_none | refine lle_up ?_ rfl)) (fun _ _ hh hl => lo_fieldAddr rfl fl106_2) ?_
    refine vw_q 11 rfl (by kernel_rfl) (by repeat (first | exact lle_l0 | exact LLe.refl _ | exact lle_none | refine lle_up ?_ rfl)) (fun _ _ hh hl => lo_fieldAddr rfl fl100_2) ?_
    refine vw_q 12 rfl (by kernel_rfl) (by repeat (first | exact lle_l0 | exact LLe.refl _ | exact lle_none | refine lle_up ?_ rfl)) (fun _ _ hh hl => lo_load1 (i := 0) (v := str _) rfl ag9 (hl _ _ rfl) rfl) ?_
    have := outText_len (outNum (outText (outNum (outNum (⟨[], 0⟩ : Out) d.kind 1) d.tick 8) d.shop.name) d.shop.sort 1) d.shop.to
    refine vw_qc 13 rfl (by kernel_rfl) (by repeat (first | exact lle_l0 | exact LLe.refl _ | exact lle_none | refine lle_up ?_ rfl)) (out_Text _ (outNum (outText (outNum (outNum (⟨[], 0⟩ : Out) d.kind 1) d.tick 8) d.shop.name) d.shop.sort 1) d.shop.to (by first | omega | (have := hrl (by assumption); omega) | (simp [outNum, outRaw, numB_len, numK] <;> omega) | (have := hrl (by assumption); simp [outNum, outRaw, numB_len, numK] <;> omega))) (en_f cb87 rfl) ?_
    refine vw_t 14 rfl (by kernel_rfl) (by kernel_rfl) (op1_storeAll (i := 1) (vs := [_, _]) rfl rfl rfl sz157 rfl rfl rfl ?_)
    refine vw_done (by kernel_rfl) (blkK_n (seqK_n (cw_seq (cw_region (ol rfl (lo_loadA (i := 1) (vs := [_, _]) rfl ag157 sz157 rfl rfl rfl) ?_)))))
    refine ow1 (op1_pr (out_String _ (outText (outNum (outText (outNum (outNum (⟨[], 0⟩ : Out) d.kind 1) d.tick 8) d.shop.name) d.shop.sort 1) d.shop.to)) (en_f cb91 rfl) rfl ?_)
    refine ol rfl (lo_assign (v := str _) rfl) (oai rfl rfl (ow_nil (seqK_n (cw_ret (fnK_r (res2 rfl (rv_t (v := str _) rfl) (rv_t (v := .int _ _) rfl)) (.refl _) ?_)))))
    have e : deedBytes d = (outText (outNum (outText (outNum (outNum (⟨[], 0⟩ : Out) d.kind 1) d.tick 8) d.shop.name) d.shop.sort 1) d.shop.to).s := by
      unfold deedBytes
      first
        | (rw [if_neg (by assumption)]; done)
        | (rw [if_pos (by assumption)]; unfold deedOut; (repeat (first | rw [if_pos (by omega)] | rw [if_neg (by omega)] | rw [if_pos (by assumption)] | rw [if_neg (by assumption)] | rw [if_neg (fun q => q (by assumption))])); first | done | rfl)
    rw [e]
    try (rw [show deedE d = 0 by assumption])
  have p10 := df h8
  refine cw_seq (cw_region (ol rfl (lo_eql rfl rfl) (oab rfl rfl (ow_nil (seqK_n ?_)))))
  refine cw_cond rfl (fun h11 => ?_) (fun h11 => ?_)
  · have p12 := dt h11
    refine cw_anyL mixd (vw_q 0 rfl (by kernel_rfl) (by repeat (first | exact lle_l0 | exact LLe.refl _ | exact lle_none | refine lle_up ?_ rfl)) (fun _ _ hh hl => lo_loadA (i := 1) (vs := [_, _]) rfl ag157 sz157 (hl _ _ rfl) rfl rfl) ?_)
    refine vw_q 1 rfl (by kernel_rfl) (by repeat (first | exact lle_l0 | exact LLe.refl _ | exact lle_none | refine lle_up ?_ rfl)) (fun _ _ hh hl => lo_fieldAddr rfl fl106_3) ?_
    refine vw_q 2 rfl (by kernel_rfl) (by repeat (first | exact lle_l0 | exact LLe.refl _ | exact lle_none | refine lle_up ?_ rfl)) (fun _ _ hh hl => lo_fieldAddr rfl fl102_0) ?_
    refine vw_q 3 rfl (by kernel_rfl) (by repeat (first | exact lle_l0 | exact LLe.refl _ | exact lle_none | refine lle_up ?_ rfl)) (fun _ _ hh hl => lo_load1 (i := 0) (v := str _) rfl ag9 (hl _ _ rfl) rfl) ?_
    have := outText_len (outNum (outNum (⟨[], 0⟩ : Out) d.kind 1) d.tick 8) d.queue.name
    refine vw_qc 4 rfl (by kernel_rfl) (by repeat (first | exact lle_l0 | exact LLe.refl _ | exact lle_none | refine lle_up ?_ rfl)) (out_Text _ (outNum (outNum (⟨[], 0⟩ : Out) d.kind 1) d.tick 8) d.queue.name (by first | omega | (have := hrl (by assumption); omega) | (simp [outNum, outRaw, numB_len, numK] <;> omega) | (have := hrl (by assumption); simp [outNum, outRaw, numB_len, numK] <;> omega))) (en_f cb87 rfl) ?_
    refine vw_q 5 rfl (by kernel_rfl) (by repeat (first | exact lle_l0 | exact LLe.refl _ | exact lle_none | refine lle_up ?_ rfl)) (fun _ _ hh hl => lo_fieldAddr rfl fl106_3) ?_
    refine vw_q 6 rfl (by kernel_rfl) (by repeat (first | exact lle_l0 | exact LLe.refl _ | exact lle_none | refine lle_up ?_ rfl)) (fun _ _ hh hl => lo_fieldAddr rfl fl102_1) ?_
    refine vw_q 7 rfl (by kernel_rfl) (by repeat (first | exact lle_l0 | exact LLe.refl _ | exact lle_none | refine lle_up ?_ rfl)) (fun _ _ hh hl => lo_load1 (i := 0) (v := .int _ _) rfl ag39 (hl _ _ rfl) rfl) ?_
    have := outNum_len (outText (outNum (outNum (⟨[], 0⟩ : Out) d.kind 1) d.tick 8) d.queue.name) d.queue.most 8
    refine vw_qc 8 rfl (by kernel_rfl) (by repeat (first | exact lle_l0 | exact LLe.refl _ | exact lle_none | refine lle_up ?_ rfl)) (out_Num _ (outText (outNum (outNum (⟨[], 0⟩ : Out) d.kind 1) d.tick 8) d.queue.name) d.queue.most (by omega) 8 (by omega) (by first | omega | (have := hrl (by assumption); omega) | (simp [outNum, outRaw, numB_len, numK] <;> omega) | (have := hrl (by assumption); simp [outNum, outRaw, numB_len, numK] <;> omega))) (en_f cb90 rfl) ?_
    refine vw_q 9 rfl (by kernel_rfl) (by repeat (first | exact lle_l0 | exact LLe.refl _ | exact lle_none | refine lle_up ?_ rfl)) (fun _ _ hh hl => lo_fieldAddr rfl fl106_3) ?_
    refine vw_q 10 rfl (by kernel_rfl) (by repeat (first | exact lle_l0 | exact LLe.refl _ | exact lle_none | refine lle_up ?_ rfl)) (fun _ _ hh hl => lo_fieldAddr rfl fl102_2) ?_
    refine vw_q 11 rfl (by kernel_rfl) (by repeat (first | exact lle_l0 | exact LLe.refl _ | exact lle_none | refine lle_up ?_ rfl)) (fun _ _ hh hl => lo_load1 (i := 0) (v := .int _ _) rfl ag39 (hl _ _ rfl) rfl) ?_
    have := outNum_len (outNum (outText (outNum (outNum (⟨[], 0⟩ : Out) d.kind 1) d.tick 8) d.queue.name) d.queue.most 8) d.queue.life 8
    refine vw_qc 12 rfl (by kernel_rfl) (by repeat (first | exact lle_l0 | exact LLe.refl _ | exact lle_none | refine lle_up ?_ rfl)) (out_Num _ (outNum (outText (outNum (outNum (⟨[], 0⟩ : Out) d.kind 1) d.tick 8) d.queue.name) d.queue.most 8) d.queue.life (by omega) 8 (by omega) (by first | omega | (have := hrl (by assumption); omega) | (simp [outNum, outRaw, numB_len, numK] <;> omega) | (have := hrl (by assumption); simp [outNum, outRaw, numB_len, numK] <;> omega))) (en_f cb90 rfl) ?_
    refine vw_q 13 rfl (by kernel_rfl) (by repeat (first | exact lle_l0 | exact LLe.refl _ | exact lle_none | refine lle_up ?_ rfl)) (fun _ _ hh hl => lo_fieldAddr rfl fl106_3) ?_
    refine vw_q 14 rfl (by kernel_rfl) (by repeat (first | exact lle_l0 | exact LLe.refl _ | exact lle_none | refine lle_up ?_ rfl)) (fun _ _ hh hl => lo_fieldAddr rfl fl102_3) ?_
    refine vw_q 15 rfl (by kernel_rfl) (by repeat (first | exact lle_l0 | exact LLe.refl _ | exact lle_none | refine lle_up ?_ rfl)) (fun _ _ hh hl => lo_load1 (i := 0) (v := str _) rfl ag9 (hl _ _ rfl) rfl) ?_
    have := outText_len (outNum (outNum (outText (outNum (outNum (⟨[], 0⟩ : Out) d.kind 1) d.tick 8) d.queue.name) d.queue.most 8) d.queue.life 8) d.queue.dead
    refine vw_qc 16 rfl (by kernel_rfl) (by repeat (first | exact lle_l0 | exact LLe.refl _ | exact lle_none | refine lle_up ?_ rfl)) (out_Text _ (outNum (outNum (outText (outNum (outNum (⟨[], 0⟩ : Out) d.kind 1) d.tick 8) d.queue.name) d.queue.most 8) d.queue.life 8) d.queue.dead (by first | omega | (have := hrl (by assumption); omega) | (simp [outNum, outRaw, numB_len, numK] <;> omega) | (have := hrl (by assumption); simp [outNum, outRaw, numB_len, numK] <;> omega))) (en_f cb87 rfl) ?_
    refine vw_t 17 rfl (by kernel_rfl) (by kernel_rfl) (op1_storeAll (i := 1) (vs := [_, _]) rfl rfl rfl sz157 rfl rfl rfl ?_)
    refine vw_done (by kernel_rfl) (blkK_n (seqK_n (cw_seq (cw_region (ol rfl (lo_loadA (i := 1) (vs := [_, _]) rfl ag157 sz157 rfl rfl rfl) ?_)))))
    refine ow1 (op1_pr (out_String _ (outText (outNum (outNum (outText (outNum (outNum (⟨[], 0⟩ : Out) d.kind 1) d.tick 8) d.queue.name) d.queue.most 8) d.queue.life 8) d.queue.dead)) (en_f cb91 rfl) rfl ?_)
    refine ol rfl (lo_assign (v := str _) rfl) (oai rfl rfl (ow_nil (seqK_n (cw_ret (fnK_r (res2 rfl (rv_t (v := str _) rfl) (rv_t (v := .int _ _) rfl)) (.refl _) ?_)))))
    have e : deedBytes d = (outText (outNum (outNum (outText (outNum (outNum (⟨[], 0⟩ : Out) d.kind 1) d.tick 8) d.queue.name) d.queue.most 8) d.queue.life 8) d.queue.dead).s := by
      unfold deedBytes
      first
        | (rw [if_neg (by assumption)]; done)
        | (rw [if_pos (by assumption)]; unfold deedOut; (repeat (first | rw [if_pos (by omega)] | rw [if_neg (by omega)] | rw [if_pos (by assumption)] | rw [if_neg (by assumption)] | rw [if_neg (fun q => q (by assumption))])); first | done | rfl)
    rw [e]
    try (rw [show deedE d = 0 by assumption])
  have p13 := df h11
  refine cw_seq (cw_seq (cw_region (ol rfl (lo_eql rfl rfl) (oab rfl rfl (ow_nil ?_)))))
  refine seqK_n (cw_cond rfl (fun h14 => ?_) (fun h14 => ?_))
  · have p15 := dt h14
    refine cw_skip (seqK_n (cw_cond_t rfl h14 (cw_seq (cw_region (ol rfl (lo_fieldAddr rfl fl106_4) ?_)))))
    refine ol rfl (lo_loadA (i := 0) (vs := [_, _, _, _, _, _]) rfl ag104 sz104 rfl rfl rfl) (ow1 (op1_alloc 2 rfl zr104 (fun b16 => ?_)))
    refine ow1 (op1_storeAll (i := 2) (vs := [_, _, _, _, _, _]) rfl rfl rfl sz104 rfl rfl rfl ?_)
    refine ow_nil (seqK_n (cw_seq (cw_region (ol rfl (lo_fieldAddr rfl fl104_4) (ol rfl (lo_load1 (i := 2) (v := .slice _ _ _) rfl ag40 rfl rfl) ?_)))))
    refine ow1 (op1_pr (head_Bytes _ d_bind_want_a d.bind.want.length d_bind_want_c d.bind.want d_bind_want_h (by first | omega | (simp <;> omega))) (en_f cb88 rfl) rfl ?_)
    have := headBytes_len d.bind.want
    refine ol rfl (lo_move (v := .tuple #[_, _]) rfl) (ol rfl (lo_extract (v := str _) rfl rfl) (ol rfl (lo_extract (v := .int _ _) rfl rfl) (ol rfl (lo_assign (v := str _) rfl) (oai rfl rfl (ow_nil ?_)))))
    refine seqK_n (cw_anyL mixd (vw_q 0 rfl (by kernel_rfl) (by repeat (first | exact lle_l0 | exact LLe.refl _ | exact lle_none | refine lle_up ?_ rfl)) (fun _ _ hh hl => lo_loadA (i := 1) (vs := [_, _]) rfl ag157 sz157 (hl _ _ rfl) rfl rfl) ?_))
    refine vw_q 1 rfl (by kernel_rfl) (by repeat (first | exact lle_l0 | exact LLe.refl _ | exact lle_none | refine lle_up ?_ rfl)) (fun _ _ hh hl => lo_fieldAddr rfl fl104_0) ?_
    refine vw_q 2 rfl (by kernel_rfl) (by repeat (first | exact lle_l0 | exact LLe.refl _ | exact lle_none | refine lle_up ?_ rfl)) (fun _ _ hh hl => lo_load1 (i := 2) (v := str _) rfl ag9 (hl _ _ rfl) rfl) ?_
    have := outText_len (outNum (outNum (⟨[], 0⟩ : Out) d.kind 1) d.tick 8) d.bind.shop
    refine vw_qc 3 rfl (by kernel_rfl) (by repeat (first | exact lle_l0 | exact LLe.refl _ | exact lle_none | refine lle_up ?_ rfl)) (out_Text _ (outNum (outNum (⟨[], 0⟩ : Out) d.kind 1) d.tick 8) d.bind.shop (by first | omega | (have := hrl (by assumption); omega) | (simp [outNum, outRaw, numB_len, numK] <;> omega) | (have := hrl (by assumption); simp [outNum, outRaw, numB_len, numK] <;> omega))) (en_f cb87 rfl) ?_
    refine vw_q 4 rfl (by kernel_rfl) (by repeat (first | exact lle_l0 | exact LLe.refl _ | exact lle_none | refine lle_up ?_ rfl)) (fun _ _ hh hl => lo_fieldAddr rfl fl104_1) ?_
    refine vw_q 5 rfl (by kernel_rfl) (by repeat (first | exact lle_l0 | exact LLe.refl _ | exact lle_none | refine lle_up ?_ rfl)) (fun _ _ hh hl => lo_load1 (i := 2) (v := str _) rfl ag9 (hl _ _ rfl) rfl) ?_
    have := outText_len (outText (outNum (outNum (⟨[], 0⟩ : Out) d.kind 1) d.tick 8) d.bind.shop) d.bind.to
    refine vw_qc 6 rfl (by kernel_rfl) (by repeat (first | exact lle_l0 | exact LLe.refl _ | exact lle_none | refine lle_up ?_ rfl)) (out_Text _ (outText (outNum (outNum (⟨[], 0⟩ : Out) d.kind 1) d.tick 8) d.bind.shop) d.bind.to (by first | omega | (have := hrl (by assumption); omega) | (simp [outNum, outRaw, numB_len, numK] <;> omega) | (have := hrl (by assumption); simp [outNum, outRaw, numB_len, numK] <;> omega))) (en_f cb87 rfl) ?_
    refine vw_q 7 rfl (by kernel_rfl) (by repeat (first | exact lle_l0 | exact LLe.refl _ | exact lle_none | refine lle_up ?_ rfl)) (fun _ _ hh hl => lo_fieldAddr rfl fl104_2) ?_
    refine vw_q 8 rfl (by kernel_rfl) (by repeat (first | exact lle_l0 | exact LLe.refl _ | exact lle_none | refine lle_up ?_ rfl)) (fun _ _ hh hl => lo_load1 (i := 2) (v := .bool _) rfl ag4 (hl _ _ rfl) rfl) ?_
    have := bitN_r d.bind.up
    refine vw_qc 9 rfl (by kernel_rfl) (by repeat (first | exact lle_l0 | exact LLe.refl _ | exact lle_none | refine lle_up ?_ rfl)) (deed_bit _ d.bind.up) (en_f cb103 rfl) ?_
    have := outNum_len (outText (outText (outNum (outNum (⟨[], 0⟩ : Out) d.kind 1) d.tick 8) d.bind.shop) d.bind.to) (bitN d.bind.up) 1
    refine vw_qc 10 rfl (by kernel_rfl) (by repeat (first | exact lle_l0 | exact LLe.refl _ | exact lle_none | refine lle_up ?_ rfl)) (out_Num _ (outText (outText (outNum (outNum (⟨[], 0⟩ : Out) d.kind 1) d.tick 8) d.bind.shop) d.bind.to) (bitN d.bind.up) (by omega) 1 (by omega) (by first | omega | (have := hrl (by assumption); omega) | (simp [outNum, outRaw, numB_len, numK] <;> omega) | (have := hrl (by assumption); simp [outNum, outRaw, numB_len, numK] <;> omega))) (en_f cb90 rfl) ?_
    refine vw_q 11 rfl (by kernel_rfl) (by repeat (first | exact lle_l0 | exact LLe.refl _ | exact lle_none | refine lle_up ?_ rfl)) (fun _ _ hh hl => lo_fieldAddr rfl fl104_3) ?_
    refine vw_q 12 rfl (by kernel_rfl) (by repeat (first | exact lle_l0 | exact LLe.refl _ | exact lle_none | refine lle_up ?_ rfl)) (fun _ _ hh hl => lo_load1 (i := 2) (v := str _) rfl ag9 (hl _ _ rfl) rfl) ?_
    have := outText_len (outNum (outText (outText (outNum (outNum (⟨[], 0⟩ : Out) d.kind 1) d.tick 8) d.bind.shop) d.bind.to) (bitN d.bind.up) 1) d.bind.key
    refine vw_qc 13 rfl (by kernel_rfl) (by repeat (first | exact lle_l0 | exact LLe.refl _ | exact lle_none | refine lle_up ?_ rfl)) (out_Text _ (outNum (outText (outText (outNum (outNum (⟨[], 0⟩ : Out) d.kind 1) d.tick 8) d.bind.shop) d.bind.to) (bitN d.bind.up) 1) d.bind.key (by first | omega | (have := hrl (by assumption); omega) | (simp [outNum, outRaw, numB_len, numK] <;> omega) | (have := hrl (by assumption); simp [outNum, outRaw, numB_len, numK] <;> omega))) (en_f cb87 rfl) ?_
    refine vw_q 14 rfl (by kernel_rfl) (by repeat (first | exact lle_l0 | exact LLe.refl _ | exact lle_none | refine lle_up ?_ rfl)) (fun _ _ hh hl => lo_move (v := str _) rfl) ?_
    have := outRaw_len (outText (outNum (outText (outText (outNum (outNum (⟨[], 0⟩ : Out) d.kind 1) d.tick 8) d.bind.shop) d.bind.to) (bitN d.bind.up) 1) d.bind.key) (headBytes d.bind.want)
    refine vw_qc 15 rfl (by kernel_rfl) (by repeat (first | exact lle_l0 | exact LLe.refl _ | exact lle_none | refine lle_up ?_ rfl)) (out_Raw _ (outText (outNum (outText (outText (outNum (outNum (⟨[], 0⟩ : Out) d.kind 1) d.tick 8) d.bind.shop) d.bind.to) (bitN d.bind.up) 1) d.bind.key) (headBytes d.bind.want) (by first | omega | (have := hrl (by assumption); omega) | (simp [outNum, outRaw, numB_len, numK] <;> omega) | (have := hrl (by assumption); simp [outNum, outRaw, numB_len, numK] <;> omega))) (en_f cb89 rfl) ?_
    refine vw_q 16 rfl (by kernel_rfl) (by repeat (first | exact lle_l0 | exact LLe.refl _ | exact lle_none | refine lle_up ?_ rfl)) (fun _ _ hh hl => lo_fieldAddr rfl fl104_5) ?_
    refine vw_q 17 rfl (by kernel_rfl) (by repeat (first | exact lle_l0 | exact LLe.refl _ | exact lle_none | refine lle_up ?_ rfl)) (fun _ _ hh hl => lo_load1 (i := 2) (v := .bool _) rfl ag4 (hl _ _ rfl) rfl) ?_
    have := bitN_r d.bind.all
    refine vw_qc 18 rfl (by kernel_rfl) (by repeat (first | exact lle_l0 | exact LLe.refl _ | exact lle_none | refine lle_up ?_ rfl)) (deed_bit _ d.bind.all) (en_f cb103 rfl) ?_
    have := outNum_len (outRaw (outText (outNum (outText (outText (outNum (outNum (⟨[], 0⟩ : Out) d.kind 1) d.tick 8) d.bind.shop) d.bind.to) (bitN d.bind.up) 1) d.bind.key) (headBytes d.bind.want)) (bitN d.bind.all) 1
    refine vw_qc 19 rfl (by kernel_rfl) (by repeat (first | exact lle_l0 | exact LLe.refl _ | exact lle_none | refine lle_up ?_ rfl)) (out_Num _ (outRaw (outText (outNum (outText (outText (outNum (outNum (⟨[], 0⟩ : Out) d.kind 1) d.tick 8) d.bind.shop) d.bind.to) (bitN d.bind.up) 1) d.bind.key) (headBytes d.bind.want)) (bitN d.bind.all) (by omega) 1 (by omega) (by first | omega | (have := hrl (by assumption); omega) | (simp [outNum, outRaw, numB_len, numK] <;> omega) | (have := hrl (by assumption); simp [outNum, outRaw, numB_len, numK] <;> omega))) (en_f cb90 rfl) ?_
    refine vw_t 20 rfl (by kernel_rfl) (by kernel_rfl) (op1_storeAll (i := 1) (vs := [_, _]) rfl rfl rfl sz157 rfl rfl rfl ?_)
    refine vw_done (by kernel_rfl) (blkK_n (seqK_n (cw_seq (cw_region (ol rfl (lo_loadA (i := 1) (vs := [_, _]) rfl ag157 sz157 rfl rfl rfl) ?_)))))
    refine ow1 (op1_pr (out_String _ (outNum (outRaw (outText (outNum (outText (outText (outNum (outNum (⟨[], 0⟩ : Out) d.kind 1) d.tick 8) d.bind.shop) d.bind.to) (bitN d.bind.up) 1) d.bind.key) (headBytes d.bind.want)) (bitN d.bind.all) 1)) (en_f cb91 rfl) rfl ?_)
    refine ol rfl (lo_assign (v := str _) rfl) (oai rfl rfl (ow_nil (seqK_n (cw_ret (fnK_r (res2 rfl (rv_t (v := str _) rfl) (rv_t (v := .int _ _) rfl)) (.refl _) ?_)))))
    have e : deedBytes d = (outNum (outRaw (outText (outNum (outText (outText (outNum (outNum (⟨[], 0⟩ : Out) d.kind 1) d.tick 8) d.bind.shop) d.bind.to) (bitN d.bind.up) 1) d.bind.key) (headBytes d.bind.want)) (bitN d.bind.all) 1).s := by
      unfold deedBytes
      first
        | (rw [if_neg (by assumption)]; done)
        | (rw [if_pos (by assumption)]; unfold deedOut; (repeat (first | rw [if_pos (by omega)] | rw [if_neg (by omega)] | rw [if_pos (by assumption)] | rw [if_neg (by assumption)] | rw [if_neg (fun q => q (by assumption))])); first | done | rfl)
    rw [e]
    try (rw [show deedE d = 0 by assumption])
  have p17 := df h14
  refine cw_region (ol rfl (lo_eql rfl rfl) (oab rfl rfl (ow_nil (seqK_n (cw_cond rfl (fun h18 => ?_) (fun h18 => ?_))))))
  · have p19 := dt h18
    refine cw_seq (cw_region (ol rfl (lo_fieldAddr rfl fl106_4) (ol rfl (lo_loadA (i := 0) (vs := [_, _, _, _, _, _]) rfl ag104 sz104 rfl rfl rfl) (ow1 (op1_alloc 2 rfl zr104 (fun b20 => ?_))))))
    refine ow1 (op1_storeAll (i := 2) (vs := [_, _, _, _, _, _]) rfl rfl rfl sz104 rfl rfl rfl ?_)
    refine ow_nil (seqK_n (cw_seq (cw_region (ol rfl (lo_fieldAddr rfl fl104_4) (ol rfl (lo_load1 (i := 2) (v := .slice _ _ _) rfl ag40 rfl rfl) ?_)))))
    refine ow1 (op1_pr (head_Bytes _ d_bind_want_a d.bind.want.length d_bind_want_c d.bind.want d_bind_want_h (by first | omega | (simp <;> omega))) (en_f cb88 rfl) rfl ?_)
    have := headBytes_len d.bind.want
    refine ol rfl (lo_move (v := .tuple #[_, _]) rfl) (ol rfl (lo_extract (v := str _) rfl rfl) (ol rfl (lo_extract (v := .int _ _) rfl rfl) (ol rfl (lo_assign (v := str _) rfl) (oai rfl rfl (ow_nil ?_)))))
    refine seqK_n (cw_anyL mixd (vw_q 0 rfl (by kernel_rfl) (by repeat (first | exact lle_l0 | exact LLe.refl _ | exact lle_none | refine lle_up ?_ rfl)) (fun _ _ hh hl => lo_loadA (i := 1) (vs := [_, _]) rfl ag157 sz157 (hl _ _ rfl) rfl rfl) ?_))
    refine vw_q 1 rfl (by kernel_rfl) (by repeat (first | exact lle_l0 | exact LLe.refl _ | exact lle_none | refine lle_up ?_ rfl)) (fun _ _ hh hl => lo_fieldAddr rfl fl104_0) ?_
    refine vw_q 2 rfl (by kernel_rfl) (by repeat (first | exact lle_l0 | exact LLe.refl _ | exact lle_none | refine lle_up ?_ rfl)) (fun _ _ hh hl => lo_load1 (i := 2) (v := str _) rfl ag9 (hl _ _ rfl) rfl) ?_
    have := outText_len (outNum (outNum (⟨[], 0⟩ : Out) d.kind 1) d.tick 8) d.bind.shop
    refine vw_qc 3 rfl (by kernel_rfl) (by repeat (first | exact lle_l0 | exact LLe.refl _ | exact lle_none | refine lle_up ?_ rfl)) (out_Text _ (outNum (outNum (⟨[], 0⟩ : Out) d.kind 1) d.tick 8) d.bind.shop (by first | omega | (have := hrl (by assumption); omega) | (simp [outNum, outRaw, numB_len, numK] <;> omega) | (have := hrl (by assumption); simp [outNum, outRaw, numB_len, numK] <;> omega))) (en_f cb87 rfl) ?_
    refine vw_q 4 rfl (by kernel_rfl) (by repeat (first | exact lle_l0 | exact LLe.refl _ | exact lle_none | refine lle_up ?_ rfl)) (fun _ _ hh hl => lo_fieldAddr rfl fl104_1) ?_
    refine vw_q 5 rfl (by kernel_rfl) (by repeat (first | exact lle_l0 | exact LLe.refl _ | exact lle_none | refine lle_up ?_ rfl)) (fun _ _ hh hl => lo_load1 (i := 2) (v := str _) rfl ag9 (hl _ _ rfl) rfl) ?_
    have := outText_len (outText (outNum (outNum (⟨[], 0⟩ : Out) d.kind 1) d.tick 8) d.bind.shop) d.bind.to
    refine vw_qc 6 rfl (by kernel_rfl) (by repeat (first | exact lle_l0 | exact LLe.refl _ | exact lle_none | refine lle_up ?_ rfl)) (out_Text _ (outText (outNum (outNum (⟨[], 0⟩ : Out) d.kind 1) d.tick 8) d.bind.shop) d.bind.to (by first | omega | (have := hrl (by assumption); omega) | (simp [outNum, outRaw, numB_len, numK] <;> omega) | (have := hrl (by assumption); simp [outNum, outRaw, numB_len, numK] <;> omega))) (en_f cb87 rfl) ?_
    refine vw_q 7 rfl (by kernel_rfl) (by repeat (first | exact lle_l0 | exact LLe.refl _ | exact lle_none | refine lle_up ?_ rfl)) (fun _ _ hh hl => lo_fieldAddr rfl fl104_2) ?_
    refine vw_q 8 rfl (by kernel_rfl) (by repeat (first | exact lle_l0 | exact LLe.refl _ | exact lle_none | refine lle_up ?_ rfl)) (fun _ _ hh hl => lo_load1 (i := 2) (v := .bool _) rfl ag4 (hl _ _ rfl) rfl) ?_
    have := bitN_r d.bind.up
    refine vw_qc 9 rfl (by kernel_rfl) (by repeat (first | exact lle_l0 | exact LLe.refl _ | exact lle_none | refine lle_up ?_ rfl)) (deed_bit _ d.bind.up) (en_f cb103 rfl) ?_
    have := outNum_len (outText (outText (outNum (outNum (⟨[], 0⟩ : Out) d.kind 1) d.tick 8) d.bind.shop) d.bind.to) (bitN d.bind.up) 1
    refine vw_qc 10 rfl (by kernel_rfl) (by repeat (first | exact lle_l0 | exact LLe.refl _ | exact lle_none | refine lle_up ?_ rfl)) (out_Num _ (outText (outText (outNum (outNum (⟨[], 0⟩ : Out) d.kind 1) d.tick 8) d.bind.shop) d.bind.to) (bitN d.bind.up) (by omega) 1 (by omega) (by first | omega | (have := hrl (by assumption); omega) | (simp [outNum, outRaw, numB_len, numK] <;> omega) | (have := hrl (by assumption); simp [outNum, outRaw, numB_len, numK] <;> omega))) (en_f cb90 rfl) ?_
    refine vw_q 11 rfl (by kernel_rfl) (by repeat (first | exact lle_l0 | exact LLe.refl _ | exact lle_none | refine lle_up ?_ rfl)) (fun _ _ hh hl => lo_fieldAddr rfl fl104_3) ?_
    refine vw_q 12 rfl (by kernel_rfl) (by repeat (first | exact lle_l0 | exact LLe.refl _ | exact lle_none | refine lle_up ?_ rfl)) (fun _ _ hh hl => lo_load1 (i := 2) (v := str _) rfl ag9 (hl _ _ rfl) rfl) ?_
    have := outText_len (outNum (outText (outText (outNum (outNum (⟨[], 0⟩ : Out) d.kind 1) d.tick 8) d.bind.shop) d.bind.to) (bitN d.bind.up) 1) d.bind.key
    refine vw_qc 13 rfl (by kernel_rfl) (by repeat (first | exact lle_l0 | exact LLe.refl _ | exact lle_none | refine lle_up ?_ rfl)) (out_Text _ (outNum (outText (outText (outNum (outNum (⟨[], 0⟩ : Out) d.kind 1) d.tick 8) d.bind.shop) d.bind.to) (bitN d.bind.up) 1) d.bind.key (by first | omega | (have := hrl (by assumption); omega) | (simp [outNum, outRaw, numB_len, numK] <;> omega) | (have := hrl (by assumption); simp [outNum, outRaw, numB_len, numK] <;> omega))) (en_f cb87 rfl) ?_
    refine vw_q 14 rfl (by kernel_rfl) (by repeat (first | exact lle_l0 | exact LLe.refl _ | exact lle_none | refine lle_up ?_ rfl)) (fun _ _ hh hl => lo_move (v := str _) rfl) ?_
    have := outRaw_len (outText (outNum (outText (outText (outNum (outNum (⟨[], 0⟩ : Out) d.kind 1) d.tick 8) d.bind.shop) d.bind.to) (bitN d.bind.up) 1) d.bind.key) (headBytes d.bind.want)
    refine vw_qc 15 rfl (by kernel_rfl) (by repeat (first | exact lle_l0 | exact LLe.refl _ | exact lle_none | refine lle_up ?_ rfl)) (out_Raw _ (outText (outNum (outText (outText (outNum (outNum (⟨[], 0⟩ : Out) d.kind 1) d.tick 8) d.bind.shop) d.bind.to) (bitN d.bind.up) 1) d.bind.key) (headBytes d.bind.want) (by first | omega | (have := hrl (by assumption); omega) | (simp [outNum, outRaw, numB_len, numK] <;> omega) | (have := hrl (by assumption); simp [outNum, outRaw, numB_len, numK] <;> omega))) (en_f cb89 rfl) ?_
    refine vw_q 16 rfl (by kernel_rfl) (by repeat (first | exact lle_l0 | exact LLe.refl _ | exact lle_none | refine lle_up ?_ rfl)) (fun _ _ hh hl => lo_fieldAddr rfl fl104_5) ?_
    refine vw_q 17 rfl (by kernel_rfl) (by repeat (first | exact lle_l0 | exact LLe.refl _ | exact lle_none | refine lle_up ?_ rfl)) (fun _ _ hh hl => lo_load1 (i := 2) (v := .bool _) rfl ag4 (hl _ _ rfl) rfl) ?_
    have := bitN_r d.bind.all
    refine vw_qc 18 rfl (by kernel_rfl) (by repeat (first | exact lle_l0 | exact LLe.refl _ | exact lle_none | refine lle_up ?_ rfl)) (deed_bit _ d.bind.all) (en_f cb103 rfl) ?_
    have := outNum_len (outRaw (outText (outNum (outText (outText (outNum (outNum (⟨[], 0⟩ : Out) d.kind 1) d.tick 8) d.bind.shop) d.bind.to) (bitN d.bind.up) 1) d.bind.key) (headBytes d.bind.want)) (bitN d.bind.all) 1
    refine vw_qc 19 rfl (by kernel_rfl) (by repeat (first | exact lle_l0 | exact LLe.refl _ | exact lle_none | refine lle_up ?_ rfl)) (out_Num _ (outRaw (outText (outNum (outText (outText (outNum (outNum (⟨[], 0⟩ : Out) d.kind 1) d.tick 8) d.bind.shop) d.bind.to) (bitN d.bind.up) 1) d.bind.key) (headBytes d.bind.want)) (bitN d.bind.all) (by omega) 1 (by omega) (by first | omega | (have := hrl (by assumption); omega) | (simp [outNum, outRaw, numB_len, numK] <;> omega) | (have := hrl (by assumption); simp [outNum, outRaw, numB_len, numK] <;> omega))) (en_f cb90 rfl) ?_
    refine vw_t 20 rfl (by kernel_rfl) (by kernel_rfl) (op1_storeAll (i := 1) (vs := [_, _]) rfl rfl rfl sz157 rfl rfl rfl ?_)
    refine vw_done (by kernel_rfl) (blkK_n (seqK_n (cw_seq (cw_region (ol rfl (lo_loadA (i := 1) (vs := [_, _]) rfl ag157 sz157 rfl rfl rfl) ?_)))))
    refine ow1 (op1_pr (out_String _ (outNum (outRaw (outText (outNum (outText (outText (outNum (outNum (⟨[], 0⟩ : Out) d.kind 1) d.tick 8) d.bind.shop) d.bind.to) (bitN d.bind.up) 1) d.bind.key) (headBytes d.bind.want)) (bitN d.bind.all) 1)) (en_f cb91 rfl) rfl ?_)
    refine ol rfl (lo_assign (v := str _) rfl) (oai rfl rfl (ow_nil (seqK_n (cw_ret (fnK_r (res2 rfl (rv_t (v := str _) rfl) (rv_t (v := .int _ _) rfl)) (.refl _) ?_)))))
    have e : deedBytes d = (outNum (outRaw (outText (outNum (outText (outText (outNum (outNum (⟨[], 0⟩ : Out) d.kind 1) d.tick 8) d.bind.shop) d.bind.to) (bitN d.bind.up) 1) d.bind.key) (headBytes d.bind.want)) (bitN d.bind.all) 1).s := by
      unfold deedBytes
      first
        | (rw [if_neg (by assumption)]; done)
        | (rw [if_pos (by assumption)]; unfold deedOut; (repeat (first | rw [if_pos (by omega)] | rw [if_neg (by omega)] | rw [if_pos (by assumption)] | rw [if_neg (by assumption)] | rw [if_neg (fun q => q (by assumption))])); first | done | rfl)
    rw [e]
    try (rw [show deedE d = 0 by assumption])
  have p21 := df h18
  refine cw_seq (cw_region (ol rfl (lo_eql rfl rfl) (oab rfl rfl (ow_nil (seqK_n ?_)))))
  refine cw_cond rfl (fun h22 => ?_) (fun h22 => ?_)
  · have p23 := dt h22
    refine cw_region (ol rfl (lo_loadA (i := 1) (vs := [_, _]) rfl ag157 sz157 rfl rfl rfl) (ol rfl (lo_move (v := str _) rfl) ?_))
    refine ow1 (op1_pr (out_Raw _ (outNum (outNum (⟨[], 0⟩ : Out) d.kind 1) d.tick 8) (mailBytes d.mail) (by first | omega | (have := hrl (by assumption); omega) | (simp [outNum, outRaw, numB_len, numK] <;> omega) | (have := hrl (by assumption); simp [outNum, outRaw, numB_len, numK] <;> omega))) (en_f cb89 rfl) rfl ?_)
    have := outRaw_len (outNum (outNum (⟨[], 0⟩ : Out) d.kind 1) d.tick 8) (mailBytes d.mail)
    refine ow1 (op1_storeAll (i := 1) (vs := [_, _]) rfl rfl rfl sz157 rfl rfl rfl ?_)
    refine ow_nil (blkK_n (seqK_n (cw_seq (cw_region (ol rfl (lo_loadA (i := 1) (vs := [_, _]) rfl ag157 sz157 rfl rfl rfl) ?_)))))
    refine ow1 (op1_pr (out_String _ (outRaw (outNum (outNum (⟨[], 0⟩ : Out) d.kind 1) d.tick 8) (mailBytes d.mail))) (en_f cb91 rfl) rfl ?_)
    refine ol rfl (lo_assign (v := str _) rfl) (oai rfl rfl (ow_nil (seqK_n (cw_ret (fnK_r (res2 rfl (rv_t (v := str _) rfl) (rv_t (v := .int _ _) rfl)) (.refl _) ?_)))))
    have e : deedBytes d = (outRaw (outNum (outNum (⟨[], 0⟩ : Out) d.kind 1) d.tick 8) (mailBytes d.mail)).s := by
      unfold deedBytes
      first
        | (rw [if_neg (by assumption)]; done)
        | (rw [if_pos (by assumption)]; unfold deedOut; (repeat (first | rw [if_pos (by omega)] | rw [if_neg (by omega)] | rw [if_pos (by assumption)] | rw [if_neg (by assumption)] | rw [if_neg (fun q => q (by assumption))])); first | done | rfl)
    rw [e]
    try (rw [show deedE d = 0 by assumption])
  have p24 := df h22
  refine cw_seq (cw_seq (cw_region (ol rfl (lo_eql rfl rfl) (oab rfl rfl (ow_nil ?_)))))
  refine seqK_n (cw_cond rfl (fun h25 => ?_) (fun h25 => ?_))
  · have p26 := dt h25
    refine cw_skip (seqK_n (cw_cond_t rfl h25 (cw_region (ol rfl (lo_loadA (i := 1) (vs := [_, _]) rfl ag157 sz157 rfl rfl rfl) (ol rfl (lo_fieldAddr rfl fl106_5) ?_)))))
    refine ol rfl (lo_load1 (i := 0) (v := str _) rfl ag9 rfl rfl) ?_
    refine ow1 (op1_pr (out_Text _ (outNum (outNum (⟨[], 0⟩ : Out) d.kind 1) d.tick 8) d.name (by first | omega | (have := hrl (by assumption); omega) | (simp [outNum, outRaw, numB_len, numK] <;> omega) | (have := hrl (by assumption); simp [outNum, outRaw, numB_len, numK] <;> omega))) (en_f cb87 rfl) rfl ?_)
    have := outText_len (outNum (outNum (⟨[], 0⟩ : Out) d.kind 1) d.tick 8) d.name
    refine ow1 (op1_storeAll (i := 1) (vs := [_, _]) rfl rfl rfl sz157 rfl rfl rfl ?_)
    refine ow_nil (blkK_n (seqK_n (cw_seq (cw_region (ol rfl (lo_loadA (i := 1) (vs := [_, _]) rfl ag157 sz157 rfl rfl rfl) ?_)))))
    refine ow1 (op1_pr (out_String _ (outText (outNum (outNum (⟨[], 0⟩ : Out) d.kind 1) d.tick 8) d.name)) (en_f cb91 rfl) rfl ?_)
    refine ol rfl (lo_assign (v := str _) rfl) (oai rfl rfl (ow_nil (seqK_n (cw_ret (fnK_r (res2 rfl (rv_t (v := str _) rfl) (rv_t (v := .int _ _) rfl)) (.refl _) ?_)))))
    have e : deedBytes d = (outText (outNum (outNum (⟨[], 0⟩ : Out) d.kind 1) d.tick 8) d.name).s := by
      unfold deedBytes
      first
        | (rw [if_neg (by assumption)]; done)
        | (rw [if_pos (by assumption)]; unfold deedOut; (repeat (first | rw [if_pos (by omega)] | rw [if_neg (by omega)] | rw [if_pos (by assumption)] | rw [if_neg (by assumption)] | rw [if_neg (fun q => q (by assumption))])); first | done | rfl)
    rw [e]
    try (rw [show deedE d = 0 by assumption])
  have p27 := df h25
  refine cw_seq (cw_region (ol rfl (lo_eql rfl rfl) (oab rfl rfl (ow_nil (seqK_n ?_)))))
  refine cw_cond rfl (fun h28 => ?_) (fun h28 => ?_)
  · have p29 := dt h28
    refine cw_skip (seqK_n (cw_cond_t rfl h28 (cw_region (ol rfl (lo_loadA (i := 1) (vs := [_, _]) rfl ag157 sz157 rfl rfl rfl) (ol rfl (lo_fieldAddr rfl fl106_5) ?_)))))
    refine ol rfl (lo_load1 (i := 0) (v := str _) rfl ag9 rfl rfl) ?_
    refine ow1 (op1_pr (out_Text _ (outNum (outNum (⟨[], 0⟩ : Out) d.kind 1) d.tick 8) d.name (by first | omega | (have := hrl (by assumption); omega) | (simp [outNum, outRaw, numB_len, numK] <;> omega) | (have := hrl (by assumption); simp [outNum, outRaw, numB_len, numK] <;> omega))) (en_f cb87 rfl) rfl ?_)
    have := outText_len (outNum (outNum (⟨[], 0⟩ : Out) d.kind 1) d.tick 8) d.name
    refine ow1 (op1_storeAll (i := 1) (vs := [_, _]) rfl rfl rfl sz157 rfl rfl rfl ?_)
    refine ow_nil (blkK_n (seqK_n (cw_seq (cw_region (ol rfl (lo_loadA (i := 1) (vs := [_, _]) rfl ag157 sz157 rfl rfl rfl) ?_)))))
    refine ow1 (op1_pr (out_String _ (outText (outNum (outNum (⟨[], 0⟩ : Out) d.kind 1) d.tick 8) d.name)) (en_f cb91 rfl) rfl ?_)
    refine ol rfl (lo_assign (v := str _) rfl) (oai rfl rfl (ow_nil (seqK_n (cw_ret (fnK_r (res2 rfl (rv_t (v := str _) rfl) (rv_t (v := .int _ _) rfl)) (.refl _) ?_)))))
    have e : deedBytes d = (outText (outNum (outNum (⟨[], 0⟩ : Out) d.kind 1) d.tick 8) d.name).s := by
      unfold deedBytes
      first
        | (rw [if_neg (by assumption)]; done)
        | (rw [if_pos (by assumption)]; unfold deedOut; (repeat (first | rw [if_pos (by omega)] | rw [if_neg (by omega)] | rw [if_pos (by assumption)] | rw [if_neg (by assumption)] | rw [if_neg (fun q => q (by assumption))])); first | done | rfl)
    rw [e]
    try (rw [show deedE d = 0 by assumption])
  have p30 := df h28
  refine cw_region (ol rfl (lo_eql rfl rfl) (oab rfl rfl (ow_nil (seqK_n (cw_cond rfl (fun h31 => ?_) (fun h31 => ?_))))))
  · have p32 := dt h31
    refine cw_region (ol rfl (lo_loadA (i := 1) (vs := [_, _]) rfl ag157 sz157 rfl rfl rfl) (ol rfl (lo_fieldAddr rfl fl106_5) (ol rfl (lo_load1 (i := 0) (v := str _) rfl ag9 rfl rfl) ?_)))
    refine ow1 (op1_pr (out_Text _ (outNum (outNum (⟨[], 0⟩ : Out) d.kind 1) d.tick 8) d.name (by first | omega | (have := hrl (by assumption); omega) | (simp [outNum, outRaw, numB_len, numK] <;> omega) | (have := hrl (by assumption); simp [outNum, outRaw, numB_len, numK] <;> omega))) (en_f cb87 rfl) rfl ?_)
    have := outText_len (outNum (outNum (⟨[], 0⟩ : Out) d.kind 1) d.tick 8) d.name
    refine ow1 (op1_storeAll (i := 1) (vs := [_, _]) rfl rfl rfl sz157 rfl rfl rfl ?_)
    refine ow_nil (blkK_n (seqK_n (cw_seq (cw_region (ol rfl (lo_loadA (i := 1) (vs := [_, _]) rfl ag157 sz157 rfl rfl rfl) ?_)))))
    refine ow1 (op1_pr (out_String _ (outText (outNum (outNum (⟨[], 0⟩ : Out) d.kind 1) d.tick 8) d.name)) (en_f cb91 rfl) rfl ?_)
    refine ol rfl (lo_assign (v := str _) rfl) (oai rfl rfl (ow_nil (seqK_n (cw_ret (fnK_r (res2 rfl (rv_t (v := str _) rfl) (rv_t (v := .int _ _) rfl)) (.refl _) ?_)))))
    have e : deedBytes d = (outText (outNum (outNum (⟨[], 0⟩ : Out) d.kind 1) d.tick 8) d.name).s := by
      unfold deedBytes
      first
        | (rw [if_neg (by assumption)]; done)
        | (rw [if_pos (by assumption)]; unfold deedOut; (repeat (first | rw [if_pos (by omega)] | rw [if_neg (by omega)] | rw [if_pos (by assumption)] | rw [if_neg (by assumption)] | rw [if_neg (fun q => q (by assumption))])); first | done | rfl)
    rw [e]
    try (rw [show deedE d = 0 by assumption])
  have p33 := df h31
  refine cw_seq (cw_region (ol rfl (lo_eql rfl rfl) (oab rfl rfl (ow_nil (seqK_n ?_)))))
  refine cw_cond rfl (fun h34 => ?_) (fun h34 => ?_)
  · have p35 := dt h34
    refine cw_anyL mixd (vw_q 0 rfl (by kernel_rfl) (by repeat (first | exact lle_l0 | exact LLe.refl _ | exact lle_none | refine lle_up ?_ rfl)) (fun _ _ hh hl => lo_loadA (i := 1) (vs := [_, _]) rfl ag157 sz157 (hl _ _ rfl) rfl rfl) ?_)
    refine vw_q 1 rfl (by kernel_rfl) (by repeat (first | exact lle_l0 | exact LLe.refl _ | exact lle_none | refine lle_up ?_ rfl)) (fun _ _ hh hl => lo_fieldAddr rfl fl106_5) ?_
    refine vw_q 2 rfl (by kernel_rfl) (by repeat (first | exact lle_l0 | exact LLe.refl _ | exact lle_none | refine lle_up ?_ rfl)) (fun _ _ hh hl => lo_load1 (i := 0) (v := str _) rfl ag9 (hl _ _ rfl) rfl) ?_
    have := outText_len (outNum (outNum (⟨[], 0⟩ : Out) d.kind 1) d.tick 8) d.name
    refine vw_qc 3 rfl (by kernel_rfl) (by repeat (first | exact lle_l0 | exact LLe.refl _ | exact lle_none | refine lle_up ?_ rfl)) (out_Text _ (outNum (outNum (⟨[], 0⟩ : Out) d.kind 1) d.tick 8) d.name (by first | omega | (have := hrl (by assumption); omega) | (simp [outNum, outRaw, numB_len, numK] <;> omega) | (have := hrl (by assumption); simp [outNum, outRaw, numB_len, numK] <;> omega))) (en_f cb87 rfl) ?_
    refine vw_q 4 rfl (by kernel_rfl) (by repeat (first | exact lle_l0 | exact LLe.refl _ | exact lle_none | refine lle_up ?_ rfl)) (fun _ _ hh hl => lo_fieldAddr rfl fl106_6) ?_
    refine vw_q 5 rfl (by kernel_rfl) (by repeat (first | exact lle_l0 | exact LLe.refl _ | exact lle_none | refine lle_up ?_ rfl)) (fun _ _ hh hl => lo_load1 (i := 0) (v := .int _ _) rfl ag39 (hl _ _ rfl) rfl) ?_
    have := outNum_len (outText (outNum (outNum (⟨[], 0⟩ : Out) d.kind 1) d.tick 8) d.name) d.id 8
    refine vw_qc 6 rfl (by kernel_rfl) (by repeat (first | exact lle_l0 | exact LLe.refl _ | exact lle_none | refine lle_up ?_ rfl)) (out_Num _ (outText (outNum (outNum (⟨[], 0⟩ : Out) d.kind 1) d.tick 8) d.name) d.id (by omega) 8 (by omega) (by first | omega | (have := hrl (by assumption); omega) | (simp [outNum, outRaw, numB_len, numK] <;> omega) | (have := hrl (by assumption); simp [outNum, outRaw, numB_len, numK] <;> omega))) (en_f cb90 rfl) ?_
    refine vw_q 7 rfl (by kernel_rfl) (by repeat (first | exact lle_l0 | exact LLe.refl _ | exact lle_none | refine lle_up ?_ rfl)) (fun _ _ hh hl => lo_fieldAddr rfl fl106_7) ?_
    refine vw_q 8 rfl (by kernel_rfl) (by repeat (first | exact lle_l0 | exact LLe.refl _ | exact lle_none | refine lle_up ?_ rfl)) (fun _ _ hh hl => lo_load1 (i := 0) (v := .int _ _) rfl ag5 (hl _ _ rfl) rfl) ?_
    refine vw_q 9 rfl (by kernel_rfl) (by repeat (first | exact lle_l0 | exact LLe.refl _ | exact lle_none | refine lle_up ?_ rfl)) (fun _ _ hh hl => lo_conv_in rfl (by rw [Tryz.underlying5]; rfl) Tryz.underlying39 (rg_u64 (by omega))) ?_
    have := outNum_len (outNum (outText (outNum (outNum (⟨[], 0⟩ : Out) d.kind 1) d.tick 8) d.name) d.id 8) d.how 1
    refine vw_qc 10 rfl (by kernel_rfl) (by repeat (first | exact lle_l0 | exact LLe.refl _ | exact lle_none | refine lle_up ?_ rfl)) (out_Num _ (outNum (outText (outNum (outNum (⟨[], 0⟩ : Out) d.kind 1) d.tick 8) d.name) d.id 8) d.how (by omega) 1 (by omega) (by first | omega | (have := hrl (by assumption); omega) | (simp [outNum, outRaw, numB_len, numK] <;> omega) | (have := hrl (by assumption); simp [outNum, outRaw, numB_len, numK] <;> omega))) (en_f cb90 rfl) ?_
    refine vw_t 11 rfl (by kernel_rfl) (by kernel_rfl) (op1_storeAll (i := 1) (vs := [_, _]) rfl rfl rfl sz157 rfl rfl rfl ?_)
    refine vw_done (by kernel_rfl) (blkK_n (seqK_n (cw_seq (cw_region (ol rfl (lo_loadA (i := 1) (vs := [_, _]) rfl ag157 sz157 rfl rfl rfl) ?_)))))
    refine ow1 (op1_pr (out_String _ (outNum (outNum (outText (outNum (outNum (⟨[], 0⟩ : Out) d.kind 1) d.tick 8) d.name) d.id 8) d.how 1)) (en_f cb91 rfl) rfl ?_)
    refine ol rfl (lo_assign (v := str _) rfl) (oai rfl rfl (ow_nil (seqK_n (cw_ret (fnK_r (res2 rfl (rv_t (v := str _) rfl) (rv_t (v := .int _ _) rfl)) (.refl _) ?_)))))
    have e : deedBytes d = (outNum (outNum (outText (outNum (outNum (⟨[], 0⟩ : Out) d.kind 1) d.tick 8) d.name) d.id 8) d.how 1).s := by
      unfold deedBytes
      first
        | (rw [if_neg (by assumption)]; done)
        | (rw [if_pos (by assumption)]; unfold deedOut; (repeat (first | rw [if_pos (by omega)] | rw [if_neg (by omega)] | rw [if_pos (by assumption)] | rw [if_neg (by assumption)] | rw [if_neg (fun q => q (by assumption))])); first | done | rfl)
    rw [e]
    try (rw [show deedE d = 0 by assumption])
  have p36 := df h34
  refine cw_seq (cw_region (ol rfl (lo_eql rfl rfl) (oab rfl rfl (ow_nil (seqK_n ?_)))))
  refine cw_cond rfl (fun h37 => ?_) (fun h37 => ?_)
  · have p38 := dt h37
    refine cw_anyL mixd (vw_q 0 rfl (by kernel_rfl) (by repeat (first | exact lle_l0 | exact LLe.refl _ | exact lle_none | refine lle_up ?_ rfl)) (fun _ _ hh hl => lo_loadA (i := 1) (vs := [_, _]) rfl ag157 sz157 (hl _ _ rfl) rfl rfl) ?_)
    refine vw_q 1 rfl (by kernel_rfl) (by repeat (first | exact lle_l0 | exact LLe.refl _ | exact lle_none | refine lle_up ?_ rfl)) (fun _ _ hh hl => lo_fieldAddr rfl fl106_8) ?_
    refine vw_q 2 rfl (by kernel_rfl) (by repeat (first | exact lle_l0 | exact LLe.refl _ | exact lle_none | refine lle_up ?_ rfl)) (fun _ _ hh hl => lo_load1 (i := 0) (v := .int _ _) rfl ag5 (hl _ _ rfl) rfl) ?_
    refine vw_q 3 rfl (by kernel_rfl) (by repeat (first | exact lle_l0 | exact LLe.refl _ | exact lle_none | refine lle_up ?_ rfl)) (fun _ _ hh hl => lo_conv_in rfl (by rw [Tryz.underlying5]; rfl) Tryz.underlying39 (rg_u64 (by omega))) ?_
    have := outNum_len (outNum (outNum (⟨[], 0⟩ : Out) d.kind 1) d.tick 8) d.frm 1
    refine vw_qc 4 rfl (by kernel_rfl) (by repeat (first | exact lle_l0 | exact LLe.refl _ | exact lle_none | refine lle_up ?_ rfl)) (out_Num _ (outNum (outNum (⟨[], 0⟩ : Out) d.kind 1) d.tick 8) d.frm (by omega) 1 (by omega) (by first | omega | (have := hrl (by assumption); omega) | (simp [outNum, outRaw, numB_len, numK] <;> omega) | (have := hrl (by assumption); simp [outNum, outRaw, numB_len, numK] <;> omega))) (en_f cb90 rfl) ?_
    refine vw_q 5 rfl (by kernel_rfl) (by repeat (first | exact lle_l0 | exact LLe.refl _ | exact lle_none | refine lle_up ?_ rfl)) (fun _ _ hh hl => lo_fieldAddr rfl fl106_10) ?_
    refine vw_q 6 rfl (by kernel_rfl) (by repeat (first | exact lle_l0 | exact LLe.refl _ | exact lle_none | refine lle_up ?_ rfl)) (fun _ _ hh hl => lo_load1 (i := 0) (v := .int _ _) rfl ag39 (hl _ _ rfl) rfl) ?_
    have := outNum_len (outNum (outNum (outNum (⟨[], 0⟩ : Out) d.kind 1) d.tick 8) d.frm 1) d.number 8
    refine vw_qc 7 rfl (by kernel_rfl) (by repeat (first | exact lle_l0 | exact LLe.refl _ | exact lle_none | refine lle_up ?_ rfl)) (out_Num _ (outNum (outNum (outNum (⟨[], 0⟩ : Out) d.kind 1) d.tick 8) d.frm 1) d.number (by omega) 8 (by omega) (by first | omega | (have := hrl (by assumption); omega) | (simp [outNum, outRaw, numB_len, numK] <;> omega) | (have := hrl (by assumption); simp [outNum, outRaw, numB_len, numK] <;> omega))) (en_f cb90 rfl) ?_
    refine vw_q 8 rfl (by kernel_rfl) (by repeat (first | exact lle_l0 | exact LLe.refl _ | exact lle_none | refine lle_up ?_ rfl)) (fun _ _ hh hl => lo_move (v := str _) rfl) ?_
    have := outRaw_len (outNum (outNum (outNum (outNum (⟨[], 0⟩ : Out) d.kind 1) d.tick 8) d.frm 1) d.number 8) (mailBytes d.mail)
    refine vw_qc 9 rfl (by kernel_rfl) (by repeat (first | exact lle_l0 | exact LLe.refl _ | exact lle_none | refine lle_up ?_ rfl)) (out_Raw _ (outNum (outNum (outNum (outNum (⟨[], 0⟩ : Out) d.kind 1) d.tick 8) d.frm 1) d.number 8) (mailBytes d.mail) (by first | omega | (have := hrl (by assumption); omega) | (simp [outNum, outRaw, numB_len, numK] <;> omega) | (have := hrl (by assumption); simp [outNum, outRaw, numB_len, numK] <;> omega))) (en_f cb89 rfl) ?_
    refine vw_t 10 rfl (by kernel_rfl) (by kernel_rfl) (op1_storeAll (i := 1) (vs := [_, _]) rfl rfl rfl sz157 rfl rfl rfl ?_)
    refine vw_done (by kernel_rfl) (blkK_n (seqK_n (cw_seq (cw_region (ol rfl (lo_loadA (i := 1) (vs := [_, _]) rfl ag157 sz157 rfl rfl rfl) ?_)))))
    refine ow1 (op1_pr (out_String _ (outRaw (outNum (outNum (outNum (outNum (⟨[], 0⟩ : Out) d.kind 1) d.tick 8) d.frm 1) d.number 8) (mailBytes d.mail))) (en_f cb91 rfl) rfl ?_)
    refine ol rfl (lo_assign (v := str _) rfl) (oai rfl rfl (ow_nil (seqK_n (cw_ret (fnK_r (res2 rfl (rv_t (v := str _) rfl) (rv_t (v := .int _ _) rfl)) (.refl _) ?_)))))
    have e : deedBytes d = (outRaw (outNum (outNum (outNum (outNum (⟨[], 0⟩ : Out) d.kind 1) d.tick 8) d.frm 1) d.number 8) (mailBytes d.mail)).s := by
      unfold deedBytes
      first
        | (rw [if_neg (by assumption)]; done)
        | (rw [if_pos (by assumption)]; unfold deedOut; (repeat (first | rw [if_pos (by omega)] | rw [if_neg (by omega)] | rw [if_pos (by assumption)] | rw [if_neg (by assumption)] | rw [if_neg (fun q => q (by assumption))])); first | done | rfl)
    rw [e]
    try (rw [show deedE d = 0 by assumption])
  have p39 := df h37
  refine cw_seq (cw_region (ol rfl (lo_eql rfl rfl) (oab rfl rfl (ow_nil (seqK_n ?_)))))
  refine cw_cond rfl (fun h40 => ?_) (fun h40 => ?_)
  · have p41 := dt h40
    refine cw_anyL mixd (vw_q 0 rfl (by kernel_rfl) (by repeat (first | exact lle_l0 | exact LLe.refl _ | exact lle_none | refine lle_up ?_ rfl)) (fun _ _ hh hl => lo_loadA (i := 1) (vs := [_, _]) rfl ag157 sz157 (hl _ _ rfl) rfl rfl) ?_)
    refine vw_q 1 rfl (by kernel_rfl) (by repeat (first | exact lle_l0 | exact LLe.refl _ | exact lle_none | refine lle_up ?_ rfl)) (fun _ _ hh hl => lo_fieldAddr rfl fl106_9) ?_
    refine vw_q 2 rfl (by kernel_rfl) (by repeat (first | exact lle_l0 | exact LLe.refl _ | exact lle_none | refine lle_up ?_ rfl)) (fun _ _ hh hl => lo_load1 (i := 0) (v := .int _ _) rfl ag5 (hl _ _ rfl) rfl) ?_
    refine vw_q 3 rfl (by kernel_rfl) (by repeat (first | exact lle_l0 | exact LLe.refl _ | exact lle_none | refine lle_up ?_ rfl)) (fun _ _ hh hl => lo_conv_in rfl (by rw [Tryz.underlying5]; rfl) Tryz.underlying39 (rg_u64 (by omega))) ?_
    have := outNum_len (outNum (outNum (⟨[], 0⟩ : Out) d.kind 1) d.tick 8) d.code 1
    refine vw_qc 4 rfl (by kernel_rfl) (by repeat (first | exact lle_l0 | exact LLe.refl _ | exact lle_none | refine lle_up ?_ rfl)) (out_Num _ (outNum (outNum (⟨[], 0⟩ : Out) d.kind 1) d.tick 8) d.code (by omega) 1 (by omega) (by first | omega | (have := hrl (by assumption); omega) | (simp [outNum, outRaw, numB_len, numK] <;> omega) | (have := hrl (by assumption); simp [outNum, outRaw, numB_len, numK] <;> omega))) (en_f cb90 rfl) ?_
    refine vw_q 5 rfl (by kernel_rfl) (by repeat (first | exact lle_l0 | exact LLe.refl _ | exact lle_none | refine lle_up ?_ rfl)) (fun _ _ hh hl => lo_fieldAddr rfl fl106_12) ?_
    refine vw_q 6 rfl (by kernel_rfl) (by repeat (first | exact lle_l0 | exact LLe.refl _ | exact lle_none | refine lle_up ?_ rfl)) (fun _ _ hh hl => lo_load1 (i := 0) (v := str _) rfl ag9 (hl _ _ rfl) rfl) ?_
    have := outText_len (outNum (outNum (outNum (⟨[], 0⟩ : Out) d.kind 1) d.tick 8) d.code 1) d.text
    refine vw_qc 7 rfl (by kernel_rfl) (by repeat (first | exact lle_l0 | exact LLe.refl _ | exact lle_none | refine lle_up ?_ rfl)) (out_Text _ (outNum (outNum (outNum (⟨[], 0⟩ : Out) d.kind 1) d.tick 8) d.code 1) d.text (by first | omega | (have := hrl (by assumption); omega) | (simp [outNum, outRaw, numB_len, numK] <;> omega) | (have := hrl (by assumption); simp [outNum, outRaw, numB_len, numK] <;> omega))) (en_f cb87 rfl) ?_
    refine vw_t 8 rfl (by kernel_rfl) (by kernel_rfl) (op1_storeAll (i := 1) (vs := [_, _]) rfl rfl rfl sz157 rfl rfl rfl ?_)
    refine vw_done (by kernel_rfl) (blkK_n (seqK_n (cw_seq (cw_region (ol rfl (lo_loadA (i := 1) (vs := [_, _]) rfl ag157 sz157 rfl rfl rfl) ?_)))))
    refine ow1 (op1_pr (out_String _ (outText (outNum (outNum (outNum (⟨[], 0⟩ : Out) d.kind 1) d.tick 8) d.code 1) d.text)) (en_f cb91 rfl) rfl ?_)
    refine ol rfl (lo_assign (v := str _) rfl) (oai rfl rfl (ow_nil (seqK_n (cw_ret (fnK_r (res2 rfl (rv_t (v := str _) rfl) (rv_t (v := .int _ _) rfl)) (.refl _) ?_)))))
    have e : deedBytes d = (outText (outNum (outNum (outNum (⟨[], 0⟩ : Out) d.kind 1) d.tick 8) d.code 1) d.text).s := by
      unfold deedBytes
      first
        | (rw [if_neg (by assumption)]; done)
        | (rw [if_pos (by assumption)]; unfold deedOut; (repeat (first | rw [if_pos (by omega)] | rw [if_neg (by omega)] | rw [if_pos (by assumption)] | rw [if_neg (by assumption)] | rw [if_neg (fun q => q (by assumption))])); first | done | rfl)
    rw [e]
    try (rw [show deedE d = 0 by assumption])
  have p42 := df h40
  refine cw_skip (blkK_n (seqK_n (cw_seq (cw_region (ol rfl (lo_loadA (i := 1) (vs := [_, _]) rfl ag157 sz157 rfl rfl rfl) ?_)))))
  refine ow1 (op1_pr (out_String _ (outNum (outNum (⟨[], 0⟩ : Out) d.kind 1) d.tick 8)) (en_f cb91 rfl) rfl ?_)
  refine ol rfl (lo_assign (v := str _) rfl) (oai rfl rfl (ow_nil (seqK_n (cw_ret (fnK_r (res2 rfl (rv_t (v := str _) rfl) (rv_t (v := .int _ _) rfl)) (.refl _) ?_)))))
  have e : deedBytes d = (outNum (outNum (⟨[], 0⟩ : Out) d.kind 1) d.tick 8).s := by
    unfold deedBytes
    first
      | (rw [if_neg (by assumption)]; done)
      | (rw [if_pos (by assumption)]; unfold deedOut; (repeat (first | rw [if_pos (by omega)] | rw [if_neg (by omega)] | rw [if_pos (by assumption)] | rw [if_neg (by assumption)] | rw [if_neg (fun q => q (by assumption))])); first | done | rfl)
  rw [e]
  try (rw [show deedE d = 0 by assumption])
end Go.SW
set_option linter.unusedVariables false
set_option maxRecDepth 100000
set_option maxHeartbeats 4000000
namespace Go.SW
open Go.Proofs
theorem ag117 : Ag Tryz.prog 117 true := fun w => by kernel_rfl
theorem bd42  (w : World) : (Instr.build 42 #[]).run Tryz.prog w = .ok (.agg #[.int .u64 0, str [], str [], .slice none 0 0, str [], .int .u64 0, .int .u8 0]) w := by kernel_rfl
theorem fl117_4 : Fld Tryz.prog 117 4 4 := fun b o w => by kernel_rfl
theorem sz117 : Sz Tryz.prog 117 6 := fun w => by kernel_rfl
end Go.SW
set_option linter.unusedVariables false
set_option maxRecDepth 100000
set_option maxHeartbeats 4000000
namespace Go.SW
open Go.Proofs
theorem ag119 : Ag Tryz.prog 119 true := fun w => by kernel_rfl
theorem sz119 : Sz Tryz.prog 119 29 := fun w => by kernel_rfl
end Go.SW
set_option linter.unusedVariables false
set_option maxRecDepth 100000
set_option maxHeartbeats 4000000
namespace Go.SW
open Go.Proofs
theorem zr117 : Zr Tryz.prog 117 [str [], str [], .bool false, str [], .slice none 0 0, .bool false] := fun w => ⟨.agg #[str [], str [], .bool false, str [], .slice none 0 0, .bool false], by kernel_rfl, rfl⟩
end Go.SW
set_option linter.unusedVariables false
set_option maxRecDepth 100000
set_option maxHeartbeats 4000000
namespace Go.SW
open Go.Proofs
theorem bd119_0u8_1u64_2su8s_3su64u64s_4ssbslb_5s_6u64_7u8_8u8_9u8_10u64_11u64sslsu64u8_12s (a1 : Int) (a2 : Int) (a3 : Bs) (a4 : Int) (a5 : Bs) (a6 : Bs) (a7 : Int) (a8 : Int) (a9 : Bs) (a10 : Bs) (a11 : Bs) (a12 : Bool) (a13 : Bs) (a14 : Option Addr) (a14l a14c : Nat) (a15 : Bool) (a16 : Bs) (a17 : Int) (a18 : Int) (a19 : Int) (a20 : Int) (a21 : Int) (a22 : Int) (a23 : Bs) (a24 : Bs) (a25 : Option Addr) (a25l a25c : Nat) (a26 : Bs) (a27 : Int) (a28 : Int) (a29 : Bs) (w : World) : (Instr.build 119 #[(0, .int .u8 a1), (1, .int .u64 a2), (2, .agg #[str a3, .int .u8 a4, str a5]), (3, .agg #[str a6, .int .u64 a7, .int .u64 a8, str a9]), (4, .agg #[str a10, str a11, .bool a12, str a13, .slice a14 a14l a14c, .bool a15]), (5, str a16), (6, .int .u64 a17), (7, .int .u8 a18), (8, .int .u8 a19), (9, .int .u8 a20), (10, .int .u64 a21), (11, .agg #[.int .u64 a22, str a23, str a24, .slice a25 a25l a25c, str a26, .int .u64 a27, .int .u8 a28]), (12, str a29)]).run Tryz.prog w = .ok (.agg #[.int .u8 a1, .int .u64 a2, str a3, .int .u8 a4, str a5, str a6, .int .u64 a7, .int .u64 a8, str a9, str a10, str a11, .bool a12, str a13, .slice a14 a14l a14c, .bool a15, str a16, .int .u64 a17, .int .u8 a18, .int .u8 a19, .int .u8 a20, .int .u64 a21, .int .u64 a22, str a23, str a24, .slice a25 a25l a25c, str a26, .int .u64 a27, .int .u8 a28, str a29]) w := by kernel_rfl
theorem cb117 : Callable Tryz.prog 117 := callable_of Tryz.func117 (by kernel_rfl) (by kernel_rfl)
theorem cb118 : Callable Tryz.prog 118 := callable_of Tryz.func118 (by kernel_rfl) (by kernel_rfl)
theorem zr119 : Zr Tryz.prog 119 [.int .u8 0, .int .u64 0, str [], .int .u8 0, str [], str [], .int .u64 0, .int .u64 0, str [], str [], str [], .bool false, str [], .slice none 0 0, .bool false, str [], .int .u64 0, .int .u8 0, .int .u8 0, .int .u8 0, .int .u64 0, .int .u64 0, str [], str [], .slice none 0 0, str [], .int .u64 0, .int .u8 0, str []] := fun w => ⟨.agg #[.int .u8 0, .int .u64 0, str [], .int .u8 0, str [], str [], .int .u64 0, .int .u64 0, str [], str [], str [], .bool false, str [], .slice none 0 0, .bool false, str [], .int .u64 0, .int .u8 0, .int .u8 0, .int .u8 0, .int .u64 0, .int .u64 0, str [], str [], .slice none 0 0, str [], .int .u64 0, .int .u8 0, str []], by kernel_rfl, rfl⟩
theorem l13_Light (H : Hp) (m : Mail) (m_head_a : Option Addr) (m_head_c : Nat) (m_head_h : SlH pairE 4 H (.slice m_head_a m.head.length m_head_c) m.head) (m_w : Mail.wf m) : Pr Tryz.prog 117 #[.agg (Mail.cells m m_head_a m_head_c).toArray] H (.bool (lightMl m)) := by
  refine pr_cw Tryz.func117 rfl Tryz.ntmps117 rfl (fun N => ?_)
  have m_w' := m_w
  simp only [Mail.wf] at m_w'
  refine cw_seq (cw_region (ow1 (op1_box (cs := [_, _, _, _, _, _, _]) 0 rfl rfl (fun b1 => ?_))))
  refine oab rfl rfl (ow_nil (seqK_n (cw_seq (cw_region (ol rfl (lo_fieldAddr rfl fl42_1) ?_)))))
  refine ol rfl (lo_load1 (i := 0) (v := str _) rfl ag9 rfl rfl) (ol rfl (lo_len_str rfl Tryz.underlying9) (ol rfl (lo_leq rfl rfl) (omb rfl rfl (ow_sp (j := 4) rfl (fun h2 => ?_) (fun h2 => ?_)))))
  · have p3 := dt h2
    refine ow1 (op1_g rfl h2 rfl (lo_fieldAddr rfl fl42_2) ?_)
    refine ow1 (op1_g rfl h2 rfl (lo_load1 (i := 0) (v := str _) rfl ag9 rfl rfl) ?_)
    refine ow1 (op1_g rfl h2 rfl (lo_len_str rfl Tryz.underlying9) ?_)
    refine ow1 (op1_g rfl h2 rfl (lo_leq rfl rfl) ?_)
    refine ol rfl (lo_pick_t (v := .bool _) rfl h2 rfl) (omb rfl rfl (ow_sp (j := 10) rfl (fun h4 => ?_) (fun h4 => ?_)))
    · have p5 := dt h4
      refine ow1 (op1_g rfl h4 rfl (lo_fieldAddr rfl fl42_3) ?_)
      refine ow1 (op1_g rfl h4 rfl (lo_load1 (i := 0) (v := .slice _ _ _) rfl ag40 rfl rfl) ?_)
      refine ow1 (op1_prg rfl h4 (l09_Light _ m_head_a m.head.length m_head_c m.head m_head_h) (en_f cb66 rfl) rfl ?_)
      refine ol rfl (lo_pick_t (v := .bool _) rfl h4 rfl) (omb rfl rfl (ow_sp (j := 15) rfl (fun h6 => ?_) (fun h6 => ?_)))
      · refine ow1 (op1_g rfl h6 rfl (lo_fieldAddr rfl fl42_4) ?_)
        refine ow1 (op1_g rfl h6 rfl (lo_load1 (i := 0) (v := str _) rfl ag9 rfl rfl) ?_)
        refine ow1 (op1_g rfl h6 rfl (lo_len_str rfl Tryz.underlying9) ?_)
        refine ow1 (op1_g rfl h6 rfl (lo_leq rfl rfl) ?_)
        refine ol rfl (lo_pick_t (v := .bool _) rfl h6 rfl) (oab rfl rfl (ow_nil (seqK_n (cw_ret (fnK_r (res1 rfl (rv_t (v := .bool _) rfl)) (.refl _) ?_)))))
        refine congrArg Value.bool ?_; unfold lightMl; simp only [*, Bool.and_true, Bool.true_and, Bool.false_and, Bool.and_false, decide_true, decide_false]
      refine og rfl h6 rfl (og rfl h6 rfl (og rfl h6 rfl (og rfl h6 rfl (ol rfl (lo_pick_f (v := .bool _) rfl h6 rfl) (oab rfl rfl ?_)))))
      refine ow_nil (seqK_n (cw_ret (fnK_r (res1 rfl (rv_t (v := .bool _) rfl)) (.refl _) ?_)))
      refine congrArg Value.bool ?_; unfold lightMl; simp only [*, Bool.and_true, Bool.true_and, Bool.false_and, Bool.and_false, decide_true, decide_false]
    have p7 := df h4
    refine og rfl h4 rfl (og rfl h4 rfl (og rfl h4 rfl (ol rfl (lo_pick_f (v := .bool _) rfl h4 rfl) (omb rfl rfl (og rfl rfl rfl ?_)))))
    refine og rfl rfl rfl (og rfl rfl rfl (og rfl rfl rfl (ol rfl (lo_pick_f (v := .bool _) rfl rfl rfl) (oab rfl rfl (ow_nil ?_)))))
    refine seqK_n (cw_ret (fnK_r (res1 rfl (rv_t (v := .bool _) rfl)) (.refl _) ?_))
    refine congrArg Value.bool ?_; unfold lightMl; simp only [*, Bool.and_true, Bool.true_and, Bool.false_and, Bool.and_false, decide_true, decide_false]
  have p8 := df h2
  refine og rfl h2 rfl (og rfl h2 rfl (og rfl h2 rfl (og rfl h2 rfl (ol rfl (lo_pick_f (v := .bool _) rfl h2 rfl) (omb rfl rfl ?_)))))
  refine og rfl rfl rfl (og rfl rfl rfl (og rfl rfl rfl (ol rfl (lo_pick_f (v := .bool _) rfl rfl rfl) (omb rfl rfl (og rfl rfl rfl ?_)))))
  refine og rfl rfl rfl (og rfl rfl rfl (og rfl rfl rfl (ol rfl (lo_pick_f (v := .bool _) rfl rfl rfl) (oab rfl rfl (ow_nil ?_)))))
  refine seqK_n (cw_ret (fnK_r (res1 rfl (rv_t (v := .bool _) rfl)) (.refl _) ?_))
  refine congrArg Value.bool ?_; unfold lightMl; simp only [*, Bool.and_true, Bool.true_and, Bool.false_and, Bool.and_false, decide_true, decide_false]
theorem l22_Light (H : Hp) (d : DeedR) (d_bind_want_a : Option Addr) (d_bind_want_c : Nat) (d_bind_want_h : SlH pairE 4 H (.slice d_bind_want_a d.bind.want.length d_bind_want_c) d.bind.want) (d_mail_head_a : Option Addr) (d_mail_head_c : Nat) (d_mail_head_h : SlH pairE 4 H (.slice d_mail_head_a d.mail.head.length d_mail_head_c) d.mail.head) (d_w : DeedR.wf d) : Pr Tryz.prog 57 #[.agg (DeedR.cells d d_bind_want_a d_bind_want_c d_mail_head_a d_mail_head_c).toArray] H (.bool (lightD d)) := by
  refine pr_cw Tryz.func57 rfl Tryz.ntmps57 rfl (fun N => ?_)
  have d_w' := d_w
  simp only [DeedR.wf, ShopR.wf, QueueR.wf, BindR.wf, Mail.wf] at d_w'
  refine cw_seq (cw_region (ow1 (op1_box (cs := [_, _, _, _, _, _, _, _, _, _, _, _, _, _, _, _, _, _, _, _, _, _, _, _, _, _, _, _, _]) 0 rfl rfl (fun b1 => ?_))))
  refine oab rfl rfl (ow_nil (seqK_n (cw_seq (cw_region (ol rfl (lo_fieldAddr rfl fl106_2) ?_)))))
  refine ol rfl (lo_fieldAddr rfl fl100_0) (ol rfl (lo_load1 (i := 0) (v := str _) rfl ag9 rfl rfl) (ol rfl (lo_len_str rfl Tryz.underlying9) (ol rfl (lo_fieldAddr rfl fl106_2) (ol rfl (lo_fieldAddr rfl fl100_2) (ol rfl (lo_load1 (i := 0) (v := str _) rfl ag9 rfl rfl) ?_)))))
  refine ol rfl (lo_len_str rfl Tryz.underlying9) (ol rfl (lo_fieldAddr rfl fl106_3) (ol rfl (lo_fieldAddr rfl fl102_0) (ol rfl (lo_load1 (i := 0) (v := str _) rfl ag9 rfl rfl) (ol rfl (lo_len_str rfl Tryz.underlying9) (ol rfl (lo_fieldAddr rfl fl106_3) ?_)))))
  refine ol rfl (lo_fieldAddr rfl fl102_3) (ol rfl (lo_load1 (i := 0) (v := str _) rfl ag9 rfl rfl) (ol rfl (lo_len_str rfl Tryz.underlying9) (ol rfl (lo_fieldAddr rfl fl106_4) (ol rfl (lo_fieldAddr rfl fl104_0) (ol rfl (lo_load1 (i := 0) (v := str _) rfl ag9 rfl rfl) ?_)))))
  refine ol rfl (lo_len_str rfl Tryz.underlying9) (ol rfl (lo_fieldAddr rfl fl106_4) (ol rfl (lo_fieldAddr rfl fl104_1) (ol rfl (lo_load1 (i := 0) (v := str _) rfl ag9 rfl rfl) (ol rfl (lo_len_str rfl Tryz.underlying9) (ol rfl (lo_fieldAddr rfl fl106_5) ?_)))))
  refine ol rfl (lo_load1 (i := 0) (v := str _) rfl ag9 rfl rfl) (ol rfl (lo_len_str rfl Tryz.underlying9) (ol rfl (lo_maxN (z := (d.shop.name.length : Int)) (r := (max (max (max (max (max (max (d.shop.name.length : Int) (d.shop.to.length : Int)) (d.queue.name.length : Int)) (d.queue.dead.length : Int)) (d.bind.shop.length : Int)) (d.bind.to.length : Int)) (d.name.length : Int))) [(d.shop.to.length : Int), (d.queue.name.length : Int), (d.queue.dead.length : Int), (d.bind.shop.length : Int), (d.bind.to.length : Int), (d.name.length : Int)] rfl rfl) (oai rfl rfl (ow_nil (seqK_n ?_)))))
  refine cw_seq (cw_region (omi rfl rfl (ol rfl (lo_leq rfl rfl) (omb rfl rfl (ow_sp (j := 2) rfl (fun h2 => ?_) (fun h2 => ?_))))))
  · have p3 := dt h2
    refine ow1 (op1_g rfl h2 rfl (lo_fieldAddr rfl fl106_4) ?_)
    refine ow1 (op1_g rfl h2 rfl (lo_fieldAddr rfl fl104_3) ?_)
    refine ow1 (op1_g rfl h2 rfl (lo_load1 (i := 0) (v := str _) rfl ag9 rfl rfl) ?_)
    refine ow1 (op1_g rfl h2 rfl (lo_len_str rfl Tryz.underlying9) ?_)
    refine ow1 (op1_g rfl h2 rfl (lo_fieldAddr rfl fl106_12) ?_)
    refine ow1 (op1_g rfl h2 rfl (lo_load1 (i := 0) (v := str _) rfl ag9 rfl rfl) ?_)
    refine ow1 (op1_g rfl h2 rfl (lo_len_str rfl Tryz.underlying9) ?_)
    refine ow1 (op1_g rfl h2 rfl (lo_max rfl rfl) ?_)
    refine ow1 (op1_g rfl h2 rfl (lo_leq rfl rfl) ?_)
    refine ol rfl (lo_pick_t (v := .bool _) rfl h2 rfl) (omb rfl rfl (ow_sp (j := 13) rfl (fun h4 => ?_) (fun h4 => ?_)))
    · have p5 := dt h4
      refine ow1 (op1_g rfl h4 rfl (lo_fieldAddr rfl fl106_4) ?_)
      refine ow1 (op1_g rfl h4 rfl (lo_fieldAddr rfl fl104_4) ?_)
      refine ow1 (op1_g rfl h4 rfl (lo_load1 (i := 0) (v := .slice _ _ _) rfl ag40 rfl rfl) ?_)
      refine ow1 (op1_prg rfl h4 (l09_Light _ d_bind_want_a d.bind.want.length d_bind_want_c d.bind.want d_bind_want_h) (en_f cb66 rfl) rfl ?_)
      refine ol rfl (lo_pick_t (v := .bool _) rfl h4 rfl) (omb rfl rfl (ow_sp (j := 19) rfl (fun h6 => ?_) (fun h6 => ?_)))
      · refine ow1 (op1_g rfl h6 rfl (lo_fieldAddr rfl fl106_11) ?_)
        refine ow1 (op1_g rfl h6 rfl (lo_loadA (i := 0) (vs := [_, _, _, _, _, _, _]) rfl ag42 sz42 rfl rfl rfl) ?_)
        refine ow1 (op1_prg rfl h6 (l13_Light _ d.mail d_mail_head_a d_mail_head_c d_mail_head_h (by simp only [Mail.wf]; first | omega | (simp; done) | (simp; omega))) (en_f cb117 rfl) rfl ?_)
        have hlx6 := lightMl_len d.mail
        refine ol rfl (lo_pick_t (v := .bool _) rfl h6 rfl) (oab rfl rfl (ow_nil (seqK_n (cw_ret (fnK_r (res1 rfl (rv_t (v := .bool _) rfl)) (.refl _) ?_)))))
        refine congrArg Value.bool ?_; unfold lightD; simp only [*, Bool.and_true, Bool.true_and, Bool.false_and, Bool.and_false, decide_true, decide_false]
      refine og rfl h6 rfl (og rfl h6 rfl (og rfl h6 rfl (ol rfl (lo_pick_f (v := .bool _) rfl h6 rfl) (oab rfl rfl (ow_nil ?_)))))
      refine seqK_n (cw_ret (fnK_r (res1 rfl (rv_t (v := .bool _) rfl)) (.refl _) ?_))
      refine congrArg Value.bool ?_; unfold lightD; simp only [*, Bool.and_true, Bool.true_and, Bool.false_and, Bool.and_false, decide_true, decide_false]
    have p7 := df h4
    refine og rfl h4 rfl (og rfl h4 rfl (og rfl h4 rfl (og rfl h4 rfl (ol rfl (lo_pick_f (v := .bool _) rfl h4 rfl) (omb rfl rfl ?_)))))
    refine og rfl rfl rfl (og rfl rfl rfl (og rfl rfl rfl (ol rfl (lo_pick_f (v := .bool _) rfl rfl rfl) (oab rfl rfl (ow_nil ?_)))))
    refine seqK_n (cw_ret (fnK_r (res1 rfl (rv_t (v := .bool _) rfl)) (.refl _) ?_))
    refine congrArg Value.bool ?_; unfold lightD; simp only [*, Bool.and_true, Bool.true_and, Bool.false_and, Bool.and_false, decide_true, decide_false]
  have p8 := df h2
  refine og rfl h2 rfl (og rfl h2 rfl (og rfl h2 rfl (og rfl h2 rfl (og rfl h2 rfl (og rfl h2 rfl ?_)))))
  refine og rfl h2 rfl (og rfl h2 rfl (og rfl h2 rfl (ol rfl (lo_pick_f (v := .bool _) rfl h2 rfl) (omb rfl rfl (og rfl rfl rfl ?_)))))
  refine og rfl rfl rfl (og rfl rfl rfl (og rfl rfl rfl (ol rfl (lo_pick_f (v := .bool _) rfl rfl rfl) (omb rfl rfl (og rfl rfl rfl ?_)))))
  refine og rfl rfl rfl (og rfl rfl rfl (ol rfl (lo_pick_f (v := .bool _) rfl rfl rfl) (oab rfl rfl (ow_nil (seqK_n ?_)))))
  refine cw_ret (fnK_r (res1 rfl (rv_t (v := .bool _) rfl)) (.refl _) ?_)
  refine congrArg Value.bool ?_; unfold lightD; simp only [*, Bool.and_true, Bool.true_and, Bool.false_and, Bool.and_false, decide_true, decide_false]
theorem l14_To (H : Hp) (x : BindR) (x_want_a : Option Addr) (x_want_c : Nat) (x_want_h : SlH pairE 4 H (.slice x_want_a x.want.length x_want_c) x.want) (x_w : BindR.wf x) (hl : x.want.length ≤ 1000000) : Ph Tryz.prog 118 #[.agg (BindR.cells x x_want_a x_want_c).toArray] H (fun v H' => ∃ (a1 : Option Addr) (c1 : Nat), v = .agg (BindR.cells x a1 c1).toArray ∧ SlH pairE 4 H' (.slice a1 x.want.length c1) x.want) := by
  refine ph_cw Tryz.func118 rfl Tryz.ntmps118 rfl (fun N => ?_)
  have x_w' := x_w
  simp only [BindR.wf] at x_w'
  refine cw_seq (cw_region (ow1 (op1_box (cs := [_, _, _, _, _, _]) 0 rfl rfl (fun b1 => ?_))))
  refine ow1 (op1_alloc 1 rfl zr117 (fun b2 => ?_))
  refine ow_nil (seqK_n (cw_seq (cw_region (ol rfl (lo_loadA (i := 0) (vs := [_, _, _, _, _, _]) rfl ag104 sz104 rfl rfl rfl) (ow1 (op1_alloc 2 rfl zr117 (fun b3 => ?_)))))))
  refine ow1 (op1_storeAll (i := 2) (vs := [_, _, _, _, _, _]) rfl rfl rfl sz117 rfl rfl rfl ?_)
  refine ow_nil (seqK_n (cw_seq (cw_region (ow1 (op1_bslice (cs := []) 3 rfl Tryz.underlying40 sz182 zx182 rfl trivial rfl rfl (by decide) (fun b4 => ?_))))))
  refine ol rfl (lo_fieldAddr rfl fl104_4) (ol rfl (lo_load1 (i := 0) (v := .slice _ _ _) rfl ag40 rfl rfl) (ow1 (op1_app 3 rfl rfl Tryz.underlying40 Tryz.underlying40 rfl sz182 by182 (by decide) zr182 (ownV_bx rfl) (src_slh (enc := Pair.cells) (wf := Pair.wf) (fun _ => rfl) x_want_h) (one_flat (fun _ => rfl) _) rfl (by omega) rfl (fun v5 en6 ho7 => ?_))))
  have ho8 := own_cat0 (enc := Pair.cells) x.want ho7
  refine ol rfl (lo_fieldAddr rfl fl117_4) ?_
  refine ow1 (op1_store1n (i := 2) [_, _, _, _, _, _] rfl rfl (ownV_one ho8) sz40 rfl rfl rfl ?_)
  refine ow_nil (seqK_n (cw_seq (cw_region (ow_giveO 3 rfl (fun _ hl9 hg10 => ?_)))))
  have hs11 := slh_own (enc := Pair.cells) (wf := Pair.wf) (fun _ => rfl) ho8 (slh_wf x_want_h) hg10
  obtain ⟨⟨a12, c13, rfl, -⟩, -⟩ := id hs11
  refine ol rfl (lo_loadA (i := 2) (vs := [_, _, _, _, _, _]) rfl ag117 sz117 rfl rfl rfl) ?_
  refine ow1 (op1_storeAll (i := 1) (vs := [_, _, _, _, _, _]) rfl rfl rfl sz117 rfl rfl rfl ?_)
  refine ow_nil (seqK_n (cw_ret (fnK_r (res1 rfl (rv_c (i := 1) (vs := [_, _, _, _, _, _]) rfl ag117 sz117 rfl rfl rfl)) ((HLe.refl _).trans hl9) ?_)))
  exact ⟨_, _, rfl, hs11⟩
theorem l22_To (H : Hp) (d : DeedR) (d_bind_want_a : Option Addr) (d_bind_want_c : Nat) (d_bind_want_h : SlH pairE 4 H (.slice d_bind_want_a d.bind.want.length d_bind_want_c) d.bind.want) (d_mail_head_a : Option Addr) (d_mail_head_c : Nat) (d_mail_head_h : SlH pairE 4 H (.slice d_mail_head_a d.mail.head.length d_mail_head_c) d.mail.head) (d_w : DeedR.wf d) (hl : d.bind.want.length ≤ 1000000) : Ph Tryz.prog 58 #[.agg (DeedR.cells d d_bind_want_a d_bind_want_c d_mail_head_a d_mail_head_c).toArray] H (fun v H' => ∃ (a1 : Option Addr) (c1 : Nat) (a2 : Option Addr) (c2 : Nat), v = .agg (DeedR.cells d a1 c1 a2 c2).toArray ∧ SlH pairE 4 H' (.slice a1 d.bind.want.length c1) d.bind.want ∧ SlH pairE 4 H' (.slice a2 d.mail.head.length c2) d.mail.head) := by
  refine ph_cw Tryz.func58 rfl Tryz.ntmps58 rfl (fun N => ?_)
  have d_w' := d_w
  simp only [DeedR.wf, ShopR.wf, QueueR.wf, BindR.wf, Mail.wf] at d_w'
  refine cw_seq (cw_region (ow1 (op1_box (cs := [_, _, _, _, _, _, _, _, _, _, _, _, _, _, _, _, _, _, _, _, _, _, _, _, _, _, _, _, _]) 0 rfl rfl (fun b1 => ?_))))
  refine ow1 (op1_alloc 1 rfl zr119 (fun b2 => ?_))
  refine ow_nil (seqK_n (cw_seq (cw_anyX 1 mixd (vw_q 0 rfl (by kernel_rfl) (by repeat (first | exact lle_l0 | exact LLe.refl _ | exact lle_none | refine lle_up ?_ rfl)) (fun _ _ hh hl => lo_fieldAddr rfl fl106_0) ?_))))
  refine vw_q 1 rfl (by kernel_rfl) (by repeat (first | exact lle_l0 | exact LLe.refl _ | exact lle_none | refine lle_up ?_ rfl)) (fun _ _ hh hl => lo_load1 (i := 0) (v := .int _ _) rfl ag5 (hl _ _ rfl) rfl) ?_
  refine vw_q 2 rfl (by kernel_rfl) (by repeat (first | exact lle_l0 | exact LLe.refl _ | exact lle_none | refine lle_up ?_ rfl)) (fun _ _ hh hl => lo_fieldAddr rfl fl106_1) ?_
  refine vw_q 3 rfl (by kernel_rfl) (by repeat (first | exact lle_l0 | exact LLe.refl _ | exact lle_none | refine lle_up ?_ rfl)) (fun _ _ hh hl => lo_load1 (i := 0) (v := .int _ _) rfl ag39 (hl _ _ rfl) rfl) ?_
  refine vw_q 4 rfl (by kernel_rfl) (by repeat (first | exact lle_l0 | exact LLe.refl _ | exact lle_none | refine lle_up ?_ rfl)) (fun _ _ hh hl => lo_fieldAddr rfl fl106_2) ?_
  refine vw_q 5 rfl (by kernel_rfl) (by repeat (first | exact lle_l0 | exact LLe.refl _ | exact lle_none | refine lle_up ?_ rfl)) (fun _ _ hh hl => lo_loadA (i := 0) (vs := [_, _, _]) rfl ag100 sz100 (hl _ _ rfl) rfl rfl) ?_
  refine vw_q 6 rfl (by kernel_rfl) (by repeat (first | exact lle_l0 | exact LLe.refl _ | exact lle_none | refine lle_up ?_ rfl)) (fun _ _ hh hl => lo_fieldAddr rfl fl106_3) ?_
  refine vw_q 7 rfl (by kernel_rfl) (by repeat (first | exact lle_l0 | exact LLe.refl _ | exact lle_none | refine lle_up ?_ rfl)) (fun _ _ hh hl => lo_loadA (i := 0) (vs := [_, _, _, _]) rfl ag102 sz102 (hl _ _ rfl) rfl rfl) ?_
  refine vw_q 8 rfl (by kernel_rfl) (by repeat (first | exact lle_l0 | exact LLe.refl _ | exact lle_none | refine lle_up ?_ rfl)) (fun _ _ hh hl => lo_fieldAddr rfl fl106_4) ?_
  refine vw_q 9 rfl (by kernel_rfl) (by repeat (first | exact lle_l0 | exact LLe.refl _ | exact lle_none | refine lle_up ?_ rfl)) (fun _ _ hh hl => lo_loadA (i := 0) (vs := [_, _, _, _, _, _]) rfl ag104 sz104 (hl _ _ rfl) rfl rfl) ?_
  refine vw_q 11 rfl (by kernel_rfl) (by repeat (first | exact lle_l0 | exact LLe.refl _ | exact lle_none | refine lle_up ?_ rfl)) (fun _ _ hh hl => lo_fieldAddr rfl fl106_5) ?_
  refine vw_q 12 rfl (by kernel_rfl) (by repeat (first | exact lle_l0 | exact LLe.refl _ | exact lle_none | refine lle_up ?_ rfl)) (fun _ _ hh hl => lo_load1 (i := 0) (v := str _) rfl ag9 (hl _ _ rfl) rfl) ?_
  refine vw_q 13 rfl (by kernel_rfl) (by repeat (first | exact lle_l0 | exact LLe.refl _ | exact lle_none | refine lle_up ?_ rfl)) (fun _ _ hh hl => lo_fieldAddr rfl fl106_6) ?_
  refine vw_q 14 rfl (by kernel_rfl) (by repeat (first | exact lle_l0 | exact LLe.refl _ | exact lle_none | refine lle_up ?_ rfl)) (fun _ _ hh hl => lo_load1 (i := 0) (v := .int _ _) rfl ag39 (hl _ _ rfl) rfl) ?_
  refine vw_q 15 rfl (by kernel_rfl) (by repeat (first | exact lle_l0 | exact LLe.refl _ | exact lle_none | refine lle_up ?_ rfl)) (fun _ _ hh hl => lo_fieldAddr rfl fl106_7) ?_
  refine vw_q 16 rfl (by kernel_rfl) (by repeat (first | exact lle_l0 | exact LLe.refl _ | exact lle_none | refine lle_up ?_ rfl)) (fun _ _ hh hl => lo_load1 (i := 0) (v := .int _ _) rfl ag5 (hl _ _ rfl) rfl) ?_
  refine vw_q 17 rfl (by kernel_rfl) (by repeat (first | exact lle_l0 | exact LLe.refl _ | exact lle_none | refine lle_up ?_ rfl)) (fun _ _ hh hl => lo_fieldAddr rfl fl106_8) ?_
  refine vw_q 18 rfl (by kernel_rfl) (by repeat (first | exact lle_l0 | exact LLe.refl _ | exact lle_none | refine lle_up ?_ rfl)) (fun _ _ hh hl => lo_load1 (i := 0) (v := .int _ _) rfl ag5 (hl _ _ rfl) rfl) ?_
  refine vw_q 19 rfl (by kernel_rfl) (by repeat (first | exact lle_l0 | exact LLe.refl _ | exact lle_none | refine lle_up ?_ rfl)) (fun _ _ hh hl => lo_fieldAddr rfl fl106_9) ?_
  refine vw_q 20 rfl (by kernel_rfl) (by repeat (first | exact lle_l0 | exact LLe.refl _ | exact lle_none | refine lle_up ?_ rfl)) (fun _ _ hh hl => lo_load1 (i := 0) (v := .int _ _) rfl ag5 (hl _ _ rfl) rfl) ?_
  refine vw_q 21 rfl (by kernel_rfl) (by repeat (first | exact lle_l0 | exact LLe.refl _ | exact lle_none | refine lle_up ?_ rfl)) (fun _ _ hh hl => lo_fieldAddr rfl fl106_10) ?_
  refine vw_q 22 rfl (by kernel_rfl) (by repeat (first | exact lle_l0 | exact LLe.refl _ | exact lle_none | refine lle_up ?_ rfl)) (fun _ _ hh hl => lo_load1 (i := 0) (v := .int _ _) rfl ag39 (hl _ _ rfl) rfl) ?_
  refine vw_q 23 rfl (by kernel_rfl) (by repeat (first | exact lle_l0 | exact LLe.refl _ | exact lle_none | refine lle_up ?_ rfl)) (fun _ _ hh hl => lo_fieldAddr rfl fl106_11) ?_
  refine vw_q 24 rfl (by kernel_rfl) (by repeat (first | exact lle_l0 | exact LLe.refl _ | exact lle_none | refine lle_up ?_ rfl)) (fun _ _ hh hl => lo_loadA (i := 0) (vs := [_, _, _, _, _, _, _]) rfl ag42 sz42 (hl _ _ rfl) rfl rfl) ?_
  refine vw_q 25 rfl (by kernel_rfl) (by repeat (first | exact lle_l0 | exact LLe.refl _ | exact lle_none | refine lle_up ?_ rfl)) (fun _ _ hh hl => lo_fieldAddr rfl fl106_12) ?_
  refine vw_q 26 rfl (by kernel_rfl) (by repeat (first | exact lle_l0 | exact LLe.refl _ | exact lle_none | refine lle_up ?_ rfl)) (fun _ _ hh hl => lo_load1 (i := 0) (v := str _) rfl ag9 (hl _ _ rfl) rfl) ?_
  refine vw_e 10 rfl (by kernel_rfl) (op1_ph (l14_To _ d.bind d_bind_want_a d_bind_want_c d_bind_want_h (by simp only [BindR.wf]; first | omega | (simp; done) | (simp; omega)) (by first | omega | (have := lightD_len d (by assumption); omega))) (en_f cb118 rfl) rfl ?_)
  rintro _ H7 ⟨a3, c4, rfl, hs5⟩ hl6
  refine ⟨⟨((HLe.refl _).trans hl6), (by repeat (first | exact lle_l0 | exact LLe.refl _ | exact lle_none | refine lle_up ?_ rfl))⟩, ?_⟩
  refine vw_q 27 rfl (by kernel_rfl) (by repeat (first | exact lle_l0 | exact LLe.refl _ | exact lle_none | refine lle_up ?_ rfl)) (fun _ _ hh hl => lo_build (v := .agg #[_, _, _, _, _, _, _, _, _, _, _, _, _, _, _, _, _, _, _, _, _, _, _, _, _, _, _, _, _]) rfl (bd119_0u8_1u64_2su8s_3su64u64s_4ssbslb_5s_6u64_7u8_8u8_9u8_10u64_11u64sslsu64u8_12s _ _ _ _ _ _ _ _ _ _ _ _ _ _ _ _ _ _ _ _ _ _ _ _ _ _ _ _ _ _ _ _ _)) ?_
  refine vw_t 28 rfl (by kernel_rfl) (by kernel_rfl) (op1_storeAll (i := 1) (vs := [_, _, _, _, _, _, _, _, _, _, _, _, _, _, _, _, _, _, _, _, _, _, _, _, _, _, _, _, _]) rfl rfl rfl sz119 rfl rfl rfl ?_)
  refine vw_done (by kernel_rfl) (seqK_n (cw_ret (fnK_r (res1 rfl (rv_c (i := 1) (vs := [_, _, _, _, _, _, _, _, _, _, _, _, _, _, _, _, _, _, _, _, _, _, _, _, _, _, _, _, _]) rfl ag119 sz119 rfl rfl rfl)) ((HLe.refl _).trans hl6) ?_)))
  exact ⟨_, _, _, _, rfl, hs5, (d_mail_head_h.mono ((HLe.refl _).trans hl6) (fun _ _ h => h))⟩
end Go.SW
set_option linter.unusedVariables false
set_option maxRecDepth 100000
set_option maxHeartbeats 4000000
namespace Go.SW
open Go.Proofs
theorem ag201 : Ag Tryz.prog 201 false := fun w => by kernel_rfl
theorem bd100  (w : World) : (Instr.build 100 #[]).run Tryz.prog w = .ok (.agg #[str [], .int .u8 0, str []]) w := by kernel_rfl
theorem cb206 : Callable Tryz.prog 206 := callable_of Tryz.func206 (by kernel_rfl) (by kernel_rfl)
theorem fl204_0 : Fld Tryz.prog 204 0 0 := fun b o w => by kernel_rfl
theorem zr100 : Zr Tryz.prog 100 [str [], .int .u8 0, str []] := fun w => ⟨.agg #[str [], .int .u8 0, str []], by kernel_rfl, rfl⟩
theorem eq_Str (H : Hp) (a_a : Option Addr) (a_l a_c : Nat) (a : List Bs) (a_h : SlH strE 1 H (.slice a_a a_l a_c) a) (b_a : Option Addr) (b_l b_c : Nat) (b : List Bs) (b_h : SlH strE 1 H (.slice b_a b_l b_c) b) (hal : a.length ≤ 9223372036854775807) : Pr Tryz.prog 152 #[.slice a_a a_l a_c, .slice b_a b_l b_c] H (.bool (decide (a = b))) := by
  refine pr_cw Tryz.func152 rfl Tryz.ntmps152 rfl (fun N => ?_)
  refine cw_seq (cw_region (oab rfl rfl (ow_nil (seqK_n (cw_seq ?_)))))
  refine cw_seq (cw_region (ol rfl (lo_move (v := .slice _ _ _) rfl) (ol rfl (lo_len_slh rfl a_h Tryz.underlying183) (ol rfl (lo_move (v := .slice _ _ _) rfl) (ol rfl (lo_len_slh rfl b_h Tryz.underlying183) ?_)))))
  refine ol rfl (lo_neq rfl rfl) (ow_nil (seqK_n (cw_cond rfl (fun h1 => ?_) (fun h1 => ?_))))
  · have h2 := not_t h1
    have p3 := df h2
    refine cw_seq (cw_region (oab rfl rfl (ow_nil (seqK_n (cw_ret ?_)))))
    refine seqK_r (fnK_r (res1 rfl (rv_t (v := .bool _) rfl)) (.refl _) ?_)
    exact congrArg Value.bool (eqL_len (by assumption)).symm
  have h4 := not_f h1
  have p5 := dt h4
  refine cw_skip (seqK_n (cw_seq (cw_seq (cw_region (ol rfl (lo_move (v := .slice _ _ _) rfl) ?_)))))
  refine ol rfl (lo_len_slh rfl a_h Tryz.underlying183) (omi rfl rfl (ow_nil (seqK_n (cw_block (cw_loop1 [4, 5, 13, 14, 15, 16, 17, 18, 19, 20, 21, 22, 23, 24, 25] [] (fun (k : Nat) G => upd (G) 13 (.int .i64 (k : Int))) (fun (k : Nat) G => G) (fun (k : Nat) H' => k ≤ a.length ∧ decide (a = b) = decide (a.drop k = b.drop k)) (fun (k : Nat) => a.length - k) 0 (upd_intro (mask_intro (by first | exact off_refl | (repeat (first | exact off_mask | refine off_upd rfl ?_ | refine off_mask2 rfl ?_)))) rfl) (lmask_intro offl_refl) ?_ ?_)))))
  · exact ⟨Nat.zero_le _, rfl⟩
  intro k J7 JL7 H7 hp6 hl7
  obtain ⟨hk1, hk2⟩ := hp6
  refine cw_seq (cw_region (ol rfl (lo_lss rfl rfl) (ow_nil (seqK_n (cw_seq ?_)))))
  refine cw_cond rfl (fun h8 => ?_) (fun h8 => ?_)
  · have p9 := dt h8
    refine cw_skip (seqK_n (cw_seq (cw_block (cw_seq (cw_region ?_)))))
    refine omi rfl rfl (oai rfl rfl (ow_nil (seqK_n (cw_seq (cw_anyL mixd ?_)))))
    refine vw_q 0 rfl (by kernel_rfl) (by repeat (first | exact lle_l0 | exact LLe.refl _ | exact lle_none | refine lle_up ?_ rfl)) (fun _ _ hh hl => lo_move (v := .slice _ _ _) rfl) ?_
    refine vw_q 1 rfl (by kernel_rfl) (by repeat (first | exact lle_l0 | exact LLe.refl _ | exact lle_none | refine lle_up ?_ rfl)) (fun _ _ hh hl => lo_move (v := .int _ _) rfl) ?_
    obtain ⟨c10, hc11⟩ := getE (xs := a) (m := k) (by omega)
    obtain ⟨cs12, hE13, at14⟩ := (a_h.mono ((HLe.refl _).trans hl7) (fun _ _ h => h)).get hc11
    obtain ⟨rfl, c10_w⟩ := hE13
    have c10_w : c10.length ≤ 9223372036854775807 := c10_w
    refine vw_q 2 rfl (by kernel_rfl) (by repeat (first | exact lle_l0 | exact LLe.refl _ | exact lle_none | refine lle_up ?_ rfl)) (fun _ _ hh hl => lo_indexAddr rfl rfl (a_h.mono (((HLe.refl _).trans hl7).trans hh) (fun _ _ h => h)).1 (at14.mono hh) Tryz.underlying183 sz9 (by omega) (by omega)) ?_
    refine vw_q 3 rfl (by kernel_rfl) (by repeat (first | exact lle_l0 | exact LLe.refl _ | exact lle_none | refine lle_up ?_ rfl)) (fun _ _ hh hl => lo_loadE1 rfl ag9 (at14.mono hh)) ?_
    refine vw_q 4 rfl (by kernel_rfl) (by repeat (first | exact lle_l0 | exact LLe.refl _ | exact lle_none | refine lle_up ?_ rfl)) (fun _ _ hh hl => lo_move (v := .slice _ _ _) rfl) ?_
    refine vw_q 5 rfl (by kernel_rfl) (by repeat (first | exact lle_l0 | exact LLe.refl _ | exact lle_none | refine lle_up ?_ rfl)) (fun _ _ hh hl => lo_move (v := .int _ _) rfl) ?_
    obtain ⟨c15, hc16⟩ := getE (xs := b) (m := k) (by omega)
    obtain ⟨cs17, hE18, at19⟩ := (b_h.mono ((HLe.refl _).trans hl7) (fun _ _ h => h)).get hc16
    obtain ⟨rfl, c15_w⟩ := hE18
    have c15_w : c15.length ≤ 9223372036854775807 := c15_w
    refine vw_q 6 rfl (by kernel_rfl) (by repeat (first | exact lle_l0 | exact LLe.refl _ | exact lle_none | refine lle_up ?_ rfl)) (fun _ _ hh hl => lo_indexAddr rfl rfl (b_h.mono (((HLe.refl _).trans hl7).trans hh) (fun _ _ h => h)).1 (at19.mono hh) Tryz.underlying183 sz9 (by omega) (by omega)) ?_
    refine vw_q 7 rfl (by kernel_rfl) (by repeat (first | exact lle_l0 | exact LLe.refl _ | exact lle_none | refine lle_up ?_ rfl)) (fun _ _ hh hl => lo_loadE1 rfl ag9 (at19.mono hh)) ?_
    refine vw_q 8 rfl (by kernel_rfl) (by repeat (first | exact lle_l0 | exact LLe.refl _ | exact lle_none | refine lle_up ?_ rfl)) (fun _ _ hh hl => lo_sneq rfl rfl) ?_
    refine vw_done (by kernel_rfl) (seqK_n (cw_cond rfl (fun h20 => ?_) (fun h20 => ?_)))
    · have h21 := not_t h20
      have p22 := df h21
      refine cw_seq (cw_region (oab rfl rfl (ow_nil (seqK_n (cw_ret ?_)))))
      refine blkK_r (seqK_r (loopK_r (blkK_r (seqK_r (fnK_r (res1 rfl (rv_t (v := .bool _) rfl)) ((HLe.refl _).trans hl7) ?_)))))
      exact congrArg Value.bool (eqL_miss hk2 (dropE hc11) (dropE hc16) (by assumption)).symm
    have h23 := not_f h20
    have p24 := dt h23
    refine cw_skip (blkK_n (seqK_n (cw_region (ol rfl (lo_add rfl rfl (rg_i64 (by omega))) (omi rfl rfl ?_)))))
    refine ow_nil ?_
    refine next1 (k + 1) (upd_intro (mask_intro (by first | exact off_refl | (repeat (first | exact off_mask | refine off_upd rfl ?_ | refine off_mask2 rfl ?_)))) rfl) (lmask_intro (by first | exact offl_refl | (repeat (first | exact offl_mask | refine offl_upd rfl ?_ | refine offl_mask2 rfl ?_)))) hl7 ?_ ?_
    · exact ⟨by omega, eqL_step hk2 (dropE hc11) (dropE hc16) (by assumption)⟩
    omega
  have p25 := df h8
  refine cw_exit (seqK_e (loopK_e (blkK_hit (seqK_n (cw_seq ?_)))))
  refine cw_region (oab rfl rfl (ow_nil (seqK_n (cw_ret (fnK_r (res1 rfl (rv_t (v := .bool _) rfl)) ((HLe.refl _).trans hl7) ?_)))))
  exact congrArg Value.bool (eqL_end hk2 (by omega) (by omega)).symm
theorem index_Str (H : Hp) (l_a : Option Addr) (l_l l_c : Nat) (l : List Bs) (l_h : SlH strE 1 H (.slice l_a l_l l_c) l) (x : Bs) (hl : l.length ≤ 9223372036854775807) : Pr Tryz.prog 206 #[.slice l_a l_l l_c, str x] H (.int .i64 (idxP (fun y => decide (x = y)) l)) := by
  refine pr_cw Tryz.func206 rfl Tryz.ntmps206 rfl (fun N => ?_)
  refine cw_seq (cw_region (oai rfl rfl (ow_nil (seqK_n (cw_seq ?_)))))
  refine cw_seq (cw_region (ol rfl (lo_move (v := .slice _ _ _) rfl) (ol rfl (lo_len_slh rfl l_h Tryz.underlying183) (omi rfl rfl (ow_nil ?_)))))
  refine seqK_n (cw_block (cw_loop1 [4, 5, 8, 9, 10, 11, 12, 13, 14, 15, 16, 17, 18] [] (fun (k : Nat) G => upd (G) 8 (.int .i64 (k : Int))) (fun (k : Nat) G => G) (fun (k : Nat) H' => k ≤ l.length ∧ idxP (fun y => decide (x = y)) l = idxF (fun y => decide (x = y)) k (l.drop k)) (fun (k : Nat) => l.length - k) 0 (upd_intro (mask_intro (by first | exact off_refl | (repeat (first | exact off_mask | refine off_upd rfl ?_ | refine off_mask2 rfl ?_)))) rfl) (lmask_intro offl_refl) ?_ ?_))
  · exact ⟨Nat.zero_le _, rfl⟩
  intro k J2 JL2 H2 hp1 hl2
  obtain ⟨hik1, hik2⟩ := hp1
  refine cw_seq (cw_region (ol rfl (lo_lss rfl rfl) (ow_nil (seqK_n (cw_seq ?_)))))
  refine cw_cond rfl (fun h3 => ?_) (fun h3 => ?_)
  · have p4 := dt h3
    refine cw_skip (seqK_n (cw_seq (cw_block (cw_seq (cw_region ?_)))))
    refine omi rfl rfl (oai rfl rfl (ow_nil (seqK_n (cw_seq (cw_region ?_)))))
    refine ol rfl (lo_move (v := str _) rfl) (ol rfl (lo_move (v := .slice _ _ _) rfl) (omi rfl rfl ?_))
    obtain ⟨c5, hc6⟩ := getE (xs := l) (m := k) (by omega)
    obtain ⟨cs7, hE8, at9⟩ := (l_h.mono ((HLe.refl _).trans hl2) (fun _ _ h => h)).get hc6
    obtain ⟨rfl, c5_w⟩ := hE8
    have c5_w : c5.length ≤ 9223372036854775807 := c5_w
    refine ol rfl (lo_indexAddr rfl rfl (l_h.mono ((HLe.refl _).trans hl2) (fun _ _ h => h)).1 at9 Tryz.underlying183 sz9 (by omega) (by omega)) (ol rfl (lo_loadE1 rfl ag9 at9) (ol rfl (lo_seql rfl rfl) (ow_nil (seqK_n (cw_cond rfl (fun h10 => ?_) (fun h10 => ?_))))))
    · have p11 := dt h10
      refine cw_seq (cw_region (omi rfl rfl (oai rfl rfl (ow_nil (seqK_n ?_)))))
      refine cw_ret (blkK_r (seqK_r (loopK_r (blkK_r (seqK_r ?_)))))
      refine fnK_r (res1 rfl (rv_t (v := .int _ _) rfl)) ((HLe.refl _).trans hl2) ?_
      exact congrArg (Value.int .i64) (idx_hit hik2 (dropE hc6) (by first | assumption | (simp [*]; done))).symm
    have p12 := df h10
    refine cw_skip (blkK_n (seqK_n (cw_region (ol rfl (lo_add rfl rfl (rg_i64 (by omega))) (omi rfl rfl ?_)))))
    refine ow_nil ?_
    refine next1 (k + 1) (upd_intro (mask_intro (by first | exact off_refl | (repeat (first | exact off_mask | refine off_upd rfl ?_ | refine off_mask2 rfl ?_)))) rfl) (lmask_intro (by first | exact offl_refl | (repeat (first | exact offl_mask | refine offl_upd rfl ?_ | refine offl_mask2 rfl ?_)))) hl2 ?_ ?_
    · exact ⟨by omega, idx_miss hik2 (dropE hc6) (by assumption)⟩
    omega
  have p13 := df h3
  refine cw_exit (seqK_e (loopK_e (blkK_hit (seqK_n (cw_seq ?_)))))
  refine cw_region (oai rfl rfl (ow_nil (seqK_n (cw_ret (fnK_r (res1 rfl (rv_t (v := .int _ _) rfl)) ((HLe.refl _).trans hl2) ?_)))))
  exact congrArg (Value.int .i64) (idx_end hik2 (by omega)).symm
theorem contains_Str (H : Hp) (l_a : Option Addr) (l_l l_c : Nat) (l : List Bs) (l_h : SlH strE 1 H (.slice l_a l_l l_c) l) (x : Bs) (hl : l.length ≤ 9223372036854775807) : Pr Tryz.prog 197 #[.slice l_a l_l l_c, str x] H (.bool (decide (x ∈ l))) := by
  refine pr_cw Tryz.func197 rfl Tryz.ntmps197 rfl (fun N => ?_)
  refine cw_seq (cw_region (oab rfl rfl (ow_nil (seqK_n (cw_seq ?_)))))
  refine cw_region (ol rfl (lo_move (v := .slice _ _ _) rfl) (ol rfl (lo_move (v := str _) rfl) ?_))
  refine ow1 (op1_pr (index_Str _ l_a l_l l_c l l_h x (by first | omega | (simp <;> omega))) (en_f cb206 rfl) rfl ?_)
  have := idxP_r (fun y => decide (x = y)) l
  refine ol rfl (lo_geq rfl rfl) (oab rfl rfl (ow_nil (seqK_n (cw_ret (fnK_r (res1 rfl (rv_t (v := .bool _) rfl)) (.refl _) ?_)))))
  refine congrArg Value.bool ?_
  rw [Bool.eq_iff_iff, decide_eq_true_eq, decide_eq_true_eq, idxP_any]
  simp
theorem shop_check (H : Hp) (x : ShopR) (x_w : ShopR.wf x) : Pr Tryz.prog 176 #[.agg (ShopR.cells x).toArray] H (.int .i64 (shopE x)) := by
  refine pr_cw Tryz.func176 rfl Tryz.ntmps176 rfl (fun N => ?_)
  have x_w' := x_w
  simp only [ShopR.wf] at x_w'
  refine cw_seq (cw_region (ow1 (op1_box (cs := [_, _, _]) 0 rfl rfl (fun b1 => ?_))))
  refine oai rfl rfl (ow_nil (seqK_n (cw_seq (cw_seq (cw_region ?_)))))
  refine ol rfl (lo_fieldAddr rfl fl100_0) (ol rfl (lo_load1 (i := 0) (v := str _) rfl ag9 rfl rfl) ?_)
  refine ow1 (op1_pr (words_Name _ x.name (by first | omega | decide | (simp; done))) (en_f cb131 rfl) rfl ?_)
  refine oai rfl rfl (ow_nil (seqK_n (cw_seq (cw_region (omi rfl rfl ?_)))))
  refine ol rfl (lo_neq rfl rfl) (ow_nil (seqK_n (cw_cond rfl (fun h2 => ?_) (fun h2 => ?_))))
  · have h3 := not_t h2
    have p4 := df h3
    refine cw_seq (cw_region (omi rfl rfl (oai rfl rfl (ow_nil (seqK_n ?_)))))
    refine cw_ret (seqK_r (fnK_r (res1 rfl (rv_t (v := .int _ _) rfl)) (.refl _) (congrArg (Value.int .i64) ?_)))
    unfold shopE
    (repeat (first | rw [if_pos (by omega)] | rw [if_pos (by assumption)] | rw [if_pos (And.intro (by assumption) (by assumption))] | rw [if_pos (Or.inl (by assumption))] | rw [if_pos (Or.inr (by assumption))] | rw [if_neg (by omega)] | rw [if_neg (by assumption)] | rw [if_neg (not_not_intro (by assumption))] | rw [if_neg (nbt (by assumption))] | rw [if_neg (nbf (by assumption))] | rw [if_neg (nand_l (by assumption))] | rw [if_neg (nand_r (by assumption))] | rw [if_neg (nand_l (nbt (by assumption)))] | rw [if_neg (nand_r (nbt (by assumption)))] | rw [if_neg (nor_ (not_not_intro (by assumption)) (nbf (by assumption)))]))
    all_goals first | done | rfl | omega
  have h5 := not_f h2
  have p6 := dt h5
  refine cw_skip (seqK_n (cw_seq (cw_block (cw_seq (cw_region ?_)))))
  refine ol rfl (lo_fieldAddr rfl fl100_1) (ol rfl (lo_load1 (i := 0) (v := .int _ _) rfl ag5 rfl rfl) (ol rfl (lo_gtr rfl rfl) (oab rfl rfl (ow_nil (seqK_n ?_)))))
  refine cw_cond rfl (fun h7 => ?_) (fun h7 => ?_)
  · have p8 := dt h7
    refine cw_seq (cw_region (oai rfl rfl (ow_nil (seqK_n (cw_ret ?_)))))
    refine blkK_r (seqK_r (fnK_r (res1 rfl (rv_t (v := .int _ _) rfl)) (.refl _) (congrArg (Value.int .i64) ?_)))
    unfold shopE
    (repeat (first | rw [if_pos (by omega)] | rw [if_pos (by assumption)] | rw [if_pos (And.intro (by assumption) (by assumption))] | rw [if_pos (Or.inl (by assumption))] | rw [if_pos (Or.inr (by assumption))] | rw [if_neg (by omega)] | rw [if_neg (by assumption)] | rw [if_neg (not_not_intro (by assumption))] | rw [if_neg (nbt (by assumption))] | rw [if_neg (nbf (by assumption))] | rw [if_neg (nand_l (by assumption))] | rw [if_neg (nand_r (by assumption))] | rw [if_neg (nand_l (nbt (by assumption)))] | rw [if_neg (nand_r (nbt (by assumption)))] | rw [if_neg (nor_ (not_not_intro (by assumption)) (nbf (by assumption)))]))
    all_goals first | done | rfl | omega
  have p9 := df h7
  refine cw_seq (cw_region (ol rfl (lo_fieldAddr rfl fl100_1) (ol rfl (lo_load1 (i := 0) (v := .int _ _) rfl ag5 rfl rfl) (ol rfl (lo_eql rfl rfl) (oab rfl rfl ?_)))))
  refine ow_nil (seqK_n (cw_cond rfl (fun h10 => ?_) (fun h10 => ?_)))
  · have p11 := dt h10
    refine cw_seq (cw_region (ol rfl (lo_fieldAddr rfl fl100_2) (ol rfl (lo_load1 (i := 0) (v := str _) rfl ag9 rfl rfl) ?_)))
    refine ow1 (op1_pr (words_Name _ x.to (by first | omega | decide | (simp; done))) (en_f cb131 rfl) rfl ?_)
    refine oai rfl rfl (ow_nil (seqK_n (cw_ret (blkK_r (seqK_r ?_)))))
    refine fnK_r (res1 rfl (rv_t (v := .int _ _) rfl)) (.refl _) (congrArg (Value.int .i64) ?_)
    unfold shopE
    (repeat (first | rw [if_pos (by omega)] | rw [if_pos (by assumption)] | rw [if_pos (And.intro (by assumption) (by assumption))] | rw [if_pos (Or.inl (by assumption))] | rw [if_pos (Or.inr (by assumption))] | rw [if_neg (by omega)] | rw [if_neg (by assumption)] | rw [if_neg (not_not_intro (by assumption))] | rw [if_neg (nbt (by assumption))] | rw [if_neg (nbf (by assumption))] | rw [if_neg (nand_l (by assumption))] | rw [if_neg (nand_r (by assumption))] | rw [if_neg (nand_l (nbt (by assumption)))] | rw [if_neg (nand_r (nbt (by assumption)))] | rw [if_neg (nor_ (not_not_intro (by assumption)) (nbf (by assumption)))]))
    all_goals first | done | rfl | omega
  have p12 := df h10
  refine cw_seq (cw_region (ol rfl (lo_fieldAddr rfl fl100_2) (ol rfl (lo_load1 (i := 0) (v := str _) rfl ag9 rfl rfl) (ol rfl (lo_sneq rfl rfl) (oab rfl rfl ?_)))))
  refine ow_nil (seqK_n (cw_cond rfl (fun h13 => ?_) (fun h13 => ?_)))
  · have h14 := not_t h13
    have p15 := df h14
    refine cw_seq (cw_region (oai rfl rfl (ow_nil (seqK_n (cw_ret ?_)))))
    refine blkK_r (seqK_r (fnK_r (res1 rfl (rv_t (v := .int _ _) rfl)) (.refl _) (congrArg (Value.int .i64) ?_)))
    unfold shopE
    (repeat (first | rw [if_pos (by omega)] | rw [if_pos (by assumption)] | rw [if_pos (And.intro (by assumption) (by assumption))] | rw [if_pos (Or.inl (by assumption))] | rw [if_pos (Or.inr (by assumption))] | rw [if_neg (by omega)] | rw [if_neg (by assumption)] | rw [if_neg (not_not_intro (by assumption))] | rw [if_neg (nbt (by assumption))] | rw [if_neg (nbf (by assumption))] | rw [if_neg (nand_l (by assumption))] | rw [if_neg (nand_r (by assumption))] | rw [if_neg (nand_l (nbt (by assumption)))] | rw [if_neg (nand_r (nbt (by assumption)))] | rw [if_neg (nor_ (not_not_intro (by assumption)) (nbf (by assumption)))]))
    all_goals first | done | rfl | omega
  have h16 := not_f h13
  have p17 := dt h16
  refine cw_skip (blkK_n (seqK_n (cw_seq (cw_region (oai rfl rfl ?_)))))
  refine ow_nil (seqK_n (cw_ret (fnK_r (res1 rfl (rv_t (v := .int _ _) rfl)) (.refl _) (congrArg (Value.int .i64) ?_))))
  unfold shopE
  (repeat (first | rw [if_pos (by omega)] | rw [if_pos (by assumption)] | rw [if_pos (And.intro (by assumption) (by assumption))] | rw [if_pos (Or.inl (by assumption))] | rw [if_pos (Or.inr (by assumption))] | rw [if_neg (by omega)] | rw [if_neg (by assumption)] | rw [if_neg (not_not_intro (by assumption))] | rw [if_neg (nbt (by assumption))] | rw [if_neg (nbf (by assumption))] | rw [if_neg (nand_l (by assumption))] | rw [if_neg (nand_r (by assumption))] | rw [if_neg (nand_l (nbt (by assumption)))] | rw [if_neg (nand_r (nbt (by assumption)))] | rw [if_neg (nor_ (not_not_intro (by assumption)) (nbf (by assumption)))]))
  all_goals first | done | rfl | omega
theorem book_Shop (H : Hp) (b : BookR) (b_shops_a : Option Addr) (b_shops_c : Nat) (b_shops_h : SlH shopRE 3 H (.slice b_shops_a b.shops.length b_shops_c) b.shops) (b_binds_a : Option Addr) (b_binds_c : Nat) (b_binds_h : SlH bindRE 6 H (.slice b_binds_a b.binds.length b_binds_c) b.binds) (b_w : BookR.wf b) (name : Bs) : Pr Tryz.prog 177 #[.agg (BookR.cells b b_shops_a b_shops_c b_binds_a b_binds_c).toArray, str name] H (.tuple #[.agg (ShopR.cells ((shopOf b.shops name).getD ShopR.zero)).toArray, .bool ((shopOf b.shops name).isSome)]) := by
  refine pr_cw Tryz.func177 rfl Tryz.ntmps177 rfl (fun N => ?_)
  have b_w' := b_w
  simp only [BookR.wf] at b_w'
  refine cw_seq (cw_region (ow1 (op1_box (cs := [_, _]) 0 rfl rfl (fun b1 => ?_))))
  refine ow1 (op1_alloc 1 rfl zr100 (fun b2 => ?_))
  refine oab rfl rfl (ow_nil (seqK_n (cw_seq (cw_seq (cw_region ?_)))))
  refine ol rfl (lo_fieldAddr rfl fl204_0) (ol rfl (lo_load1 (i := 0) (v := .slice _ _ _) rfl ag201 rfl rfl) (ol rfl (lo_len_slh rfl b_shops_h Tryz.underlying201) (omi rfl rfl (ow_nil (seqK_n ?_)))))
  refine cw_block (cw_loop1 [5, 7, 11, 12, 13, 14, 15, 16, 17, 18, 19, 20] [2] (fun (k : Nat) G => upd (G) 11 (.int .i64 (k : Int))) (fun (k : Nat) G => G) (fun (k : Nat) H' => k ≤ b.shops.length ∧ shopOf b.shops name = shopOf (b.shops.drop k) name) (fun (k : Nat) => b.shops.length - k) 0 (upd_intro (mask_intro (by first | exact off_refl | (repeat (first | exact off_mask | refine off_upd rfl ?_ | refine off_mask2 rfl ?_)))) rfl) (lmask_intro offl_refl) ?_ ?_)
  · exact ⟨Nat.zero_le _, rfl⟩
  intro k J4 JL4 H4 hp3 hl4
  obtain ⟨hk1, hk2⟩ := hp3
  refine cw_seq (cw_region (ol rfl (lo_lss rfl rfl) (ow_nil (seqK_n (cw_seq ?_)))))
  refine cw_cond rfl (fun h5 => ?_) (fun h5 => ?_)
  · have p6 := dt h5
    refine cw_skip (seqK_n (cw_seq (cw_block (cw_seq (cw_region ?_)))))
    obtain ⟨c7, hc8⟩ := getE (xs := b.shops) (m := k) (by omega)
    obtain ⟨cs9, hE10, at11⟩ := (b_shops_h.mono ((HLe.refl _).trans hl4) (fun _ _ h => h)).get hc8
    obtain ⟨rfl, c7_w⟩ := hE10
    have c7_w' := c7_w
    simp only [ShopR.wf] at c7_w'
    refine ol rfl (lo_indexAddr rfl rfl (b_shops_h.mono ((HLe.refl _).trans hl4) (fun _ _ h => h)).1 at11 Tryz.underlying201 sz100 (by omega) (by omega)) (ol rfl (lo_loadEA rfl ag100 sz100 at11) (ow1 (op1_alloc 2 rfl zr100 (fun b12 => ?_))))
    refine ow1 (op1_storeAll (i := 2) (vs := [_, _, _]) rfl rfl rfl sz100 rfl rfl rfl ?_)
    refine ow_nil (seqK_n (cw_seq (cw_region (ol rfl (lo_fieldAddr rfl fl100_0) (ol rfl (lo_load1 (i := 2) (v := str _) rfl ag9 rfl rfl) ?_)))))
    refine ol rfl (lo_move (v := str _) rfl) (ol rfl (lo_seql rfl rfl) (ow_nil (seqK_n (cw_cond rfl (fun h13 => ?_) (fun h13 => ?_)))))
    · have p14 := dt h13
      refine cw_seq (cw_region (ol rfl (lo_loadA (i := 2) (vs := [_, _, _]) rfl ag100 sz100 rfl rfl rfl) ?_))
      refine ow1 (op1_storeAll (i := 1) (vs := [_, _, _]) rfl rfl rfl sz100 rfl rfl rfl ?_)
      refine oab rfl rfl (ow_nil (seqK_n (cw_ret (blkK_r (seqK_r ?_)))))
      refine loopK_r (blkK_r (seqK_r (fnK_r (res2 rfl (rv_c (i := 1) (vs := [_, _, _]) rfl ag100 sz100 rfl rfl rfl) (rv_t (v := .bool _) rfl)) ((HLe.refl _).trans hl4) ?_)))
      have e := shopOf_hit hk2 (dropE hc8) (by assumption)
      rw [e]
      rfl
    have p15 := df h13
    refine cw_skip (blkK_n (seqK_n (cw_region (ol rfl (lo_add rfl rfl (rg_i64 (by omega))) (omi rfl rfl ?_)))))
    refine ow_nil ?_
    refine next1 (k + 1) (upd_intro (mask_intro (by first | exact off_refl | (repeat (first | exact off_mask | refine off_upd rfl ?_ | refine off_mask2 rfl ?_)))) rfl) (lmask_intro (by first | exact offl_refl | (repeat (first | exact offl_mask | refine offl_upd rfl ?_ | refine offl_mask2 rfl ?_)))) hl4 ?_ ?_
    · exact ⟨by omega, shopOf_miss hk2 (dropE hc8) (by assumption)⟩
    omega
  have p16 := df h5
  refine cw_exit (seqK_e (loopK_e (blkK_hit (seqK_n (cw_seq ?_)))))
  refine cw_region (ol rfl (lo_build (v := .agg #[_, _, _]) rfl (bd100)) ?_)
  refine ow1 (op1_storeAll (i := 1) (vs := [_, _, _]) rfl rfl rfl sz100 rfl rfl rfl ?_)
  refine oab rfl rfl (ow_nil (seqK_n (cw_ret (fnK_r (res2 rfl (rv_c (i := 1) (vs := [_, _, _]) rfl ag100 sz100 rfl rfl rfl) (rv_t (v := .bool _) rfl)) ((HLe.refl _).trans hl4) ?_))))
  rw [List.drop_of_length_le (by omega)] at hk2
  rw [hk2]
  rfl
end Go.SW
set_option linter.unusedVariables false
set_option maxRecDepth 100000
set_option maxHeartbeats 4000000
namespace Go.SW
open Go.Proofs
theorem ag202 : Ag Tryz.prog 202 false := fun w => by kernel_rfl
theorem by100 : By Tryz.prog 100 40 := by_of (by kernel_rfl)
theorem by104 : By Tryz.prog 104 88 := by_of (by kernel_rfl)
theorem cb192 : Callable Tryz.prog 192 := callable_of Tryz.func192 (by kernel_rfl) (by kernel_rfl)
theorem cb195 : Callable Tryz.prog 195 := callable_of Tryz.func195 (by kernel_rfl) (by kernel_rfl)
theorem sz201 : Sz Tryz.prog 201 1 := fun w => by kernel_rfl
theorem sz202 : Sz Tryz.prog 202 1 := fun w => by kernel_rfl
theorem concat_Shop (H : Hp) (ls_a : Option Addr) (ls_l ls_c : Nat) (ls : List (List ShopR)) (ls_h : SlH (slE shopRE 3) 1 H (.slice ls_a ls_l ls_c) ls) (hls : ls.length ≤ 1000) (hlt : ls.flatten.length ≤ 1000000) : Ph Tryz.prog 178 #[.slice ls_a ls_l ls_c] H (fun v H' => ∃ (a1 : Option Addr) (c1 : Nat), v = .slice a1 ((ls).flatten).length c1 ∧ SlH shopRE 3 H' (.slice a1 ((ls).flatten).length c1) ((ls).flatten)) := by
  refine ph_cw Tryz.func178 rfl Tryz.ntmps178 rfl (fun N => ?_)
  refine cw_seq (cw_region (ol rfl (lo_assign (v := .slice _ _ _) rfl) (ow_nil (seqK_n (cw_seq ?_)))))
  refine cw_region (oai rfl rfl (ow_nil (seqK_n (cw_seq (cw_seq ?_)))))
  refine cw_region (ol rfl (lo_move (v := .slice _ _ _) rfl) (ol rfl (lo_len_slh rfl ls_h Tryz.underlying241) (omi rfl rfl (ow_nil (seqK_n ?_)))))
  refine cw_block (cw_loop2 [3, 5, 11, 12, 13, 14, 15, 16, 17, 18, 19, 20, 21, 22] [] (fun (k : Nat) (z : Nat) G => upd (upd (G) 11 (.int .i64 (k : Int))) 3 (.int .i64 (z : Int))) (fun (k : Nat) (z : Nat) G => G) (fun (k : Nat) (z : Nat) H' => k ≤ ls.length ∧ z + (ls.drop k).flatten.length = ls.flatten.length) (fun (k : Nat) (z : Nat) => ls.length - k) 0 0 (upd_intro (upd_intro (mask_intro (by first | exact off_refl | (repeat (first | exact off_mask | refine off_upd rfl ?_ | refine off_mask2 rfl ?_)))) rfl) rfl) (lmask_intro offl_refl) ?_ ?_)
  · exact ⟨Nat.zero_le _, by simp⟩
  intro k z J2 JL2 H2 hp1 hl2
  obtain ⟨hk1, hk2⟩ := hp1
  refine cw_seq (cw_region (ol rfl (lo_lss rfl rfl) (ow_nil (seqK_n (cw_seq ?_)))))
  refine cw_cond rfl (fun h3 => ?_) (fun h3 => ?_)
  · have p4 := dt h3
    refine cw_skip (seqK_n (cw_seq (cw_block (cw_seq (cw_region ?_)))))
    obtain ⟨c5, hc6⟩ := getE (xs := ls) (m := k) (by omega)
    obtain ⟨cs7, hE8, at9⟩ := (ls_h.mono ((HLe.refl _).trans hl2) (fun _ _ q => (slE_mono shopRE_mono) _ _ _ _ ((HLe.refl _).trans hl2) q)).get hc6
    obtain ⟨a10, c11, rfl, hs12⟩ := hE8
    have hdl : (ls.drop k).flatten.length = c5.length + (ls.drop (k + 1)).flatten.length := by rw [dropE hc6, List.flatten_cons, List.length_append]
    refine ol rfl (lo_indexAddr rfl rfl (ls_h.mono ((HLe.refl _).trans hl2) (fun _ _ q => (slE_mono shopRE_mono) _ _ _ _ ((HLe.refl _).trans hl2) q)).1 at9 Tryz.underlying241 sz201 (by omega) (by omega)) (ol rfl (lo_loadE1 rfl ag201 at9) (ol rfl (lo_assign (v := .slice _ _ _) rfl) (ow_nil (seqK_n (cw_seq ?_)))))
    refine cw_region (omi rfl rfl (ol rfl (lo_move (v := .slice _ _ _) rfl) (ol rfl (lo_len_slh rfl hs12 Tryz.underlying201) (ol rfl (lo_add rfl rfl (rg_i64 (by omega))) (oai rfl rfl ?_)))))
    refine ow_nil (seqK_n (cw_seq (cw_region (omi rfl rfl (ol rfl (lo_lss rfl rfl) ?_)))))
    refine ow_nil (seqK_n (cw_cond rfl (fun h13 => ?_) (fun h13 => ?_)))
    · have p14 := dt h13
      exfalso; omega
    have p15 := df h13
    refine cw_skip (blkK_n (seqK_n (cw_region (ol rfl (lo_add rfl rfl (rg_i64 (by omega))) (omi rfl rfl ?_)))))
    refine ow_nil ?_
    refine next2 (k + 1) (z + c5.length) (upd_intro (upd_intro (mask_intro (by first | exact off_refl | (repeat (first | exact off_mask | refine off_upd rfl ?_ | refine off_mask2 rfl ?_)))) rfl) (congrArg (Value.int .i64) (by omega))) (lmask_intro (by first | exact offl_refl | (repeat (first | exact offl_mask | refine offl_upd rfl ?_ | refine offl_mask2 rfl ?_)))) hl2 ?_ ?_
    · exact ⟨by omega, by omega⟩
    omega
  have p16 := df h3
  refine cw_exit (seqK_e (loopK_e (blkK_hit (seqK_n (cw_seq ?_)))))
  refine cw_region (omi rfl rfl ?_)
  refine ow1 (op1_in (en_f cb192 rfl) Tryz.func192 rfl Tryz.ntmps192 rfl rfl ?_)
  refine cw_seq (cw_region (ol rfl (lo_assign (v := .slice _ _ _) rfl) (ow_nil (seqK_n (cw_seq ?_)))))
  refine cw_seq (cw_region (omi rfl rfl (ol rfl (lo_lss rfl rfl) (ow_nil (seqK_n ?_)))))
  refine cw_cond rfl (fun h17 => ?_) (fun h17 => ?_)
  · have p18 := dt h17
    exfalso; omega
  have p19 := df h17
  refine cw_skip (seqK_n (cw_seq (cw_seq (cw_region (omi rfl rfl ?_)))))
  refine ol rfl (lo_move (v := .slice _ _ _) rfl) (ol rfl (lo_cap_sl rfl Tryz.underlying201) (ol rfl (lo_move (v := .slice _ _ _) rfl) (ol rfl (lo_len_sl rfl Tryz.underlying201) (ol rfl (lo_sub rfl rfl (rg_i64 (by omega))) (ol rfl (lo_sub rfl rfl (rg_i64 (by omega))) ?_)))))
  refine oai rfl rfl (ow_nil (seqK_n (cw_seq (cw_region (omi rfl rfl ?_)))))
  refine ol rfl (lo_gtr rfl rfl) (ow_nil (seqK_n (cw_cond rfl (fun h20 => ?_) (fun h20 => ?_))))
  · have p21 := dt h20
    refine cw_region (ol rfl (lo_move (v := .slice _ _ _) rfl) (ol rfl (lo_move (v := .slice _ _ _) rfl) (ol rfl (lo_cap_sl rfl Tryz.underlying201) (ol rfl (lo_slice_hi (a := none) (c := 0) 0 rfl rfl Tryz.underlying201 sz100 rfl (by decide)) (omi rfl rfl ?_)))))
    refine ow1 (op1_appz (m := (((z : Int) - (0 - 0))).toNat) 0 rfl rfl Tryz.underlying201 Tryz.underlying3 sz100 by100 (by decide) zr100 rfl (List.all_eq_true.1 rfl) (by omega) (by omega) (by omega) rfl (fun v22 en23 cs24 ho25 => ?_))
    refine ol rfl (lo_move (v := .slice _ _ _) rfl) (ol rfl (lo_len_sl rfl Tryz.underlying201) ?_)
    obtain ⟨a26, c27, rfl, ho28⟩ := ownV_cut ho25
    refine ol rfl (lo_slice_cut (a := a26) (c := c27) rfl rfl Tryz.underlying201 sz100 rfl) (ol rfl (lo_assign rfl) (ow_nil (seqK_n (cw_seq (cw_region ?_)))))
    refine ol rfl (lo_move rfl) (ol rfl (lo_assign rfl) (ow_nil (seqK_n (cw_ret (fnK_r (res1 rfl (rv_t rfl)) (.refl _) ?_)))))
    refine ol rfl (lo_assign rfl) (ow_nil (seqK_n (cw_seq (cw_seq (cw_region ?_)))))
    refine ol rfl (lo_move (v := .slice _ _ _) rfl) (ol rfl (lo_len_slh rfl (ls_h.mono ((HLe.refl _).trans hl2) (fun _ _ q => (slE_mono shopRE_mono) _ _ _ _ ((HLe.refl _).trans hl2) q)) Tryz.underlying241) (omi rfl rfl (ow_nil (seqK_n (cw_block ?_)))))
    refine cw_loop4 [6, 8, 27, 28, 29, 30, 31, 32, 33, 34] [0] (fun (k : Nat) (out : List ShopR) (v : Value) (en : Option (Nat × Obj)) G => upd (upd (G) 27 (.int .i64 (k : Int))) 6 (v)) (fun (k : Nat) (out : List ShopR) (v : Value) (en : Option (Nat × Obj)) G => lupd (G) 0 (en)) (fun (k : Nat) (out : List ShopR) (v : Value) (en : Option (Nat × Obj)) H' => k ≤ ls.length ∧ ls.flatten = out ++ (ls.drop k).flatten ∧ OwnV 3 100 v en out.length (out.flatMap ShopR.cells) ∧ (∀ x ∈ out, ShopR.wf x)) (fun (k : Nat) (out : List ShopR) (v : Value) (en : Option (Nat × Obj)) => ls.length - k) 0 [] (.slice a26 0 c27) en23 (upd_intro (upd_intro (mask_intro (by first | exact off_refl | (repeat (first | exact off_mask | refine off_upd rfl ?_ | refine off_mask2 rfl ?_)))) rfl) rfl) (lupd_intro (lmask_intro offl_refl) rfl) ?_ ?_
    · exact ⟨Nat.zero_le _, rfl, ho28, wf_nil⟩
    intro k out v en J30 JL30 H30 hp29 hl30
    obtain ⟨hk1, hk2, ho, hw⟩ := hp29
    have hfl : ls.flatten.length = out.length + (ls.drop k).flatten.length := by rw [hk2, List.length_append]
    refine cw_seq (cw_region (ol rfl (lo_lss rfl rfl) (ow_nil (seqK_n (cw_seq ?_)))))
    refine cw_cond rfl (fun h31 => ?_) (fun h31 => ?_)
    · have p32 := dt h31
      refine cw_skip (seqK_n (cw_seq (cw_block (cw_seq (cw_region ?_)))))
      obtain ⟨c33, hc34⟩ := getE (xs := ls) (m := k) (by omega)
      obtain ⟨cs35, hE36, at37⟩ := (ls_h.mono (((HLe.refl _).trans hl2).trans hl30) (fun _ _ q => (slE_mono shopRE_mono) _ _ _ _ (((HLe.refl _).trans hl2).trans hl30) q)).get hc34
      obtain ⟨a38, c39, rfl, hs40⟩ := hE36
      have hdl : (ls.drop k).flatten.length = c33.length + (ls.drop (k + 1)).flatten.length := by rw [dropE hc34, List.flatten_cons, List.length_append]
      refine ol rfl (lo_indexAddr rfl rfl (ls_h.mono (((HLe.refl _).trans hl2).trans hl30) (fun _ _ q => (slE_mono shopRE_mono) _ _ _ _ (((HLe.refl _).trans hl2).trans hl30) q)).1 at37 Tryz.underlying241 sz201 (by omega) (by omega)) (ol rfl (lo_loadE1 rfl ag201 at37) (ol rfl (lo_assign (v := .slice _ _ _) rfl) (ow_nil (seqK_n (cw_region ?_)))))
      refine ol rfl (lo_move rfl) (ol rfl (lo_move (v := .slice _ _ _) rfl) (ow1 (op1_app 0 rfl rfl Tryz.underlying201 Tryz.underlying201 rfl sz100 by100 (by decide) zr100 ho (src_slh (enc := ShopR.cells) (wf := ShopR.wf) (fun _ => rfl) hs40) (one_flat (fun _ => rfl) _) rfl (by omega) rfl (fun v41 en42 ho43 => ?_))))
      have ho44 := own_cat (enc := ShopR.cells) out c33 ho43
      refine ol rfl (lo_assign rfl) (ow_nil (blkK_n (seqK_n (cw_region (ol rfl (lo_add rfl rfl (rg_i64 (by omega))) ?_)))))
      refine omi rfl rfl (ow_nil ?_)
      refine next4 (k + 1) (out ++ c33) v41 en42 (upd_intro (upd_intro (mask_intro (by first | exact off_refl | (repeat (first | exact off_mask | refine off_upd rfl ?_ | refine off_mask2 rfl ?_)))) rfl) rfl) (lupd_intro (lmask_intro (by first | exact offl_refl | (repeat (first | exact offl_mask | refine offl_upd rfl ?_ | refine offl_mask2 rfl ?_)))) rfl) hl30 ?_ ?_
      · refine ⟨by omega, ?_, ho44, (wf_cat hw (slh_wf hs40))⟩
        rw [hk2, dropE hc34, List.flatten_cons]; simp
      omega
    have p45 := df h31
    refine cw_exit (seqK_e (loopK_e (blkK_hit (seqK_n (cw_seq ?_)))))
    refine cw_region (ol rfl (lo_move rfl) (ol rfl (lo_assign rfl) (ow_nil (seqK_n (cw_giveO 0 rfl (fun _ hl46 hg47 => ?_))))))
    have hs48 := slh_own (enc := ShopR.cells) (wf := ShopR.wf) (fun _ => rfl) ho hw hg47
    obtain ⟨⟨a49, c50, rfl, -⟩, -⟩ := id hs48
    refine cw_ret (fnK_r (res1 rfl (rv_t (v := .slice _ _ _) rfl)) ((((HLe.refl _).trans hl2).trans hl30).trans hl46) ?_)
    have e : ls.flatten = out := by rw [hk2, List.drop_of_length_le (by omega)]; simp
    rw [e]
    exact ⟨_, _, rfl, hs48⟩
  have p51 := df h20
  refine cw_skip (seqK_n (cw_seq (cw_region (ol rfl (lo_move (v := .slice _ _ _) rfl) (ol rfl (lo_assign (v := .slice _ _ _) rfl) ?_)))))
  refine ow_nil (seqK_n (cw_ret (fnK_r (res1 rfl (rv_t (v := .slice _ _ _) rfl)) (.refl _) (ol rfl (lo_assign (v := .slice _ _ _) rfl) (ow_nil ?_)))))
  refine seqK_n (cw_seq (cw_seq (cw_region (ol rfl (lo_move (v := .slice _ _ _) rfl) (ol rfl (lo_len_slh rfl (ls_h.mono ((HLe.refl _).trans hl2) (fun _ _ q => (slE_mono shopRE_mono) _ _ _ _ ((HLe.refl _).trans hl2) q)) Tryz.underlying241) ?_)))))
  refine omi rfl rfl (ow_nil (seqK_n (cw_block (cw_loop4 [6, 8, 27, 28, 29, 30, 31, 32, 33, 34] [0] (fun (k : Nat) (out : List ShopR) (v : Value) (en : Option (Nat × Obj)) G => upd (upd (G) 27 (.int .i64 (k : Int))) 6 (v)) (fun (k : Nat) (out : List ShopR) (v : Value) (en : Option (Nat × Obj)) G => lupd (G) 0 (en)) (fun (k : Nat) (out : List ShopR) (v : Value) (en : Option (Nat × Obj)) H' => k ≤ ls.length ∧ ls.flatten = out ++ (ls.drop k).flatten ∧ OwnV 3 100 v en out.length (out.flatMap ShopR.cells) ∧ (∀ x ∈ out, ShopR.wf x)) (fun (k : Nat) (out : List ShopR) (v : Value) (en : Option (Nat × Obj)) => ls.length - k) 0 [] (.slice none 0 0) none (upd_intro (upd_intro (mask_intro (by first | exact off_refl | (repeat (first | exact off_mask | refine off_upd rfl ?_ | refine off_mask2 rfl ?_)))) rfl) rfl) (lupd_intro (lmask_intro offl_refl) rfl) ?_ ?_))))
  · exact ⟨Nat.zero_le _, rfl, ownV_nil, wf_nil⟩
  intro k out v en J53 JL53 H53 hp52 hl53
  obtain ⟨hk1, hk2, ho, hw⟩ := hp52
  have hfl : ls.flatten.length = out.length + (ls.drop k).flatten.length := by rw [hk2, List.length_append]
  refine cw_seq (cw_region (ol rfl (lo_lss rfl rfl) (ow_nil (seqK_n (cw_seq ?_)))))
  refine cw_cond rfl (fun h54 => ?_) (fun h54 => ?_)
  · have p55 := dt h54
    refine cw_skip (seqK_n (cw_seq (cw_block (cw_seq (cw_region ?_)))))
    obtain ⟨c56, hc57⟩ := getE (xs := ls) (m := k) (by omega)
    obtain ⟨cs58, hE59, at60⟩ := (ls_h.mono (((HLe.refl _).trans hl2).trans hl53) (fun _ _ q => (slE_mono shopRE_mono) _ _ _ _ (((HLe.refl _).trans hl2).trans hl53) q)).get hc57
    obtain ⟨a61, c62, rfl, hs63⟩ := hE59
    have hdl : (ls.drop k).flatten.length = c56.length + (ls.drop (k + 1)).flatten.length := by rw [dropE hc57, List.flatten_cons, List.length_append]
    refine ol rfl (lo_indexAddr rfl rfl (ls_h.mono (((HLe.refl _).trans hl2).trans hl53) (fun _ _ q => (slE_mono shopRE_mono) _ _ _ _ (((HLe.refl _).trans hl2).trans hl53) q)).1 at60 Tryz.underlying241 sz201 (by omega) (by omega)) (ol rfl (lo_loadE1 rfl ag201 at60) (ol rfl (lo_assign (v := .slice _ _ _) rfl) (ow_nil (seqK_n (cw_region ?_)))))
    refine ol rfl (lo_move rfl) (ol rfl (lo_move (v := .slice _ _ _) rfl) (ow1 (op1_app 0 rfl rfl Tryz.underlying201 Tryz.underlying201 rfl sz100 by100 (by decide) zr100 ho (src_slh (enc := ShopR.cells) (wf := ShopR.wf) (fun _ => rfl) hs63) (one_flat (fun _ => rfl) _) rfl (by omega) rfl (fun v64 en65 ho66 => ?_))))
    have ho67 := own_cat (enc := ShopR.cells) out c56 ho66
    refine ol rfl (lo_assign rfl) (ow_nil (blkK_n (seqK_n (cw_region (ol rfl (lo_add rfl rfl (rg_i64 (by omega))) ?_)))))
    refine omi rfl rfl (ow_nil ?_)
    refine next4 (k + 1) (out ++ c56) v64 en65 (upd_intro (upd_intro (mask_intro (by first | exact off_refl | (repeat (first | exact off_mask | refine off_upd rfl ?_ | refine off_mask2 rfl ?_)))) rfl) rfl) (lupd_intro (lmask_intro (by first | exact offl_refl | (repeat (first | exact offl_mask | refine offl_upd rfl ?_ | refine offl_mask2 rfl ?_)))) rfl) hl53 ?_ ?_
    · refine ⟨by omega, ?_, ho67, (wf_cat hw (slh_wf hs63))⟩
      rw [hk2, dropE hc57, List.flatten_cons]; simp
    omega
  have p68 := df h54
  refine cw_exit (seqK_e (loopK_e (blkK_hit (seqK_n (cw_seq ?_)))))
  refine cw_region (ol rfl (lo_move rfl) (ol rfl (lo_assign rfl) (ow_nil (seqK_n (cw_giveO 0 rfl (fun _ hl69 hg70 => ?_))))))
  have hs71 := slh_own (enc := ShopR.cells) (wf := ShopR.wf) (fun _ => rfl) ho hw hg70
  obtain ⟨⟨a72, c73, rfl, -⟩, -⟩ := id hs71
  refine cw_ret (fnK_r (res1 rfl (rv_t (v := .slice _ _ _) rfl)) ((((HLe.refl _).trans hl2).trans hl53).trans hl69) ?_)
  have e : ls.flatten = out := by rw [hk2, List.drop_of_length_le (by omega)]; simp
  rw [e]
  exact ⟨_, _, rfl, hs71⟩
theorem concat_Bind (H : Hp) (ls_a : Option Addr) (ls_l ls_c : Nat) (ls : List (List BindR)) (ls_h : SlH (slE bindRE 6) 1 H (.slice ls_a ls_l ls_c) ls) (hls : ls.length ≤ 1000) (hlt : ls.flatten.length ≤ 1000000) : Ph Tryz.prog 181 #[.slice ls_a ls_l ls_c] H (fun v H' => ∃ (a1 : Option Addr) (c1 : Nat), v = .slice a1 ((ls).flatten).length c1 ∧ SlH bindRE 6 H' (.slice a1 ((ls).flatten).length c1) ((ls).flatten)) := by
  refine ph_cw Tryz.func181 rfl Tryz.ntmps181 rfl (fun N => ?_)
  refine cw_seq (cw_region (ol rfl (lo_assign (v := .slice _ _ _) rfl) (ow_nil (seqK_n (cw_seq ?_)))))
  refine cw_region (oai rfl rfl (ow_nil (seqK_n (cw_seq (cw_seq ?_)))))
  refine cw_region (ol rfl (lo_move (v := .slice _ _ _) rfl) (ol rfl (lo_len_slh rfl ls_h Tryz.underlying245) (omi rfl rfl (ow_nil (seqK_n ?_)))))
  refine cw_block (cw_loop2 [3, 5, 11, 12, 13, 14, 15, 16, 17, 18, 19, 20, 21, 22] [] (fun (k : Nat) (z : Nat) G => upd (upd (G) 11 (.int .i64 (k : Int))) 3 (.int .i64 (z : Int))) (fun (k : Nat) (z : Nat) G => G) (fun (k : Nat) (z : Nat) H' => k ≤ ls.length ∧ z + (ls.drop k).flatten.length = ls.flatten.length) (fun (k : Nat) (z : Nat) => ls.length - k) 0 0 (upd_intro (upd_intro (mask_intro (by first | exact off_refl | (repeat (first | exact off_mask | refine off_upd rfl ?_ | refine off_mask2 rfl ?_)))) rfl) rfl) (lmask_intro offl_refl) ?_ ?_)
  · exact ⟨Nat.zero_le _, by simp⟩
  intro k z J2 JL2 H2 hp1 hl2
  obtain ⟨hk1, hk2⟩ := hp1
  refine cw_seq (cw_region (ol rfl (lo_lss rfl rfl) (ow_nil (seqK_n (cw_seq ?_)))))
  refine cw_cond rfl (fun h3 => ?_) (fun h3 => ?_)
  · have p4 := dt h3
    refine cw_skip (seqK_n (cw_seq (cw_block (cw_seq (cw_region ?_)))))
    obtain ⟨c5, hc6⟩ := getE (xs := ls) (m := k) (by omega)
    obtain ⟨cs7, hE8, at9⟩ := (ls_h.mono ((HLe.refl _).trans hl2) (fun _ _ q => (slE_mono bindRE_mono) _ _ _ _ ((HLe.refl _).trans hl2) q)).get hc6
    obtain ⟨a10, c11, rfl, hs12⟩ := hE8
    have hdl : (ls.drop k).flatten.length = c5.length + (ls.drop (k + 1)).flatten.length := by rw [dropE hc6, List.flatten_cons, List.length_append]
    refine ol rfl (lo_indexAddr rfl rfl (ls_h.mono ((HLe.refl _).trans hl2) (fun _ _ q => (slE_mono bindRE_mono) _ _ _ _ ((HLe.refl _).trans hl2) q)).1 at9 Tryz.underlying245 sz202 (by omega) (by omega)) (ol rfl (lo_loadE1 rfl ag202 at9) (ol rfl (lo_assign (v := .slice _ _ _) rfl) (ow_nil (seqK_n (cw_seq ?_)))))
    refine cw_region (omi rfl rfl (ol rfl (lo_move (v := .slice _ _ _) rfl) (ol rfl (lo_len_slh rfl hs12 Tryz.underlying202) (ol rfl (lo_add rfl rfl (rg_i64 (by omega))) (oai rfl rfl ?_)))))
    refine ow_nil (seqK_n (cw_seq (cw_region (omi rfl rfl (ol rfl (lo_lss rfl rfl) ?_)))))
    refine ow_nil (seqK_n (cw_cond rfl (fun h13 => ?_) (fun h13 => ?_)))
    · have p14 := dt h13
      exfalso; omega
    have p15 := df h13
    refine cw_skip (blkK_n (seqK_n (cw_region (ol rfl (lo_add rfl rfl (rg_i64 (by omega))) (omi rfl rfl ?_)))))
    refine ow_nil ?_
    refine next2 (k + 1) (z + c5.length) (upd_intro (upd_intro (mask_intro (by first | exact off_refl | (repeat (first | exact off_mask | refine off_upd rfl ?_ | refine off_mask2 rfl ?_)))) rfl) (congrArg (Value.int .i64) (by omega))) (lmask_intro (by first | exact offl_refl | (repeat (first | exact offl_mask | refine offl_upd rfl ?_ | refine offl_mask2 rfl ?_)))) hl2 ?_ ?_
    · exact ⟨by omega, by omega⟩
    omega
  have p16 := df h3
  refine cw_exit (seqK_e (loopK_e (blkK_hit (seqK_n (cw_seq ?_)))))
  refine cw_region (omi rfl rfl ?_)
  refine ow1 (op1_in (en_f cb195 rfl) Tryz.func195 rfl Tryz.ntmps195 rfl rfl ?_)
  refine cw_seq (cw_region (ol rfl (lo_assign (v := .slice _ _ _) rfl) (ow_nil (seqK_n (cw_seq ?_)))))
  refine cw_seq (cw_region (omi rfl rfl (ol rfl (lo_lss rfl rfl) (ow_nil (seqK_n ?_)))))
  refine cw_cond rfl (fun h17 => ?_) (fun h17 => ?_)
  · have p18 := dt h17
    exfalso; omega
  have p19 := df h17
  refine cw_skip (seqK_n (cw_seq (cw_seq (cw_region (omi rfl rfl ?_)))))
  refine ol rfl (lo_move (v := .slice _ _ _) rfl) (ol rfl (lo_cap_sl rfl Tryz.underlying202) (ol rfl (lo_move (v := .slice _ _ _) rfl) (ol rfl (lo_len_sl rfl Tryz.underlying202) (ol rfl (lo_sub rfl rfl (rg_i64 (by omega))) (ol rfl (lo_sub rfl rfl (rg_i64 (by omega))) ?_)))))
  refine oai rfl rfl (ow_nil (seqK_n (cw_seq (cw_region (omi rfl rfl ?_)))))
  refine ol rfl (lo_gtr rfl rfl) (ow_nil (seqK_n (cw_cond rfl (fun h20 => ?_) (fun h20 => ?_))))
  · have p21 := dt h20
    refine cw_region (ol rfl (lo_move (v := .slice _ _ _) rfl) (ol rfl (lo_move (v := .slice _ _ _) rfl) (ol rfl (lo_cap_sl rfl Tryz.underlying202) (ol rfl (lo_slice_hi (a := none) (c := 0) 0 rfl rfl Tryz.underlying202 sz104 rfl (by decide)) (omi rfl rfl ?_)))))
    refine ow1 (op1_appz (m := (((z : Int) - (0 - 0))).toNat) 0 rfl rfl Tryz.underlying202 Tryz.underlying3 sz104 by104 (by decide) zr104 rfl (List.all_eq_true.1 rfl) (by omega) (by omega) (by omega) rfl (fun v22 en23 cs24 ho25 => ?_))
    refine ol rfl (lo_move (v := .slice _ _ _) rfl) (ol rfl (lo_len_sl rfl Tryz.underlying202) ?_)
    obtain ⟨a26, c27, rfl, ho28⟩ := ownV_cut ho25
    refine ol rfl (lo_slice_cut (a := a26) (c := c27) rfl rfl Tryz.underlying202 sz104 rfl) (ol rfl (lo_assign rfl) (ow_nil (seqK_n (cw_seq (cw_region ?_)))))
    refine ol rfl (lo_move rfl) (ol rfl (lo_assign rfl) (ow_nil (seqK_n (cw_ret (fnK_r (res1 rfl (rv_t rfl)) (.refl _) ?_)))))
    refine ol rfl (lo_assign rfl) (ow_nil (seqK_n (cw_seq (cw_seq (cw_region ?_)))))
    refine ol rfl (lo_move (v := .slice _ _ _) rfl) (ol rfl (lo_len_slh rfl (ls_h.mono ((HLe.refl _).trans hl2) (fun _ _ q => (slE_mono bindRE_mono) _ _ _ _ ((HLe.refl _).trans hl2) q)) Tryz.underlying245) (omi rfl rfl (ow_nil (seqK_n (cw_block ?_)))))
    refine cw_loop5 [6, 8, 27, 28, 29, 30, 31, 32, 33, 34] [0] (fun (k : Nat) (out : List BindR) (v : Value) (en : Option (Nat × Obj)) (cs : List Value) G => upd (upd (G) 27 (.int .i64 (k : Int))) 6 (v)) (fun (k : Nat) (out : List BindR) (v : Value) (en : Option (Nat × Obj)) (cs : List Value) G => lupd (G) 0 (en)) (fun (k : Nat) (out : List BindR) (v : Value) (en : Option (Nat × Obj)) (cs : List Value) H' => k ≤ ls.length ∧ ls.flatten = out ++ (ls.drop k).flatten ∧ OwnV 6 104 v en out.length cs ∧ Rl bindRE H' out cs) (fun (k : Nat) (out : List BindR) (v : Value) (en : Option (Nat × Obj)) (cs : List Value) => ls.length - k) 0 [] (.slice a26 0 c27) en23 [] (upd_intro (upd_intro (mask_intro (by first | exact off_refl | (repeat (first | exact off_mask | refine off_upd rfl ?_ | refine off_mask2 rfl ?_)))) rfl) rfl) (lupd_intro (lmask_intro offl_refl) rfl) ?_ ?_
    · exact ⟨Nat.zero_le _, rfl, ho28, rl_nil⟩
    intro k out v en cs J30 JL30 H30 hp29 hl30
    obtain ⟨hk1, hk2, ho, hw⟩ := hp29
    have hfl : ls.flatten.length = out.length + (ls.drop k).flatten.length := by rw [hk2, List.length_append]
    refine cw_seq (cw_region (ol rfl (lo_lss rfl rfl) (ow_nil (seqK_n (cw_seq ?_)))))
    refine cw_cond rfl (fun h31 => ?_) (fun h31 => ?_)
    · have p32 := dt h31
      refine cw_skip (seqK_n (cw_seq (cw_block (cw_seq (cw_region ?_)))))
      obtain ⟨c33, hc34⟩ := getE (xs := ls) (m := k) (by omega)
      obtain ⟨cs35, hE36, at37⟩ := (ls_h.mono (((HLe.refl _).trans hl2).trans hl30) (fun _ _ q => (slE_mono bindRE_mono) _ _ _ _ (((HLe.refl _).trans hl2).trans hl30) q)).get hc34
      obtain ⟨a38, c39, rfl, hs40⟩ := hE36
      have hdl : (ls.drop k).flatten.length = c33.length + (ls.drop (k + 1)).flatten.length := by rw [dropE hc34, List.flatten_cons, List.length_append]
      refine ol rfl (lo_indexAddr rfl rfl (ls_h.mono (((HLe.refl _).trans hl2).trans hl30) (fun _ _ q => (slE_mono bindRE_mono) _ _ _ _ (((HLe.refl _).trans hl2).trans hl30) q)).1 at37 Tryz.underlying245 sz202 (by omega) (by omega)) (ol rfl (lo_loadE1 rfl ag202 at37) (ol rfl (lo_assign (v := .slice _ _ _) rfl) (ow_nil (seqK_n (cw_region ?_)))))
      refine ol rfl (lo_move rfl) (ol rfl (lo_move (v := .slice _ _ _) rfl) ?_)
      obtain ⟨nw41, hrl42, hon43, hsc44⟩ := src_slE (P := Tryz.prog) bindRE_wide hs40
      refine ow1 (op1_app 0 rfl rfl Tryz.underlying202 Tryz.underlying202 rfl sz104 by104 (by decide) zr104 ho (hsc44 _ _) hon43 rfl (by omega) rfl (fun v45 en46 ho47 => ?_))
      have ho48 := ownV_cast (len' := (out ++ c33).length) ho47 (by simp) rfl
      have hrl49 : Rl bindRE _ (out ++ c33) _ := rl_app hw hrl42
      refine ol rfl (lo_assign rfl) (ow_nil (blkK_n (seqK_n (cw_region (ol rfl (lo_add rfl rfl (rg_i64 (by omega))) ?_)))))
      refine omi rfl rfl (ow_nil ?_)
      refine next5 (k + 1) (out ++ c33) v45 en46 (cs ++ nw41) (upd_intro (upd_intro (mask_intro (by first | exact off_refl | (repeat (first | exact off_mask | refine off_upd rfl ?_ | refine off_mask2 rfl ?_)))) rfl) rfl) (lupd_intro (lmask_intro (by first | exact offl_refl | (repeat (first | exact offl_mask | refine offl_upd rfl ?_ | refine offl_mask2 rfl ?_)))) rfl) hl30 ?_ ?_
      · refine ⟨by omega, ?_, ho48, hrl49⟩
        rw [hk2, dropE hc34, List.flatten_cons]; simp
      omega
    have p50 := df h31
    refine cw_exit (seqK_e (loopK_e (blkK_hit (seqK_n (cw_seq ?_)))))
    refine cw_region (ol rfl (lo_move rfl) (ol rfl (lo_assign rfl) (ow_nil (seqK_n (cw_giveO 0 rfl (fun _ hl51 hg52 => ?_))))))
    have hs53 := slh_ownE (E := bindRE) bindRE_wide ho (hw.mono bindRE_mono ((HLe.refl _).trans hl51)) hg52
    obtain ⟨⟨a54, c55, rfl, -⟩, -⟩ := id hs53
    refine cw_ret (fnK_r (res1 rfl (rv_t (v := .slice _ _ _) rfl)) ((((HLe.refl _).trans hl2).trans hl30).trans hl51) ?_)
    have e : ls.flatten = out := by rw [hk2, List.drop_of_length_le (by omega)]; simp
    rw [e]
    exact ⟨_, _, rfl, hs53⟩
  have p56 := df h20
  refine cw_skip (seqK_n (cw_seq (cw_region (ol rfl (lo_move (v := .slice _ _ _) rfl) (ol rfl (lo_assign (v := .slice _ _ _) rfl) ?_)))))
  refine ow_nil (seqK_n (cw_ret (fnK_r (res1 rfl (rv_t (v := .slice _ _ _) rfl)) (.refl _) (ol rfl (lo_assign (v := .slice _ _ _) rfl) (ow_nil ?_)))))
  refine seqK_n (cw_seq (cw_seq (cw_region (ol rfl (lo_move (v := .slice _ _ _) rfl) (ol rfl (lo_len_slh rfl (ls_h.mono ((HLe.refl _).trans hl2) (fun _ _ q => (slE_mono bindRE_mono) _ _ _ _ ((HLe.refl _).trans hl2) q)) Tryz.underlying245) ?_)))))
  refine omi rfl rfl (ow_nil (seqK_n (cw_block (cw_loop5 [6, 8, 27, 28, 29, 30, 31, 32, 33, 34] [0] (fun (k : Nat) (out : List BindR) (v : Value) (en : Option (Nat × Obj)) (cs : List Value) G => upd (upd (G) 27 (.int .i64 (k : Int))) 6 (v)) (fun (k : Nat) (out : List BindR) (v : Value) (en : Option (Nat × Obj)) (cs : List Value) G => lupd (G) 0 (en)) (fun (k : Nat) (out : List BindR) (v : Value) (en : Option (Nat × Obj)) (cs : List Value) H' => k ≤ ls.length ∧ ls.flatten = out ++ (ls.drop k).flatten ∧ OwnV 6 104 v en out.length cs ∧ Rl bindRE H' out cs) (fun (k : Nat) (out : List BindR) (v : Value) (en : Option (Nat × Obj)) (cs : List Value) => ls.length - k) 0 [] (.slice none 0 0) none [] (upd_intro (upd_intro (mask_intro (by first | exact off_refl | (repeat (first | exact off_mask | refine off_upd rfl ?_ | refine off_mask2 rfl ?_)))) rfl) rfl) (lupd_intro (lmask_intro offl_refl) rfl) ?_ ?_))))
  · exact ⟨Nat.zero_le _, rfl, ownV_nil, rl_nil⟩
  intro k out v en cs J58 JL58 H58 hp57 hl58
  obtain ⟨hk1, hk2, ho, hw⟩ := hp57
  have hfl : ls.flatten.length = out.length + (ls.drop k).flatten.length := by rw [hk2, List.length_append]
  refine cw_seq (cw_region (ol rfl (lo_lss rfl rfl) (ow_nil (seqK_n (cw_seq ?_)))))
  refine cw_cond rfl (fun h59 => ?_) (fun h59 => ?_)
  · have p60 := dt h59
    refine cw_skip (seqK_n (cw_seq (cw_block (cw_seq (cw_region ?_)))))
    obtain ⟨c61, hc62⟩ := getE (xs := ls) (m := k) (by omega)
    obtain ⟨cs63, hE64, at65⟩ := (ls_h.mono (((HLe.refl _).trans hl2).trans hl58) (fun _ _ q => (slE_mono bindRE_mono) _ _ _ _ (((HLe.refl _).trans hl2).trans hl58) q)).get hc62
    obtain ⟨a66, c67, rfl, hs68⟩ := hE64
    have hdl : (ls.drop k).flatten.length = c61.length + (ls.drop (k + 1)).flatten.length := by rw [dropE hc62, List.flatten_cons, List.length_append]
    refine ol rfl (lo_indexAddr rfl rfl (ls_h.mono (((HLe.refl _).trans hl2).trans hl58) (fun _ _ q => (slE_mono bindRE_mono) _ _ _ _ (((HLe.refl _).trans hl2).trans hl58) q)).1 at65 Tryz.underlying245 sz202 (by omega) (by omega)) (ol rfl (lo_loadE1 rfl ag202 at65) (ol rfl (lo_assign (v := .slice _ _ _) rfl) (ow_nil (seqK_n (cw_region ?_)))))
    refine ol rfl (lo_move rfl) (ol rfl (lo_move (v := .slice _ _ _) rfl) ?_)
    obtain ⟨nw69, hrl70, hon71, hsc72⟩ := src_slE (P := Tryz.prog) bindRE_wide hs68
    refine ow1 (op1_app 0 rfl rfl Tryz.underlying202 Tryz.underlying202 rfl sz104 by104 (by decide) zr104 ho (hsc72 _ _) hon71 rfl (by omega) rfl (fun v73 en74 ho75 => ?_))
    have ho76 := ownV_cast (len' := (out ++ c61).length) ho75 (by simp) rfl
    have hrl77 : Rl bindRE _ (out ++ c61) _ := rl_app hw hrl70
    refine ol rfl (lo_assign rfl) (ow_nil (blkK_n (seqK_n (cw_region (ol rfl (lo_add rfl rfl (rg_i64 (by omega))) ?_)))))
    refine omi rfl rfl (ow_nil ?_)
    refine next5 (k + 1) (out ++ c61) v73 en74 (cs ++ nw69) (upd_intro (upd_intro (mask_intro (by first | exact off_refl | (repeat (first | exact off_mask | refine off_upd rfl ?_ | refine off_mask2 rfl ?_)))) rfl) rfl) (lupd_intro (lmask_intro (by first | exact offl_refl | (repeat (first | exact offl_mask | refine offl_upd rfl ?_ | refine offl_mask2 rfl ?_)))) rfl) hl58 ?_ ?_
    · refine ⟨by omega, ?_, ho76, hrl77⟩
      rw [hk2, dropE hc62, List.flatten_cons]; simp
    omega
  have p78 := df h59
  refine cw_exit (seqK_e (loopK_e (blkK_hit (seqK_n (cw_seq ?_)))))
  refine cw_region (ol rfl (lo_move rfl) (ol rfl (lo_assign rfl) (ow_nil (seqK_n (cw_giveO 0 rfl (fun _ hl79 hg80 => ?_))))))
  have hs81 := slh_ownE (E := bindRE) bindRE_wide ho (hw.mono bindRE_mono ((HLe.refl _).trans hl79)) hg80
  obtain ⟨⟨a82, c83, rfl, -⟩, -⟩ := id hs81
  refine cw_ret (fnK_r (res1 rfl (rv_t (v := .slice _ _ _) rfl)) ((((HLe.refl _).trans hl2).trans hl58).trans hl79) ?_)
  have e : ls.flatten = out := by rw [hk2, List.drop_of_length_le (by omega)]; simp
  rw [e]
  exact ⟨_, _, rfl, hs81⟩
end Go.SW
set_option linter.unusedVariables false
set_option maxRecDepth 100000
set_option maxHeartbeats 4000000
namespace Go.SW
open Go.Proofs
theorem ag204 : Ag Tryz.prog 204 true := fun w => by kernel_rfl
theorem cb176 : Callable Tryz.prog 176 := callable_of Tryz.func176 (by kernel_rfl) (by kernel_rfl)
theorem cb177 : Callable Tryz.prog 177 := callable_of Tryz.func177 (by kernel_rfl) (by kernel_rfl)
theorem cb178 : Callable Tryz.prog 178 := callable_of Tryz.func178 (by kernel_rfl) (by kernel_rfl)
theorem sz204 : Sz Tryz.prog 204 2 := fun w => by kernel_rfl
theorem zr204 : Zr Tryz.prog 204 [.slice none 0 0, .slice none 0 0] := fun w => ⟨.agg #[.slice none 0 0, .slice none 0 0], by kernel_rfl, rfl⟩
theorem zx100 : ∃ z, ∀ w, (zeroValue 100).run Tryz.prog w = .ok z w := ⟨.agg #[str [], .int .u8 0, str []], fun w => by kernel_rfl⟩
theorem zx201 : ∃ z, ∀ w, (zeroValue 201).run Tryz.prog w = .ok z w := ⟨.slice none 0 0, fun w => by kernel_rfl⟩
theorem book_Make (H : Hp) (b : BookR) (b_shops_a : Option Addr) (b_shops_c : Nat) (b_shops_h : SlH shopRE 3 H (.slice b_shops_a b.shops.length b_shops_c) b.shops) (b_binds_a : Option Addr) (b_binds_c : Nat) (b_binds_h : SlH bindRE 6 H (.slice b_binds_a b.binds.length b_binds_c) b.binds) (b_w : BookR.wf b) (x : ShopR) (x_w : ShopR.wf x) : Ph Tryz.prog 148 #[.agg (BookR.cells b b_shops_a b_shops_c b_binds_a b_binds_c).toArray, .agg (ShopR.cells x).toArray] H (fun v H' => ∃ (a1 : Option Addr) (c1 : Nat) (a2 : Option Addr) (c2 : Nat), v = .tuple #[.agg (BookR.cells ((makeS b x).1) a1 c1 a2 c2).toArray, .int .i64 ((makeS b x).2)] ∧ SlH shopRE 3 H' (.slice a1 (((makeS b x).1).shops).length c1) (((makeS b x).1).shops) ∧ SlH bindRE 6 H' (.slice a2 (((makeS b x).1).binds).length c2) (((makeS b x).1).binds)) := by
  refine ph_cw Tryz.func148 rfl Tryz.ntmps148 rfl (fun N => ?_)
  have b_w' := b_w
  simp only [BookR.wf] at b_w'
  have x_w' := x_w
  simp only [ShopR.wf] at x_w'
  refine cw_seq (cw_region (ow1 (op1_box (cs := [_, _]) 0 rfl rfl (fun b1 => ?_))))
  refine ow1 (op1_box (cs := [_, _, _]) 1 rfl rfl (fun b2 => ?_))
  refine ow1 (op1_alloc 2 rfl zr204 (fun b3 => ?_))
  refine oai rfl rfl (ow_nil (seqK_n (cw_seq (cw_seq (cw_region ?_)))))
  refine ol rfl (lo_loadA (i := 1) (vs := [_, _, _]) rfl ag100 sz100 rfl rfl rfl) ?_
  refine ow1 (op1_pr (shop_check _ x x_w) (en_f cb176 rfl) rfl ?_)
  have := shopE_r x
  refine oai rfl rfl (ow_nil (seqK_n (cw_seq (cw_region (omi rfl rfl ?_)))))
  refine ol rfl (lo_neq rfl rfl) (ow_nil (seqK_n (cw_cond rfl (fun h4 => ?_) (fun h4 => ?_))))
  · have h5 := not_t h4
    have p6 := df h5
    refine cw_seq (cw_region (ol rfl (lo_loadA (i := 0) (vs := [_, _]) rfl ag204 sz204 rfl rfl rfl) (omi rfl rfl ?_)))
    refine ow1 (op1_storeAll (i := 2) (vs := [_, _]) rfl rfl rfl sz204 rfl rfl rfl ?_)
    refine oai rfl rfl (ow_nil (seqK_n (cw_ret (seqK_r (fnK_r (res2 rfl (rv_c (i := 2) (vs := [_, _]) rfl ag204 sz204 rfl rfl rfl) (rv_t (v := .int _ _) rfl)) (.refl _) ?_)))))
    have e : makeS b x = (b, shopE x) := by
      unfold makeS
      (repeat (first | rw [if_pos (by omega)] | rw [if_pos (by assumption)] | rw [if_pos (And.intro (by assumption) (by assumption))] | rw [if_pos (Or.inl (by assumption))] | rw [if_pos (Or.inr (by assumption))] | rw [if_neg (by omega)] | rw [if_neg (by assumption)] | rw [if_neg (not_not_intro (by assumption))] | rw [if_neg (nbt (by assumption))] | rw [if_neg (nbf (by assumption))] | rw [if_neg (nand_l (by assumption))] | rw [if_neg (nand_r (by assumption))] | rw [if_neg (nand_l (nbt (by assumption)))] | rw [if_neg (nand_r (nbt (by assumption)))] | rw [if_neg (nor_ (not_not_intro (by assumption)) (nbf (by assumption)))]))
      all_goals first | done | rfl
    rw [e]
    exact ⟨_, _, _, _, rfl, b_shops_h, b_binds_h⟩
  have h7 := not_f h4
  have p8 := dt h7
  refine cw_skip (seqK_n (cw_seq (cw_region (ol rfl (lo_loadA (i := 0) (vs := [_, _]) rfl ag204 sz204 rfl rfl rfl) (ol rfl (lo_fieldAddr rfl fl100_0) ?_)))))
  refine ol rfl (lo_load1 (i := 1) (v := str _) rfl ag9 rfl rfl) ?_
  refine ow1 (op1_pr (book_Shop _ b b_shops_a b_shops_c b_shops_h b_binds_a b_binds_c b_binds_h b_w x.name) (en_f cb177 rfl) rfl ?_)
  refine ol rfl (lo_move (v := .tuple #[_, _]) rfl) (ol rfl (lo_extract (v := .agg #[_, _, _]) rfl rfl) (ol rfl (lo_extract (v := .bool _) rfl rfl) (ow1 (op1_alloc 3 rfl zr100 (fun b9 => ?_)))))
  refine ow1 (op1_storeAll (i := 3) (vs := [_, _, _]) rfl rfl rfl sz100 rfl rfl rfl ?_)
  refine oab rfl rfl (ow_nil (seqK_n (cw_seq (cw_block (cw_seq ?_)))))
  refine cw_region (omb rfl rfl (omb rfl rfl (ow_sp (j := 1) rfl (fun h10 => ?_) (fun h10 => ?_))))
  · refine ow1 (op1_g rfl h10 rfl (lo_loadA (i := 1) (vs := [_, _, _]) rfl ag100 sz100 rfl rfl rfl) ?_)
    refine ow1 (op1_g rfl h10 rfl (lo_loadA (i := 3) (vs := [_, _, _]) rfl ag100 sz100 rfl rfl rfl) ?_)
    refine ow1 (op1_g rfl h10 rfl (lo_aeql (u := (ShopR.cells x).toArray) (v := (ShopR.cells ((shopOf b.shops x.name).getD ShopR.zero)).toArray) rfl rfl eqg100 (eqr100 _ _ 9998)) ?_)
    refine ol rfl (lo_pick_t (v := .bool _) rfl h10 rfl) (oab rfl rfl (ow_nil (seqK_n (cw_cond rfl (fun h11 => ?_) (fun h11 => ?_)))))
    · have p12 := dt h11
      refine cw_seq (cw_region (ol rfl (lo_loadA (i := 0) (vs := [_, _]) rfl ag204 sz204 rfl rfl rfl) ?_))
      refine ow1 (op1_storeAll (i := 2) (vs := [_, _]) rfl rfl rfl sz204 rfl rfl rfl ?_)
      refine oai rfl rfl (ow_nil (seqK_n (cw_ret (blkK_r (seqK_r ?_)))))
      refine fnK_r (res2 rfl (rv_c (i := 2) (vs := [_, _]) rfl ag204 sz204 rfl rfl rfl) (rv_t (v := .int _ _) rfl)) (.refl _) ?_
      have e : makeS b x = (b, 0) := by
        unfold makeS
        (repeat (first | rw [if_pos (by omega)] | rw [if_pos (by assumption)] | rw [if_pos (And.intro (by assumption) (by assumption))] | rw [if_pos (Or.inl (by assumption))] | rw [if_pos (Or.inr (by assumption))] | rw [if_neg (by omega)] | rw [if_neg (by assumption)] | rw [if_neg (not_not_intro (by assumption))] | rw [if_neg (nbt (by assumption))] | rw [if_neg (nbf (by assumption))] | rw [if_neg (nand_l (by assumption))] | rw [if_neg (nand_r (by assumption))] | rw [if_neg (nand_l (nbt (by assumption)))] | rw [if_neg (nand_r (nbt (by assumption)))] | rw [if_neg (nor_ (not_not_intro (by assumption)) (nbf (by assumption)))]))
        all_goals first | done | rfl
      rw [e]
      exact ⟨_, _, _, _, rfl, b_shops_h, b_binds_h⟩
    have p13 := df h11
    refine cw_seq (cw_region (omb rfl rfl (oab rfl rfl (ow_nil (seqK_n ?_)))))
    refine cw_cond_t rfl h10 (cw_seq (cw_region (ol rfl (lo_loadA (i := 0) (vs := [_, _]) rfl ag204 sz204 rfl rfl rfl) ?_)))
    refine ow1 (op1_storeAll (i := 2) (vs := [_, _]) rfl rfl rfl sz204 rfl rfl rfl ?_)
    refine oai rfl rfl (ow_nil (seqK_n (cw_ret (blkK_r (seqK_r ?_)))))
    refine fnK_r (res2 rfl (rv_c (i := 2) (vs := [_, _]) rfl ag204 sz204 rfl rfl rfl) (rv_t (v := .int _ _) rfl)) (.refl _) ?_
    have e : makeS b x = (b, 9) := by
      unfold makeS
      (repeat (first | rw [if_pos (by omega)] | rw [if_pos (by assumption)] | rw [if_pos (And.intro (by assumption) (by assumption))] | rw [if_pos (Or.inl (by assumption))] | rw [if_pos (Or.inr (by assumption))] | rw [if_neg (by omega)] | rw [if_neg (by assumption)] | rw [if_neg (not_not_intro (by assumption))] | rw [if_neg (nbt (by assumption))] | rw [if_neg (nbf (by assumption))] | rw [if_neg (nand_l (by assumption))] | rw [if_neg (nand_r (by assumption))] | rw [if_neg (nand_l (nbt (by assumption)))] | rw [if_neg (nand_r (nbt (by assumption)))] | rw [if_neg (nor_ (not_not_intro (by assumption)) (nbf (by assumption)))]))
      all_goals first | done | rfl
    rw [e]
    exact ⟨_, _, _, _, rfl, b_shops_h, b_binds_h⟩
  refine og rfl h10 rfl (og rfl h10 rfl (og rfl h10 rfl (ol rfl (lo_pick_f (v := .bool _) rfl h10 rfl) (oab rfl rfl (ow_nil ?_)))))
  refine seqK_n (cw_cond_f rfl rfl (cw_seq (cw_region (omb rfl rfl (oab rfl rfl ?_)))))
  refine ow_nil (seqK_n (cw_cond_f rfl h10 (cw_seq (cw_region (ol rfl (lo_fieldAddr rfl fl204_0) ?_)))))
  refine ol rfl (lo_load1 (i := 0) (v := .slice _ _ _) rfl ag201 rfl rfl) (ol rfl (lo_len_slh rfl b_shops_h Tryz.underlying201) (ol rfl (lo_geq rfl rfl) (oab rfl rfl (ow_nil (seqK_n ?_)))))
  refine cw_cond rfl (fun h14 => ?_) (fun h14 => ?_)
  · have p15 := dt h14
    refine cw_seq (cw_region (ol rfl (lo_loadA (i := 0) (vs := [_, _]) rfl ag204 sz204 rfl rfl rfl) ?_))
    refine ow1 (op1_storeAll (i := 2) (vs := [_, _]) rfl rfl rfl sz204 rfl rfl rfl ?_)
    refine oai rfl rfl (ow_nil (seqK_n (cw_ret (blkK_r (seqK_r ?_)))))
    refine fnK_r (res2 rfl (rv_c (i := 2) (vs := [_, _]) rfl ag204 sz204 rfl rfl rfl) (rv_t (v := .int _ _) rfl)) (.refl _) ?_
    have e : makeS b x = (b, 12) := by
      unfold makeS
      (repeat (first | rw [if_pos (by omega)] | rw [if_pos (by assumption)] | rw [if_pos (And.intro (by assumption) (by assumption))] | rw [if_pos (Or.inl (by assumption))] | rw [if_pos (Or.inr (by assumption))] | rw [if_neg (by omega)] | rw [if_neg (by assumption)] | rw [if_neg (not_not_intro (by assumption))] | rw [if_neg (nbt (by assumption))] | rw [if_neg (nbf (by assumption))] | rw [if_neg (nand_l (by assumption))] | rw [if_neg (nand_r (by assumption))] | rw [if_neg (nand_l (nbt (by assumption)))] | rw [if_neg (nand_r (nbt (by assumption)))] | rw [if_neg (nor_ (not_not_intro (by assumption)) (nbf (by assumption)))]))
      all_goals first | done | rfl
    rw [e]
    exact ⟨_, _, _, _, rfl, b_shops_h, b_binds_h⟩
  have p16 := df h14
  refine cw_skip (blkK_n (seqK_n (cw_seq (cw_region (ol rfl (lo_fieldAddr rfl fl204_0) ?_)))))
  refine ol rfl (lo_load1 (i := 0) (v := .slice _ _ _) rfl ag201 rfl rfl) (ol rfl (lo_loadA (i := 1) (vs := [_, _, _]) rfl ag100 sz100 rfl rfl rfl) ?_)
  refine ow1 (op1_bslice (cs := [_, _, _]) 4 rfl Tryz.underlying201 sz100 zx100 rfl ⟨rfl, rfl, trivial⟩ rfl rfl (by decide) (fun b17 => ?_))
  refine ow_giveO 4 rfl (fun _ hl18 hg19 => ?_)
  have hs20 := slh_bx (k := 3) (H := _) (enc := ShopR.cells) (wf := ShopR.wf) [x] (fun _ => rfl) (hg19 _ _ rfl) rfl rfl (Nat.le_refl _) (by first | (intro x hx; simp at hx; subst hx; first | omega | (simp; done) | (simp; omega)) | (simp; done) | (simp; omega))
  refine ow1 (op1_bslice (cs := [_, _]) 4 rfl Tryz.underlying241 sz201 zx201 rfl ⟨rfl, rfl, ⟨rfl, rfl, trivial⟩⟩ rfl rfl (by decide) (fun b21 => ?_))
  refine ow_giveO 4 rfl (fun _ hl22 hg23 => ?_)
  have hs24 := slh_bxE (E := (slE shopRE 3)) (H := _) (xs := [b.shops, [x]]) slE_wide (hg23 _ _ rfl) ⟨_, _, rfl, ⟨_, _, rfl, (b_shops_h.mono (((HLe.refl _).trans hl18).trans hl22) (fun _ _ h => h))⟩, ⟨_, _, rfl, ⟨_, _, rfl, (hs20.mono ((HLe.refl _).trans hl22) (fun _ _ h => h))⟩, rl_nil⟩⟩ rfl (Nat.le_refl _)
  refine ow1 (op1_ph (concat_Shop _ (some ⟨b21, 0, none⟩) 2 2 [b.shops, [x]] hs24 (by first | omega | (simp; done) | (simp; omega)) (by first | omega | (simp; done) | (simp; omega))) (en_f cb178 rfl) rfl ?_)
  rintro _ H29 ⟨a25, c26, rfl, hs27⟩ hl28
  refine ol rfl (lo_fieldAddr rfl fl204_0) ?_
  refine ow1 (op1_store1n (i := 0) (v := .slice _ _ _) [_, _] rfl rfl rfl sz201 rfl rfl rfl ?_)
  refine ow_nil (seqK_n (cw_seq (cw_region (ol rfl (lo_loadA (i := 0) (vs := [_, _]) rfl ag204 sz204 rfl rfl rfl) ?_))))
  refine ow1 (op1_storeAll (i := 2) (vs := [_, _]) rfl rfl rfl sz204 rfl rfl rfl ?_)
  refine oai rfl rfl (ow_nil (seqK_n (cw_ret (fnK_r (res2 rfl (rv_c (i := 2) (vs := [_, _]) rfl ag204 sz204 rfl rfl rfl) (rv_t (v := .int _ _) rfl)) ((((HLe.refl _).trans hl18).trans hl22).trans hl28) ?_))))
  have e : makeS b x = ((⟨([b.shops, [x]]).flatten, b.binds⟩ : BookR), 0) := by
    unfold makeS
    (repeat (first | rw [if_pos (by omega)] | rw [if_pos (by assumption)] | rw [if_pos (And.intro (by assumption) (by assumption))] | rw [if_pos (Or.inl (by assumption))] | rw [if_pos (Or.inr (by assumption))] | rw [if_neg (by omega)] | rw [if_neg (by assumption)] | rw [if_neg (not_not_intro (by assumption))] | rw [if_neg (nbt (by assumption))] | rw [if_neg (nbf (by assumption))] | rw [if_neg (nand_l (by assumption))] | rw [if_neg (nand_r (by assumption))] | rw [if_neg (nand_l (nbt (by assumption)))] | rw [if_neg (nand_r (nbt (by assumption)))] | rw [if_neg (nor_ (not_not_intro (by assumption)) (nbf (by assumption)))]))
    all_goals first | done | rfl
  rw [e]
  exact ⟨_, _, _, _, rfl, hs27, (b_binds_h.mono ((((HLe.refl _).trans hl18).trans hl22).trans hl28) (fun _ _ q => bindRE_mono _ _ _ _ ((((HLe.refl _).trans hl18).trans hl22).trans hl28) q))⟩
end Go.SW
set_option linter.unusedVariables false
set_option maxRecDepth 100000
set_option maxHeartbeats 4000000
namespace Go.SW
open Go.Proofs
theorem bd222_0u8_1s_2l_3b (a1 : Int) (a2 : Bs) (a3 : Option Addr) (a3l a3c : Nat) (a4 : Bool) (w : World) : (Instr.build 222 #[(0, .int .u8 a1), (1, str a2), (2, .slice a3 a3l a3c), (3, .bool a4)]).run Tryz.prog w = .ok (.agg #[.int .u8 a1, str a2, .slice a3 a3l a3c, .bool a4]) w := by kernel_rfl
theorem cb179 : Callable Tryz.prog 179 := callable_of Tryz.func179 (by kernel_rfl) (by kernel_rfl)
theorem cb193 : Callable Tryz.prog 193 := callable_of Tryz.func193 (by kernel_rfl) (by kernel_rfl)
theorem cb194 : Callable Tryz.prog 194 := callable_of Tryz.func194 (by kernel_rfl) (by kernel_rfl)
theorem cb196 : Callable Tryz.prog 196 := callable_of Tryz.func196 (by kernel_rfl) (by kernel_rfl)
theorem cb205 : Callable Tryz.prog 205 := callable_of Tryz.func205 (by kernel_rfl) (by kernel_rfl)
theorem fl204_1 : Fld Tryz.prog 204 1 1 := fun b o w => by kernel_rfl
theorem bind_rule (H : Hp) (x : BindR) (x_want_a : Option Addr) (x_want_c : Nat) (x_want_h : SlH pairE 4 H (.slice x_want_a x.want.length x_want_c) x.want) (x_w : BindR.wf x) (sort : Int) (sort_r : 0 ≤ sort ∧ sort ≤ 255) : Ph Tryz.prog 179 #[.agg (BindR.cells x x_want_a x_want_c).toArray, .int .u8 sort] H (fun v H' => ∃ (a1 : Option Addr) (c1 : Nat), v = .agg (Rule.cells (bindRule x sort) a1 c1).toArray ∧ SlH pairE 4 H' (.slice a1 ((bindRule x sort).want).length c1) ((bindRule x sort).want)) := by
  refine ph_cw Tryz.func179 rfl Tryz.ntmps179 rfl (fun N => ?_)
  have x_w' := x_w
  simp only [BindR.wf] at x_w'
  refine cw_seq (cw_region (ow1 (op1_box (cs := [_, _, _, _, _, _]) 0 rfl rfl (fun b1 => ?_))))
  refine ow1 (op1_alloc 1 rfl zr222 (fun b2 => ?_))
  refine ow_nil (seqK_n (cw_seq (cw_region (omi rfl rfl (ol rfl (lo_fieldAddr rfl fl104_3) ?_)))))
  refine ol rfl (lo_load1 (i := 0) (v := str _) rfl ag9 rfl rfl) (ol rfl (lo_fieldAddr rfl fl104_4) (ol rfl (lo_load1 (i := 0) (v := .slice _ _ _) rfl ag40 rfl rfl) (ol rfl (lo_fieldAddr rfl fl104_5) (ol rfl (lo_load1 (i := 0) (v := .bool _) rfl ag4 rfl rfl) (ol rfl (lo_build (v := .agg #[_, _, _, _]) rfl (bd222_0u8_1s_2l_3b _ _ _ _ _ _)) ?_)))))
  refine ow1 (op1_storeAll (i := 1) (vs := [_, _, _, _]) rfl rfl rfl sz222 rfl rfl rfl ?_)
  refine ow_nil (seqK_n (cw_ret (fnK_r (res1 rfl (rv_c (i := 1) (vs := [_, _, _, _]) rfl ag222 sz222 rfl rfl rfl)) (.refl _) ?_)))
  exact ⟨_, _, rfl, x_want_h⟩
theorem bind_same (H : Hp) (x : BindR) (x_want_a : Option Addr) (x_want_c : Nat) (x_want_h : SlH pairE 4 H (.slice x_want_a x.want.length x_want_c) x.want) (x_w : BindR.wf x) (y : BindR) (y_want_a : Option Addr) (y_want_c : Nat) (y_want_h : SlH pairE 4 H (.slice y_want_a y.want.length y_want_c) y.want) (y_w : BindR.wf y) : Pr Tryz.prog 194 #[.agg (BindR.cells x x_want_a x_want_c).toArray, .agg (BindR.cells y y_want_a y_want_c).toArray] H (.bool (decide (x = y))) := by
  refine pr_cw Tryz.func194 rfl Tryz.ntmps194 rfl (fun N => ?_)
  have x_w' := x_w
  simp only [BindR.wf] at x_w'
  have y_w' := y_w
  simp only [BindR.wf] at y_w'
  refine cw_seq (cw_region (ow1 (op1_box (cs := [_, _, _, _, _, _]) 0 rfl rfl (fun b1 => ?_))))
  refine ow1 (op1_box (cs := [_, _, _, _, _, _]) 1 rfl rfl (fun b2 => ?_))
  refine oab rfl rfl (ow_nil (seqK_n (cw_seq (cw_anyL mixd (vw_q 0 rfl (by kernel_rfl) (by repeat (first | exact lle_l0 | exact LLe.refl _ | exact lle_none | refine lle_up ?_ rfl)) (fun _ _ hh hl => lo_fieldAddr rfl fl104_0) ?_)))))
  refine vw_q 1 rfl (by kernel_rfl) (by repeat (first | exact lle_l0 | exact LLe.refl _ | exact lle_none | refine lle_up ?_ rfl)) (fun _ _ hh hl => lo_load1 (i := 0) (v := str _) rfl ag9 (hl _ _ rfl) rfl) ?_
  refine vw_q 2 rfl (by kernel_rfl) (by repeat (first | exact lle_l0 | exact LLe.refl _ | exact lle_none | refine lle_up ?_ rfl)) (fun _ _ hh hl => lo_fieldAddr rfl fl104_0) ?_
  refine vw_q 3 rfl (by kernel_rfl) (by repeat (first | exact lle_l0 | exact LLe.refl _ | exact lle_none | refine lle_up ?_ rfl)) (fun _ _ hh hl => lo_load1 (i := 1) (v := str _) rfl ag9 (hl _ _ rfl) rfl) ?_
  refine vw_q 4 rfl (by kernel_rfl) (by repeat (first | exact lle_l0 | exact LLe.refl _ | exact lle_none | refine lle_up ?_ rfl)) (fun _ _ hh hl => lo_seql rfl rfl) ?_
  refine vw_q 5 rfl (by kernel_rfl) (by repeat (first | exact lle_l0 | exact LLe.refl _ | exact lle_none | refine lle_up ?_ rfl)) (fun _ _ hh hl => lo_move (v := .bool _) rfl) ?_
  refine vw_sp (j := 5) rfl (fun h3 => ?_) (fun h3 => ?_)
  · have p4 := dt h3
    refine vw_qg 6 rfl (by kernel_rfl) (by repeat (first | exact lle_l0 | exact LLe.refl _ | exact lle_none | refine lle_up ?_ rfl)) rfl h3 (fun _ _ hh hl => lo_fieldAddr rfl fl104_1) ?_
    refine vw_qg 7 rfl (by kernel_rfl) (by repeat (first | exact lle_l0 | exact LLe.refl _ | exact lle_none | refine lle_up ?_ rfl)) rfl h3 (fun _ _ hh hl => lo_load1 (i := 0) (v := str _) rfl ag9 (hl _ _ rfl) rfl) ?_
    refine vw_qg 8 rfl (by kernel_rfl) (by repeat (first | exact lle_l0 | exact LLe.refl _ | exact lle_none | refine lle_up ?_ rfl)) rfl h3 (fun _ _ hh hl => lo_fieldAddr rfl fl104_1) ?_
    refine vw_qg 9 rfl (by kernel_rfl) (by repeat (first | exact lle_l0 | exact LLe.refl _ | exact lle_none | refine lle_up ?_ rfl)) rfl h3 (fun _ _ hh hl => lo_load1 (i := 1) (v := str _) rfl ag9 (hl _ _ rfl) rfl) ?_
    refine vw_qg 10 rfl (by kernel_rfl) (by repeat (first | exact lle_l0 | exact LLe.refl _ | exact lle_none | refine lle_up ?_ rfl)) rfl h3 (fun _ _ hh hl => lo_seql rfl rfl) ?_
    refine vw_q 11 rfl (by kernel_rfl) (by repeat (first | exact lle_l0 | exact LLe.refl _ | exact lle_none | refine lle_up ?_ rfl)) (fun _ _ hh hl => lo_pick_t (v := .bool _) rfl h3 rfl) ?_
    refine vw_q 12 rfl (by kernel_rfl) (by repeat (first | exact lle_l0 | exact LLe.refl _ | exact lle_none | refine lle_up ?_ rfl)) (fun _ _ hh hl => lo_move (v := .bool _) rfl) ?_
    refine vw_sp (j := 12) rfl (fun h5 => ?_) (fun h5 => ?_)
    · have p6 := dt h5
      refine vw_qg 13 rfl (by kernel_rfl) (by repeat (first | exact lle_l0 | exact LLe.refl _ | exact lle_none | refine lle_up ?_ rfl)) rfl h5 (fun _ _ hh hl => lo_fieldAddr rfl fl104_2) ?_
      refine vw_qg 14 rfl (by kernel_rfl) (by repeat (first | exact lle_l0 | exact LLe.refl _ | exact lle_none | refine lle_up ?_ rfl)) rfl h5 (fun _ _ hh hl => lo_load1 (i := 0) (v := .bool _) rfl ag4 (hl _ _ rfl) rfl) ?_
      refine vw_qg 15 rfl (by kernel_rfl) (by repeat (first | exact lle_l0 | exact LLe.refl _ | exact lle_none | refine lle_up ?_ rfl)) rfl h5 (fun _ _ hh hl => lo_fieldAddr rfl fl104_2) ?_
      refine vw_qg 16 rfl (by kernel_rfl) (by repeat (first | exact lle_l0 | exact LLe.refl _ | exact lle_none | refine lle_up ?_ rfl)) rfl h5 (fun _ _ hh hl => lo_load1 (i := 1) (v := .bool _) rfl ag4 (hl _ _ rfl) rfl) ?_
      refine vw_qg 17 rfl (by kernel_rfl) (by repeat (first | exact lle_l0 | exact LLe.refl _ | exact lle_none | refine lle_up ?_ rfl)) rfl h5 (fun _ _ hh hl => lo_beql rfl rfl Tryz.underlying4) ?_
      refine vw_q 18 rfl (by kernel_rfl) (by repeat (first | exact lle_l0 | exact LLe.refl _ | exact lle_none | refine lle_up ?_ rfl)) (fun _ _ hh hl => lo_pick_t (v := .bool _) rfl h5 rfl) ?_
      refine vw_q 19 rfl (by kernel_rfl) (by repeat (first | exact lle_l0 | exact LLe.refl _ | exact lle_none | refine lle_up ?_ rfl)) (fun _ _ hh hl => lo_move (v := .bool _) rfl) ?_
      refine vw_sp (j := 19) rfl (fun h7 => ?_) (fun h7 => ?_)
      · have p8 := beqT h7
        refine vw_qg 20 rfl (by kernel_rfl) (by repeat (first | exact lle_l0 | exact LLe.refl _ | exact lle_none | refine lle_up ?_ rfl)) rfl h7 (fun _ _ hh hl => lo_loadA (i := 0) (vs := [_, _, _, _, _, _]) rfl ag104 sz104 (hl _ _ rfl) rfl rfl) ?_
        refine vw_qg 22 rfl (by kernel_rfl) (by repeat (first | exact lle_l0 | exact LLe.refl _ | exact lle_none | refine lle_up ?_ rfl)) rfl h7 (fun _ _ hh hl => lo_loadA (i := 1) (vs := [_, _, _, _, _, _]) rfl ag104 sz104 (hl _ _ rfl) rfl rfl) ?_
        refine vw_e 21 rfl (by kernel_rfl) (op1_phg rfl h7 (bind_rule _ x x_want_a x_want_c x_want_h x_w 0 (by omega)) (en_f cb179 rfl) rfl ?_)
        rintro _ H13 ⟨a9, c10, rfl, hs11⟩ hl12
        refine ⟨⟨((HLe.refl _).trans hl12), (by repeat (first | exact lle_l0 | exact LLe.refl _ | exact lle_none | refine lle_up ?_ rfl))⟩, ?_⟩
        refine vw_e 23 rfl (by kernel_rfl) (op1_phg rfl h7 (bind_rule _ y y_want_a y_want_c (y_want_h.mono ((HLe.refl _).trans hl12) (fun _ _ h => h)) y_w 0 (by omega)) (en_f cb179 rfl) rfl ?_)
        rintro _ H18 ⟨a14, c15, rfl, hs16⟩ hl17
        refine ⟨⟨((HLe.refl _).trans hl17), (by repeat (first | exact lle_l0 | exact LLe.refl _ | exact lle_none | refine lle_up ?_ rfl))⟩, ?_⟩
        refine vw_qgc 24 rfl (by kernel_rfl) (by repeat (first | exact lle_l0 | exact LLe.refl _ | exact lle_none | refine lle_up ?_ rfl)) rfl h7 (match_Same _ (bindRule x 0) a9 c10 (hs11.mono ((HLe.refl _).trans hl17) (fun _ _ h => h)) (bindRule_wf x_w (by omega)) (bindRule y 0) a14 c15 hs16 (bindRule_wf y_w (by omega))) (en_f cb205 rfl) ?_
        refine vw_q 25 rfl (by kernel_rfl) (by repeat (first | exact lle_l0 | exact LLe.refl _ | exact lle_none | refine lle_up ?_ rfl)) (fun _ _ hh hl => lo_pick_t (v := .bool _) rfl h7 rfl) ?_
        refine vw_q 26 rfl (by kernel_rfl) (by repeat (first | exact lle_l0 | exact LLe.refl _ | exact lle_none | refine lle_up ?_ rfl)) (fun _ _ hh hl => lo_assign (v := .bool _) rfl) ?_
        refine vw_done (by kernel_rfl) (seqK_n (cw_ret (fnK_r (res1 rfl (rv_t (v := .bool _) rfl)) (((HLe.refl _).trans hl12).trans hl17) ?_)))
        first | (simp [BindR.eq_iff, bindRule, *]; done) | (simp [BindR.eq_iff, bindRule, *]; cases x.all <;> cases y.all <;> rfl)
      have p19 := beqF h7
      refine vw_qgs 20 rfl (by kernel_rfl) (by repeat (first | exact lle_l0 | exact LLe.refl _ | exact lle_none | refine lle_up ?_ rfl)) rfl h7 ?_
      refine vw_qgs 21 rfl (by kernel_rfl) (by repeat (first | exact lle_l0 | exact LLe.refl _ | exact lle_none | refine lle_up ?_ rfl)) rfl h7 ?_
      refine vw_qgs 22 rfl (by kernel_rfl) (by repeat (first | exact lle_l0 | exact LLe.refl _ | exact lle_none | refine lle_up ?_ rfl)) rfl h7 ?_
      refine vw_qgs 23 rfl (by kernel_rfl) (by repeat (first | exact lle_l0 | exact LLe.refl _ | exact lle_none | refine lle_up ?_ rfl)) rfl h7 ?_
      refine vw_qgs 24 rfl (by kernel_rfl) (by repeat (first | exact lle_l0 | exact LLe.refl _ | exact lle_none | refine lle_up ?_ rfl)) rfl h7 ?_
      refine vw_q 25 rfl (by kernel_rfl) (by repeat (first | exact lle_l0 | exact LLe.refl _ | exact lle_none | refine lle_up ?_ rfl)) (fun _ _ hh hl => lo_pick_f (v := .bool _) rfl h7 rfl) ?_
      refine vw_q 26 rfl (by kernel_rfl) (by repeat (first | exact lle_l0 | exact LLe.refl _ | exact lle_none | refine lle_up ?_ rfl)) (fun _ _ hh hl => lo_assign (v := .bool _) rfl) ?_
      refine vw_done (by kernel_rfl) (seqK_n (cw_ret (fnK_r (res1 rfl (rv_t (v := .bool _) rfl)) (.refl _) ?_)))
      first | (simp [BindR.eq_iff, bindRule, *]; done) | (simp [BindR.eq_iff, bindRule, *]; cases x.all <;> cases y.all <;> rfl)
    have p20 := df h5
    refine vw_qgs 13 rfl (by kernel_rfl) (by repeat (first | exact lle_l0 | exact LLe.refl _ | exact lle_none | refine lle_up ?_ rfl)) rfl h5 ?_
    refine vw_qgs 14 rfl (by kernel_rfl) (by repeat (first | exact lle_l0 | exact LLe.refl _ | exact lle_none | refine lle_up ?_ rfl)) rfl h5 ?_
    refine vw_qgs 15 rfl (by kernel_rfl) (by repeat (first | exact lle_l0 | exact LLe.refl _ | exact lle_none | refine lle_up ?_ rfl)) rfl h5 ?_
    refine vw_qgs 16 rfl (by kernel_rfl) (by repeat (first | exact lle_l0 | exact LLe.refl _ | exact lle_none | refine lle_up ?_ rfl)) rfl h5 ?_
    refine vw_qgs 17 rfl (by kernel_rfl) (by repeat (first | exact lle_l0 | exact LLe.refl _ | exact lle_none | refine lle_up ?_ rfl)) rfl h5 ?_
    refine vw_q 18 rfl (by kernel_rfl) (by repeat (first | exact lle_l0 | exact LLe.refl _ | exact lle_none | refine lle_up ?_ rfl)) (fun _ _ hh hl => lo_pick_f (v := .bool _) rfl h5 rfl) ?_
    refine vw_q 19 rfl (by kernel_rfl) (by repeat (first | exact lle_l0 | exact LLe.refl _ | exact lle_none | refine lle_up ?_ rfl)) (fun _ _ hh hl => lo_move (v := .bool _) rfl) ?_
    refine vw_qgs 20 rfl (by kernel_rfl) (by repeat (first | exact lle_l0 | exact LLe.refl _ | exact lle_none | refine lle_up ?_ rfl)) rfl rfl ?_
    refine vw_qgs 21 rfl (by kernel_rfl) (by repeat (first | exact lle_l0 | exact LLe.refl _ | exact lle_none | refine lle_up ?_ rfl)) rfl rfl ?_
    refine vw_qgs 22 rfl (by kernel_rfl) (by repeat (first | exact lle_l0 | exact LLe.refl _ | exact lle_none | refine lle_up ?_ rfl)) rfl rfl ?_
    refine vw_qgs 23 rfl (by kernel_rfl) (by repeat (first | exact lle_l0 | exact LLe.refl _ | exact lle_none | refine lle_up ?_ rfl)) rfl rfl ?_
    refine vw_qgs 24 rfl (by kernel_rfl) (by repeat (first | exact lle_l0 | exact LLe.refl _ | exact lle_none | refine lle_up ?_ rfl)) rfl rfl ?_
    refine vw_q 25 rfl (by kernel_rfl) (by repeat (first | exact lle_l0 | exact LLe.refl _ | exact lle_none | refine lle_up ?_ rfl)) (fun _ _ hh hl => lo_pick_f (v := .bool _) rfl rfl rfl) ?_
    refine vw_q 26 rfl (by kernel_rfl) (by repeat (first | exact lle_l0 | exact LLe.refl _ | exact lle_none | refine lle_up ?_ rfl)) (fun _ _ hh hl => lo_assign (v := .bool _) rfl) ?_
    refine vw_done (by kernel_rfl) (seqK_n (cw_ret (fnK_r (res1 rfl (rv_t (v := .bool _) rfl)) (.refl _) ?_)))
    first | (simp [BindR.eq_iff, bindRule, *]; done) | (simp [BindR.eq_iff, bindRule, *]; cases x.all <;> cases y.all <;> rfl)
  have p21 := df h3
  refine vw_qgs 6 rfl (by kernel_rfl) (by repeat (first | exact lle_l0 | exact LLe.refl _ | exact lle_none | refine lle_up ?_ rfl)) rfl h3 ?_
  refine vw_qgs 7 rfl (by kernel_rfl) (by repeat (first | exact lle_l0 | exact LLe.refl _ | exact lle_none | refine lle_up ?_ rfl)) rfl h3 ?_
  refine vw_qgs 8 rfl (by kernel_rfl) (by repeat (first | exact lle_l0 | exact LLe.refl _ | exact lle_none | refine lle_up ?_ rfl)) rfl h3 ?_
  refine vw_qgs 9 rfl (by kernel_rfl) (by repeat (first | exact lle_l0 | exact LLe.refl _ | exact lle_none | refine lle_up ?_ rfl)) rfl h3 ?_
  refine vw_qgs 10 rfl (by kernel_rfl) (by repeat (first | exact lle_l0 | exact LLe.refl _ | exact lle_none | refine lle_up ?_ rfl)) rfl h3 ?_
  refine vw_q 11 rfl (by kernel_rfl) (by repeat (first | exact lle_l0 | exact LLe.refl _ | exact lle_none | refine lle_up ?_ rfl)) (fun _ _ hh hl => lo_pick_f (v := .bool _) rfl h3 rfl) ?_
  refine vw_q 12 rfl (by kernel_rfl) (by repeat (first | exact lle_l0 | exact LLe.refl _ | exact lle_none | refine lle_up ?_ rfl)) (fun _ _ hh hl => lo_move (v := .bool _) rfl) ?_
  refine vw_qgs 13 rfl (by kernel_rfl) (by repeat (first | exact lle_l0 | exact LLe.refl _ | exact lle_none | refine lle_up ?_ rfl)) rfl rfl ?_
  refine vw_qgs 14 rfl (by kernel_rfl) (by repeat (first | exact lle_l0 | exact LLe.refl _ | exact lle_none | refine lle_up ?_ rfl)) rfl rfl ?_
  refine vw_qgs 15 rfl (by kernel_rfl) (by repeat (first | exact lle_l0 | exact LLe.refl _ | exact lle_none | refine lle_up ?_ rfl)) rfl rfl ?_
  refine vw_qgs 16 rfl (by kernel_rfl) (by repeat (first | exact lle_l0 | exact LLe.refl _ | exact lle_none | refine lle_up ?_ rfl)) rfl rfl ?_
  refine vw_qgs 17 rfl (by kernel_rfl) (by repeat (first | exact lle_l0 | exact LLe.refl _ | exact lle_none | refine lle_up ?_ rfl)) rfl rfl ?_
  refine vw_q 18 rfl (by kernel_rfl) (by repeat (first | exact lle_l0 | exact LLe.refl _ | exact lle_none | refine lle_up ?_ rfl)) (fun _ _ hh hl => lo_pick_f (v := .bool _) rfl rfl rfl) ?_
  refine vw_q 19 rfl (by kernel_rfl) (by repeat (first | exact lle_l0 | exact LLe.refl _ | exact lle_none | refine lle_up ?_ rfl)) (fun _ _ hh hl => lo_move (v := .bool _) rfl) ?_
  refine vw_qgs 20 rfl (by kernel_rfl) (by repeat (first | exact lle_l0 | exact LLe.refl _ | exact lle_none | refine lle_up ?_ rfl)) rfl rfl ?_
  refine vw_qgs 21 rfl (by kernel_rfl) (by repeat (first | exact lle_l0 | exact LLe.refl _ | exact lle_none | refine lle_up ?_ rfl)) rfl rfl ?_
  refine vw_qgs 22 rfl (by kernel_rfl) (by repeat (first | exact lle_l0 | exact LLe.refl _ | exact lle_none | refine lle_up ?_ rfl)) rfl rfl ?_
  refine vw_qgs 23 rfl (by kernel_rfl) (by repeat (first | exact lle_l0 | exact LLe.refl _ | exact lle_none | refine lle_up ?_ rfl)) rfl rfl ?_
  refine vw_qgs 24 rfl (by kernel_rfl) (by repeat (first | exact lle_l0 | exact LLe.refl _ | exact lle_none | refine lle_up ?_ rfl)) rfl rfl ?_
  refine vw_q 25 rfl (by kernel_rfl) (by repeat (first | exact lle_l0 | exact LLe.refl _ | exact lle_none | refine lle_up ?_ rfl)) (fun _ _ hh hl => lo_pick_f (v := .bool _) rfl rfl rfl) ?_
  refine vw_q 26 rfl (by kernel_rfl) (by repeat (first | exact lle_l0 | exact LLe.refl _ | exact lle_none | refine lle_up ?_ rfl)) (fun _ _ hh hl => lo_assign (v := .bool _) rfl) ?_
  refine vw_done (by kernel_rfl) (seqK_n (cw_ret (fnK_r (res1 rfl (rv_t (v := .bool _) rfl)) (.refl _) ?_)))
  first | (simp [BindR.eq_iff, bindRule, *]; done) | (simp [BindR.eq_iff, bindRule, *]; cases x.all <;> cases y.all <;> rfl)
theorem bind_clone (H : Hp) (x : BindR) (x_want_a : Option Addr) (x_want_c : Nat) (x_want_h : SlH pairE 4 H (.slice x_want_a x.want.length x_want_c) x.want) (x_w : BindR.wf x) (hl : x.want.length ≤ 1000000) : Ph Tryz.prog 182 #[.agg (BindR.cells x x_want_a x_want_c).toArray] H (fun v H' => ∃ (a1 : Option Addr) (c1 : Nat), v = .agg (BindR.cells x a1 c1).toArray ∧ SlH pairE 4 H' (.slice a1 x.want.length c1) x.want) := by
  refine ph_cw Tryz.func182 rfl Tryz.ntmps182 rfl (fun N => ?_)
  have x_w' := x_w
  simp only [BindR.wf] at x_w'
  refine cw_seq (cw_region (ow1 (op1_box (cs := [_, _, _, _, _, _]) 0 rfl rfl (fun b1 => ?_))))
  refine ow1 (op1_alloc 1 rfl zr104 (fun b2 => ?_))
  refine ow_nil (seqK_n (cw_seq (cw_region (ol rfl (lo_fieldAddr rfl fl104_4) (ol rfl (lo_load1 (i := 0) (v := .slice _ _ _) rfl ag40 rfl rfl) ?_)))))
  refine ow1 (op1_ph (clone_Pair _ x_want_a x.want.length x_want_c x.want x_want_h (by first | omega | (simp; done) | (simp; omega))) (en_f cb196 rfl) rfl ?_)
  rintro _ H7 ⟨a3, c4, rfl, hs5⟩ hl6
  refine ol rfl (lo_fieldAddr rfl fl104_4) ?_
  refine ow1 (op1_store1n (i := 0) (v := .slice _ _ _) [_, _, _, _, _, _] rfl rfl rfl sz40 rfl rfl rfl ?_)
  refine ow_nil (seqK_n (cw_seq (cw_region (ol rfl (lo_loadA (i := 0) (vs := [_, _, _, _, _, _]) rfl ag104 sz104 rfl rfl rfl) ?_))))
  refine ow1 (op1_storeAll (i := 1) (vs := [_, _, _, _, _, _]) rfl rfl rfl sz104 rfl rfl rfl ?_)
  refine ow_nil (seqK_n (cw_ret (fnK_r (res1 rfl (rv_c (i := 1) (vs := [_, _, _, _, _, _]) rfl ag104 sz104 rfl rfl rfl)) ((HLe.refl _).trans hl6) ?_)))
  exact ⟨_, _, rfl, hs5⟩
theorem book_there (H : Hp) (b : BookR) (b_shops_a : Option Addr) (b_shops_c : Nat) (b_shops_h : SlH shopRE 3 H (.slice b_shops_a b.shops.length b_shops_c) b.shops) (b_binds_a : Option Addr) (b_binds_c : Nat) (b_binds_h : SlH bindRE 6 H (.slice b_binds_a b.binds.length b_binds_c) b.binds) (b_w : BookR.wf b) (x : BindR) (x_want_a : Option Addr) (x_want_c : Nat) (x_want_h : SlH pairE 4 H (.slice x_want_a x.want.length x_want_c) x.want) (x_w : BindR.wf x) : Pr Tryz.prog 180 #[.agg (BookR.cells b b_shops_a b_shops_c b_binds_a b_binds_c).toArray, .agg (BindR.cells x x_want_a x_want_c).toArray] H (.int .i64 (idxP (fun y => decide (x = y)) b.binds)) := by
  refine pr_cw Tryz.func180 rfl Tryz.ntmps180 rfl (fun N => ?_)
  have b_w' := b_w
  simp only [BookR.wf] at b_w'
  have x_w' := x_w
  simp only [BindR.wf] at x_w'
  refine cw_seq (cw_region (ow1 (op1_box (cs := [_, _]) 0 rfl rfl (fun b1 => ?_))))
  refine ow1 (op1_box (cs := [_, _, _, _, _, _]) 1 rfl rfl (fun b2 => ?_))
  refine oai rfl rfl (ow_nil (seqK_n (cw_seq (cw_region (ol rfl (lo_fieldAddr rfl fl204_1) ?_)))))
  refine ol rfl (lo_load1 (i := 0) (v := .slice _ _ _) rfl ag202 rfl rfl) (ol rfl (lo_loadA (i := 1) (vs := [_, _, _, _, _, _]) rfl ag104 sz104 rfl rfl rfl) (ol rfl (lo_makeFuncB (fs := [_]) (cap := []) rfl rfl) ?_))
  refine ow1 (op1_in (en_f cb193 rfl) Tryz.func193 rfl Tryz.ntmps193 rfl rfl ?_)
  refine cw_seq (cw_region (oai rfl rfl (ow_nil (seqK_n (cw_seq ?_)))))
  refine cw_seq (cw_region (ol rfl (lo_move (v := .slice _ _ _) rfl) (ol rfl (lo_len_slh rfl b_binds_h Tryz.underlying202) (omi rfl rfl (ow_nil ?_)))))
  refine seqK_n (cw_block (cw_loop1 [4, 5, 8, 9, 10, 11, 12, 13, 14, 15, 16, 17, 18] [] (fun (k : Nat) G => upd (G) 8 (.int .i64 (k : Int))) (fun (k : Nat) G => G) (fun (k : Nat) H' => k ≤ b.binds.length ∧ idxP (fun y => decide (x = y)) b.binds = idxF (fun y => decide (x = y)) k (b.binds.drop k)) (fun (k : Nat) => b.binds.length - k) 0 (upd_intro (mask_intro (by first | exact off_refl | (repeat (first | exact off_mask | refine off_upd rfl ?_ | refine off_mask2 rfl ?_)))) rfl) (lmask_intro offl_refl) ?_ ?_))
  · exact ⟨Nat.zero_le _, rfl⟩
  intro k J4 JL4 H4 hp3 hl4
  obtain ⟨hik1, hik2⟩ := hp3
  refine cw_seq (cw_region (ol rfl (lo_lss rfl rfl) (ow_nil (seqK_n (cw_seq ?_)))))
  refine cw_cond rfl (fun h5 => ?_) (fun h5 => ?_)
  · have p6 := dt h5
    refine cw_skip (seqK_n (cw_seq (cw_block (cw_seq (cw_region ?_)))))
    refine omi rfl rfl (oai rfl rfl (ow_nil (seqK_n (cw_seq (cw_region ?_)))))
    refine ol rfl (lo_move rfl) (ol rfl (lo_move (v := .slice _ _ _) rfl) (omi rfl rfl ?_))
    obtain ⟨c7, hc8⟩ := getE (xs := b.binds) (m := k) (by omega)
    obtain ⟨cs9, hE10, at11⟩ := (b_binds_h.mono ((HLe.refl _).trans hl4) (fun _ _ q => bindRE_mono _ _ _ _ ((HLe.refl _).trans hl4) q)).get hc8
    obtain ⟨a12, c13, rfl, hs14, c7_w⟩ := hE10
    have c7_w' := c7_w
    simp only [BindR.wf] at c7_w'
    refine ol rfl (lo_indexAddr rfl rfl (b_binds_h.mono ((HLe.refl _).trans hl4) (fun _ _ q => bindRE_mono _ _ _ _ ((HLe.refl _).trans hl4) q)).1 at11 Tryz.underlying202 sz104 (by omega) (by omega)) (ol rfl (lo_loadEA rfl ag104 sz104 at11) (ow1 (op1_pr (bind_same _ x x_want_a x_want_c (x_want_h.mono ((HLe.refl _).trans hl4) (fun _ _ h => h)) x_w c7 a12 c13 hs14 c7_w) (en_b rfl cb194 rfl) rfl ?_)))
    refine ow_nil (seqK_n (cw_cond rfl (fun h15 => ?_) (fun h15 => ?_)))
    · have p16 := dt h15
      refine cw_seq (cw_region (omi rfl rfl (oai rfl rfl (ow_nil (seqK_n ?_)))))
      refine cw_ret (blkK_r (seqK_r (loopK_r (blkK_r (seqK_r ?_)))))
      refine fnK_r (res1 rfl (rv_t (v := .int _ _) rfl)) ((HLe.refl _).trans hl4) (oai rfl rfl (ow_nil (seqK_n (cw_ret (fnK_r (res1 rfl (rv_t (v := .int _ _) rfl)) ((HLe.refl _).trans hl4) ?_)))))
      exact congrArg (Value.int .i64) (idx_hit hik2 (dropE hc8) (by first | assumption | (simp [*]; done))).symm
    have p17 := df h15
    refine cw_skip (blkK_n (seqK_n (cw_region (ol rfl (lo_add rfl rfl (rg_i64 (by omega))) (omi rfl rfl ?_)))))
    refine ow_nil ?_
    refine next1 (k + 1) (upd_intro (mask_intro (by first | exact off_refl | (repeat (first | exact off_mask | refine off_upd rfl ?_ | refine off_mask2 rfl ?_)))) rfl) (lmask_intro (by first | exact offl_refl | (repeat (first | exact offl_mask | refine offl_upd rfl ?_ | refine offl_mask2 rfl ?_)))) hl4 ?_ ?_
    · exact ⟨by omega, idx_miss hik2 (dropE hc8) (by first | assumption | (simp [*]; done))⟩
    omega
  have p18 := df h5
  refine cw_exit (seqK_e (loopK_e (blkK_hit (seqK_n (cw_seq ?_)))))
  refine cw_region (oai rfl rfl (ow_nil (seqK_n (cw_ret (fnK_r (res1 rfl (rv_t (v := .int _ _) rfl)) ((HLe.refl _).trans hl4) ?_)))))
  refine oai rfl rfl (ow_nil (seqK_n (cw_ret (fnK_r (res1 rfl (rv_t (v := .int _ _) rfl)) ((HLe.refl _).trans hl4) ?_))))
  exact congrArg (Value.int .i64) (idx_end hik2 (by omega)).symm
end Go.SW
set_option linter.unusedVariables false
set_option maxRecDepth 100000
set_option maxHeartbeats 4000000
namespace Go.SW
open Go.Proofs
theorem cb180 : Callable Tryz.prog 180 := callable_of Tryz.func180 (by kernel_rfl) (by kernel_rfl)
theorem cb181 : Callable Tryz.prog 181 := callable_of Tryz.func181 (by kernel_rfl) (by kernel_rfl)
theorem cb182 : Callable Tryz.prog 182 := callable_of Tryz.func182 (by kernel_rfl) (by kernel_rfl)
theorem zx104 : ∃ z, ∀ w, (zeroValue 104).run Tryz.prog w = .ok z w := ⟨.agg #[str [], str [], .bool false, str [], .slice none 0 0, .bool false], fun w => by kernel_rfl⟩
theorem zx202 : ∃ z, ∀ w, (zeroValue 202).run Tryz.prog w = .ok z w := ⟨.slice none 0 0, fun w => by kernel_rfl⟩
theorem book_Bind (H : Hp) (b : BookR) (b_shops_a : Option Addr) (b_shops_c : Nat) (b_shops_h : SlH shopRE 3 H (.slice b_shops_a b.shops.length b_shops_c) b.shops) (b_binds_a : Option Addr) (b_binds_c : Nat) (b_binds_h : SlH bindRE 6 H (.slice b_binds_a b.binds.length b_binds_c) b.binds) (b_w : BookR.wf b) (x : BindR) (x_want_a : Option Addr) (x_want_c : Nat) (x_want_h : SlH pairE 4 H (.slice x_want_a x.want.length x_want_c) x.want) (x_w : BindR.wf x) (hML : GInt H 2) (hl : x.want.length ≤ 1000000) : Ph Tryz.prog 149 #[.agg (BookR.cells b b_shops_a b_shops_c b_binds_a b_binds_c).toArray, .agg (BindR.cells x x_want_a x_want_c).toArray] H (fun v H' => ∃ (a1 : Option Addr) (c1 : Nat) (a2 : Option Addr) (c2 : Nat), v = .tuple #[.agg (BookR.cells ((bindS b x).1) a1 c1 a2 c2).toArray, .int .i64 ((bindS b x).2)] ∧ SlH shopRE 3 H' (.slice a1 (((bindS b x).1).shops).length c1) (((bindS b x).1).shops) ∧ SlH bindRE 6 H' (.slice a2 (((bindS b x).1).binds).length c2) (((bindS b x).1).binds)) := by
  refine ph_cw Tryz.func149 rfl Tryz.ntmps149 rfl (fun N => ?_)
  have b_w' := b_w
  simp only [BookR.wf] at b_w'
  have x_w' := x_w
  simp only [BindR.wf] at x_w'
  have hss := shopOf_wf (n := x.shop) (slh_wfE b_shops_h)
  have hss2 := hss
  simp only [ShopR.wf] at hss2
  refine cw_seq (cw_region (ow1 (op1_box (cs := [_, _]) 0 rfl rfl (fun b1 => ?_))))
  refine ow1 (op1_box (cs := [_, _, _, _, _, _]) 1 rfl rfl (fun b2 => ?_))
  refine ow1 (op1_alloc 2 rfl zr204 (fun b3 => ?_))
  refine oai rfl rfl (ow_nil (seqK_n (cw_seq (cw_region (ol rfl (lo_loadA (i := 0) (vs := [_, _]) rfl ag204 sz204 rfl rfl rfl) ?_)))))
  refine ol rfl (lo_fieldAddr rfl fl104_0) (ol rfl (lo_load1 (i := 1) (v := str _) rfl ag9 rfl rfl) ?_)
  refine ow1 (op1_pr (book_Shop _ b b_shops_a b_shops_c b_shops_h b_binds_a b_binds_c b_binds_h b_w x.shop) (en_f cb177 rfl) rfl ?_)
  refine ol rfl (lo_move (v := .tuple #[_, _]) rfl) (ol rfl (lo_extract (v := .agg #[_, _, _]) rfl rfl) (ol rfl (lo_extract (v := .bool _) rfl rfl) (ow1 (op1_alloc 3 rfl zr100 (fun b4 => ?_)))))
  refine ow1 (op1_storeAll (i := 3) (vs := [_, _, _]) rfl rfl rfl sz100 rfl rfl rfl ?_)
  refine oab rfl rfl (ow_nil (seqK_n (cw_seq (cw_block (cw_seq ?_)))))
  refine cw_region (omb rfl rfl (ol rfl (lo_not rfl) (oab rfl rfl (ow_nil (seqK_n ?_)))))
  refine cw_cond rfl (fun h5 => ?_) (fun h5 => ?_)
  · have h6 := not_t h5
    refine cw_seq (cw_region (ol rfl (lo_loadA (i := 0) (vs := [_, _]) rfl ag204 sz204 rfl rfl rfl) ?_))
    refine ow1 (op1_storeAll (i := 2) (vs := [_, _]) rfl rfl rfl sz204 rfl rfl rfl ?_)
    refine oai rfl rfl (ow_nil (seqK_n (cw_ret (blkK_r (seqK_r ?_)))))
    refine fnK_r (res2 rfl (rv_c (i := 2) (vs := [_, _]) rfl ag204 sz204 rfl rfl rfl) (rv_t (v := .int _ _) rfl)) (.refl _) ?_
    have e : bindS b x = (b, 10) := by
      unfold bindS
      (repeat (first | rw [if_pos (by omega)] | rw [if_pos (by assumption)] | rw [if_pos (And.intro (by assumption) (by assumption))] | rw [if_pos (Or.inl (by assumption))] | rw [if_pos (Or.inr (by assumption))] | rw [if_neg (by omega)] | rw [if_neg (by assumption)] | rw [if_neg (not_not_intro (by assumption))] | rw [if_neg (nbt (by assumption))] | rw [if_neg (nbf (by assumption))] | rw [if_neg (nand_l (by assumption))] | rw [if_neg (nand_r (by assumption))] | rw [if_neg (nand_l (nbt (by assumption)))] | rw [if_neg (nand_r (nbt (by assumption)))] | rw [if_neg (nor_ (not_not_intro (by assumption)) (nbf (by assumption)))]))
      all_goals first | done | rfl | simp [*]
    rw [e]
    exact ⟨_, _, _, _, rfl, b_shops_h, b_binds_h⟩
  have h7 := not_f h5
  refine cw_seq (cw_region (ol rfl (lo_fieldAddr rfl fl100_1) (ol rfl (lo_load1 (i := 3) (v := .int _ _) rfl ag5 rfl rfl) (ol rfl (lo_eql rfl rfl) (oab rfl rfl ?_)))))
  refine ow_nil (seqK_n (cw_cond rfl (fun h8 => ?_) (fun h8 => ?_)))
  · have p9 := dt h8
    refine cw_seq (cw_region (ol rfl (lo_loadA (i := 0) (vs := [_, _]) rfl ag204 sz204 rfl rfl rfl) ?_))
    refine ow1 (op1_storeAll (i := 2) (vs := [_, _]) rfl rfl rfl sz204 rfl rfl rfl ?_)
    refine oai rfl rfl (ow_nil (seqK_n (cw_ret (blkK_r (seqK_r ?_)))))
    refine fnK_r (res2 rfl (rv_c (i := 2) (vs := [_, _]) rfl ag204 sz204 rfl rfl rfl) (rv_t (v := .int _ _) rfl)) (.refl _) ?_
    have e : bindS b x = (b, 8) := by
      unfold bindS
      (repeat (first | rw [if_pos (by omega)] | rw [if_pos (by assumption)] | rw [if_pos (And.intro (by assumption) (by assumption))] | rw [if_pos (Or.inl (by assumption))] | rw [if_pos (Or.inr (by assumption))] | rw [if_neg (by omega)] | rw [if_neg (by assumption)] | rw [if_neg (not_not_intro (by assumption))] | rw [if_neg (nbt (by assumption))] | rw [if_neg (nbf (by assumption))] | rw [if_neg (nand_l (by assumption))] | rw [if_neg (nand_r (by assumption))] | rw [if_neg (nand_l (nbt (by assumption)))] | rw [if_neg (nand_r (nbt (by assumption)))] | rw [if_neg (nor_ (not_not_intro (by assumption)) (nbf (by assumption)))]))
      all_goals first | done | rfl | simp [*]
    rw [e]
    exact ⟨_, _, _, _, rfl, b_shops_h, b_binds_h⟩
  have p10 := df h8
  refine cw_skip (blkK_n (seqK_n (cw_seq (cw_seq (cw_region ?_)))))
  refine ol rfl (lo_fieldAddr rfl fl104_1) (ol rfl (lo_load1 (i := 1) (v := str _) rfl ag9 rfl rfl) ?_)
  refine ow1 (op1_pr (words_Name _ x.to (by first | omega | decide | (simp; done))) (en_f cb131 rfl) rfl ?_)
  refine oai rfl rfl (ow_nil (seqK_n (cw_seq (cw_region (omi rfl rfl ?_)))))
  refine ol rfl (lo_neq rfl rfl) (ow_nil (seqK_n (cw_cond rfl (fun h11 => ?_) (fun h11 => ?_))))
  · have h12 := not_t h11
    have p13 := df h12
    refine cw_seq (cw_region (ol rfl (lo_loadA (i := 0) (vs := [_, _]) rfl ag204 sz204 rfl rfl rfl) (omi rfl rfl ?_)))
    refine ow1 (op1_storeAll (i := 2) (vs := [_, _]) rfl rfl rfl sz204 rfl rfl rfl ?_)
    refine oai rfl rfl (ow_nil (seqK_n (cw_ret (seqK_r (fnK_r (res2 rfl (rv_c (i := 2) (vs := [_, _]) rfl ag204 sz204 rfl rfl rfl) (rv_t (v := .int _ _) rfl)) (.refl _) ?_)))))
    have e : bindS b x = (b, nameE x.to) := by
      unfold bindS
      (repeat (first | rw [if_pos (by omega)] | rw [if_pos (by assumption)] | rw [if_pos (And.intro (by assumption) (by assumption))] | rw [if_pos (Or.inl (by assumption))] | rw [if_pos (Or.inr (by assumption))] | rw [if_neg (by omega)] | rw [if_neg (by assumption)] | rw [if_neg (not_not_intro (by assumption))] | rw [if_neg (nbt (by assumption))] | rw [if_neg (nbf (by assumption))] | rw [if_neg (nand_l (by assumption))] | rw [if_neg (nand_r (by assumption))] | rw [if_neg (nand_l (nbt (by assumption)))] | rw [if_neg (nand_r (nbt (by assumption)))] | rw [if_neg (nor_ (not_not_intro (by assumption)) (nbf (by assumption)))]))
      all_goals first | done | rfl | simp [*]
    rw [e]
    exact ⟨_, _, _, _, rfl, b_shops_h, b_binds_h⟩
  have h14 := not_f h11
  have p15 := dt h14
  refine cw_skip (seqK_n (cw_seq (cw_seq (cw_region (ol rfl (lo_loadA (i := 1) (vs := [_, _, _, _, _, _]) rfl ag104 sz104 rfl rfl rfl) ?_)))))
  refine ol rfl (lo_fieldAddr rfl fl100_1) (ol rfl (lo_load1 (i := 3) (v := .int _ _) rfl ag5 rfl rfl) ?_)
  refine ow1 (op1_ph (bind_rule _ x x_want_a x_want_c x_want_h x_w (((shopOf b.shops x.shop).getD ShopR.zero).sort) (by omega)) (en_f cb179 rfl) rfl ?_)
  rintro _ H20 ⟨a16, c17, rfl, hs18⟩ hl19
  refine ow1 (op1_pr (rule_Check _ (bindRule x (((shopOf b.shops x.shop).getD ShopR.zero).sort)) a16 c17 hs18 (bindRule_wf x_w (by omega)) (hML.mono ((HLe.refl _).trans hl19))) (en_f cb168 rfl) rfl ?_)
  refine oai rfl rfl (ow_nil (seqK_n (cw_block (cw_seq (cw_region ?_)))))
  refine omi rfl rfl (ol rfl (lo_neq rfl rfl) (oab rfl rfl (ow_nil (seqK_n (cw_cond rfl (fun h21 => ?_) (fun h21 => ?_))))))
  · have h22 := not_t h21
    have p23 := df h22
    refine cw_seq (cw_region (ol rfl (lo_loadA (i := 0) (vs := [_, _]) rfl ag204 sz204 rfl rfl rfl) (omi rfl rfl ?_)))
    refine ow1 (op1_storeAll (i := 2) (vs := [_, _]) rfl rfl rfl sz204 rfl rfl rfl ?_)
    refine oai rfl rfl (ow_nil (seqK_n (cw_ret (blkK_r (seqK_r ?_)))))
    refine fnK_r (res2 rfl (rv_c (i := 2) (vs := [_, _]) rfl ag204 sz204 rfl rfl rfl) (rv_t (v := .int _ _) rfl)) ((HLe.refl _).trans hl19) ?_
    have e : bindS b x = (b, ruleE (bindRule x (((shopOf b.shops x.shop).getD ShopR.zero).sort))) := by
      unfold bindS
      (repeat (first | rw [if_pos (by omega)] | rw [if_pos (by assumption)] | rw [if_pos (And.intro (by assumption) (by assumption))] | rw [if_pos (Or.inl (by assumption))] | rw [if_pos (Or.inr (by assumption))] | rw [if_neg (by omega)] | rw [if_neg (by assumption)] | rw [if_neg (not_not_intro (by assumption))] | rw [if_neg (nbt (by assumption))] | rw [if_neg (nbf (by assumption))] | rw [if_neg (nand_l (by assumption))] | rw [if_neg (nand_r (by assumption))] | rw [if_neg (nand_l (nbt (by assumption)))] | rw [if_neg (nand_r (nbt (by assumption)))] | rw [if_neg (nor_ (not_not_intro (by assumption)) (nbf (by assumption)))]))
      all_goals first | done | rfl | simp [*]
    rw [e]
    exact ⟨_, _, _, _, rfl, (b_shops_h.mono ((HLe.refl _).trans hl19) (fun _ _ h => h)), (b_binds_h.mono ((HLe.refl _).trans hl19) (fun _ _ q => bindRE_mono _ _ _ _ ((HLe.refl _).trans hl19) q))⟩
  have h24 := not_f h21
  have p25 := dt h24
  refine cw_seq (cw_region (ol rfl (lo_loadA (i := 0) (vs := [_, _]) rfl ag204 sz204 rfl rfl rfl) (ol rfl (lo_loadA (i := 1) (vs := [_, _, _, _, _, _]) rfl ag104 sz104 rfl rfl rfl) (ow1 (op1_pr (book_there _ b b_shops_a b_shops_c (b_shops_h.mono ((HLe.refl _).trans hl19) (fun _ _ h => h)) b_binds_a b_binds_c (b_binds_h.mono ((HLe.refl _).trans hl19) (fun _ _ q => bindRE_mono _ _ _ _ ((HLe.refl _).trans hl19) q)) b_w x x_want_a x_want_c (x_want_h.mono ((HLe.refl _).trans hl19) (fun _ _ h => h)) x_w) (en_f cb180 rfl) rfl ?_)))))
  have := idxP_r (fun y => decide (x = y)) b.binds
  refine ol rfl (lo_geq rfl rfl) (oab rfl rfl (ow_nil (seqK_n (cw_cond rfl (fun h26 => ?_) (fun h26 => ?_)))))
  · have p27 := dt h26
    refine cw_seq (cw_region (ol rfl (lo_loadA (i := 0) (vs := [_, _]) rfl ag204 sz204 rfl rfl rfl) ?_))
    refine ow1 (op1_storeAll (i := 2) (vs := [_, _]) rfl rfl rfl sz204 rfl rfl rfl ?_)
    refine oai rfl rfl (ow_nil (seqK_n (cw_ret (blkK_r (seqK_r ?_)))))
    refine fnK_r (res2 rfl (rv_c (i := 2) (vs := [_, _]) rfl ag204 sz204 rfl rfl rfl) (rv_t (v := .int _ _) rfl)) ((HLe.refl _).trans hl19) ?_
    have e : bindS b x = (b, 0) := by
      unfold bindS
      (repeat (first | rw [if_pos (by omega)] | rw [if_pos (by assumption)] | rw [if_pos (And.intro (by assumption) (by assumption))] | rw [if_pos (Or.inl (by assumption))] | rw [if_pos (Or.inr (by assumption))] | rw [if_neg (by omega)] | rw [if_neg (by assumption)] | rw [if_neg (not_not_intro (by assumption))] | rw [if_neg (nbt (by assumption))] | rw [if_neg (nbf (by assumption))] | rw [if_neg (nand_l (by assumption))] | rw [if_neg (nand_r (by assumption))] | rw [if_neg (nand_l (nbt (by assumption)))] | rw [if_neg (nand_r (nbt (by assumption)))] | rw [if_neg (nor_ (not_not_intro (by assumption)) (nbf (by assumption)))]))
      all_goals first | done | rfl | simp [*]
    rw [e]
    exact ⟨_, _, _, _, rfl, (b_shops_h.mono ((HLe.refl _).trans hl19) (fun _ _ h => h)), (b_binds_h.mono ((HLe.refl _).trans hl19) (fun _ _ q => bindRE_mono _ _ _ _ ((HLe.refl _).trans hl19) q))⟩
  have p28 := df h26
  refine cw_seq (cw_region (ol rfl (lo_fieldAddr rfl fl204_1) (ol rfl (lo_load1 (i := 0) (v := .slice _ _ _) rfl ag202 rfl rfl) (ol rfl (lo_len_slh rfl (b_binds_h.mono ((HLe.refl _).trans hl19) (fun _ _ q => bindRE_mono _ _ _ _ ((HLe.refl _).trans hl19) q)) Tryz.underlying202) (ol rfl (lo_geq rfl rfl) ?_)))))
  refine oab rfl rfl (ow_nil (seqK_n (cw_cond rfl (fun h29 => ?_) (fun h29 => ?_))))
  · have p30 := dt h29
    refine cw_seq (cw_region (ol rfl (lo_loadA (i := 0) (vs := [_, _]) rfl ag204 sz204 rfl rfl rfl) ?_))
    refine ow1 (op1_storeAll (i := 2) (vs := [_, _]) rfl rfl rfl sz204 rfl rfl rfl ?_)
    refine oai rfl rfl (ow_nil (seqK_n (cw_ret (blkK_r (seqK_r ?_)))))
    refine fnK_r (res2 rfl (rv_c (i := 2) (vs := [_, _]) rfl ag204 sz204 rfl rfl rfl) (rv_t (v := .int _ _) rfl)) ((HLe.refl _).trans hl19) ?_
    have e : bindS b x = (b, 12) := by
      unfold bindS
      (repeat (first | rw [if_pos (by omega)] | rw [if_pos (by assumption)] | rw [if_pos (And.intro (by assumption) (by assumption))] | rw [if_pos (Or.inl (by assumption))] | rw [if_pos (Or.inr (by assumption))] | rw [if_neg (by omega)] | rw [if_neg (by assumption)] | rw [if_neg (not_not_intro (by assumption))] | rw [if_neg (nbt (by assumption))] | rw [if_neg (nbf (by assumption))] | rw [if_neg (nand_l (by assumption))] | rw [if_neg (nand_r (by assumption))] | rw [if_neg (nand_l (nbt (by assumption)))] | rw [if_neg (nand_r (nbt (by assumption)))] | rw [if_neg (nor_ (not_not_intro (by assumption)) (nbf (by assumption)))]))
      all_goals first | done | rfl | simp [*]
    rw [e]
    exact ⟨_, _, _, _, rfl, (b_shops_h.mono ((HLe.refl _).trans hl19) (fun _ _ h => h)), (b_binds_h.mono ((HLe.refl _).trans hl19) (fun _ _ q => bindRE_mono _ _ _ _ ((HLe.refl _).trans hl19) q))⟩
  have p31 := df h29
  refine cw_skip (blkK_n (seqK_n (cw_seq (cw_anyL mixd (vw_q 0 rfl (by kernel_rfl) (by repeat (first | exact lle_l0 | exact LLe.refl _ | exact lle_none | refine lle_up ?_ rfl)) (fun _ _ hh hl => lo_fieldAddr rfl fl204_1) ?_)))))
  refine vw_q 1 rfl (by kernel_rfl) (by repeat (first | exact lle_l0 | exact LLe.refl _ | exact lle_none | refine lle_up ?_ rfl)) (fun _ _ hh hl => lo_load1 (i := 0) (v := .slice _ _ _) rfl ag202 (hl _ _ rfl) rfl) ?_
  refine vw_q 2 rfl (by kernel_rfl) (by repeat (first | exact lle_l0 | exact LLe.refl _ | exact lle_none | refine lle_up ?_ rfl)) (fun _ _ hh hl => lo_loadA (i := 1) (vs := [_, _, _, _, _, _]) rfl ag104 sz104 (hl _ _ rfl) rfl rfl) ?_
  refine vw_e 3 rfl (by kernel_rfl) (op1_ph (bind_clone _ x x_want_a x_want_c (x_want_h.mono ((HLe.refl _).trans hl19) (fun _ _ h => h)) x_w (by first | omega | (simp; done) | decide)) (en_f cb182 rfl) rfl ?_)
  rintro _ H36 ⟨a32, c33, rfl, hs34⟩ hl35
  refine ⟨⟨((HLe.refl _).trans hl35), (by repeat (first | exact lle_l0 | exact LLe.refl _ | exact lle_none | refine lle_up ?_ rfl))⟩, ?_⟩
  refine vw_e 4 rfl (by kernel_rfl) (op1_bslice (cs := [_, _, _, _, _, _]) 4 rfl Tryz.underlying202 sz104 zx104 rfl ⟨rfl, rfl, trivial⟩ rfl rfl (by decide) (fun b37 => ?_))
  refine ⟨⟨(.refl _), (by repeat (first | exact lle_l0 | exact LLe.refl _ | exact lle_none | refine lle_up ?_ rfl))⟩, ?_⟩
  refine vw_giveO 4 rfl (by repeat (first | exact lle_l0 | exact LLe.refl _ | exact lle_none | refine lle_up ?_ rfl)) (by kernel_rfl) (fun _ hl38 hg39 => ?_)
  have hs40 := slh_bxE (E := bindRE) (H := _) (xs := [x]) bindRE_wide (hg39 _ _ rfl) ⟨_, _, rfl, ⟨a32, c33, rfl, (hs34.mono ((HLe.refl _).trans hl38) (fun _ _ h => h)), x_w⟩, rl_nil⟩ rfl (Nat.le_refl _)
  refine vw_e 5 rfl (by kernel_rfl) (op1_bslice (cs := [_, _]) 4 rfl Tryz.underlying245 sz202 zx202 rfl ⟨rfl, rfl, ⟨rfl, rfl, trivial⟩⟩ rfl rfl (by decide) (fun b41 => ?_))
  refine ⟨⟨(.refl _), (by repeat (first | exact lle_l0 | exact LLe.refl _ | exact lle_none | refine lle_up ?_ rfl))⟩, ?_⟩
  refine vw_giveO 4 rfl (by repeat (first | exact lle_l0 | exact LLe.refl _ | exact lle_none | refine lle_up ?_ rfl)) (by kernel_rfl) (fun _ hl42 hg43 => ?_)
  have hs44 := slh_bxE (E := (slE bindRE 6)) (H := _) (xs := [b.binds, [x]]) slE_wide (hg43 _ _ rfl) ⟨_, _, rfl, ⟨_, _, rfl, (b_binds_h.mono (((((HLe.refl _).trans hl19).trans hl35).trans hl38).trans hl42) (fun _ _ q => bindRE_mono _ _ _ _ (((((HLe.refl _).trans hl19).trans hl35).trans hl38).trans hl42) q))⟩, ⟨_, _, rfl, ⟨_, _, rfl, (hs40.mono ((HLe.refl _).trans hl42) (fun _ _ q => bindRE_mono _ _ _ _ ((HLe.refl _).trans hl42) q))⟩, rl_nil⟩⟩ rfl (Nat.le_refl _)
  refine vw_e 6 rfl (by kernel_rfl) (op1_ph (concat_Bind _ (some ⟨b41, 0, none⟩) 2 2 [b.binds, [x]] hs44 (by first | omega | (simp; done) | (simp; omega)) (by first | omega | (simp; done) | (simp; omega))) (en_f cb181 rfl) rfl ?_)
  rintro _ H49 ⟨a45, c46, rfl, hs47⟩ hl48
  refine ⟨⟨((HLe.refl _).trans hl48), (by repeat (first | exact lle_l0 | exact LLe.refl _ | exact lle_none | refine lle_up ?_ rfl))⟩, ?_⟩
  refine vw_q 7 rfl (by kernel_rfl) (by repeat (first | exact lle_l0 | exact LLe.refl _ | exact lle_none | refine lle_up ?_ rfl)) (fun _ _ hh hl => lo_fieldAddr rfl fl204_1) ?_
  refine vw_t 8 rfl (by kernel_rfl) (by kernel_rfl) (op1_store1n (i := 0) (v := .slice _ _ _) [_, _] rfl rfl rfl sz202 rfl rfl rfl ?_)
  refine vw_done (by kernel_rfl) (seqK_n (cw_seq (cw_region (ol rfl (lo_loadA (i := 0) (vs := [_, _]) rfl ag204 sz204 rfl rfl rfl) ?_))))
  refine ow1 (op1_storeAll (i := 2) (vs := [_, _]) rfl rfl rfl sz204 rfl rfl rfl ?_)
  refine oai rfl rfl (ow_nil (seqK_n (cw_ret (fnK_r (res2 rfl (rv_c (i := 2) (vs := [_, _]) rfl ag204 sz204 rfl rfl rfl) (rv_t (v := .int _ _) rfl)) ((((((HLe.refl _).trans hl19).trans hl35).trans hl38).trans hl42).trans hl48) ?_))))
  have e : bindS b x = ((⟨b.shops, ([b.binds, [x]]).flatten⟩ : BookR), 0) := by
    unfold bindS
    (repeat (first | rw [if_pos (by omega)] | rw [if_pos (by assumption)] | rw [if_pos (And.intro (by assumption) (by assumption))] | rw [if_pos (Or.inl (by assumption))] | rw [if_pos (Or.inr (by assumption))] | rw [if_neg (by omega)] | rw [if_neg (by assumption)] | rw [if_neg (not_not_intro (by assumption))] | rw [if_neg (nbt (by assumption))] | rw [if_neg (nbf (by assumption))] | rw [if_neg (nand_l (by assumption))] | rw [if_neg (nand_r (by assumption))] | rw [if_neg (nand_l (nbt (by assumption)))] | rw [if_neg (nand_r (nbt (by assumption)))] | rw [if_neg (nor_ (not_not_intro (by assumption)) (nbf (by assumption)))]))
    all_goals first | done | rfl | simp [*]
  rw [e]
  exact ⟨_, _, _, _, rfl, (b_shops_h.mono ((((((HLe.refl _).trans hl19).trans hl35).trans hl38).trans hl42).trans hl48) (fun _ _ h => h)), hs47⟩
end Go.SW
set_option linter.unusedVariables false
set_option maxRecDepth 100000
set_option maxHeartbeats 4000000
namespace Go.SW
open Go.Proofs
theorem cb183 : Callable Tryz.prog 183 := callable_of Tryz.func183 (by kernel_rfl) (by kernel_rfl)
theorem cb197 : Callable Tryz.prog 197 := callable_of Tryz.func197 (by kernel_rfl) (by kernel_rfl)
theorem book_Leads (H : Hp) (b : BookR) (b_shops_a : Option Addr) (b_shops_c : Nat) (b_shops_h : SlH shopRE 3 H (.slice b_shops_a b.shops.length b_shops_c) b.shops) (b_binds_a : Option Addr) (b_binds_c : Nat) (b_binds_h : SlH bindRE 6 H (.slice b_binds_a b.binds.length b_binds_c) b.binds) (b_w : BookR.wf b) (shop : Bs) (key : Bs) (h_a : Option Addr) (h_l h_c : Nat) (h : List Pair) (h_h : SlH pairE 4 H (.slice h_a h_l h_c) h) (hML : GInt H 2) (hbl : b.binds.length ≤ 1000000) (hbk : ∀ y ∈ b.binds, y.key.length ≤ 1000000) (hkl : key.length ≤ 1000000) (hhl : h.length ≤ 1000000) : Ph Tryz.prog 150 #[.agg (BookR.cells b b_shops_a b_shops_c b_binds_a b_binds_c).toArray, str shop, str key, .slice h_a h_l h_c] H (fun v H' => ∃ (a1 : Option Addr) (c1 : Nat) (a2 : Option Addr) (c2 : Nat), v = .tuple #[.slice a1 ((leadS b shop key h).1).length c1, .slice a2 ((leadS b shop key h).2.1).length c2, .int .i64 ((leadS b shop key h).2.2)] ∧ SlH strE 1 H' (.slice a1 ((leadS b shop key h).1).length c1) ((leadS b shop key h).1) ∧ SlH strE 1 H' (.slice a2 ((leadS b shop key h).2.1).length c2) ((leadS b shop key h).2.1)) := by
  refine ph_cw Tryz.func150 rfl Tryz.ntmps150 rfl (fun N => ?_)
  have b_w' := b_w
  simp only [BookR.wf] at b_w'
  have hss := shopOf_wf (n := shop) (slh_wfE b_shops_h)
  have hss2 := hss
  simp only [ShopR.wf] at hss2
  refine cw_seq (cw_region (ow1 (op1_box (cs := [_, _]) 0 rfl rfl (fun b1 => ?_))))
  refine ol rfl (lo_assign (v := .slice _ _ _) rfl) (ol rfl (lo_assign (v := .slice _ _ _) rfl) (oai rfl rfl (ow_nil (seqK_n (cw_scope ?_)))))
  refine cw_seq (cw_region (ol rfl (lo_loadA (i := 0) (vs := [_, _]) rfl ag204 sz204 rfl rfl rfl) (ol rfl (lo_move (v := str _) rfl) ?_)))
  refine ow1 (op1_pr (book_Shop _ b b_shops_a b_shops_c b_shops_h b_binds_a b_binds_c b_binds_h b_w shop) (en_f cb177 rfl) rfl ?_)
  refine ol rfl (lo_move (v := .tuple #[_, _]) rfl) (ol rfl (lo_extract (v := .agg #[_, _, _]) rfl rfl) (ol rfl (lo_extract (v := .bool _) rfl rfl) (ow1 (op1_alloc 1 rfl zr100 (fun b2 => ?_)))))
  refine ow1 (op1_storeAll (i := 1) (vs := [_, _, _]) rfl rfl rfl sz100 rfl rfl rfl ?_)
  refine oab rfl rfl (ow_nil (seqK_n (cw_seq (cw_block (cw_seq ?_)))))
  refine cw_region (omb rfl rfl (ol rfl (lo_not rfl) (oab rfl rfl (ow_nil (seqK_n ?_)))))
  refine cw_cond rfl (fun h3 => ?_) (fun h3 => ?_)
  · have h4 := not_t h3
    refine cw_seq (cw_region (ol rfl (lo_assign (v := .slice _ _ _) rfl) (ol rfl (lo_assign (v := .slice _ _ _) rfl) (oai rfl rfl (ow_nil ?_)))))
    refine seqK_n (cw_ret (blkK_r (seqK_r (scK_r (fnK_r (res3 rfl (rv_t (v := .slice _ _ _) rfl) (rv_t (v := .slice _ _ _) rfl) (rv_t (v := .int _ _) rfl)) (.refl _) ?_)))))
    have e : leadS b shop key h = ([], [], 10) := by unfold leadS; rw [if_pos (by assumption)]
    rw [e]
    exact ⟨none, 0, none, 0, rfl, slh_nil, slh_nil⟩
  have h5 := not_f h3
  refine cw_seq (cw_region (ol rfl (lo_fieldAddr rfl fl100_1) (ol rfl (lo_load1 (i := 1) (v := .int _ _) rfl ag5 rfl rfl) (ol rfl (lo_eql rfl rfl) (oab rfl rfl ?_)))))
  refine ow_nil (seqK_n (cw_cond rfl (fun h6 => ?_) (fun h6 => ?_)))
  · have p7 := dt h6
    refine cw_seq (cw_anyL mixd (vw_q 0 rfl (by kernel_rfl) (by repeat (first | exact lle_l0 | exact LLe.refl _ | exact lle_none | refine lle_up ?_ rfl)) (fun _ _ hh hl => lo_fieldAddr rfl fl100_2) ?_))
    refine vw_q 1 rfl (by kernel_rfl) (by repeat (first | exact lle_l0 | exact LLe.refl _ | exact lle_none | refine lle_up ?_ rfl)) (fun _ _ hh hl => lo_load1 (i := 1) (v := str _) rfl ag9 (hl _ _ rfl) rfl) ?_
    refine vw_q 3 rfl (by kernel_rfl) (by repeat (first | exact lle_l0 | exact LLe.refl _ | exact lle_none | refine lle_up ?_ rfl)) (fun _ _ hh hl => lo_assign (v := .slice _ _ _) rfl) ?_
    refine vw_tp 2 rfl (by kernel_rfl) (by kernel_rfl) (op1_bslice (cs := [_]) 2 rfl Tryz.underlying183 sz9 zx9 rfl ⟨rfl, rfl, trivial⟩ rfl rfl (by decide) (fun b8 => ?_))
    refine ⟨(.refl _), ?_⟩
    refine vw_q 4 rfl (by kernel_rfl) (by repeat (first | exact lle_l0 | exact LLe.refl _ | exact lle_none | refine lle_up ?_ rfl)) (fun _ _ hh hl => lo_assign rfl) ?_
    refine vw_q 5 rfl (by kernel_rfl) (by repeat (first | exact lle_l0 | exact LLe.refl _ | exact lle_none | refine lle_up ?_ rfl)) (fun _ _ hh hl => lo_assign (v := .int _ _) rfl) ?_
    refine vw_done (by kernel_rfl) (seqK_n (cw_giveO 2 rfl (fun _ hl9 hg10 => ?_)))
    have hs11 := slh_bx (k := 1) (H := _) (enc := (fun s => [str s])) (wf := (fun s => s.length ≤ 9223372036854775807)) [((shopOf b.shops shop).getD ShopR.zero).to] (fun _ => rfl) (hg10 _ _ rfl) rfl rfl (Nat.le_refl _) (by first | (intro x hx; simp at hx; subst hx; first | omega | (simp; done) | (simp; omega)) | (simp; done) | (simp; omega))
    refine cw_ret (blkK_r (seqK_r (scK_r (fnK_r (res3 rfl (rv_t (v := .slice _ _ _) rfl) (rv_t (v := .slice _ _ _) rfl) (rv_t (v := .int _ _) rfl)) ((HLe.refl _).trans hl9) ?_))))
    have e : leadS b shop key h = ([], [((shopOf b.shops shop).getD ShopR.zero).to], 0) := by unfold leadS; rw [if_neg (nbf (by assumption)), if_pos (by assumption)]
    rw [e]
    exact ⟨none, 0, _, _, rfl, slh_nil, hs11⟩
  have p12 := df h6
  refine cw_skip (blkK_n (seqK_n (cw_seq (cw_region (ol rfl (lo_assign (v := .slice _ _ _) rfl) ?_)))))
  refine ol rfl (lo_assign (v := .slice _ _ _) rfl) (ow_nil (seqK_n (cw_seq (cw_label (seqK_n ?_)))))
  refine cw_seq (cw_seq (cw_region (ol rfl (lo_fieldAddr rfl fl204_1) (ol rfl (lo_load1 (i := 0) (v := .slice _ _ _) rfl ag202 rfl rfl) (ol rfl (lo_len_slh rfl b_binds_h Tryz.underlying202) ?_)))))
  refine omi rfl rfl (ow_nil (seqK_n (cw_block (cw_loop7 [13, 14, 16, 36, 37, 38, 39, 40, 41, 42, 43, 44, 45, 46, 47, 48, 49, 50, 51, 52, 53, 54, 55, 56, 57, 58, 59, 60, 61, 62, 63, 64] [2, 3, 40, 41] (fun (k : Nat) (qs : List Bs) (v1 : Value) (en1 : Option (Nat × Obj)) (ps : List Bs) (v2 : Value) (en2 : Option (Nat × Obj)) G => upd (upd (upd (G) 36 (.int .i64 (k : Int))) 13 (v1)) 14 (v2)) (fun (k : Nat) (qs : List Bs) (v1 : Value) (en1 : Option (Nat × Obj)) (ps : List Bs) (v2 : Value) (en2 : Option (Nat × Obj)) G => lupd (lupd (G) 40 (en1)) 41 (en2)) (fun (k : Nat) (qs : List Bs) (v1 : Value) (en1 : Option (Nat × Obj)) (ps : List Bs) (v2 : Value) (en2 : Option (Nat × Obj)) H' => k ≤ b.binds.length ∧ leadGo ((shopOf b.shops shop).getD ShopR.zero).sort shop key h b.binds [] [] = leadGo ((shopOf b.shops shop).getD ShopR.zero).sort shop key h (b.binds.drop k) qs ps ∧ OwnV 1 9 v1 en1 qs.length (qs.flatMap (fun s => [str s])) ∧ (∀ x ∈ qs, (fun s => s.length ≤ 9223372036854775807) x) ∧ OwnV 1 9 v2 en2 ps.length (ps.flatMap (fun s => [str s])) ∧ (∀ x ∈ ps, (fun s => s.length ≤ 9223372036854775807) x) ∧ qs.length ≤ k ∧ ps.length ≤ k) (fun (k : Nat) (qs : List Bs) (v1 : Value) (en1 : Option (Nat × Obj)) (ps : List Bs) (v2 : Value) (en2 : Option (Nat × Obj)) => b.binds.length - k) 0 [] (.slice none 0 0) none [] (.slice none 0 0) none (upd_intro (upd_intro (upd_intro (mask_intro (by first | exact off_refl | (repeat (first | exact off_mask | refine off_upd rfl ?_ | refine off_mask2 rfl ?_)))) rfl) rfl) rfl) (lupd_intro (lupd_intro (lmask_intro offl_refl) rfl) rfl) ?_ ?_))))
  · exact ⟨Nat.zero_le _, rfl, ownV_nil, wf_nil, ownV_nil, wf_nil, Nat.le_refl _, Nat.le_refl _⟩
  intro k qs v1 en1 ps v2 en2 J14 JL14 H14 hp13 hl14
  obtain ⟨hk1, hk2, ho1, hw1, ho2, hw2, hq1, hq2⟩ := hp13
  refine cw_seq (cw_region (ol rfl (lo_lss rfl rfl) (ow_nil (seqK_n (cw_seq ?_)))))
  refine cw_cond rfl (fun h15 => ?_) (fun h15 => ?_)
  · have p16 := dt h15
    refine cw_skip (seqK_n (cw_seq (cw_block (cw_seq (cw_region ?_)))))
    obtain ⟨c17, hc18⟩ := getE (xs := b.binds) (m := k) (by omega)
    obtain ⟨cs19, hE20, at21⟩ := (b_binds_h.mono ((HLe.refl _).trans hl14) (fun _ _ q => bindRE_mono _ _ _ _ ((HLe.refl _).trans hl14) q)).get hc18
    obtain ⟨a22, c23, rfl, hs24, c17_w⟩ := hE20
    have c17_w' := c17_w
    simp only [BindR.wf] at c17_w'
    have hbk0 := hbk c17 (List.mem_of_getElem? hc18)
    refine ol rfl (lo_indexAddr rfl rfl (b_binds_h.mono ((HLe.refl _).trans hl14) (fun _ _ q => bindRE_mono _ _ _ _ ((HLe.refl _).trans hl14) q)).1 at21 Tryz.underlying202 sz104 (by omega) (by omega)) (ol rfl (lo_loadEA rfl ag104 sz104 at21) (ow1 (op1_alloc 2 rfl zr104 (fun b25 => ?_))))
    refine ow1 (op1_storeAll (i := 2) (vs := [_, _, _, _, _, _]) rfl rfl rfl sz104 rfl rfl rfl ?_)
    refine ow_nil (seqK_n (cw_block (cw_seq (cw_seq (cw_region ?_)))))
    refine ol rfl (lo_fieldAddr rfl fl104_0) (ol rfl (lo_load1 (i := 2) (v := str _) rfl ag9 rfl rfl) (ol rfl (lo_move (v := str _) rfl) (ol rfl (lo_sneq rfl rfl) (oab rfl rfl (ow_nil ?_)))))
    refine seqK_n (cw_cond rfl (fun h26 => ?_) (fun h26 => ?_))
    · have h27 := not_t h26
      have p28 := df h27
      refine cw_skip (seqK_n (cw_cond_t rfl h26 (cw_exit (blkK_e rfl (blkK_hit ?_)))))
      refine seqK_n (cw_region (ol rfl (lo_add rfl rfl (rg_i64 (by omega))) (omi rfl rfl (ow_nil ?_))))
      refine next7 (k + 1) qs v1 en1 ps v2 en2 (upd_intro (upd_intro (upd_intro (mask_intro (by first | exact off_refl | (repeat (first | exact off_mask | refine off_upd rfl ?_ | refine off_mask2 rfl ?_)))) rfl) rfl) rfl) (lupd_intro (lupd_intro (lmask_intro (by first | exact offl_refl | (repeat (first | exact offl_mask | refine offl_upd rfl ?_ | refine offl_mask2 rfl ?_)))) rfl) rfl) hl14 ?_ ?_
      · refine ⟨by omega, ?_, ho1, hw1, ho2, hw2, ?_, ?_⟩
        · rw [hk2, dropE hc18]
          conv => lhs; unfold leadGo
          (repeat (first | rw [if_pos (by omega)] | rw [if_pos (by assumption)] | rw [if_pos (And.intro (by assumption) (by assumption))] | rw [if_pos (Or.inl (by assumption))] | rw [if_pos (Or.inr (by assumption))] | rw [if_neg (by omega)] | rw [if_neg (by assumption)] | rw [if_neg (not_not_intro (by assumption))] | rw [if_neg (nbt (by assumption))] | rw [if_neg (nbf (by assumption))] | rw [if_neg (nand_l (by assumption))] | rw [if_neg (nand_r (by assumption))] | rw [if_neg (nand_l (nbt (by assumption)))] | rw [if_neg (nand_r (nbt (by assumption)))] | rw [if_neg (nor_ (not_not_intro (by assumption)) (nbf (by assumption)))]))
          all_goals first | done | rfl | (unfold putS; (repeat (first | rw [if_pos (by omega)] | rw [if_pos (by assumption)] | rw [if_pos (And.intro (by assumption) (by assumption))] | rw [if_pos (Or.inl (by assumption))] | rw [if_pos (Or.inr (by assumption))] | rw [if_neg (by omega)] | rw [if_neg (by assumption)] | rw [if_neg (not_not_intro (by assumption))] | rw [if_neg (nbt (by assumption))] | rw [if_neg (nbf (by assumption))] | rw [if_neg (nand_l (by assumption))] | rw [if_neg (nand_r (by assumption))] | rw [if_neg (nand_l (nbt (by assumption)))] | rw [if_neg (nand_r (nbt (by assumption)))] | rw [if_neg (nor_ (not_not_intro (by assumption)) (nbf (by assumption)))])); first | done | rfl)
        · have := putS_len qs c17.to; simp at *; omega
        have := putS_len ps c17.to; simp at *; omega
      omega
    have h29 := not_f h26
    have p30 := dt h29
    refine cw_region (ol rfl (lo_loadA (i := 2) (vs := [_, _, _, _, _, _]) rfl ag104 sz104 rfl rfl rfl) (ol rfl (lo_fieldAddr rfl fl100_1) (ol rfl (lo_load1 (i := 1) (v := .int _ _) rfl ag5 rfl rfl) ?_)))
    refine ow1 (op1_ph (bind_rule _ c17 a22 c23 hs24 c17_w (((shopOf b.shops shop).getD ShopR.zero).sort) (by omega)) (en_f cb179 rfl) rfl ?_)
    rintro _ H35 ⟨a31, c32, rfl, hs33⟩ hl34
    refine ol rfl (lo_move (v := str _) rfl) (ol rfl (lo_move (v := .slice _ _ _) rfl) (ow1 (op1_pr (rule_Goes _ (bindRule c17 (((shopOf b.shops shop).getD ShopR.zero).sort)) a31 c32 hs33 (bindRule_wf c17_w (by omega)) key h_a h_l h_c h (h_h.mono (((HLe.refl _).trans hl14).trans hl34) (fun _ _ h => h)) (hML.mono (((HLe.refl _).trans hl14).trans hl34)) (by simp only [bindRule]; omega) (by first | omega | (simp; done) | decide) (by first | omega | (simp <;> omega))) (en_f cb169 rfl) rfl ?_)))
    refine ol rfl (lo_not rfl) (oab rfl rfl (ow_nil (seqK_n (cw_cond rfl (fun h36 => ?_) (fun h36 => ?_)))))
    · have h37 := not_t h36
      refine cw_exit (blkK_e rfl (blkK_hit (seqK_n (cw_region (ol rfl (lo_add rfl rfl (rg_i64 (by omega))) ?_)))))
      refine omi rfl rfl (ow_nil ?_)
      refine next7 (k + 1) qs v1 en1 ps v2 en2 (upd_intro (upd_intro (upd_intro (mask_intro (by first | exact off_refl | (repeat (first | exact off_mask | refine off_upd rfl ?_ | refine off_mask2 rfl ?_)))) rfl) rfl) rfl) (lupd_intro (lupd_intro (lmask_intro (by first | exact offl_refl | (repeat (first | exact offl_mask | refine offl_upd rfl ?_ | refine offl_mask2 rfl ?_)))) rfl) rfl) (hl14.trans hl34) ?_ ?_
      · refine ⟨by omega, ?_, ho1, hw1, ho2, hw2, ?_, ?_⟩
        · rw [hk2, dropE hc18]
          conv => lhs; unfold leadGo
          (repeat (first | rw [if_pos (by omega)] | rw [if_pos (by assumption)] | rw [if_pos (And.intro (by assumption) (by assumption))] | rw [if_pos (Or.inl (by assumption))] | rw [if_pos (Or.inr (by assumption))] | rw [if_neg (by omega)] | rw [if_neg (by assumption)] | rw [if_neg (not_not_intro (by assumption))] | rw [if_neg (nbt (by assumption))] | rw [if_neg (nbf (by assumption))] | rw [if_neg (nand_l (by assumption))] | rw [if_neg (nand_r (by assumption))] | rw [if_neg (nand_l (nbt (by assumption)))] | rw [if_neg (nand_r (nbt (by assumption)))] | rw [if_neg (nor_ (not_not_intro (by assumption)) (nbf (by assumption)))]))
          all_goals first | done | rfl | (unfold putS; (repeat (first | rw [if_pos (by omega)] | rw [if_pos (by assumption)] | rw [if_pos (And.intro (by assumption) (by assumption))] | rw [if_pos (Or.inl (by assumption))] | rw [if_pos (Or.inr (by assumption))] | rw [if_neg (by omega)] | rw [if_neg (by assumption)] | rw [if_neg (not_not_intro (by assumption))] | rw [if_neg (nbt (by assumption))] | rw [if_neg (nbf (by assumption))] | rw [if_neg (nand_l (by assumption))] | rw [if_neg (nand_r (by assumption))] | rw [if_neg (nand_l (nbt (by assumption)))] | rw [if_neg (nand_r (nbt (by assumption)))] | rw [if_neg (nor_ (not_not_intro (by assumption)) (nbf (by assumption)))])); first | done | rfl)
        · have := putS_len qs c17.to; simp at *; omega
        have := putS_len ps c17.to; simp at *; omega
      omega
    have h38 := not_f h36
    refine cw_seq (cw_region (ol rfl (lo_fieldAddr rfl fl104_2) (ol rfl (lo_load1 (i := 2) (v := .bool _) rfl ag4 rfl rfl) (oab rfl rfl (ow_nil ?_)))))
    refine seqK_n (cw_cond rfl (fun h39 => ?_) (fun h39 => ?_))
    · refine cw_region (ol rfl (lo_move rfl) (ol rfl (lo_fieldAddr rfl fl104_1) (ol rfl (lo_load1 (i := 2) (v := str _) rfl ag9 rfl rfl) ?_)))
      refine ow1 (op1_in (en_f cb183 rfl) Tryz.func183 rfl Tryz.ntmps183 rfl rfl ?_)
      refine cw_seq (cw_region (ol rfl (lo_assign (v := .slice _ _ _) rfl) (ow_nil (seqK_n (cw_seq ?_)))))
      refine cw_seq (cw_region (ol rfl (lo_move rfl) (ol rfl (lo_move (v := str _) rfl) ?_)))
      obtain ⟨a40, c41, rfl⟩ := own_shape ho2
      refine ow1 (op1_prl 41 rfl (fun _ hl42 hg43 => (contains_Str _ a40 ps.length c41 ps (slh_own (enc := (fun s => [str s])) (wf := (fun s => s.length ≤ 9223372036854775807)) (fun _ => rfl) ho2 hw2 hg43) c17.to (by first | omega | (simp <;> omega)))) (en_f cb197 rfl) rfl ?_)
      refine ow_nil (seqK_n (cw_cond rfl (fun h44 => ?_) (fun h44 => ?_)))
      · have p45 := dt h44
        refine cw_seq (cw_region (ol rfl (lo_move rfl) (ol rfl (lo_assign rfl) (ow_nil (seqK_n ?_)))))
        refine cw_ret (seqK_r (fnK_r (res1 rfl (rv_t rfl)) (.refl _) (ol rfl (lo_assign rfl) (ow_nil (blkK_n ?_)))))
        refine blkK_n (seqK_n (cw_region (ol rfl (lo_add rfl rfl (rg_i64 (by omega))) (omi rfl rfl (ow_nil ?_)))))
        refine next7 (k + 1) qs v1 en1 ps (.slice a40 ps.length c41) en2 (upd_intro (upd_intro (upd_intro (mask_intro (by first | exact off_refl | (repeat (first | exact off_mask | refine off_upd rfl ?_ | refine off_mask2 rfl ?_)))) rfl) rfl) rfl) (lupd_intro (lupd_intro (lmask_intro (by first | exact offl_refl | (repeat (first | exact offl_mask | refine offl_upd rfl ?_ | refine offl_mask2 rfl ?_)))) rfl) rfl) (hl14.trans hl34) ?_ ?_
        · refine ⟨by omega, ?_, ho1, hw1, ho2, hw2, ?_, ?_⟩
          · rw [hk2, dropE hc18]
            conv => lhs; unfold leadGo
            (repeat (first | rw [if_pos (by omega)] | rw [if_pos (by assumption)] | rw [if_pos (And.intro (by assumption) (by assumption))] | rw [if_pos (Or.inl (by assumption))] | rw [if_pos (Or.inr (by assumption))] | rw [if_neg (by omega)] | rw [if_neg (by assumption)] | rw [if_neg (not_not_intro (by assumption))] | rw [if_neg (nbt (by assumption))] | rw [if_neg (nbf (by assumption))] | rw [if_neg (nand_l (by assumption))] | rw [if_neg (nand_r (by assumption))] | rw [if_neg (nand_l (nbt (by assumption)))] | rw [if_neg (nand_r (nbt (by assumption)))] | rw [if_neg (nor_ (not_not_intro (by assumption)) (nbf (by assumption)))]))
            all_goals first | done | rfl | (unfold putS; (repeat (first | rw [if_pos (by omega)] | rw [if_pos (by assumption)] | rw [if_pos (And.intro (by assumption) (by assumption))] | rw [if_pos (Or.inl (by assumption))] | rw [if_pos (Or.inr (by assumption))] | rw [if_neg (by omega)] | rw [if_neg (by assumption)] | rw [if_neg (not_not_intro (by assumption))] | rw [if_neg (nbt (by assumption))] | rw [if_neg (nbf (by assumption))] | rw [if_neg (nand_l (by assumption))] | rw [if_neg (nand_r (by assumption))] | rw [if_neg (nand_l (nbt (by assumption)))] | rw [if_neg (nand_r (nbt (by assumption)))] | rw [if_neg (nor_ (not_not_intro (by assumption)) (nbf (by assumption)))])); first | done | rfl)
          · have := putS_len qs c17.to; simp at *; omega
          have := putS_len ps c17.to; simp at *; omega
        omega
      have p46 := df h44
      refine cw_skip (seqK_n (cw_seq (cw_region (ol rfl (lo_move rfl) (ol rfl (lo_move (v := str _) rfl) ?_)))))
      refine ow1 (op1_bslice (cs := [_]) 3 rfl Tryz.underlying183 sz9 zx9 rfl ⟨rfl, rfl, trivial⟩ rfl rfl (by decide) (fun b47 => ?_))
      refine ow1 (op1_app 41 rfl rfl Tryz.underlying183 Tryz.underlying183 rfl sz9 by9 (by decide) zr9 ho2 (src_bx (i := 3) rfl rfl) (List.all_eq_true.1 rfl) rfl (by omega) rfl (fun v48 en49 ho50 => ?_))
      have ho51 := own_push (enc := (fun s => [str s])) ps c17.to ho50 rfl
      refine ol rfl (lo_assign rfl) (ow_nil (seqK_n (cw_ret (fnK_r (res1 rfl (rv_t rfl)) (.refl _) (ol rfl (lo_assign rfl) ?_)))))
      refine ow_nil (blkK_n (blkK_n (seqK_n (cw_region (ol rfl (lo_add rfl rfl (rg_i64 (by omega))) ?_)))))
      refine omi rfl rfl (ow_nil ?_)
      refine next7 (k + 1) qs v1 en1 (ps ++ [c17.to]) v48 en49 (upd_intro (upd_intro (upd_intro (mask_intro (by first | exact off_refl | (repeat (first | exact off_mask | refine off_upd rfl ?_ | refine off_mask2 rfl ?_)))) rfl) rfl) rfl) (lupd_intro (lupd_intro (lmask_intro (by first | exact offl_refl | (repeat (first | exact offl_mask | refine offl_upd rfl ?_ | refine offl_mask2 rfl ?_)))) rfl) rfl) (hl14.trans hl34) ?_ ?_
      · refine ⟨by omega, ?_, ho1, hw1, ho51, (wf_push hw2 (by show List.length c17.to ≤ 9223372036854775807; first | omega | (simp; omega) | (simp; done))), ?_, ?_⟩
        · rw [hk2, dropE hc18]
          conv => lhs; unfold leadGo
          (repeat (first | rw [if_pos (by omega)] | rw [if_pos (by assumption)] | rw [if_pos (And.intro (by assumption) (by assumption))] | rw [if_pos (Or.inl (by assumption))] | rw [if_pos (Or.inr (by assumption))] | rw [if_neg (by omega)] | rw [if_neg (by assumption)] | rw [if_neg (not_not_intro (by assumption))] | rw [if_neg (nbt (by assumption))] | rw [if_neg (nbf (by assumption))] | rw [if_neg (nand_l (by assumption))] | rw [if_neg (nand_r (by assumption))] | rw [if_neg (nand_l (nbt (by assumption)))] | rw [if_neg (nand_r (nbt (by assumption)))] | rw [if_neg (nor_ (not_not_intro (by assumption)) (nbf (by assumption)))]))
          all_goals first | done | rfl | (unfold putS; (repeat (first | rw [if_pos (by omega)] | rw [if_pos (by assumption)] | rw [if_pos (And.intro (by assumption) (by assumption))] | rw [if_pos (Or.inl (by assumption))] | rw [if_pos (Or.inr (by assumption))] | rw [if_neg (by omega)] | rw [if_neg (by assumption)] | rw [if_neg (not_not_intro (by assumption))] | rw [if_neg (nbt (by assumption))] | rw [if_neg (nbf (by assumption))] | rw [if_neg (nand_l (by assumption))] | rw [if_neg (nand_r (by assumption))] | rw [if_neg (nand_l (nbt (by assumption)))] | rw [if_neg (nand_r (nbt (by assumption)))] | rw [if_neg (nor_ (not_not_intro (by assumption)) (nbf (by assumption)))])); first | done | rfl)
        · have := putS_len qs c17.to; simp at *; omega
        have := putS_len ps c17.to; simp at *; omega
      omega
    refine cw_region (ol rfl (lo_move rfl) (ol rfl (lo_fieldAddr rfl fl104_1) (ol rfl (lo_load1 (i := 2) (v := str _) rfl ag9 rfl rfl) ?_)))
    refine ow1 (op1_in (en_f cb183 rfl) Tryz.func183 rfl Tryz.ntmps183 rfl rfl ?_)
    refine cw_seq (cw_region (ol rfl (lo_assign (v := .slice _ _ _) rfl) (ow_nil (seqK_n (cw_seq ?_)))))
    refine cw_seq (cw_region (ol rfl (lo_move rfl) (ol rfl (lo_move (v := str _) rfl) ?_)))
    obtain ⟨a52, c53, rfl⟩ := own_shape ho1
    refine ow1 (op1_prl 40 rfl (fun _ hl54 hg55 => (contains_Str _ a52 qs.length c53 qs (slh_own (enc := (fun s => [str s])) (wf := (fun s => s.length ≤ 9223372036854775807)) (fun _ => rfl) ho1 hw1 hg55) c17.to (by first | omega | (simp <;> omega)))) (en_f cb197 rfl) rfl ?_)
    refine ow_nil (seqK_n (cw_cond rfl (fun h56 => ?_) (fun h56 => ?_)))
    · have p57 := dt h56
      refine cw_seq (cw_region (ol rfl (lo_move rfl) (ol rfl (lo_assign rfl) (ow_nil (seqK_n ?_)))))
      refine cw_ret (seqK_r (fnK_r (res1 rfl (rv_t rfl)) (.refl _) (ol rfl (lo_assign rfl) (ow_nil (blkK_n ?_)))))
      refine blkK_n (seqK_n (cw_region (ol rfl (lo_add rfl rfl (rg_i64 (by omega))) (omi rfl rfl (ow_nil ?_)))))
      refine next7 (k + 1) qs (.slice a52 qs.length c53) en1 ps v2 en2 (upd_intro (upd_intro (upd_intro (mask_intro (by first | exact off_refl | (repeat (first | exact off_mask | refine off_upd rfl ?_ | refine off_mask2 rfl ?_)))) rfl) rfl) rfl) (lupd_intro (lupd_intro (lmask_intro (by first | exact offl_refl | (repeat (first | exact offl_mask | refine offl_upd rfl ?_ | refine offl_mask2 rfl ?_)))) rfl) rfl) (hl14.trans hl34) ?_ ?_
      · refine ⟨by omega, ?_, ho1, hw1, ho2, hw2, ?_, ?_⟩
        · rw [hk2, dropE hc18]
          conv => lhs; unfold leadGo
          (repeat (first | rw [if_pos (by omega)] | rw [if_pos (by assumption)] | rw [if_pos (And.intro (by assumption) (by assumption))] | rw [if_pos (Or.inl (by assumption))] | rw [if_pos (Or.inr (by assumption))] | rw [if_neg (by omega)] | rw [if_neg (by assumption)] | rw [if_neg (not_not_intro (by assumption))] | rw [if_neg (nbt (by assumption))] | rw [if_neg (nbf (by assumption))] | rw [if_neg (nand_l (by assumption))] | rw [if_neg (nand_r (by assumption))] | rw [if_neg (nand_l (nbt (by assumption)))] | rw [if_neg (nand_r (nbt (by assumption)))] | rw [if_neg (nor_ (not_not_intro (by assumption)) (nbf (by assumption)))]))
          all_goals first | done | rfl | (unfold putS; (repeat (first | rw [if_pos (by omega)] | rw [if_pos (by assumption)] | rw [if_pos (And.intro (by assumption) (by assumption))] | rw [if_pos (Or.inl (by assumption))] | rw [if_pos (Or.inr (by assumption))] | rw [if_neg (by omega)] | rw [if_neg (by assumption)] | rw [if_neg (not_not_intro (by assumption))] | rw [if_neg (nbt (by assumption))] | rw [if_neg (nbf (by assumption))] | rw [if_neg (nand_l (by assumption))] | rw [if_neg (nand_r (by assumption))] | rw [if_neg (nand_l (nbt (by assumption)))] | rw [if_neg (nand_r (nbt (by assumption)))] | rw [if_neg (nor_ (not_not_intro (by assumption)) (nbf (by assumption)))])); first | done | rfl)
        · have := putS_len qs c17.to; simp at *; omega
        have := putS_len ps c17.to; simp at *; omega
      omega
    have p58 := df h56
    refine cw_skip (seqK_n (cw_seq (cw_region (ol rfl (lo_move rfl) (ol rfl (lo_move (v := str _) rfl) ?_)))))
    refine ow1 (op1_bslice (cs := [_]) 3 rfl Tryz.underlying183 sz9 zx9 rfl ⟨rfl, rfl, trivial⟩ rfl rfl (by decide) (fun b59 => ?_))
    refine ow1 (op1_app 40 rfl rfl Tryz.underlying183 Tryz.underlying183 rfl sz9 by9 (by decide) zr9 ho1 (src_bx (i := 3) rfl rfl) (List.all_eq_true.1 rfl) rfl (by omega) rfl (fun v60 en61 ho62 => ?_))
    have ho63 := own_push (enc := (fun s => [str s])) qs c17.to ho62 rfl
    refine ol rfl (lo_assign rfl) (ow_nil (seqK_n (cw_ret (fnK_r (res1 rfl (rv_t rfl)) (.refl _) (ol rfl (lo_assign rfl) ?_)))))
    refine ow_nil (blkK_n (blkK_n (seqK_n (cw_region (ol rfl (lo_add rfl rfl (rg_i64 (by omega))) ?_)))))
    refine omi rfl rfl (ow_nil ?_)
    refine next7 (k + 1) (qs ++ [c17.to]) v60 en61 ps v2 en2 (upd_intro (upd_intro (upd_intro (mask_intro (by first | exact off_refl | (repeat (first | exact off_mask | refine off_upd rfl ?_ | refine off_mask2 rfl ?_)))) rfl) rfl) rfl) (lupd_intro (lupd_intro (lmask_intro (by first | exact offl_refl | (repeat (first | exact offl_mask | refine offl_upd rfl ?_ | refine offl_mask2 rfl ?_)))) rfl) rfl) (hl14.trans hl34) ?_ ?_
    · refine ⟨by omega, ?_, ho63, (wf_push hw1 (by show List.length c17.to ≤ 9223372036854775807; first | omega | (simp; omega) | (simp; done))), ho2, hw2, ?_, ?_⟩
      · rw [hk2, dropE hc18]
        conv => lhs; unfold leadGo
        (repeat (first | rw [if_pos (by omega)] | rw [if_pos (by assumption)] | rw [if_pos (And.intro (by assumption) (by assumption))] | rw [if_pos (Or.inl (by assumption))] | rw [if_pos (Or.inr (by assumption))] | rw [if_neg (by omega)] | rw [if_neg (by assumption)] | rw [if_neg (not_not_intro (by assumption))] | rw [if_neg (nbt (by assumption))] | rw [if_neg (nbf (by assumption))] | rw [if_neg (nand_l (by assumption))] | rw [if_neg (nand_r (by assumption))] | rw [if_neg (nand_l (nbt (by assumption)))] | rw [if_neg (nand_r (nbt (by assumption)))] | rw [if_neg (nor_ (not_not_intro (by assumption)) (nbf (by assumption)))]))
        all_goals first | done | rfl | (unfold putS; (repeat (first | rw [if_pos (by omega)] | rw [if_pos (by assumption)] | rw [if_pos (And.intro (by assumption) (by assumption))] | rw [if_pos (Or.inl (by assumption))] | rw [if_pos (Or.inr (by assumption))] | rw [if_neg (by omega)] | rw [if_neg (by assumption)] | rw [if_neg (not_not_intro (by assumption))] | rw [if_neg (nbt (by assumption))] | rw [if_neg (nbf (by assumption))] | rw [if_neg (nand_l (by assumption))] | rw [if_neg (nand_r (by assumption))] | rw [if_neg (nand_l (nbt (by assumption)))] | rw [if_neg (nand_r (nbt (by assumption)))] | rw [if_neg (nor_ (not_not_intro (by assumption)) (nbf (by assumption)))])); first | done | rfl)
      · have := putS_len qs c17.to; simp at *; omega
      have := putS_len ps c17.to; simp at *; omega
    omega
  have p64 := df h15
  refine cw_exit (seqK_e (loopK_e (blkK_hit (seqK_n (cw_seq ?_)))))
  refine cw_region (ol rfl (lo_move rfl) (ol rfl (lo_move rfl) (ol rfl (lo_assign rfl) (ol rfl (lo_assign rfl) (oai rfl rfl ?_)))))
  refine ow_nil (seqK_n (cw_giveO 40 rfl (fun _ hl65 hg66 => ?_)))
  have hs67 := slh_own (enc := (fun s => [str s])) (wf := (fun s => s.length ≤ 9223372036854775807)) (fun _ => rfl) ho1 hw1 hg66
  obtain ⟨⟨a68, c69, rfl, -⟩, -⟩ := id hs67
  refine cw_giveO 41 rfl (fun _ hl70 hg71 => ?_)
  have hs72 := slh_own (enc := (fun s => [str s])) (wf := (fun s => s.length ≤ 9223372036854775807)) (fun _ => rfl) ho2 hw2 hg71
  obtain ⟨⟨a73, c74, rfl, -⟩, -⟩ := id hs72
  refine cw_ret (scK_r (fnK_r (res3 rfl (rv_t (v := .slice _ _ _) rfl) (rv_t (v := .slice _ _ _) rfl) (rv_t (v := .int _ _) rfl)) ((((HLe.refl _).trans hl14).trans hl65).trans hl70) ?_))
  have e : leadS b shop key h = (qs, ps, 0) := by
    unfold leadS
    rw [if_neg (nbf (by assumption)), if_neg (by assumption), hk2, List.drop_of_length_le (by omega)]
    rfl
  rw [e]
  exact ⟨_, _, _, _, rfl, (hs67.mono ((HLe.refl _).trans hl70) (fun _ _ h => h)), hs72⟩
end Go.SW
set_option linter.unusedVariables false
set_option maxRecDepth 100000
set_option maxHeartbeats 4000000
namespace Go.SW
open Go.Proofs
theorem bd100_0s_1u8 (a1 : Bs) (a2 : Int) (w : World) : (Instr.build 100 #[(0, str a1), (1, .int .u8 a2)]).run Tryz.prog w = .ok (.agg #[str a1, .int .u8 a2, str []]) w := by kernel_rfl
theorem bd104_0s_1s (a1 : Bs) (a2 : Bs) (w : World) : (Instr.build 104 #[(0, str a1), (1, str a2)]).run Tryz.prog w = .ok (.agg #[str a1, str a2, .bool false, str [], .slice none 0 0, .bool false]) w := by kernel_rfl
theorem bd104_0s_1s_3s (a1 : Bs) (a2 : Bs) (a3 : Bs) (w : World) : (Instr.build 104 #[(0, str a1), (1, str a2), (3, str a3)]).run Tryz.prog w = .ok (.agg #[str a1, str a2, .bool false, str a3, .slice none 0 0, .bool false]) w := by kernel_rfl
theorem bd204  (w : World) : (Instr.build 204 #[]).run Tryz.prog w = .ok (.agg #[.slice none 0 0, .slice none 0 0]) w := by kernel_rfl
theorem cb105 : Callable Tryz.prog 105 := callable_of Tryz.func105 (by kernel_rfl) (by kernel_rfl)
theorem cb148 : Callable Tryz.prog 148 := callable_of Tryz.func148 (by kernel_rfl) (by kernel_rfl)
theorem cb149 : Callable Tryz.prog 149 := callable_of Tryz.func149 (by kernel_rfl) (by kernel_rfl)
theorem cb150 : Callable Tryz.prog 150 := callable_of Tryz.func150 (by kernel_rfl) (by kernel_rfl)
theorem cb152 : Callable Tryz.prog 152 := callable_of Tryz.func152 (by kernel_rfl) (by kernel_rfl)
theorem l14_awake (H : Hp)  (hML : GInt H 2) : Pr Tryz.prog 105 #[] H (.bool true) := by
  refine pr_cw Tryz.func105 rfl Tryz.ntmps105 rfl (fun N => ?_)
  refine cw_seq (cw_region (oab rfl rfl (ow_nil (seqK_n (cw_seq ?_)))))
  refine cw_region (ol rfl (lo_build (v := .agg #[_, _]) rfl (bd204)) (ol rfl (lo_build (v := .agg #[_, _, _]) rfl (bd100_0s_1u8 _ _)) ?_))
  refine ow1 (op1_ph (book_Make _ (⟨[], []⟩ : BookR) none 0 slh_nil none 0 slh_nil (by simp only [BookR.wf]; first | omega | (simp; done) | (simp; omega)) (⟨[97], 1, []⟩ : ShopR) (by simp only [ShopR.wf]; first | omega | (simp; done) | (simp; omega))) (en_f cb148 rfl) rfl ?_)
  rintro _ H8 ⟨a1, c2, a4, c5, rfl, hs3, hs6⟩ hl7
  refine ol rfl (lo_move (v := .tuple #[_, _]) rfl) (ol rfl (lo_extract (v := .agg #[_, _]) rfl rfl) (ol rfl (lo_extract (v := .int _ _) rfl rfl) (ow1 (op1_alloc 0 rfl zr204 (fun b9 => ?_)))))
  refine ow1 (op1_storeAll (i := 0) (vs := [_, _]) rfl rfl rfl sz204 rfl rfl rfl ?_)
  refine oai rfl rfl (ow_nil (seqK_n (cw_seq (cw_region (ol rfl (lo_loadA (i := 0) (vs := [_, _]) rfl ag204 sz204 rfl rfl rfl) ?_)))))
  refine ol rfl (lo_build (v := .agg #[_, _, _, _, _, _]) rfl (bd104_0s_1s _ _)) ?_
  refine ow1 (op1_ph (book_Bind _ ((makeS (⟨[], []⟩ : BookR) (⟨[97], 1, []⟩ : ShopR)).1) a1 c2 hs3 a4 c5 hs6 (makeS_wf (by simp only [BookR.wf]; first | omega | (simp; done) | (simp; omega))) (⟨[97], [113], false, [], [], false⟩ : BindR) none 0 slh_nil (by simp only [BindR.wf]; first | omega | (simp; done) | (simp; omega)) (hML.mono ((HLe.refl _).trans hl7)) (by first | omega | (simp; done) | decide)) (en_f cb149 rfl) rfl ?_)
  rintro _ H17 ⟨a10, c11, a13, c14, rfl, hs12, hs15⟩ hl16
  refine ol rfl (lo_move (v := .tuple #[_, _]) rfl) (ol rfl (lo_extract (v := .agg #[_, _]) rfl rfl) (ol rfl (lo_extract (v := .int _ _) rfl rfl) ?_))
  refine ow1 (op1_storeAll (i := 0) (vs := [_, _]) rfl rfl rfl sz204 rfl rfl rfl ?_)
  refine ow_nil (seqK_n (cw_seq (cw_region (ol rfl (lo_loadA (i := 0) (vs := [_, _]) rfl ag204 sz204 rfl rfl rfl) (ol rfl (lo_build (v := .agg #[_, _, _, _, _, _]) rfl (bd104_0s_1s_3s _ _ _)) ?_)))))
  refine ow1 (op1_ph (book_Bind _ ((bindS ((makeS (⟨[], []⟩ : BookR) (⟨[97], 1, []⟩ : ShopR)).1) (⟨[97], [113], false, [], [], false⟩ : BindR)).1) a10 c11 hs12 a13 c14 hs15 (bindS_wf (makeS_wf (by simp only [BookR.wf]; first | omega | (simp; done) | (simp; omega)))) (⟨[97], [113], false, [120], [], false⟩ : BindR) none 0 slh_nil (by simp only [BindR.wf]; first | omega | (simp; done) | (simp; omega)) (hML.mono (((HLe.refl _).trans hl7).trans hl16)) (by first | omega | (simp; done) | decide)) (en_f cb149 rfl) rfl ?_)
  rintro _ H25 ⟨a18, c19, a21, c22, rfl, hs20, hs23⟩ hl24
  refine ol rfl (lo_move (v := .tuple #[_, _]) rfl) (ol rfl (lo_extract (v := .agg #[_, _]) rfl rfl) (ol rfl (lo_extract (v := .int _ _) rfl rfl) ?_))
  refine ow1 (op1_storeAll (i := 0) (vs := [_, _]) rfl rfl rfl sz204 rfl rfl rfl ?_)
  refine oai rfl rfl (ow_nil (seqK_n (cw_seq (cw_region (ol rfl (lo_loadA (i := 0) (vs := [_, _]) rfl ag204 sz204 rfl rfl rfl) ?_)))))
  refine ow1 (op1_ph (book_Leads _ ((bindS ((bindS ((makeS (⟨[], []⟩ : BookR) (⟨[97], 1, []⟩ : ShopR)).1) (⟨[97], [113], false, [], [], false⟩ : BindR)).1) (⟨[97], [113], false, [120], [], false⟩ : BindR)).1) a18 c19 hs20 a21 c22 hs23 (bindS_wf (bindS_wf (makeS_wf (by simp only [BookR.wf]; first | omega | (simp; done) | (simp; omega))))) [97] [] none 0 0 [] slh_nil (hML.mono ((((HLe.refl _).trans hl7).trans hl16).trans hl24)) (by first | omega | (simp; done) | decide) (by first | assumption | decide +kernel) (by first | omega | (simp; done) | decide) (by first | omega | (simp; done) | decide)) (en_f cb150 rfl) rfl ?_)
  rintro _ H33 ⟨a26, c27, a29, c30, rfl, hs28, hs31⟩ hl32
  refine ol rfl (lo_move (v := .tuple #[_, _, _]) rfl) (ol rfl (lo_extract (v := .slice _ _ _) rfl rfl) (ol rfl (lo_extract (v := .slice _ _ _) rfl rfl) (ol rfl (lo_extract (v := .int _ _) rfl rfl) (ol rfl (lo_assign (v := .slice _ _ _) rfl) (ol rfl (lo_assign (v := .slice _ _ _) rfl) ?_)))))
  refine oai rfl rfl (ow_nil (seqK_n (cw_seq (cw_region ?_))))
  refine ow1 (op1_pr (l04_Awake _ (hML.mono (((((HLe.refl _).trans hl7).trans hl16).trans hl24).trans hl32))) (en_f cb151 rfl) rfl ?_)
  refine omb rfl rfl ?_
  refine ow1 (op1_prg rfl rfl (l10_Awake _ (hML.mono (((((HLe.refl _).trans hl7).trans hl16).trans hl24).trans hl32))) (en_f cb80 rfl) rfl ?_)
  refine ol rfl (lo_pick_t (v := .bool _) rfl rfl rfl) (omb rfl rfl ?_)
  refine ow1 (op1_g rfl rfl rfl (lo_move (v := .int _ _) rfl) ?_)
  refine ow1 (op1_g rfl rfl rfl (lo_eql rfl rfl) ?_)
  refine ol rfl (lo_pick_t (v := .bool _) rfl rfl rfl) (omb rfl rfl ?_)
  refine ow1 (op1_g rfl (by decide +kernel) rfl (lo_move (v := .int _ _) rfl) ?_)
  refine ow1 (op1_g rfl (by decide +kernel) rfl (lo_eql rfl rfl) ?_)
  refine ol rfl (lo_pick_t (v := .bool _) rfl (by decide +kernel) rfl) (omb rfl rfl ?_)
  refine ow1 (op1_g rfl (by decide +kernel) rfl (lo_move (v := .slice _ _ _) rfl) ?_)
  refine ow1 (op1_gd rfl (by decide +kernel) (op1_bslice (cs := [_]) 1 rfl Tryz.underlying183 sz9 zx9 rfl ⟨rfl, rfl, trivial⟩ rfl rfl (by decide) (fun b34 => ?_)))
  refine ow_giveO 1 rfl (fun _ hl35 hg36 => ?_)
  have hs37 := slh_bx (k := 1) (H := _) (enc := (fun s => [str s])) (wf := (fun s => s.length ≤ 9223372036854775807)) [[113]] (fun _ => rfl) (hg36 _ _ rfl) rfl rfl (Nat.le_refl _) (by first | (intro x hx; simp at hx; subst hx; first | omega | (simp; done) | (simp; omega)) | (simp; done) | (simp; omega))
  refine ow1 (op1_prg rfl (by decide +kernel) (eq_Str _ a26 (((leadS ((bindS ((bindS ((makeS (⟨[], []⟩ : BookR) (⟨[97], 1, []⟩ : ShopR)).1) (⟨[97], [113], false, [], [], false⟩ : BindR)).1) (⟨[97], [113], false, [120], [], false⟩ : BindR)).1) [97] [] []).1).length) c27 ((leadS ((bindS ((bindS ((makeS (⟨[], []⟩ : BookR) (⟨[97], 1, []⟩ : ShopR)).1) (⟨[97], [113], false, [], [], false⟩ : BindR)).1) (⟨[97], [113], false, [120], [], false⟩ : BindR)).1) [97] [] []).1) (hs28.mono ((HLe.refl _).trans hl35) (fun _ _ h => h)) (some ⟨b34, 0, none⟩) 1 1 [[113]] hs37 (by decide +kernel)) (en_f cb152 rfl) rfl ?_)
  refine ol rfl (lo_pick_t (v := .bool _) rfl (by decide +kernel) rfl) (omb rfl rfl ?_)
  refine ow1 (op1_g rfl (by decide +kernel) rfl (lo_move (v := .slice _ _ _) rfl) ?_)
  refine ow1 (op1_g rfl (by decide +kernel) rfl (lo_len_slh rfl (hs31.mono ((HLe.refl _).trans hl35) (fun _ _ h => h)) Tryz.underlying183) ?_)
  refine ow1 (op1_g rfl (by decide +kernel) rfl (lo_eql rfl rfl) ?_)
  refine ol rfl (lo_pick_t (v := .bool _) rfl (by decide +kernel) rfl) (oab rfl rfl (ow_nil (seqK_n (cw_ret (fnK_r (res1 rfl (rv_t (v := .bool _) rfl)) ((((((HLe.refl _).trans hl7).trans hl16).trans hl24).trans hl32).trans hl35) ?_)))))
  exact congrArg Value.bool (by decide +kernel)
theorem l14_Awake (H : Hp)  (hML : GInt H 2) : Pr Tryz.prog 47 #[] H (.bool true) := by
  refine pr_cw Tryz.func47 rfl Tryz.ntmps47 rfl (fun N => ?_)
  refine cw_seq (cw_region (oab rfl rfl (ow_nil (seqK_n (cw_seq ?_)))))
  refine cw_region ?_
  refine ow1 (op1_pr (l14_awake _ hML) (en_f cb105 rfl) rfl ?_)
  refine oab rfl rfl (ow_nil (seqK_n (cw_ret (fnK_r (res1 rfl (rv_t (v := .bool _) rfl)) (.refl _) ?_))))
  rfl
end Go.SW
set_option linter.unusedVariables false
set_option maxRecDepth 100000
set_option maxHeartbeats 4000000
namespace Go.SW
open Go.Proofs
theorem cb45 : Callable Tryz.prog 45 := callable_of Tryz.func45 (by kernel_rfl) (by kernel_rfl)
theorem cb46 : Callable Tryz.prog 46 := callable_of Tryz.func46 (by kernel_rfl) (by kernel_rfl)
theorem cb47 : Callable Tryz.prog 47 := callable_of Tryz.func47 (by kernel_rfl) (by kernel_rfl)
theorem cb9 : Callable Tryz.prog 9 := callable_of Tryz.func9 (by kernel_rfl) (by kernel_rfl)
theorem l22_awake (H : Hp)  (hML : GInt H 2) : Pr Tryz.prog 9 #[] H (.bool true) := by
  refine pr_cw Tryz.func9 rfl Tryz.ntmps9 rfl (fun N => ?_)
  refine cw_seq (cw_region (oab rfl rfl (ow_nil (seqK_n (cw_seq ?_)))))
  refine cw_region (ol rfl (lo_build (v := .agg #[_, _, _, _, _, _, _, _, _, _, _, _, _, _, _, _, _, _, _, _, _, _, _, _, _, _, _, _, _]) rfl (bd106_0u8_1u64 _ _)) ?_)
  refine ow1 (op1_pr (deed_Bytes _ (⟨11, 1, (⟨[], 0, []⟩ : ShopR), (⟨[], 0, 0, []⟩ : QueueR), (⟨[], [], false, [], [], false⟩ : BindR), [], 0, 0, 0, 0, 0, (⟨0, [], [], [], [], 0, 0⟩ : Mail), []⟩ : DeedR) none 0 slh_nil none 0 slh_nil (by simp only [DeedR.wf, ShopR.wf, QueueR.wf, BindR.wf, Mail.wf]; first | omega | (simp; done) | (simp; omega)) hML) (en_f cb45 rfl) rfl ?_)
  have := deedBytes_len (d := (⟨11, 1, (⟨[], 0, []⟩ : ShopR), (⟨[], 0, 0, []⟩ : QueueR), (⟨[], [], false, [], [], false⟩ : BindR), [], 0, 0, 0, 0, 0, (⟨0, [], [], [], [], 0, 0⟩ : Mail), []⟩ : DeedR)) (by first | omega | decide)
  have := deedE_r (⟨11, 1, (⟨[], 0, []⟩ : ShopR), (⟨[], 0, 0, []⟩ : QueueR), (⟨[], [], false, [], [], false⟩ : BindR), [], 0, 0, 0, 0, 0, (⟨0, [], [], [], [], 0, 0⟩ : Mail), []⟩ : DeedR)
  refine ol rfl (lo_move (v := .tuple #[_, _]) rfl) (ol rfl (lo_extract (v := str _) rfl rfl) (ol rfl (lo_extract (v := .int _ _) rfl rfl) (ol rfl (lo_assign (v := str _) rfl) (oai rfl rfl (ow_nil ?_)))))
  refine seqK_n (cw_seq (cw_region ?_))
  refine ow1 (op1_pr (l13_Awake _ hML) (en_f cb46 rfl) rfl ?_)
  refine omb rfl rfl ?_
  refine ow1 (op1_prg rfl rfl (l14_Awake _ hML) (en_f cb47 rfl) rfl ?_)
  refine ol rfl (lo_pick_t (v := .bool _) rfl rfl rfl) (omb rfl rfl ?_)
  refine ow1 (op1_g rfl rfl rfl (lo_move (v := .int _ _) rfl) ?_)
  refine ow1 (op1_g rfl rfl rfl (lo_eql rfl rfl) ?_)
  refine ol rfl (lo_pick_t (v := .bool _) rfl rfl rfl) (omb rfl rfl ?_)
  refine ow1 (op1_g rfl (by decide +kernel) rfl (lo_move (v := str _) rfl) ?_)
  refine ow1 (op1_g rfl (by decide +kernel) rfl (lo_len_str rfl Tryz.underlying9) ?_)
  refine ow1 (op1_g rfl (by decide +kernel) rfl (lo_eql rfl rfl) ?_)
  refine ol rfl (lo_pick_t (v := .bool _) rfl (by decide +kernel) rfl) (oab rfl rfl (ow_nil (seqK_n (cw_ret (fnK_r (res1 rfl (rv_t (v := .bool _) rfl)) (.refl _) ?_)))))
  exact congrArg Value.bool (by decide +kernel)
end Go.SW
