/-
  A part of the proof of DraftLives: The walks of this seat, printed by program: deed.Deed.Bytes. The walks of this seat, printed by program: slices.Equal[[]string,string], slices.Index[[]string,string], slices.Contains[[]string,string], route.Shop.check, route.Book.Shop. The walks of this seat, printed by program: route.Shop], route.Bind]. The walks of this seat, printed by program: route.Book.Make. The walks of this seat, printed by program: route.Bind.rule, route.Bind.same, route.Bind.clone, route.Book.there. The walks of this seat, printed by program: route.Book.Bind. The walks of this seat, printed by program: route.Book.Leads. The walks of this seat, printed by program: stairwelllaw14.awake, stairwelllaw14.Awake. The walks of this seat, printed by program: stairwelllaw22.awake, stairwelllaw22.Awake. The walks of this seat, printed by program: stairwelllaw26.awake, stairwelllaw26.Awake.
-/
import Derived.Test.YtdjkbpmciibafaaDoorProg
import Derived.Test.YtdjkbpmciibafaaDoorDraftLivesP2
import Derived.KernelRfl
import Derived.Test.YtdjkbpmciibafaaDoorDraftLivesP3
set_option linter.unusedVariables false
set_option linter.unusedSimpArgs false
set_option linter.unusedVariables false
set_option maxRecDepth 100000
set_option maxHeartbeats 4000000
namespace Go.SW
open Go.Proofs
theorem cb12 : Callable Tryd.prog 12 := callable_of Tryd.func12 (by kernel_rfl) (by kernel_rfl)
theorem cb17 : Callable Tryd.prog 17 := callable_of Tryd.func17 (by kernel_rfl) (by kernel_rfl)
theorem fl31_1 : Fld Tryd.prog 31 1 1 := fun b o w => by kernel_rfl
theorem fl31_2 : Fld Tryd.prog 31 2 2 := fun b o w => by kernel_rfl
theorem deed_Bytes (H : Hp) (d : DeedR) (d_bind_want_a : Option Addr) (d_bind_want_c : Nat) (d_bind_want_h : SlH pairE 4 H (.slice d_bind_want_a d.bind.want.length d_bind_want_c) d.bind.want) (d_mail_head_a : Option Addr) (d_mail_head_c : Nat) (d_mail_head_h : SlH pairE 4 H (.slice d_mail_head_a d.mail.head.length d_mail_head_c) d.mail.head) (d_w : DeedR.wf d) (hML : GInt H 0) : Pr Tryd.prog 9 #[.agg (DeedR.cells d d_bind_want_a d_bind_want_c d_mail_head_a d_mail_head_c).toArray] H (.tuple #[str (deedBytes d), .int .i64 (deedE d)]) := by
  refine pr_cw Tryd.func9 rfl Tryd.ntmps9 rfl (fun N => ?_)
  have d_w' := d_w
  simp only [DeedR.wf, ShopR.wf, QueueR.wf, BindR.wf, Mail.wf] at d_w'
  refine cw_seq ?_
  refine cw_region ?_
  refine ow1 (op1_box (cs := [_, _, _, _, _, _, _, _, _, _, _, _, _, _, _, _, _, _, _, _, _, _, _, _, _, _, _, _, _]) 0 rfl rfl (fun b1 => ?_))
  refine ol rfl (lo_assign (v := str _) rfl) ?_
  refine ol rfl (lo_assign (v := .int _ _) rfl) ?_
  refine ow_nil ?_
  refine seqK_n ?_
  refine cw_seq ?_
  refine cw_seq ?_
  refine cw_region ?_
  refine ol rfl (lo_loadA (i := 0) (vs := [_, _, _, _, _, _, _, _, _, _, _, _, _, _, _, _, _, _, _, _, _, _, _, _, _, _, _, _, _]) rfl ag38 sz38 rfl rfl rfl) ?_
  refine ow1 (op1_pr (deed_Check _ d d_bind_want_a d_bind_want_c d_bind_want_h d_mail_head_a d_mail_head_c d_mail_head_h d_w hML) (en_f cb12 rfl) rfl ?_)
  have := deedE_r d
  refine ol rfl (lo_assign (v := .int _ _) rfl) ?_
  refine ow_nil ?_
  refine seqK_n ?_
  refine cw_seq ?_
  refine cw_region ?_
  refine ol rfl (lo_move (v := .int _ _) rfl) ?_
  refine ol rfl (lo_neq rfl rfl) ?_
  refine ow_nil ?_
  refine seqK_n ?_
  refine cw_cond rfl (fun h2 => ?_) (fun h2 => ?_)
  · have h3 := not_t h2
    have p4 := df h3
    refine cw_seq ?_
    refine cw_region ?_
    refine ol rfl (lo_move (v := .int _ _) rfl) ?_
    refine ol rfl (lo_assign (v := str _) rfl) ?_
    refine ol rfl (lo_assign (v := .int _ _) rfl) ?_
    refine ow_nil ?_
    refine seqK_n ?_
    refine cw_ret ?_
    refine seqK_r ?_
    refine fnK_r (res2 rfl (rv_t (v := str _) rfl) (rv_t (v := .int _ _) rfl)) (.refl _) ?_
    have e : deedBytes d = [] := by
      unfold deedBytes
      first
        | (rw [if_neg (by assumption)]; done)
        | (rw [if_pos (by assumption)]; unfold deedOut; (repeat (first | rw [if_pos (by omega)] | rw [if_neg (by omega)] | rw [if_pos (by assumption)] | rw [if_neg (by assumption)] | rw [if_neg (fun q => q (by assumption))])); first | done | rfl)
    rw [e]
    try (rw [show deedE d = 0 by assumption])
  have h5 := not_f h2
  have p6 := dt h5
  have hdk := deedE_ok (d := d) (by omega) p6
  obtain ⟨dk1, dk2, dk3, dk4, dk5, dk6, dk7, dk8, dk9, dk10, dk11, dk12, dk13, dk14, dk15, dk16, dk17, dk18, dk19⟩ := hdk
  refine cw_skip ?_
  refine seqK_n ?_
  refine cw_seq ?_
  refine cw_anyL mixd ?_
  refine vw_q 0 rfl (by kernel_rfl) (by repeat (first | exact lle_l0 | exact LLe.refl _ | exact lle_none | refine lle_up ?_ rfl)) (fun _ _ hh hl => lo_build (v := .agg #[_, _]) rfl (bd42)) ?_
  refine vw_q 1 rfl (by kernel_rfl) (by repeat (first | exact lle_l0 | exact LLe.refl _ | exact lle_none | refine lle_up ?_ rfl)) (fun _ _ hh hl => lo_fieldAddr rfl fl38_0) ?_
  refine vw_q 2 rfl (by kernel_rfl) (by repeat (first | exact lle_l0 | exact LLe.refl _ | exact lle_none | refine lle_up ?_ rfl)) (fun _ _ hh hl => lo_load1 (i := 0) (v := .int _ _) rfl ag5 (hl _ _ rfl) rfl) ?_
  refine vw_q 3 rfl (by kernel_rfl) (by repeat (first | exact lle_l0 | exact LLe.refl _ | exact lle_none | refine lle_up ?_ rfl)) (fun _ _ hh hl => lo_conv_in rfl (by rw [Tryd.underlying5]; rfl) Tryd.underlying22 (rg_u64 (by omega))) ?_
  have nl0 : (⟨[], 0⟩ : Out).s.length = 0 := rfl
  have := outNum_len (⟨[], 0⟩ : Out) d.kind 1
  refine vw_qc 4 rfl (by kernel_rfl) (by repeat (first | exact lle_l0 | exact LLe.refl _ | exact lle_none | refine lle_up ?_ rfl)) (out_Num _ (⟨[], 0⟩ : Out) d.kind (by omega) 1 (by omega) (by first | omega | (have := hrl (by assumption); omega) | (simp [outNum, outRaw, numB_len, numK] <;> omega) | (have := hrl (by assumption); simp [outNum, outRaw, numB_len, numK] <;> omega))) (en_f cb13 rfl) ?_
  refine vw_q 5 rfl (by kernel_rfl) (by repeat (first | exact lle_l0 | exact LLe.refl _ | exact lle_none | refine lle_up ?_ rfl)) (fun _ _ hh hl => lo_fieldAddr rfl fl38_1) ?_
  refine vw_q 6 rfl (by kernel_rfl) (by repeat (first | exact lle_l0 | exact LLe.refl _ | exact lle_none | refine lle_up ?_ rfl)) (fun _ _ hh hl => lo_load1 (i := 0) (v := .int _ _) rfl ag22 (hl _ _ rfl) rfl) ?_
  have := outNum_len (outNum (⟨[], 0⟩ : Out) d.kind 1) d.tick 8
  refine vw_qc 7 rfl (by kernel_rfl) (by repeat (first | exact lle_l0 | exact LLe.refl _ | exact lle_none | refine lle_up ?_ rfl)) (out_Num _ (outNum (⟨[], 0⟩ : Out) d.kind 1) d.tick (by omega) 8 (by omega) (by first | omega | (have := hrl (by assumption); omega) | (simp [outNum, outRaw, numB_len, numK] <;> omega) | (have := hrl (by assumption); simp [outNum, outRaw, numB_len, numK] <;> omega))) (en_f cb13 rfl) ?_
  refine vw_e 8 rfl (by kernel_rfl) (op1_alloc 1 rfl zr42 (fun b7 => ?_))
  refine ⟨⟨(.refl _), (by repeat (first | exact lle_l0 | exact LLe.refl _ | exact lle_none | refine lle_up ?_ rfl))⟩, ?_⟩
  refine vw_t 9 rfl (by kernel_rfl) (by kernel_rfl) (op1_storeAll (i := 1) (vs := [_, _]) rfl rfl rfl sz42 rfl rfl rfl ?_)
  refine vw_done (by kernel_rfl) ?_
  refine seqK_n ?_
  refine cw_seq ?_
  refine cw_region ?_
  refine ol rfl (lo_fieldAddr rfl fl38_11) ?_
  refine ol rfl (lo_loadA (i := 0) (vs := [_, _, _, _, _, _, _]) rfl ag36 sz36 rfl rfl rfl) ?_
  refine ow1 (op1_pr (mail_Bytes _ d.mail d_mail_head_a d_mail_head_c d_mail_head_h (by simp only [Mail.wf]; first | omega | (simp; done) | (simp; omega)) hML) (en_f cb14 rfl) rfl ?_)
  have := mailBytes_len d.mail
  refine ol rfl (lo_move (v := .tuple #[_, _]) rfl) ?_
  refine ol rfl (lo_extract (v := str _) rfl rfl) ?_
  refine ol rfl (lo_extract (v := .int _ _) rfl rfl) ?_
  refine ol rfl (lo_assign (v := str _) rfl) ?_
  refine ol rfl (lo_assign (v := .int _ _) rfl) ?_
  refine ow_nil ?_
  refine seqK_n ?_
  refine cw_seq ?_
  refine cw_seq ?_
  refine cw_region ?_
  refine ol rfl (lo_fieldAddr rfl fl38_0) ?_
  refine ol rfl (lo_load1 (i := 0) (v := .int _ _) rfl ag5 rfl rfl) ?_
  refine ow_nil ?_
  refine seqK_n ?_
  refine cw_block ?_
  refine cw_seq ?_
  refine cw_region ?_
  refine ol rfl (lo_eql rfl rfl) ?_
  refine ol rfl (lo_assign (v := .bool _) rfl) ?_
  refine ow_nil ?_
  refine seqK_n ?_
  refine cw_cond rfl (fun h8 => ?_) (fun h8 => ?_)
  · have p9 := dt h8
    refine cw_anyL mixd ?_
    refine vw_q 0 rfl (by kernel_rfl) (by repeat (first | exact lle_l0 | exact LLe.refl _ | exact lle_none | refine lle_up ?_ rfl)) (fun _ _ hh hl => lo_loadA (i := 1) (vs := [_, _]) rfl ag42 sz42 (hl _ _ rfl) rfl rfl) ?_
    refine vw_q 1 rfl (by kernel_rfl) (by repeat (first | exact lle_l0 | exact LLe.refl _ | exact lle_none | refine lle_up ?_ rfl)) (fun _ _ hh hl => lo_fieldAddr rfl fl38_2) ?_
    refine vw_q 2 rfl (by kernel_rfl) (by repeat (first | exact lle_l0 | exact LLe.refl _ | exact lle_none | refine lle_up ?_ rfl)) (fun _ _ hh hl => lo_fieldAddr rfl fl29_0) ?_
    refine vw_q 3 rfl (by kernel_rfl) (by repeat (first | exact lle_l0 | exact LLe.refl _ | exact lle_none | refine lle_up ?_ rfl)) (fun _ _ hh hl => lo_load1 (i := 0) (v := str _) rfl ag9 (hl _ _ rfl) rfl) ?_
    have := outText_len (outNum (outNum (⟨[], 0⟩ : Out) d.kind 1) d.tick 8) d.shop.name
    refine vw_qc 4 rfl (by kernel_rfl) (by repeat (first | exact lle_l0 | exact LLe.refl _ | exact lle_none | refine lle_up ?_ rfl)) (out_Text _ (outNum (outNum (⟨[], 0⟩ : Out) d.kind 1) d.tick 8) d.shop.name (by first | omega | (have := hrl (by assumption); omega) | (simp [outNum, outRaw, numB_len, numK] <;> omega) | (have := hrl (by assumption); simp [outNum, outRaw, numB_len, numK] <;> omega))) (en_f cb15 rfl) ?_
    refine vw_q 5 rfl (by kernel_rfl) (by repeat (first | exact lle_l0 | exact LLe.refl _ | exact lle_none | refine lle_up ?_ rfl)) (fun _ _ hh hl => lo_fieldAddr rfl fl38_2) ?_
    refine vw_q 6 rfl (by kernel_rfl) (by repeat (first | exact lle_l0 | exact LLe.refl _ | exact lle_none | refine lle_up ?_ rfl)) (fun _ _ hh hl => lo_fieldAddr rfl fl29_1) ?_
    refine vw_q 7 rfl (by kernel_rfl) (by repeat (first | exact lle_l0 | exact LLe.refl _ | exact lle_none | refine lle_up ?_ rfl)) (fun _ _ hh hl => lo_load1 (i := 0) (v := .int _ _) rfl ag5 (hl _ _ rfl) rfl) ?_
    refine vw_q 8 rfl (by kernel_rfl) (by repeat (first | exact lle_l0 | exact LLe.refl _ | exact lle_none | refine lle_up ?_ rfl)) (fun _ _ hh hl => lo_conv_in rfl (by rw [Tryd.underlying5]; rfl) Tryd.underlying22 (rg_u64 (by omega))) ?_
    have := outNum_len (outText (outNum (outNum (⟨[], 0⟩ : Out) d.kind 1) d.tick 8) d.shop.name) d.shop.sort 1
    refine vw_qc 9 rfl (by kernel_rfl) (by repeat (first | exact lle_l0 | exact LLe.refl _ | exact lle_none | refine lle_up ?_ rfl)) (out_Num _ (outText (outNum (outNum (⟨[], 0⟩ : Out) d.kind 1) d.tick 8) d.shop.name) d.shop.sort (by omega) 1 (by omega) (by first | omega | (have := hrl (by assumption); omega) | (simp [outNum, outRaw, numB_len, numK] <;> omega) | (have := hrl (by assumption); simp [outNum, outRaw, numB_len, numK] <;> omega))) (en_f cb13 rfl) ?_
    refine vw_q 10 rfl (by kernel_rfl) (by repeat (first | exact lle_l0 | exact LLe.refl _ | exact lle_none | refine lle_up ?_ rfl)) (fun _ _ hh hl => lo_fieldAddr rfl fl38_2) ?_
    refine vw_q 11 rfl (by kernel_rfl) (by repeat (first | exact lle_l0 | exact LLe.refl _ | exact lle_none | refine lle_up ?_ rfl)) (fun _ _ hh hl => lo_fieldAddr rfl fl29_2) ?_
    refine vw_q 12 rfl (by kernel_rfl) (by repeat (first | exact lle_l0 | exact LLe.refl _ | exact lle_none | refine lle_up ?_ rfl)) (fun _ _ hh hl => lo_load1 (i := 0) (v := str _) rfl ag9 (hl _ _ rfl) rfl) ?_
    have := outText_len (outNum (outText (outNum (outNum (⟨[], 0⟩ : Out) d.kind 1) d.tick 8) d.shop.name) d.shop.sort 1) d.shop.to
    refine vw_qc 13 rfl (by kernel_rfl) (by repeat (first | exact lle_l0 | exact LLe.refl _ | exact lle_none | refine lle_up ?_ rfl)) (out_Text _ (outNum (outText (outNum (outNum (⟨[], 0⟩ : Out) d.kind 1) d.tick 8) d.shop.name) d.shop.sort 1) d.shop.to (by first | omega | (have := hrl (by assumption); omega) | (simp [outNum, outRaw, numB_len, numK] <;> omega) | (have := hrl (by assumption); simp [outNum, outRaw, numB_len, numK] <;> omega))) (en_f cb15 rfl) ?_
    refine vw_t 14 rfl (by kernel_rfl) (by kernel_rfl) (op1_storeAll (i := 1) (vs := [_, _]) rfl rfl rfl sz42 rfl rfl rfl ?_)
    refine vw_done (by kernel_rfl) ?_
    refine blkK_n ?_
    refine seqK_n ?_
    refine cw_seq ?_
    refine cw_region ?_
    refine ol rfl (lo_loadA (i := 1) (vs := [_, _]) rfl ag42 sz42 rfl rfl rfl) ?_
    refine ow1 (op1_pr (out_String _ (outText (outNum (outText (outNum (outNum (⟨[], 0⟩ : Out) d.kind 1) d.tick 8) d.shop.name) d.shop.sort 1) d.shop.to)) (en_f cb19 rfl) rfl ?_)
    refine ol rfl (lo_assign (v := str _) rfl) ?_
    refine ol rfl (lo_assign (v := .int _ _) rfl) ?_
    refine ow_nil ?_
    refine seqK_n ?_
    refine cw_ret ?_
    refine fnK_r (res2 rfl (rv_t (v := str _) rfl) (rv_t (v := .int _ _) rfl)) (.refl _) ?_
    have e : deedBytes d = (outText (outNum (outText (outNum (outNum (⟨[], 0⟩ : Out) d.kind 1) d.tick 8) d.shop.name) d.shop.sort 1) d.shop.to).s := by
      unfold deedBytes
      first
        | (rw [if_neg (by assumption)]; done)
        | (rw [if_pos (by assumption)]; unfold deedOut; (repeat (first | rw [if_pos (by omega)] | rw [if_neg (by omega)] | rw [if_pos (by assumption)] | rw [if_neg (by assumption)] | rw [if_neg (fun q => q (by assumption))])); first | done | rfl)
    rw [e]
    try (rw [show deedE d = 0 by assumption])
  have p10 := df h8
  refine cw_seq ?_
  refine cw_region ?_
  refine ol rfl (lo_eql rfl rfl) ?_
  refine ol rfl (lo_assign (v := .bool _) rfl) ?_
  refine ow_nil ?_
  refine seqK_n ?_
  refine cw_cond rfl (fun h11 => ?_) (fun h11 => ?_)
  · have p12 := dt h11
    refine cw_anyL mixd ?_
    refine vw_q 0 rfl (by kernel_rfl) (by repeat (first | exact lle_l0 | exact LLe.refl _ | exact lle_none | refine lle_up ?_ rfl)) (fun _ _ hh hl => lo_loadA (i := 1) (vs := [_, _]) rfl ag42 sz42 (hl _ _ rfl) rfl rfl) ?_
    refine vw_q 1 rfl (by kernel_rfl) (by repeat (first | exact lle_l0 | exact LLe.refl _ | exact lle_none | refine lle_up ?_ rfl)) (fun _ _ hh hl => lo_fieldAddr rfl fl38_3) ?_
    refine vw_q 2 rfl (by kernel_rfl) (by repeat (first | exact lle_l0 | exact LLe.refl _ | exact lle_none | refine lle_up ?_ rfl)) (fun _ _ hh hl => lo_fieldAddr rfl fl31_0) ?_
    refine vw_q 3 rfl (by kernel_rfl) (by repeat (first | exact lle_l0 | exact LLe.refl _ | exact lle_none | refine lle_up ?_ rfl)) (fun _ _ hh hl => lo_load1 (i := 0) (v := str _) rfl ag9 (hl _ _ rfl) rfl) ?_
    have := outText_len (outNum (outNum (⟨[], 0⟩ : Out) d.kind 1) d.tick 8) d.queue.name
    refine vw_qc 4 rfl (by kernel_rfl) (by repeat (first | exact lle_l0 | exact LLe.refl _ | exact lle_none | refine lle_up ?_ rfl)) (out_Text _ (outNum (outNum (⟨[], 0⟩ : Out) d.kind 1) d.tick 8) d.queue.name (by first | omega | (have := hrl (by assumption); omega) | (simp [outNum, outRaw, numB_len, numK] <;> omega) | (have := hrl (by assumption); simp [outNum, outRaw, numB_len, numK] <;> omega))) (en_f cb15 rfl) ?_
    refine vw_q 5 rfl (by kernel_rfl) (by repeat (first | exact lle_l0 | exact LLe.refl _ | exact lle_none | refine lle_up ?_ rfl)) (fun _ _ hh hl => lo_fieldAddr rfl fl38_3) ?_
    refine vw_q 6 rfl (by kernel_rfl) (by repeat (first | exact lle_l0 | exact LLe.refl _ | exact lle_none | refine lle_up ?_ rfl)) (fun _ _ hh hl => lo_fieldAddr rfl fl31_1) ?_
    refine vw_q 7 rfl (by kernel_rfl) (by repeat (first | exact lle_l0 | exact LLe.refl _ | exact lle_none | refine lle_up ?_ rfl)) (fun _ _ hh hl => lo_load1 (i := 0) (v := .int _ _) rfl ag22 (hl _ _ rfl) rfl) ?_
    have := outNum_len (outText (outNum (outNum (⟨[], 0⟩ : Out) d.kind 1) d.tick 8) d.queue.name) d.queue.most 8
    refine vw_qc 8 rfl (by kernel_rfl) (by repeat (first | exact lle_l0 | exact LLe.refl _ | exact lle_none | refine lle_up ?_ rfl)) (out_Num _ (outText (outNum (outNum (⟨[], 0⟩ : Out) d.kind 1) d.tick 8) d.queue.name) d.queue.most (by omega) 8 (by omega) (by first | omega | (have := hrl (by assumption); omega) | (simp [outNum, outRaw, numB_len, numK] <;> omega) | (have := hrl (by assumption); simp [outNum, outRaw, numB_len, numK] <;> omega))) (en_f cb13 rfl) ?_
    refine vw_q 9 rfl (by kernel_rfl) (by repeat (first | exact lle_l0 | exact LLe.refl _ | exact lle_none | refine lle_up ?_ rfl)) (fun _ _ hh hl => lo_fieldAddr rfl fl38_3) ?_
    refine vw_q 10 rfl (by kernel_rfl) (by repeat (first | exact lle_l0 | exact LLe.refl _ | exact lle_none | refine lle_up ?_ rfl)) (fun _ _ hh hl => lo_fieldAddr rfl fl31_2) ?_
    refine vw_q 11 rfl (by kernel_rfl) (by repeat (first | exact lle_l0 | exact LLe.refl _ | exact lle_none | refine lle_up ?_ rfl)) (fun _ _ hh hl => lo_load1 (i := 0) (v := .int _ _) rfl ag22 (hl _ _ rfl) rfl) ?_
    have := outNum_len (outNum (outText (outNum (outNum (⟨[], 0⟩ : Out) d.kind 1) d.tick 8) d.queue.name) d.queue.most 8) d.queue.life 8
    refine vw_qc 12 rfl (by kernel_rfl) (by repeat (first | exact lle_l0 | exact LLe.refl _ | exact lle_none | refine lle_up ?_ rfl)) (out_Num _ (outNum (outText (outNum (outNum (⟨[], 0⟩ : Out) d.kind 1) d.tick 8) d.queue.name) d.queue.most 8) d.queue.life (by omega) 8 (by omega) (by first | omega | (have := hrl (by assumption); omega) | (simp [outNum, outRaw, numB_len, numK] <;> omega) | (have := hrl (by assumption); simp [outNum, outRaw, numB_len, numK] <;> omega))) (en_f cb13 rfl) ?_
    refine vw_q 13 rfl (by kernel_rfl) (by repeat (first | exact lle_l0 | exact LLe.refl _ | exact lle_none | refine lle_up ?_ rfl)) (fun _ _ hh hl => lo_fieldAddr rfl fl38_3) ?_
    refine vw_q 14 rfl (by kernel_rfl) (by repeat (first | exact lle_l0 | exact LLe.refl _ | exact lle_none | refine lle_up ?_ rfl)) (fun _ _ hh hl => lo_fieldAddr rfl fl31_3) ?_
    refine vw_q 15 rfl (by kernel_rfl) (by repeat (first | exact lle_l0 | exact LLe.refl _ | exact lle_none | refine lle_up ?_ rfl)) (fun _ _ hh hl => lo_load1 (i := 0) (v := str _) rfl ag9 (hl _ _ rfl) rfl) ?_
    have := outText_len (outNum (outNum (outText (outNum (outNum (⟨[], 0⟩ : Out) d.kind 1) d.tick 8) d.queue.name) d.queue.most 8) d.queue.life 8) d.queue.dead
    refine vw_qc 16 rfl (by kernel_rfl) (by repeat (first | exact lle_l0 | exact LLe.refl _ | exact lle_none | refine lle_up ?_ rfl)) (out_Text _ (outNum (outNum (outText (outNum (outNum (⟨[], 0⟩ : Out) d.kind 1) d.tick 8) d.queue.name) d.queue.most 8) d.queue.life 8) d.queue.dead (by first | omega | (have := hrl (by assumption); omega) | (simp [outNum, outRaw, numB_len, numK] <;> omega) | (have := hrl (by assumption); simp [outNum, outRaw, numB_len, numK] <;> omega))) (en_f cb15 rfl) ?_
    refine vw_t 17 rfl (by kernel_rfl) (by kernel_rfl) (op1_storeAll (i := 1) (vs := [_, _]) rfl rfl rfl sz42 rfl rfl rfl ?_)
    refine vw_done (by kernel_rfl) ?_
    refine blkK_n ?_
    refine seqK_n ?_
    refine cw_seq ?_
    refine cw_region ?_
    refine ol rfl (lo_loadA (i := 1) (vs := [_, _]) rfl ag42 sz42 rfl rfl rfl) ?_
    refine ow1 (op1_pr (out_String _ (outText (outNum (outNum (outText (outNum (outNum (⟨[], 0⟩ : Out) d.kind 1) d.tick 8) d.queue.name) d.queue.most 8) d.queue.life 8) d.queue.dead)) (en_f cb19 rfl) rfl ?_)
    refine ol rfl (lo_assign (v := str _) rfl) ?_
    refine ol rfl (lo_assign (v := .int _ _) rfl) ?_
    refine ow_nil ?_
    refine seqK_n ?_
    refine cw_ret ?_
    refine fnK_r (res2 rfl (rv_t (v := str _) rfl) (rv_t (v := .int _ _) rfl)) (.refl _) ?_
    have e : deedBytes d = (outText (outNum (outNum (outText (outNum (outNum (⟨[], 0⟩ : Out) d.kind 1) d.tick 8) d.queue.name) d.queue.most 8) d.queue.life 8) d.queue.dead).s := by
      unfold deedBytes
      first
        | (rw [if_neg (by assumption)]; done)
        | (rw [if_pos (by assumption)]; unfold deedOut; (repeat (first | rw [if_pos (by omega)] | rw [if_neg (by omega)] | rw [if_pos (by assumption)] | rw [if_neg (by assumption)] | rw [if_neg (fun q => q (by assumption))])); first | done | rfl)
    rw [e]
    try (rw [show deedE d = 0 by assumption])
  have p13 := df h11
  refine cw_seq ?_
  refine cw_seq ?_
  refine cw_region ?_
  refine ol rfl (lo_eql rfl rfl) ?_
  refine ol rfl (lo_assign (v := .bool _) rfl) ?_
  refine ow_nil ?_
  refine seqK_n ?_
  refine cw_cond rfl (fun h14 => ?_) (fun h14 => ?_)
  · have p15 := dt h14
    refine cw_skip ?_
    refine seqK_n ?_
    refine cw_cond_t rfl h14 ?_
    refine cw_seq ?_
    refine cw_region ?_
    refine ol rfl (lo_fieldAddr rfl fl38_4) ?_
    refine ol rfl (lo_loadA (i := 0) (vs := [_, _, _, _, _, _]) rfl ag34 sz34 rfl rfl rfl) ?_
    refine ow1 (op1_alloc 2 rfl zr34 (fun b16 => ?_))
    refine ow1 (op1_storeAll (i := 2) (vs := [_, _, _, _, _, _]) rfl rfl rfl sz34 rfl rfl rfl ?_)
    refine ow_nil ?_
    refine seqK_n ?_
    refine cw_seq ?_
    refine cw_region ?_
    refine ol rfl (lo_fieldAddr rfl fl34_4) ?_
    refine ol rfl (lo_load1 (i := 2) (v := .slice _ _ _) rfl ag32 rfl rfl) ?_
    refine ow1 (op1_pr (head_Bytes _ d_bind_want_a d.bind.want.length d_bind_want_c d.bind.want d_bind_want_h (by first | omega | (simp <;> omega))) (en_f cb16 rfl) rfl ?_)
    have := headBytes_len d.bind.want
    refine ol rfl (lo_move (v := .tuple #[_, _]) rfl) ?_
    refine ol rfl (lo_extract (v := str _) rfl rfl) ?_
    refine ol rfl (lo_extract (v := .int _ _) rfl rfl) ?_
    refine ol rfl (lo_assign (v := str _) rfl) ?_
    refine ol rfl (lo_assign (v := .int _ _) rfl) ?_
    refine ow_nil ?_
    refine seqK_n ?_
    refine cw_anyL mixd ?_
    refine vw_q 0 rfl (by kernel_rfl) (by repeat (first | exact lle_l0 | exact LLe.refl _ | exact lle_none | refine lle_up ?_ rfl)) (fun _ _ hh hl => lo_loadA (i := 1) (vs := [_, _]) rfl ag42 sz42 (hl _ _ rfl) rfl rfl) ?_
    refine vw_q 1 rfl (by kernel_rfl) (by repeat (first | exact lle_l0 | exact LLe.refl _ | exact lle_none | refine lle_up ?_ rfl)) (fun _ _ hh hl => lo_fieldAddr rfl fl34_0) ?_
    refine vw_q 2 rfl (by kernel_rfl) (by repeat (first | exact lle_l0 | exact LLe.refl _ | exact lle_none | refine lle_up ?_ rfl)) (fun _ _ hh hl => lo_load1 (i := 2) (v := str _) rfl ag9 (hl _ _ rfl) rfl) ?_
    have := outText_len (outNum (outNum (⟨[], 0⟩ : Out) d.kind 1) d.tick 8) d.bind.shop
    refine vw_qc 3 rfl (by kernel_rfl) (by repeat (first | exact lle_l0 | exact LLe.refl _ | exact lle_none | refine lle_up ?_ rfl)) (out_Text _ (outNum (outNum (⟨[], 0⟩ : Out) d.kind 1) d.tick 8) d.bind.shop (by first | omega | (have := hrl (by assumption); omega) | (simp [outNum, outRaw, numB_len, numK] <;> omega) | (have := hrl (by assumption); simp [outNum, outRaw, numB_len, numK] <;> omega))) (en_f cb15 rfl) ?_
    refine vw_q 4 rfl (by kernel_rfl) (by repeat (first | exact lle_l0 | exact LLe.refl _ | exact lle_none | refine lle_up ?_ rfl)) (fun _ _ hh hl => lo_fieldAddr rfl fl34_1) ?_
    refine vw_q 5 rfl (by kernel_rfl) (by repeat (first | exact lle_l0 | exact LLe.refl _ | exact lle_none | refine lle_up ?_ rfl)) (fun _ _ hh hl => lo_load1 (i := 2) (v := str _) rfl ag9 (hl _ _ rfl) rfl) ?_
    have := outText_len (outText (outNum (outNum (⟨[], 0⟩ : Out) d.kind 1) d.tick 8) d.bind.shop) d.bind.to
    refine vw_qc 6 rfl (by kernel_rfl) (by repeat (first | exact lle_l0 | exact LLe.refl _ | exact lle_none | refine lle_up ?_ rfl)) (out_Text _ (outText (outNum (outNum (⟨[], 0⟩ : Out) d.kind 1) d.tick 8) d.bind.shop) d.bind.to (by first | omega | (have := hrl (by assumption); omega) | (simp [outNum, outRaw, numB_len, numK] <;> omega) | (have := hrl (by assumption); simp [outNum, outRaw, numB_len, numK] <;> omega))) (en_f cb15 rfl) ?_
    refine vw_q 7 rfl (by kernel_rfl) (by repeat (first | exact lle_l0 | exact LLe.refl _ | exact lle_none | refine lle_up ?_ rfl)) (fun _ _ hh hl => lo_fieldAddr rfl fl34_2) ?_
    refine vw_q 8 rfl (by kernel_rfl) (by repeat (first | exact lle_l0 | exact LLe.refl _ | exact lle_none | refine lle_up ?_ rfl)) (fun _ _ hh hl => lo_load1 (i := 2) (v := .bool _) rfl ag4 (hl _ _ rfl) rfl) ?_
    have := bitN_r d.bind.up
    refine vw_qc 9 rfl (by kernel_rfl) (by repeat (first | exact lle_l0 | exact LLe.refl _ | exact lle_none | refine lle_up ?_ rfl)) (deed_bit _ d.bind.up) (en_f cb17 rfl) ?_
    have := outNum_len (outText (outText (outNum (outNum (⟨[], 0⟩ : Out) d.kind 1) d.tick 8) d.bind.shop) d.bind.to) (bitN d.bind.up) 1
    refine vw_qc 10 rfl (by kernel_rfl) (by repeat (first | exact lle_l0 | exact LLe.refl _ | exact lle_none | refine lle_up ?_ rfl)) (out_Num _ (outText (outText (outNum (outNum (⟨[], 0⟩ : Out) d.kind 1) d.tick 8) d.bind.shop) d.bind.to) (bitN d.bind.up) (by omega) 1 (by omega) (by first | omega | (have := hrl (by assumption); omega) | (simp [outNum, outRaw, numB_len, numK] <;> omega) | (have := hrl (by assumption); simp [outNum, outRaw, numB_len, numK] <;> omega))) (en_f cb13 rfl) ?_
    refine vw_q 11 rfl (by kernel_rfl) (by repeat (first | exact lle_l0 | exact LLe.refl _ | exact lle_none | refine lle_up ?_ rfl)) (fun _ _ hh hl => lo_fieldAddr rfl fl34_3) ?_
    refine vw_q 12 rfl (by kernel_rfl) (by repeat (first | exact lle_l0 | exact LLe.refl _ | exact lle_none | refine lle_up ?_ rfl)) (fun _ _ hh hl => lo_load1 (i := 2) (v := str _) rfl ag9 (hl _ _ rfl) rfl) ?_
    have := outText_len (outNum (outText (outText (outNum (outNum (⟨[], 0⟩ : Out) d.kind 1) d.tick 8) d.bind.shop) d.bind.to) (bitN d.bind.up) 1) d.bind.key
    refine vw_qc 13 rfl (by kernel_rfl) (by repeat (first | exact lle_l0 | exact LLe.refl _ | exact lle_none | refine lle_up ?_ rfl)) (out_Text _ (outNum (outText (outText (outNum (outNum (⟨[], 0⟩ : Out) d.kind 1) d.tick 8) d.bind.shop) d.bind.to) (bitN d.bind.up) 1) d.bind.key (by first | omega | (have := hrl (by assumption); omega) | (simp [outNum, outRaw, numB_len, numK] <;> omega) | (have := hrl (by assumption); simp [outNum, outRaw, numB_len, numK] <;> omega))) (en_f cb15 rfl) ?_
    refine vw_q 14 rfl (by kernel_rfl) (by repeat (first | exact lle_l0 | exact LLe.refl _ | exact lle_none | refine lle_up ?_ rfl)) (fun _ _ hh hl => lo_move (v := str _) rfl) ?_
    have := outRaw_len (outText (outNum (outText (outText (outNum (outNum (⟨[], 0⟩ : Out) d.kind 1) d.tick 8) d.bind.shop) d.bind.to) (bitN d.bind.up) 1) d.bind.key) (headBytes d.bind.want)
    refine vw_qc 15 rfl (by kernel_rfl) (by repeat (first | exact lle_l0 | exact LLe.refl _ | exact lle_none | refine lle_up ?_ rfl)) (out_Raw _ (outText (outNum (outText (outText (outNum (outNum (⟨[], 0⟩ : Out) d.kind 1) d.tick 8) d.bind.shop) d.bind.to) (bitN d.bind.up) 1) d.bind.key) (headBytes d.bind.want) (by first | omega | (have := hrl (by assumption); omega) | (simp [outNum, outRaw, numB_len, numK] <;> omega) | (have := hrl (by assumption); simp [outNum, outRaw, numB_len, numK] <;> omega))) (en_f cb18 rfl) ?_
    refine vw_q 16 rfl (by kernel_rfl) (by repeat (first | exact lle_l0 | exact LLe.refl _ | exact lle_none | refine lle_up ?_ rfl)) (fun _ _ hh hl => lo_fieldAddr rfl fl34_5) ?_
    refine vw_q 17 rfl (by kernel_rfl) (by repeat (first | exact lle_l0 | exact LLe.refl _ | exact lle_none | refine lle_up ?_ rfl)) (fun _ _ hh hl => lo_load1 (i := 2) (v := .bool _) rfl ag4 (hl _ _ rfl) rfl) ?_
    have := bitN_r d.bind.all
    refine vw_qc 18 rfl (by kernel_rfl) (by repeat (first | exact lle_l0 | exact LLe.refl _ | exact lle_none | refine lle_up ?_ rfl)) (deed_bit _ d.bind.all) (en_f cb17 rfl) ?_
    have := outNum_len (outRaw (outText (outNum (outText (outText (outNum (outNum (⟨[], 0⟩ : Out) d.kind 1) d.tick 8) d.bind.shop) d.bind.to) (bitN d.bind.up) 1) d.bind.key) (headBytes d.bind.want)) (bitN d.bind.all) 1
    refine vw_qc 19 rfl (by kernel_rfl) (by repeat (first | exact lle_l0 | exact LLe.refl _ | exact lle_none | refine lle_up ?_ rfl)) (out_Num _ (outRaw (outText (outNum (outText (outText (outNum (outNum (⟨[], 0⟩ : Out) d.kind 1) d.tick 8) d.bind.shop) d.bind.to) (bitN d.bind.up) 1) d.bind.key) (headBytes d.bind.want)) (bitN d.bind.all) (by omega) 1 (by omega) (by first | omega | (have := hrl (by assumption); omega) | (simp [outNum, outRaw, numB_len, numK] <;> omega) | (have := hrl (by assumption); simp [outNum, outRaw, numB_len, numK] <;> omega))) (en_f cb13 rfl) ?_
    refine vw_t 20 rfl (by kernel_rfl) (by kernel_rfl) (op1_storeAll (i := 1) (vs := [_, _]) rfl rfl rfl sz42 rfl rfl rfl ?_)
    refine vw_done (by kernel_rfl) ?_
    refine blkK_n ?_
    refine seqK_n ?_
    refine cw_seq ?_
    refine cw_region ?_
    refine ol rfl (lo_loadA (i := 1) (vs := [_, _]) rfl ag42 sz42 rfl rfl rfl) ?_
    refine ow1 (op1_pr (out_String _ (outNum (outRaw (outText (outNum (outText (outText (outNum (outNum (⟨[], 0⟩ : Out) d.kind 1) d.tick 8) d.bind.shop) d.bind.to) (bitN d.bind.up) 1) d.bind.key) (headBytes d.bind.want)) (bitN d.bind.all) 1)) (en_f cb19 rfl) rfl ?_)
    refine ol rfl (lo_assign (v := str _) rfl) ?_
    refine ol rfl (lo_assign (v := .int _ _) rfl) ?_
    refine ow_nil ?_
    refine seqK_n ?_
    refine cw_ret ?_
    refine fnK_r (res2 rfl (rv_t (v := str _) rfl) (rv_t (v := .int _ _) rfl)) (.refl _) ?_
    have e : deedBytes d = (outNum (outRaw (outText (outNum (outText (outText (outNum (outNum (⟨[], 0⟩ : Out) d.kind 1) d.tick 8) d.bind.shop) d.bind.to) (bitN d.bind.up) 1) d.bind.key) (headBytes d.bind.want)) (bitN d.bind.all) 1).s := by
      unfold deedBytes
      first
        | (rw [if_neg (by assumption)]; done)
        | (rw [if_pos (by assumption)]; unfold deedOut; (repeat (first | rw [if_pos (by omega)] | rw [if_neg (by omega)] | rw [if_pos (by assumption)] | rw [if_neg (by assumption)] | rw [if_neg (fun q => q (by assumption))])); first | done | rfl)
    rw [e]
    try (rw [show deedE d = 0 by assumption])
  have p17 := df h14
  refine cw_region ?_
  refine ol rfl (lo_eql rfl rfl) ?_
  refine ol rfl (lo_assign (v := .bool _) rfl) ?_
  refine ow_nil ?_
  refine seqK_n ?_
  refine cw_cond rfl (fun h18 => ?_) (fun h18 => ?_)
  · have p19 := dt h18
    refine cw_seq ?_
    refine cw_region ?_
    refine ol rfl (lo_fieldAddr rfl fl38_4) ?_
    refine ol rfl (lo_loadA (i := 0) (vs := [_, _, _, _, _, _]) rfl ag34 sz34 rfl rfl rfl) ?_
    refine ow1 (op1_alloc 2 rfl zr34 (fun b20 => ?_))
    refine ow1 (op1_storeAll (i := 2) (vs := [_, _, _, _, _, _]) rfl rfl rfl sz34 rfl rfl rfl ?_)
    refine ow_nil ?_
    refine seqK_n ?_
    refine cw_seq ?_
    refine cw_region ?_
    refine ol rfl (lo_fieldAddr rfl fl34_4) ?_
    refine ol rfl (lo_load1 (i := 2) (v := .slice _ _ _) rfl ag32 rfl rfl) ?_
    refine ow1 (op1_pr (head_Bytes _ d_bind_want_a d.bind.want.length d_bind_want_c d.bind.want d_bind_want_h (by first | omega | (simp <;> omega))) (en_f cb16 rfl) rfl ?_)
    have := headBytes_len d.bind.want
    refine ol rfl (lo_move (v := .tuple #[_, _]) rfl) ?_
    refine ol rfl (lo_extract (v := str _) rfl rfl) ?_
    refine ol rfl (lo_extract (v := .int _ _) rfl rfl) ?_
    refine ol rfl (lo_assign (v := str _) rfl) ?_
    refine ol rfl (lo_assign (v := .int _ _) rfl) ?_
    refine ow_nil ?_
    refine seqK_n ?_
    refine cw_anyL mixd ?_
    refine vw_q 0 rfl (by kernel_rfl) (by repeat (first | exact lle_l0 | exact LLe.refl _ | exact lle_none | refine lle_up ?_ rfl)) (fun _ _ hh hl => lo_loadA (i := 1) (vs := [_, _]) rfl ag42 sz42 (hl _ _ rfl) rfl rfl) ?_
    refine vw_q 1 rfl (by kernel_rfl) (by repeat (first | exact lle_l0 | exact LLe.refl _ | exact lle_none | refine lle_up ?_ rfl)) (fun _ _ hh hl => lo_fieldAddr rfl fl34_0) ?_
    refine vw_q 2 rfl (by kernel_rfl) (by repeat (first | exact lle_l0 | exact LLe.refl _ | exact lle_none | refine lle_up ?_ rfl)) (fun _ _ hh hl => lo_load1 (i := 2) (v := str _) rfl ag9 (hl _ _ rfl) rfl) ?_
    have := outText_len (outNum (outNum (⟨[], 0⟩ : Out) d.kind 1) d.tick 8) d.bind.shop
    refine vw_qc 3 rfl (by kernel_rfl) (by repeat (first | exact lle_l0 | exact LLe.refl _ | exact lle_none | refine lle_up ?_ rfl)) (out_Text _ (outNum (outNum (⟨[], 0⟩ : Out) d.kind 1) d.tick 8) d.bind.shop (by first | omega | (have := hrl (by assumption); omega) | (simp [outNum, outRaw, numB_len, numK] <;> omega) | (have := hrl (by assumption); simp [outNum, outRaw, numB_len, numK] <;> omega))) (en_f cb15 rfl) ?_
    refine vw_q 4 rfl (by kernel_rfl) (by repeat (first | exact lle_l0 | exact LLe.refl _ | exact lle_none | refine lle_up ?_ rfl)) (fun _ _ hh hl => lo_fieldAddr rfl fl34_1) ?_
    refine vw_q 5 rfl (by kernel_rfl) (by repeat (first | exact lle_l0 | exact LLe.refl _ | exact lle_none | refine lle_up ?_ rfl)) (fun _ _ hh hl => lo_load1 (i := 2) (v := str _) rfl ag9 (hl _ _ rfl) rfl) ?_
    have := outText_len (outText (outNum (outNum (⟨[], 0⟩ : Out) d.kind 1) d.tick 8) d.bind.shop) d.bind.to
    refine vw_qc 6 rfl (by kernel_rfl) (by repeat (first | exact lle_l0 | exact LLe.refl _ | exact lle_none | refine lle_up ?_ rfl)) (out_Text _ (outText (outNum (outNum (⟨[], 0⟩ : Out) d.kind 1) d.tick 8) d.bind.shop) d.bind.to (by first | omega | (have := hrl (by assumption); omega) | (simp [outNum, outRaw, numB_len, numK] <;> omega) | (have := hrl (by assumption); simp [outNum, outRaw, numB_len, numK] <;> omega))) (en_f cb15 rfl) ?_
    refine vw_q 7 rfl (by kernel_rfl) (by repeat (first | exact lle_l0 | exact LLe.refl _ | exact lle_none | refine lle_up ?_ rfl)) (fun _ _ hh hl => lo_fieldAddr rfl fl34_2) ?_
    refine vw_q 8 rfl (by kernel_rfl) (by repeat (first | exact lle_l0 | exact LLe.refl _ | exact lle_none | refine lle_up ?_ rfl)) (fun _ _ hh hl => lo_load1 (i := 2) (v := .bool _) rfl ag4 (hl _ _ rfl) rfl) ?_
    have := bitN_r d.bind.up
    refine vw_qc 9 rfl (by kernel_rfl) (by repeat (first | exact lle_l0 | exact LLe.refl _ | exact lle_none | refine lle_up ?_ rfl)) (deed_bit _ d.bind.up) (en_f cb17 rfl) ?_
    have := outNum_len (outText (outText (outNum (outNum (⟨[], 0⟩ : Out) d.kind 1) d.tick 8) d.bind.shop) d.bind.to) (bitN d.bind.up) 1
    refine vw_qc 10 rfl (by kernel_rfl) (by repeat (first | exact lle_l0 | exact LLe.refl _ | exact lle_none | refine lle_up ?_ rfl)) (out_Num _ (outText (outText (outNum (outNum (⟨[], 0⟩ : Out) d.kind 1) d.tick 8) d.bind.shop) d.bind.to) (bitN d.bind.up) (by omega) 1 (by omega) (by first | omega | (have := hrl (by assumption); omega) | (simp [outNum, outRaw, numB_len, numK] <;> omega) | (have := hrl (by assumption); simp [outNum, outRaw, numB_len, numK] <;> omega))) (en_f cb13 rfl) ?_
    refine vw_q 11 rfl (by kernel_rfl) (by repeat (first | exact lle_l0 | exact LLe.refl _ | exact lle_none | refine lle_up ?_ rfl)) (fun _ _ hh hl => lo_fieldAddr rfl fl34_3) ?_
    refine vw_q 12 rfl (by kernel_rfl) (by repeat (first | exact lle_l0 | exact LLe.refl _ | exact lle_none | refine lle_up ?_ rfl)) (fun _ _ hh hl => lo_load1 (i := 2) (v := str _) rfl ag9 (hl _ _ rfl) rfl) ?_
    have := outText_len (outNum (outText (outText (outNum (outNum (⟨[], 0⟩ : Out) d.kind 1) d.tick 8) d.bind.shop) d.bind.to) (bitN d.bind.up) 1) d.bind.key
    refine vw_qc 13 rfl (by kernel_rfl) (by repeat (first | exact lle_l0 | exact LLe.refl _ | exact lle_none | refine lle_up ?_ rfl)) (out_Text _ (outNum (outText (outText (outNum (outNum (⟨[], 0⟩ : Out) d.kind 1) d.tick 8) d.bind.shop) d.bind.to) (bitN d.bind.up) 1) d.bind.key (by first | omega | (have := hrl (by assumption); omega) | (simp [outNum, outRaw, numB_len, numK] <;> omega) | (have := hrl (by assumption); simp [outNum, outRaw, numB_len, numK] <;> omega))) (en_f cb15 rfl) ?_
    refine vw_q 14 rfl (by kernel_rfl) (by repeat (first | exact lle_l0 | exact LLe.refl _ | exact lle_none | refine lle_up ?_ rfl)) (fun _ _ hh hl => lo_move (v := str _) rfl) ?_
    have := outRaw_len (outText (outNum (outText (outText (outNum (outNum (⟨[], 0⟩ : Out) d.kind 1) d.tick 8) d.bind.shop) d.bind.to) (bitN d.bind.up) 1) d.bind.key) (headBytes d.bind.want)
    refine vw_qc 15 rfl (by kernel_rfl) (by repeat (first | exact lle_l0 | exact LLe.refl _ | exact lle_none | refine lle_up ?_ rfl)) (out_Raw _ (outText (outNum (outText (outText (outNum (outNum (⟨[], 0⟩ : Out) d.kind 1) d.tick 8) d.bind.shop) d.bind.to) (bitN d.bind.up) 1) d.bind.key) (headBytes d.bind.want) (by first | omega | (have := hrl (by assumption); omega) | (simp [outNum, outRaw, numB_len, numK] <;> omega) | (have := hrl (by assumption); simp [outNum, outRaw, numB_len, numK] <;> omega))) (en_f cb18 rfl) ?_
    refine vw_q 16 rfl (by kernel_rfl) (by repeat (first | exact lle_l0 | exact LLe.refl _ | exact lle_none | refine lle_up ?_ rfl)) (fun _ _ hh hl => lo_fieldAddr rfl fl34_5) ?_
    refine vw_q 17 rfl (by kernel_rfl) (by repeat (first | exact lle_l0 | exact LLe.refl _ | exact lle_none | refine lle_up ?_ rfl)) (fun _ _ hh hl => lo_load1 (i := 2) (v := .bool _) rfl ag4 (hl _ _ rfl) rfl) ?_
    have := bitN_r d.bind.all
    refine vw_qc 18 rfl (by kernel_rfl) (by repeat (first | exact lle_l0 | exact LLe.refl _ | exact lle_none | refine lle_up ?_ rfl)) (deed_bit _ d.bind.all) (en_f cb17 rfl) ?_
    have := outNum_len (outRaw (outText (outNum (outText (outText (outNum (outNum (⟨[], 0⟩ : Out) d.kind 1) d.tick 8) d.bind.shop) d.bind.to) (bitN d.bind.up) 1) d.bind.key) (headBytes d.bind.want)) (bitN d.bind.all) 1
    refine vw_qc 19 rfl (by kernel_rfl) (by repeat (first | exact lle_l0 | exact LLe.refl _ | exact lle_none | refine lle_up ?_ rfl)) (out_Num _ (outRaw (outText (outNum (outText (outText (outNum (outNum (⟨[], 0⟩ : Out) d.kind 1) d.tick 8) d.bind.shop) d.bind.to) (bitN d.bind.up) 1) d.bind.key) (headBytes d.bind.want)) (bitN d.bind.all) (by omega) 1 (by omega) (by first | omega | (have := hrl (by assumption); omega) | (simp [outNum, outRaw, numB_len, numK] <;> omega) | (have := hrl (by assumption); simp [outNum, outRaw, numB_len, numK] <;> omega))) (en_f cb13 rfl) ?_
    refine vw_t 20 rfl (by kernel_rfl) (by kernel_rfl) (op1_storeAll (i := 1) (vs := [_, _]) rfl rfl rfl sz42 rfl rfl rfl ?_)
    refine vw_done (by kernel_rfl) ?_
    refine blkK_n ?_
    refine seqK_n ?_
    refine cw_seq ?_
    refine cw_region ?_
    refine ol rfl (lo_loadA (i := 1) (vs := [_, _]) rfl ag42 sz42 rfl rfl rfl) ?_
    refine ow1 (op1_pr (out_String _ (outNum (outRaw (outText (outNum (outText (outText (outNum (outNum (⟨[], 0⟩ : Out) d.kind 1) d.tick 8) d.bind.shop) d.bind.to) (bitN d.bind.up) 1) d.bind.key) (headBytes d.bind.want)) (bitN d.bind.all) 1)) (en_f cb19 rfl) rfl ?_)
    refine ol rfl (lo_assign (v := str _) rfl) ?_
    refine ol rfl (lo_assign (v := .int _ _) rfl) ?_
    refine ow_nil ?_
    refine seqK_n ?_
    refine cw_ret ?_
    refine fnK_r (res2 rfl (rv_t (v := str _) rfl) (rv_t (v := .int _ _) rfl)) (.refl _) ?_
    have e : deedBytes d = (outNum (outRaw (outText (outNum (outText (outText (outNum (outNum (⟨[], 0⟩ : Out) d.kind 1) d.tick 8) d.bind.shop) d.bind.to) (bitN d.bind.up) 1) d.bind.key) (headBytes d.bind.want)) (bitN d.bind.all) 1).s := by
      unfold deedBytes
      first
        | (rw [if_neg (by assumption)]; done)
        | (rw [if_pos (by assumption)]; unfold deedOut; (repeat (first | rw [if_pos (by omega)] | rw [if_neg (by omega)] | rw [if_pos (by assumption)] | rw [if_neg (by assumption)] | rw [if_neg (fun q => q (by assumption))])); first | done | rfl)
    rw [e]
    try (rw [show deedE d = 0 by assumption])
  have p21 := df h18
  refine cw_seq ?_
  refine cw_region ?_
  refine ol rfl (lo_eql rfl rfl) ?_
  refine ol rfl (lo_assign (v := .bool _) rfl) ?_
  refine ow_nil ?_
  refine seqK_n ?_
  refine cw_cond rfl (fun h22 => ?_) (fun h22 => ?_)
  · have p23 := dt h22
    refine cw_region ?_
    refine ol rfl (lo_loadA (i := 1) (vs := [_, _]) rfl ag42 sz42 rfl rfl rfl) ?_
    refine ol rfl (lo_move (v := str _) rfl) ?_
    refine ow1 (op1_pr (out_Raw _ (outNum (outNum (⟨[], 0⟩ : Out) d.kind 1) d.tick 8) (mailBytes d.mail) (by first | omega | (have := hrl (by assumption); omega) | (simp [outNum, outRaw, numB_len, numK] <;> omega) | (have := hrl (by assumption); simp [outNum, outRaw, numB_len, numK] <;> omega))) (en_f cb18 rfl) rfl ?_)
    have := outRaw_len (outNum (outNum (⟨[], 0⟩ : Out) d.kind 1) d.tick 8) (mailBytes d.mail)
    refine ow1 (op1_storeAll (i := 1) (vs := [_, _]) rfl rfl rfl sz42 rfl rfl rfl ?_)
    refine ow_nil ?_
    refine blkK_n ?_
    refine seqK_n ?_
    refine cw_seq ?_
    refine cw_region ?_
    refine ol rfl (lo_loadA (i := 1) (vs := [_, _]) rfl ag42 sz42 rfl rfl rfl) ?_
    refine ow1 (op1_pr (out_String _ (outRaw (outNum (outNum (⟨[], 0⟩ : Out) d.kind 1) d.tick 8) (mailBytes d.mail))) (en_f cb19 rfl) rfl ?_)
    refine ol rfl (lo_assign (v := str _) rfl) ?_
    refine ol rfl (lo_assign (v := .int _ _) rfl) ?_
    refine ow_nil ?_
    refine seqK_n ?_
    refine cw_ret ?_
    refine fnK_r (res2 rfl (rv_t (v := str _) rfl) (rv_t (v := .int _ _) rfl)) (.refl _) ?_
    have e : deedBytes d = (outRaw (outNum (outNum (⟨[], 0⟩ : Out) d.kind 1) d.tick 8) (mailBytes d.mail)).s := by
      unfold deedBytes
      first
        | (rw [if_neg (by assumption)]; done)
        | (rw [if_pos (by assumption)]; unfold deedOut; (repeat (first | rw [if_pos (by omega)] | rw [if_neg (by omega)] | rw [if_pos (by assumption)] | rw [if_neg (by assumption)] | rw [if_neg (fun q => q (by assumption))])); first | done | rfl)
    rw [e]
    try (rw [show deedE d = 0 by assumption])
  have p24 := df h22
  refine cw_seq ?_
  refine cw_seq ?_
  refine cw_region ?_
  refine ol rfl (lo_eql rfl rfl) ?_
  refine ol rfl (lo_assign (v := .bool _) rfl) ?_
  refine ow_nil ?_
  refine seqK_n ?_
  refine cw_cond rfl (fun h25 => ?_) (fun h25 => ?_)
  · have p26 := dt h25
    refine cw_skip ?_
    refine seqK_n ?_
    refine cw_cond_t rfl h25 ?_
    refine cw_region ?_
    refine ol rfl (lo_loadA (i := 1) (vs := [_, _]) rfl ag42 sz42 rfl rfl rfl) ?_
    refine ol rfl (lo_fieldAddr rfl fl38_5) ?_
    refine ol rfl (lo_load1 (i := 0) (v := str _) rfl ag9 rfl rfl) ?_
    refine ow1 (op1_pr (out_Text _ (outNum (outNum (⟨[], 0⟩ : Out) d.kind 1) d.tick 8) d.name (by first | omega | (have := hrl (by assumption); omega) | (simp [outNum, outRaw, numB_len, numK] <;> omega) | (have := hrl (by assumption); simp [outNum, outRaw, numB_len, numK] <;> omega))) (en_f cb15 rfl) rfl ?_)
    have := outText_len (outNum (outNum (⟨[], 0⟩ : Out) d.kind 1) d.tick 8) d.name
    refine ow1 (op1_storeAll (i := 1) (vs := [_, _]) rfl rfl rfl sz42 rfl rfl rfl ?_)
    refine ow_nil ?_
    refine blkK_n ?_
    refine seqK_n ?_
    refine cw_seq ?_
    refine cw_region ?_
    refine ol rfl (lo_loadA (i := 1) (vs := [_, _]) rfl ag42 sz42 rfl rfl rfl) ?_
    refine ow1 (op1_pr (out_String _ (outText (outNum (outNum (⟨[], 0⟩ : Out) d.kind 1) d.tick 8) d.name)) (en_f cb19 rfl) rfl ?_)
    refine ol rfl (lo_assign (v := str _) rfl) ?_
    refine ol rfl (lo_assign (v := .int _ _) rfl) ?_
    refine ow_nil ?_
    refine seqK_n ?_
    refine cw_ret ?_
    refine fnK_r (res2 rfl (rv_t (v := str _) rfl) (rv_t (v := .int _ _) rfl)) (.refl _) ?_
    have e : deedBytes d = (outText (outNum (outNum (⟨[], 0⟩ : Out) d.kind 1) d.tick 8) d.name).s := by
      unfold deedBytes
      first
        | (rw [if_neg (by assumption)]; done)
        | (rw [if_pos (by assumption)]; unfold deedOut; (repeat (first | rw [if_pos (by omega)] | rw [if_neg (by omega)] | rw [if_pos (by assumption)] | rw [if_neg (by assumption)] | rw [if_neg (fun q => q (by assumption))])); first | done | rfl)
    rw [e]
    try (rw [show deedE d = 0 by assumption])
  have p27 := df h25
  refine cw_seq ?_
  refine cw_region ?_
  refine ol rfl (lo_eql rfl rfl) ?_
  refine ol rfl (lo_assign (v := .bool _) rfl) ?_
  refine ow_nil ?_
  refine seqK_n ?_
  refine cw_cond rfl (fun h28 => ?_) (fun h28 => ?_)
  · have p29 := dt h28
    refine cw_skip ?_
    refine seqK_n ?_
    refine cw_cond_t rfl h28 ?_
    refine cw_region ?_
    refine ol rfl (lo_loadA (i := 1) (vs := [_, _]) rfl ag42 sz42 rfl rfl rfl) ?_
    refine ol rfl (lo_fieldAddr rfl fl38_5) ?_
    refine ol rfl (lo_load1 (i := 0) (v := str _) rfl ag9 rfl rfl) ?_
    refine ow1 (op1_pr (out_Text _ (outNum (outNum (⟨[], 0⟩ : Out) d.kind 1) d.tick 8) d.name (by first | omega | (have := hrl (by assumption); omega) | (simp [outNum, outRaw, numB_len, numK] <;> omega) | (have := hrl (by assumption); simp [outNum, outRaw, numB_len, numK] <;> omega))) (en_f cb15 rfl) rfl ?_)
    have := outText_len (outNum (outNum (⟨[], 0⟩ : Out) d.kind 1) d.tick 8) d.name
    refine ow1 (op1_storeAll (i := 1) (vs := [_, _]) rfl rfl rfl sz42 rfl rfl rfl ?_)
    refine ow_nil ?_
    refine blkK_n ?_
    refine seqK_n ?_
    refine cw_seq ?_
    refine cw_region ?_
    refine ol rfl (lo_loadA (i := 1) (vs := [_, _]) rfl ag42 sz42 rfl rfl rfl) ?_
    refine ow1 (op1_pr (out_String _ (outText (outNum (outNum (⟨[], 0⟩ : Out) d.kind 1) d.tick 8) d.name)) (en_f cb19 rfl) rfl ?_)
    refine ol rfl (lo_assign (v := str _) rfl) ?_
    refine ol rfl (lo_assign (v := .int _ _) rfl) ?_
    refine ow_nil ?_
    refine seqK_n ?_
    refine cw_ret ?_
    refine fnK_r (res2 rfl (rv_t (v := str _) rfl) (rv_t (v := .int _ _) rfl)) (.refl _) ?_
    have e : deedBytes d = (outText (outNum (outNum (⟨[], 0⟩ : Out) d.kind 1) d.tick 8) d.name).s := by
      unfold deedBytes
      first
        | (rw [if_neg (by assumption)]; done)
        | (rw [if_pos (by assumption)]; unfold deedOut; (repeat (first | rw [if_pos (by omega)] | rw [if_neg (by omega)] | rw [if_pos (by assumption)] | rw [if_neg (by assumption)] | rw [if_neg (fun q => q (by assumption))])); first | done | rfl)
    rw [e]
    try (rw [show deedE d = 0 by assumption])
  have p30 := df h28
  refine cw_region ?_
  refine ol rfl (lo_eql rfl rfl) ?_
  refine ol rfl (lo_assign (v := .bool _) rfl) ?_
  refine ow_nil ?_
  refine seqK_n ?_
  refine cw_cond rfl (fun h31 => ?_) (fun h31 => ?_)
  · have p32 := dt h31
    refine cw_region ?_
    refine ol rfl (lo_loadA (i := 1) (vs := [_, _]) rfl ag42 sz42 rfl rfl rfl) ?_
    refine ol rfl (lo_fieldAddr rfl fl38_5) ?_
    refine ol rfl (lo_load1 (i := 0) (v := str _) rfl ag9 rfl rfl) ?_
    refine ow1 (op1_pr (out_Text _ (outNum (outNum (⟨[], 0⟩ : Out) d.kind 1) d.tick 8) d.name (by first | omega | (have := hrl (by assumption); omega) | (simp [outNum, outRaw, numB_len, numK] <;> omega) | (have := hrl (by assumption); simp [outNum, outRaw, numB_len, numK] <;> omega))) (en_f cb15 rfl) rfl ?_)
    have := outText_len (outNum (outNum (⟨[], 0⟩ : Out) d.kind 1) d.tick 8) d.name
    refine ow1 (op1_storeAll (i := 1) (vs := [_, _]) rfl rfl rfl sz42 rfl rfl rfl ?_)
    refine ow_nil ?_
    refine blkK_n ?_
    refine seqK_n ?_
    refine cw_seq ?_
    refine cw_region ?_
    refine ol rfl (lo_loadA (i := 1) (vs := [_, _]) rfl ag42 sz42 rfl rfl rfl) ?_
    refine ow1 (op1_pr (out_String _ (outText (outNum (outNum (⟨[], 0⟩ : Out) d.kind 1) d.tick 8) d.name)) (en_f cb19 rfl) rfl ?_)
    refine ol rfl (lo_assign (v := str _) rfl) ?_
    refine ol rfl (lo_assign (v := .int _ _) rfl) ?_
    refine ow_nil ?_
    refine seqK_n ?_
    refine cw_ret ?_
    refine fnK_r (res2 rfl (rv_t (v := str _) rfl) (rv_t (v := .int _ _) rfl)) (.refl _) ?_
    have e : deedBytes d = (outText (outNum (outNum (⟨[], 0⟩ : Out) d.kind 1) d.tick 8) d.name).s := by
      unfold deedBytes
      first
        | (rw [if_neg (by assumption)]; done)
        | (rw [if_pos (by assumption)]; unfold deedOut; (repeat (first | rw [if_pos (by omega)] | rw [if_neg (by omega)] | rw [if_pos (by assumption)] | rw [if_neg (by assumption)] | rw [if_neg (fun q => q (by assumption))])); first | done | rfl)
    rw [e]
    try (rw [show deedE d = 0 by assumption])
  have p33 := df h31
  refine cw_seq ?_
  refine cw_region ?_
  refine ol rfl (lo_eql rfl rfl) ?_
  refine ol rfl (lo_assign (v := .bool _) rfl) ?_
  refine ow_nil ?_
  refine seqK_n ?_
  refine cw_cond rfl (fun h34 => ?_) (fun h34 => ?_)
  · have p35 := dt h34
    refine cw_anyL mixd ?_
    refine vw_q 0 rfl (by kernel_rfl) (by repeat (first | exact lle_l0 | exact LLe.refl _ | exact lle_none | refine lle_up ?_ rfl)) (fun _ _ hh hl => lo_loadA (i := 1) (vs := [_, _]) rfl ag42 sz42 (hl _ _ rfl) rfl rfl) ?_
    refine vw_q 1 rfl (by kernel_rfl) (by repeat (first | exact lle_l0 | exact LLe.refl _ | exact lle_none | refine lle_up ?_ rfl)) (fun _ _ hh hl => lo_fieldAddr rfl fl38_5) ?_
    refine vw_q 2 rfl (by kernel_rfl) (by repeat (first | exact lle_l0 | exact LLe.refl _ | exact lle_none | refine lle_up ?_ rfl)) (fun _ _ hh hl => lo_load1 (i := 0) (v := str _) rfl ag9 (hl _ _ rfl) rfl) ?_
    have := outText_len (outNum (outNum (⟨[], 0⟩ : Out) d.kind 1) d.tick 8) d.name
    refine vw_qc 3 rfl (by kernel_rfl) (by repeat (first | exact lle_l0 | exact LLe.refl _ | exact lle_none | refine lle_up ?_ rfl)) (out_Text _ (outNum (outNum (⟨[], 0⟩ : Out) d.kind 1) d.tick 8) d.name (by first | omega | (have := hrl (by assumption); omega) | (simp [outNum, outRaw, numB_len, numK] <;> omega) | (have := hrl (by assumption); simp [outNum, outRaw, numB_len, numK] <;> omega))) (en_f cb15 rfl) ?_
    refine vw_q 4 rfl (by kernel_rfl) (by repeat (first | exact lle_l0 | exact LLe.refl _ | exact lle_none | refine lle_up ?_ rfl)) (fun _ _ hh hl => lo_fieldAddr rfl fl38_6) ?_
    refine vw_q 5 rfl (by kernel_rfl) (by repeat (first | exact lle_l0 | exact LLe.refl _ | exact lle_none | refine lle_up ?_ rfl)) (fun _ _ hh hl => lo_load1 (i := 0) (v := .int _ _) rfl ag22 (hl _ _ rfl) rfl) ?_
    have := outNum_len (outText (outNum (outNum (⟨[], 0⟩ : Out) d.kind 1) d.tick 8) d.name) d.id 8
    refine vw_qc 6 rfl (by kernel_rfl) (by repeat (first | exact lle_l0 | exact LLe.refl _ | exact lle_none | refine lle_up ?_ rfl)) (out_Num _ (outText (outNum (outNum (⟨[], 0⟩ : Out) d.kind 1) d.tick 8) d.name) d.id (by omega) 8 (by omega) (by first | omega | (have := hrl (by assumption); omega) | (simp [outNum, outRaw, numB_len, numK] <;> omega) | (have := hrl (by assumption); simp [outNum, outRaw, numB_len, numK] <;> omega))) (en_f cb13 rfl) ?_
    refine vw_q 7 rfl (by kernel_rfl) (by repeat (first | exact lle_l0 | exact LLe.refl _ | exact lle_none | refine lle_up ?_ rfl)) (fun _ _ hh hl => lo_fieldAddr rfl fl38_7) ?_
    refine vw_q 8 rfl (by kernel_rfl) (by repeat (first | exact lle_l0 | exact LLe.refl _ | exact lle_none | refine lle_up ?_ rfl)) (fun _ _ hh hl => lo_load1 (i := 0) (v := .int _ _) rfl ag5 (hl _ _ rfl) rfl) ?_
    refine vw_q 9 rfl (by kernel_rfl) (by repeat (first | exact lle_l0 | exact LLe.refl _ | exact lle_none | refine lle_up ?_ rfl)) (fun _ _ hh hl => lo_conv_in rfl (by rw [Tryd.underlying5]; rfl) Tryd.underlying22 (rg_u64 (by omega))) ?_
    have := outNum_len (outNum (outText (outNum (outNum (⟨[], 0⟩ : Out) d.kind 1) d.tick 8) d.name) d.id 8) d.how 1
    refine vw_qc 10 rfl (by kernel_rfl) (by repeat (first | exact lle_l0 | exact LLe.refl _ | exact lle_none | refine lle_up ?_ rfl)) (out_Num _ (outNum (outText (outNum (outNum (⟨[], 0⟩ : Out) d.kind 1) d.tick 8) d.name) d.id 8) d.how (by omega) 1 (by omega) (by first | omega | (have := hrl (by assumption); omega) | (simp [outNum, outRaw, numB_len, numK] <;> omega) | (have := hrl (by assumption); simp [outNum, outRaw, numB_len, numK] <;> omega))) (en_f cb13 rfl) ?_
    refine vw_t 11 rfl (by kernel_rfl) (by kernel_rfl) (op1_storeAll (i := 1) (vs := [_, _]) rfl rfl rfl sz42 rfl rfl rfl ?_)
    refine vw_done (by kernel_rfl) ?_
    refine blkK_n ?_
    refine seqK_n ?_
    refine cw_seq ?_
    refine cw_region ?_
    refine ol rfl (lo_loadA (i := 1) (vs := [_, _]) rfl ag42 sz42 rfl rfl rfl) ?_
    refine ow1 (op1_pr (out_String _ (outNum (outNum (outText (outNum (outNum (⟨[], 0⟩ : Out) d.kind 1) d.tick 8) d.name) d.id 8) d.how 1)) (en_f cb19 rfl) rfl ?_)
    refine ol rfl (lo_assign (v := str _) rfl) ?_
    refine ol rfl (lo_assign (v := .int _ _) rfl) ?_
    refine ow_nil ?_
    refine seqK_n ?_
    refine cw_ret ?_
    refine fnK_r (res2 rfl (rv_t (v := str _) rfl) (rv_t (v := .int _ _) rfl)) (.refl _) ?_
    have e : deedBytes d = (outNum (outNum (outText (outNum (outNum (⟨[], 0⟩ : Out) d.kind 1) d.tick 8) d.name) d.id 8) d.how 1).s := by
      unfold deedBytes
      first
        | (rw [if_neg (by assumption)]; done)
        | (rw [if_pos (by assumption)]; unfold deedOut; (repeat (first | rw [if_pos (by omega)] | rw [if_neg (by omega)] | rw [if_pos (by assumption)] | rw [if_neg (by assumption)] | rw [if_neg (fun q => q (by assumption))])); first | done | rfl)
    rw [e]
    try (rw [show deedE d = 0 by assumption])
  have p36 := df h34
  refine cw_seq ?_
  refine cw_region ?_
  refine ol rfl (lo_eql rfl rfl) ?_
  refine ol rfl (lo_assign (v := .bool _) rfl) ?_
  refine ow_nil ?_
  refine seqK_n ?_
  refine cw_cond rfl (fun h37 => ?_) (fun h37 => ?_)
  · have p38 := dt h37
    refine cw_anyL mixd ?_
    refine vw_q 0 rfl (by kernel_rfl) (by repeat (first | exact lle_l0 | exact LLe.refl _ | exact lle_none | refine lle_up ?_ rfl)) (fun _ _ hh hl => lo_loadA (i := 1) (vs := [_, _]) rfl ag42 sz42 (hl _ _ rfl) rfl rfl) ?_
    refine vw_q 1 rfl (by kernel_rfl) (by repeat (first | exact lle_l0 | exact LLe.refl _ | exact lle_none | refine lle_up ?_ rfl)) (fun _ _ hh hl => lo_fieldAddr rfl fl38_8) ?_
    refine vw_q 2 rfl (by kernel_rfl) (by repeat (first | exact lle_l0 | exact LLe.refl _ | exact lle_none | refine lle_up ?_ rfl)) (fun _ _ hh hl => lo_load1 (i := 0) (v := .int _ _) rfl ag5 (hl _ _ rfl) rfl) ?_
    refine vw_q 3 rfl (by kernel_rfl) (by repeat (first | exact lle_l0 | exact LLe.refl _ | exact lle_none | refine lle_up ?_ rfl)) (fun _ _ hh hl => lo_conv_in rfl (by rw [Tryd.underlying5]; rfl) Tryd.underlying22 (rg_u64 (by omega))) ?_
    have := outNum_len (outNum (outNum (⟨[], 0⟩ : Out) d.kind 1) d.tick 8) d.frm 1
    refine vw_qc 4 rfl (by kernel_rfl) (by repeat (first | exact lle_l0 | exact LLe.refl _ | exact lle_none | refine lle_up ?_ rfl)) (out_Num _ (outNum (outNum (⟨[], 0⟩ : Out) d.kind 1) d.tick 8) d.frm (by omega) 1 (by omega) (by first | omega | (have := hrl (by assumption); omega) | (simp [outNum, outRaw, numB_len, numK] <;> omega) | (have := hrl (by assumption); simp [outNum, outRaw, numB_len, numK] <;> omega))) (en_f cb13 rfl) ?_
    refine vw_q 5 rfl (by kernel_rfl) (by repeat (first | exact lle_l0 | exact LLe.refl _ | exact lle_none | refine lle_up ?_ rfl)) (fun _ _ hh hl => lo_fieldAddr rfl fl38_10) ?_
    refine vw_q 6 rfl (by kernel_rfl) (by repeat (first | exact lle_l0 | exact LLe.refl _ | exact lle_none | refine lle_up ?_ rfl)) (fun _ _ hh hl => lo_load1 (i := 0) (v := .int _ _) rfl ag22 (hl _ _ rfl) rfl) ?_
    have := outNum_len (outNum (outNum (outNum (⟨[], 0⟩ : Out) d.kind 1) d.tick 8) d.frm 1) d.number 8
    refine vw_qc 7 rfl (by kernel_rfl) (by repeat (first | exact lle_l0 | exact LLe.refl _ | exact lle_none | refine lle_up ?_ rfl)) (out_Num _ (outNum (outNum (outNum (⟨[], 0⟩ : Out) d.kind 1) d.tick 8) d.frm 1) d.number (by omega) 8 (by omega) (by first | omega | (have := hrl (by assumption); omega) | (simp [outNum, outRaw, numB_len, numK] <;> omega) | (have := hrl (by assumption); simp [outNum, outRaw, numB_len, numK] <;> omega))) (en_f cb13 rfl) ?_
    refine vw_q 8 rfl (by kernel_rfl) (by repeat (first | exact lle_l0 | exact LLe.refl _ | exact lle_none | refine lle_up ?_ rfl)) (fun _ _ hh hl => lo_move (v := str _) rfl) ?_
    have := outRaw_len (outNum (outNum (outNum (outNum (⟨[], 0⟩ : Out) d.kind 1) d.tick 8) d.frm 1) d.number 8) (mailBytes d.mail)
    refine vw_qc 9 rfl (by kernel_rfl) (by repeat (first | exact lle_l0 | exact LLe.refl _ | exact lle_none | refine lle_up ?_ rfl)) (out_Raw _ (outNum (outNum (outNum (outNum (⟨[], 0⟩ : Out) d.kind 1) d.tick 8) d.frm 1) d.number 8) (mailBytes d.mail) (by first | omega | (have := hrl (by assumption); omega) | (simp [outNum, outRaw, numB_len, numK] <;> omega) | (have := hrl (by assumption); simp [outNum, outRaw, numB_len, numK] <;> omega))) (en_f cb18 rfl) ?_
    refine vw_t 10 rfl (by kernel_rfl) (by kernel_rfl) (op1_storeAll (i := 1) (vs := [_, _]) rfl rfl rfl sz42 rfl rfl rfl ?_)
    refine vw_done (by kernel_rfl) ?_
    refine blkK_n ?_
    refine seqK_n ?_
    refine cw_seq ?_
    refine cw_region ?_
    refine ol rfl (lo_loadA (i := 1) (vs := [_, _]) rfl ag42 sz42 rfl rfl rfl) ?_
    refine ow1 (op1_pr (out_String _ (outRaw (outNum (outNum (outNum (outNum (⟨[], 0⟩ : Out) d.kind 1) d.tick 8) d.frm 1) d.number 8) (mailBytes d.mail))) (en_f cb19 rfl) rfl ?_)
    refine ol rfl (lo_assign (v := str _) rfl) ?_
    refine ol rfl (lo_assign (v := .int _ _) rfl) ?_
    refine ow_nil ?_
    refine seqK_n ?_
    refine cw_ret ?_
    refine fnK_r (res2 rfl (rv_t (v := str _) rfl) (rv_t (v := .int _ _) rfl)) (.refl _) ?_
    have e : deedBytes d = (outRaw (outNum (outNum (outNum (outNum (⟨[], 0⟩ : Out) d.kind 1) d.tick 8) d.frm 1) d.number 8) (mailBytes d.mail)).s := by
      unfold deedBytes
      first
        | (rw [if_neg (by assumption)]; done)
        | (rw [if_pos (by assumption)]; unfold deedOut; (repeat (first | rw [if_pos (by omega)] | rw [if_neg (by omega)] | rw [if_pos (by assumption)] | rw [if_neg (by assumption)] | rw [if_neg (fun q => q (by assumption))])); first | done | rfl)
    rw [e]
    try (rw [show deedE d = 0 by assumption])
  have p39 := df h37
  refine cw_seq ?_
  refine cw_region ?_
  refine ol rfl (lo_eql rfl rfl) ?_
  refine ol rfl (lo_assign (v := .bool _) rfl) ?_
  refine ow_nil ?_
  refine seqK_n ?_
  refine cw_cond rfl (fun h40 => ?_) (fun h40 => ?_)
  · have p41 := dt h40
    refine cw_anyL mixd ?_
    refine vw_q 0 rfl (by kernel_rfl) (by repeat (first | exact lle_l0 | exact LLe.refl _ | exact lle_none | refine lle_up ?_ rfl)) (fun _ _ hh hl => lo_loadA (i := 1) (vs := [_, _]) rfl ag42 sz42 (hl _ _ rfl) rfl rfl) ?_
    refine vw_q 1 rfl (by kernel_rfl) (by repeat (first | exact lle_l0 | exact LLe.refl _ | exact lle_none | refine lle_up ?_ rfl)) (fun _ _ hh hl => lo_fieldAddr rfl fl38_9) ?_
    refine vw_q 2 rfl (by kernel_rfl) (by repeat (first | exact lle_l0 | exact LLe.refl _ | exact lle_none | refine lle_up ?_ rfl)) (fun _ _ hh hl => lo_load1 (i := 0) (v := .int _ _) rfl ag5 (hl _ _ rfl) rfl) ?_
    refine vw_q 3 rfl (by kernel_rfl) (by repeat (first | exact lle_l0 | exact LLe.refl _ | exact lle_none | refine lle_up ?_ rfl)) (fun _ _ hh hl => lo_conv_in rfl (by rw [Tryd.underlying5]; rfl) Tryd.underlying22 (rg_u64 (by omega))) ?_
    have := outNum_len (outNum (outNum (⟨[], 0⟩ : Out) d.kind 1) d.tick 8) d.code 1
    refine vw_qc 4 rfl (by kernel_rfl) (by repeat (first | exact lle_l0 | exact LLe.refl _ | exact lle_none | refine lle_up ?_ rfl)) (out_Num _ (outNum (outNum (⟨[], 0⟩ : Out) d.kind 1) d.tick 8) d.code (by omega) 1 (by omega) (by first | omega | (have := hrl (by assumption); omega) | (simp [outNum, outRaw, numB_len, numK] <;> omega) | (have := hrl (by assumption); simp [outNum, outRaw, numB_len, numK] <;> omega))) (en_f cb13 rfl) ?_
    refine vw_q 5 rfl (by kernel_rfl) (by repeat (first | exact lle_l0 | exact LLe.refl _ | exact lle_none | refine lle_up ?_ rfl)) (fun _ _ hh hl => lo_fieldAddr rfl fl38_12) ?_
    refine vw_q 6 rfl (by kernel_rfl) (by repeat (first | exact lle_l0 | exact LLe.refl _ | exact lle_none | refine lle_up ?_ rfl)) (fun _ _ hh hl => lo_load1 (i := 0) (v := str _) rfl ag9 (hl _ _ rfl) rfl) ?_
    have := outText_len (outNum (outNum (outNum (⟨[], 0⟩ : Out) d.kind 1) d.tick 8) d.code 1) d.text
    refine vw_qc 7 rfl (by kernel_rfl) (by repeat (first | exact lle_l0 | exact LLe.refl _ | exact lle_none | refine lle_up ?_ rfl)) (out_Text _ (outNum (outNum (outNum (⟨[], 0⟩ : Out) d.kind 1) d.tick 8) d.code 1) d.text (by first | omega | (have := hrl (by assumption); omega) | (simp [outNum, outRaw, numB_len, numK] <;> omega) | (have := hrl (by assumption); simp [outNum, outRaw, numB_len, numK] <;> omega))) (en_f cb15 rfl) ?_
    refine vw_t 8 rfl (by kernel_rfl) (by kernel_rfl) (op1_storeAll (i := 1) (vs := [_, _]) rfl rfl rfl sz42 rfl rfl rfl ?_)
    refine vw_done (by kernel_rfl) ?_
    refine blkK_n ?_
    refine seqK_n ?_
    refine cw_seq ?_
    refine cw_region ?_
    refine ol rfl (lo_loadA (i := 1) (vs := [_, _]) rfl ag42 sz42 rfl rfl rfl) ?_
    refine ow1 (op1_pr (out_String _ (outText (outNum (outNum (outNum (⟨[], 0⟩ : Out) d.kind 1) d.tick 8) d.code 1) d.text)) (en_f cb19 rfl) rfl ?_)
    refine ol rfl (lo_assign (v := str _) rfl) ?_
    refine ol rfl (lo_assign (v := .int _ _) rfl) ?_
    refine ow_nil ?_
    refine seqK_n ?_
    refine cw_ret ?_
    refine fnK_r (res2 rfl (rv_t (v := str _) rfl) (rv_t (v := .int _ _) rfl)) (.refl _) ?_
    have e : deedBytes d = (outText (outNum (outNum (outNum (⟨[], 0⟩ : Out) d.kind 1) d.tick 8) d.code 1) d.text).s := by
      unfold deedBytes
      first
        | (rw [if_neg (by assumption)]; done)
        | (rw [if_pos (by assumption)]; unfold deedOut; (repeat (first | rw [if_pos (by omega)] | rw [if_neg (by omega)] | rw [if_pos (by assumption)] | rw [if_neg (by assumption)] | rw [if_neg (fun q => q (by assumption))])); first | done | rfl)
    rw [e]
    try (rw [show deedE d = 0 by assumption])
  have p42 := df h40
  refine cw_skip ?_
  refine blkK_n ?_
  refine seqK_n ?_
  refine cw_seq ?_
  refine cw_region ?_
  refine ol rfl (lo_loadA (i := 1) (vs := [_, _]) rfl ag42 sz42 rfl rfl rfl) ?_
  refine ow1 (op1_pr (out_String _ (outNum (outNum (⟨[], 0⟩ : Out) d.kind 1) d.tick 8)) (en_f cb19 rfl) rfl ?_)
  refine ol rfl (lo_assign (v := str _) rfl) ?_
  refine ol rfl (lo_assign (v := .int _ _) rfl) ?_
  refine ow_nil ?_
  refine seqK_n ?_
  refine cw_ret ?_
  refine fnK_r (res2 rfl (rv_t (v := str _) rfl) (rv_t (v := .int _ _) rfl)) (.refl _) ?_
  have e : deedBytes d = (outNum (outNum (⟨[], 0⟩ : Out) d.kind 1) d.tick 8).s := by
    unfold deedBytes
    first
      | (rw [if_neg (by assumption)]; done)
      | (rw [if_pos (by assumption)]; unfold deedOut; (repeat (first | rw [if_pos (by omega)] | rw [if_neg (by omega)] | rw [if_pos (by assumption)] | rw [if_neg (by assumption)] | rw [if_neg (fun q => q (by assumption))])); first | done | rfl)
  rw [e]
  try (rw [show deedE d = 0 by assumption])
end Go.SW
set_option linter.unusedVariables false
set_option maxRecDepth 100000
set_option maxHeartbeats 4000000
namespace Go.SW
open Go.Proofs
theorem ag65 : Ag Tryd.prog 65 false := fun w => by kernel_rfl
theorem bd29  (w : World) : (Instr.build 29 #[]).run Tryd.prog w = .ok (.agg #[str [], .int .u8 0, str []]) w := by kernel_rfl
theorem cb78 : Callable Tryd.prog 78 := callable_of Tryd.func78 (by kernel_rfl) (by kernel_rfl)
theorem fl68_0 : Fld Tryd.prog 68 0 0 := fun b o w => by kernel_rfl
theorem zr29 : Zr Tryd.prog 29 [str [], .int .u8 0, str []] := fun w => ⟨.agg #[str [], .int .u8 0, str []], by kernel_rfl, rfl⟩
theorem eq_Str (H : Hp) (a_a : Option Addr) (a_l a_c : Nat) (a : List Bs) (a_h : SlH strE 1 H (.slice a_a a_l a_c) a) (b_a : Option Addr) (b_l b_c : Nat) (b : List Bs) (b_h : SlH strE 1 H (.slice b_a b_l b_c) b) (hal : a.length ≤ 9223372036854775807) : Pr Tryd.prog 38 #[.slice a_a a_l a_c, .slice b_a b_l b_c] H (.bool (decide (a = b))) := by
  refine pr_cw Tryd.func38 rfl Tryd.ntmps38 rfl (fun N => ?_)
  refine cw_seq ?_
  refine cw_region ?_
  refine ol rfl (lo_assign (v := .bool _) rfl) ?_
  refine ow_nil ?_
  refine seqK_n ?_
  refine cw_seq ?_
  refine cw_seq ?_
  refine cw_region ?_
  refine ol rfl (lo_move (v := .slice _ _ _) rfl) ?_
  refine ol rfl (lo_len_slh rfl a_h Tryd.underlying72) ?_
  refine ol rfl (lo_move (v := .slice _ _ _) rfl) ?_
  refine ol rfl (lo_len_slh rfl b_h Tryd.underlying72) ?_
  refine ol rfl (lo_neq rfl rfl) ?_
  refine ow_nil ?_
  refine seqK_n ?_
  refine cw_cond rfl (fun h1 => ?_) (fun h1 => ?_)
  · have h2 := not_t h1
    have p3 := df h2
    refine cw_seq ?_
    refine cw_region ?_
    refine ol rfl (lo_assign (v := .bool _) rfl) ?_
    refine ow_nil ?_
    refine seqK_n ?_
    refine cw_ret ?_
    refine seqK_r ?_
    refine fnK_r (res1 rfl (rv_t (v := .bool _) rfl)) (.refl _) ?_
    exact congrArg Value.bool (eqL_len (by assumption)).symm
  have h4 := not_f h1
  have p5 := dt h4
  refine cw_skip ?_
  refine seqK_n ?_
  refine cw_seq ?_
  refine cw_seq ?_
  refine cw_region ?_
  refine ol rfl (lo_move (v := .slice _ _ _) rfl) ?_
  refine ol rfl (lo_len_slh rfl a_h Tryd.underlying72) ?_
  refine ol rfl (lo_move (v := .int _ _) rfl) ?_
  refine ow_nil ?_
  refine seqK_n ?_
  refine cw_block ?_
  refine cw_loop1 [4, 5, 13, 14, 15, 16, 17, 18, 19, 20, 21, 22, 23, 24, 25] [] (fun (k : Nat) G => upd (G) 13 (.int .i64 (k : Int))) (fun (k : Nat) G => G) (fun (k : Nat) H' => k ≤ a.length ∧ decide (a = b) = decide (a.drop k = b.drop k)) (fun (k : Nat) => a.length - k) 0 (upd_intro (mask_intro (by first | exact off_refl | (repeat (first | exact off_mask | refine off_upd rfl ?_ | refine off_mask2 rfl ?_)))) rfl) (lmask_intro offl_refl) ?_ ?_
  · exact ⟨Nat.zero_le _, rfl⟩
  intro k J7 JL7 H7 hp6 hl7
  obtain ⟨hk1, hk2⟩ := hp6
  refine cw_seq ?_
  refine cw_region ?_
  refine ol rfl (lo_lss rfl rfl) ?_
  refine ow_nil ?_
  refine seqK_n ?_
  refine cw_seq ?_
  refine cw_cond rfl (fun h8 => ?_) (fun h8 => ?_)
  · have p9 := dt h8
    refine cw_skip ?_
    refine seqK_n ?_
    refine cw_seq ?_
    refine cw_block ?_
    refine cw_seq ?_
    refine cw_region ?_
    refine ol rfl (lo_move (v := .int _ _) rfl) ?_
    refine ol rfl (lo_assign (v := .int _ _) rfl) ?_
    refine ow_nil ?_
    refine seqK_n ?_
    refine cw_seq ?_
    refine cw_anyL mixd ?_
    refine vw_q 0 rfl (by kernel_rfl) (by repeat (first | exact lle_l0 | exact LLe.refl _ | exact lle_none | refine lle_up ?_ rfl)) (fun _ _ hh hl => lo_move (v := .slice _ _ _) rfl) ?_
    refine vw_q 1 rfl (by kernel_rfl) (by repeat (first | exact lle_l0 | exact LLe.refl _ | exact lle_none | refine lle_up ?_ rfl)) (fun _ _ hh hl => lo_move (v := .int _ _) rfl) ?_
    obtain ⟨c10, hc11⟩ := getE (xs := a) (m := k) (by omega)
    obtain ⟨cs12, hE13, at14⟩ := (a_h.mono ((HLe.refl _).trans hl7) (fun _ _ h => h)).get hc11
    obtain ⟨rfl, c10_w⟩ := hE13
    have c10_w : c10.length ≤ 9223372036854775807 := c10_w
    refine vw_q 2 rfl (by kernel_rfl) (by repeat (first | exact lle_l0 | exact LLe.refl _ | exact lle_none | refine lle_up ?_ rfl)) (fun _ _ hh hl => lo_indexAddr rfl rfl (a_h.mono (((HLe.refl _).trans hl7).trans hh) (fun _ _ h => h)).1 (at14.mono hh) Tryd.underlying72 sz9 (by omega) (by omega)) ?_
    refine vw_q 3 rfl (by kernel_rfl) (by repeat (first | exact lle_l0 | exact LLe.refl _ | exact lle_none | refine lle_up ?_ rfl)) (fun _ _ hh hl => lo_loadE1 rfl ag9 (at14.mono hh)) ?_
    refine vw_q 4 rfl (by kernel_rfl) (by repeat (first | exact lle_l0 | exact LLe.refl _ | exact lle_none | refine lle_up ?_ rfl)) (fun _ _ hh hl => lo_move (v := .slice _ _ _) rfl) ?_
    refine vw_q 5 rfl (by kernel_rfl) (by repeat (first | exact lle_l0 | exact LLe.refl _ | exact lle_none | refine lle_up ?_ rfl)) (fun _ _ hh hl => lo_move (v := .int _ _) rfl) ?_
    obtain ⟨c15, hc16⟩ := getE (xs := b) (m := k) (by omega)
    obtain ⟨cs17, hE18, at19⟩ := (b_h.mono ((HLe.refl _).trans hl7) (fun _ _ h => h)).get hc16
    obtain ⟨rfl, c15_w⟩ := hE18
    have c15_w : c15.length ≤ 9223372036854775807 := c15_w
    refine vw_q 6 rfl (by kernel_rfl) (by repeat (first | exact lle_l0 | exact LLe.refl _ | exact lle_none | refine lle_up ?_ rfl)) (fun _ _ hh hl => lo_indexAddr rfl rfl (b_h.mono (((HLe.refl _).trans hl7).trans hh) (fun _ _ h => h)).1 (at19.mono hh) Tryd.underlying72 sz9 (by omega) (by omega)) ?_
    refine vw_q 7 rfl (by kernel_rfl) (by repeat (first | exact lle_l0 | exact LLe.refl _ | exact lle_none | refine lle_up ?_ rfl)) (fun _ _ hh hl => lo_loadE1 rfl ag9 (at19.mono hh)) ?_
    refine vw_q 8 rfl (by kernel_rfl) (by repeat (first | exact lle_l0 | exact LLe.refl _ | exact lle_none | refine lle_up ?_ rfl)) (fun _ _ hh hl => lo_sneq rfl rfl) ?_
    refine vw_done (by kernel_rfl) ?_
    refine seqK_n ?_
    refine cw_cond rfl (fun h20 => ?_) (fun h20 => ?_)
    · have h21 := not_t h20
      have p22 := df h21
      refine cw_seq ?_
      refine cw_region ?_
      refine ol rfl (lo_assign (v := .bool _) rfl) ?_
      refine ow_nil ?_
      refine seqK_n ?_
      refine cw_ret ?_
      refine blkK_r ?_
      refine seqK_r ?_
      refine loopK_r ?_
      refine blkK_r ?_
      refine seqK_r ?_
      refine fnK_r (res1 rfl (rv_t (v := .bool _) rfl)) ((HLe.refl _).trans hl7) ?_
      exact congrArg Value.bool (eqL_miss hk2 (dropE hc11) (dropE hc16) (by assumption)).symm
    have h23 := not_f h20
    have p24 := dt h23
    refine cw_skip ?_
    refine blkK_n ?_
    refine seqK_n ?_
    refine cw_region ?_
    refine ol rfl (lo_add rfl rfl (rg_i64 (by omega))) ?_
    refine ol rfl (lo_move (v := .int _ _) rfl) ?_
    refine ow_nil ?_
    refine next1 (k + 1) (upd_intro (mask_intro (by first | exact off_refl | (repeat (first | exact off_mask | refine off_upd rfl ?_ | refine off_mask2 rfl ?_)))) rfl) (lmask_intro (by first | exact offl_refl | (repeat (first | exact offl_mask | refine offl_upd rfl ?_ | refine offl_mask2 rfl ?_)))) hl7 ?_ ?_
    · exact ⟨by omega, eqL_step hk2 (dropE hc11) (dropE hc16) (by assumption)⟩
    omega
  have p25 := df h8
  refine cw_exit ?_
  refine seqK_e ?_
  refine loopK_e ?_
  refine blkK_hit ?_
  refine seqK_n ?_
  refine cw_seq ?_
  refine cw_region ?_
  refine ol rfl (lo_assign (v := .bool _) rfl) ?_
  refine ow_nil ?_
  refine seqK_n ?_
  refine cw_ret ?_
  refine fnK_r (res1 rfl (rv_t (v := .bool _) rfl)) ((HLe.refl _).trans hl7) ?_
  exact congrArg Value.bool (eqL_end hk2 (by omega) (by omega)).symm
theorem index_Str (H : Hp) (l_a : Option Addr) (l_l l_c : Nat) (l : List Bs) (l_h : SlH strE 1 H (.slice l_a l_l l_c) l) (x : Bs) (hl : l.length ≤ 9223372036854775807) : Pr Tryd.prog 78 #[.slice l_a l_l l_c, str x] H (.int .i64 (idxP (fun y => decide (x = y)) l)) := by
  refine pr_cw Tryd.func78 rfl Tryd.ntmps78 rfl (fun N => ?_)
  refine cw_seq ?_
  refine cw_region ?_
  refine ol rfl (lo_assign (v := .int _ _) rfl) ?_
  refine ow_nil ?_
  refine seqK_n ?_
  refine cw_seq ?_
  refine cw_seq ?_
  refine cw_region ?_
  refine ol rfl (lo_move (v := .slice _ _ _) rfl) ?_
  refine ol rfl (lo_len_slh rfl l_h Tryd.underlying72) ?_
  refine ol rfl (lo_move (v := .int _ _) rfl) ?_
  refine ow_nil ?_
  refine seqK_n ?_
  refine cw_block ?_
  refine cw_loop1 [4, 5, 8, 9, 10, 11, 12, 13, 14, 15, 16, 17, 18] [] (fun (k : Nat) G => upd (G) 8 (.int .i64 (k : Int))) (fun (k : Nat) G => G) (fun (k : Nat) H' => k ≤ l.length ∧ idxP (fun y => decide (x = y)) l = idxF (fun y => decide (x = y)) k (l.drop k)) (fun (k : Nat) => l.length - k) 0 (upd_intro (mask_intro (by first | exact off_refl | (repeat (first | exact off_mask | refine off_upd rfl ?_ | refine off_mask2 rfl ?_)))) rfl) (lmask_intro offl_refl) ?_ ?_
  · exact ⟨Nat.zero_le _, rfl⟩
  intro k J2 JL2 H2 hp1 hl2
  obtain ⟨hik1, hik2⟩ := hp1
  refine cw_seq ?_
  refine cw_region ?_
  refine ol rfl (lo_lss rfl rfl) ?_
  refine ow_nil ?_
  refine seqK_n ?_
  refine cw_seq ?_
  refine cw_cond rfl (fun h3 => ?_) (fun h3 => ?_)
  · have p4 := dt h3
    refine cw_skip ?_
    refine seqK_n ?_
    refine cw_seq ?_
    refine cw_block ?_
    refine cw_seq ?_
    refine cw_region ?_
    refine ol rfl (lo_move (v := .int _ _) rfl) ?_
    refine ol rfl (lo_assign (v := .int _ _) rfl) ?_
    refine ow_nil ?_
    refine seqK_n ?_
    refine cw_seq ?_
    refine cw_region ?_
    refine ol rfl (lo_move (v := str _) rfl) ?_
    refine ol rfl (lo_move (v := .slice _ _ _) rfl) ?_
    refine ol rfl (lo_move (v := .int _ _) rfl) ?_
    obtain ⟨c5, hc6⟩ := getE (xs := l) (m := k) (by omega)
    obtain ⟨cs7, hE8, at9⟩ := (l_h.mono ((HLe.refl _).trans hl2) (fun _ _ h => h)).get hc6
    obtain ⟨rfl, c5_w⟩ := hE8
    have c5_w : c5.length ≤ 9223372036854775807 := c5_w
    refine ol rfl (lo_indexAddr rfl rfl (l_h.mono ((HLe.refl _).trans hl2) (fun _ _ h => h)).1 at9 Tryd.underlying72 sz9 (by omega) (by omega)) ?_
    refine ol rfl (lo_loadE1 rfl ag9 at9) ?_
    refine ol rfl (lo_seql rfl rfl) ?_
    refine ow_nil ?_
    refine seqK_n ?_
    refine cw_cond rfl (fun h10 => ?_) (fun h10 => ?_)
    · have p11 := dt h10
      refine cw_seq ?_
      refine cw_region ?_
      refine ol rfl (lo_move (v := .int _ _) rfl) ?_
      refine ol rfl (lo_assign (v := .int _ _) rfl) ?_
      refine ow_nil ?_
      refine seqK_n ?_
      refine cw_ret ?_
      refine blkK_r ?_
      refine seqK_r ?_
      refine loopK_r ?_
      refine blkK_r ?_
      refine seqK_r ?_
      refine fnK_r (res1 rfl (rv_t (v := .int _ _) rfl)) ((HLe.refl _).trans hl2) ?_
      exact congrArg (Value.int .i64) (idx_hit hik2 (dropE hc6) (by first | assumption | (simp [*]; done))).symm
    have p12 := df h10
    refine cw_skip ?_
    refine blkK_n ?_
    refine seqK_n ?_
    refine cw_region ?_
    refine ol rfl (lo_add rfl rfl (rg_i64 (by omega))) ?_
    refine ol rfl (lo_move (v := .int _ _) rfl) ?_
    refine ow_nil ?_
    refine next1 (k + 1) (upd_intro (mask_intro (by first | exact off_refl | (repeat (first | exact off_mask | refine off_upd rfl ?_ | refine off_mask2 rfl ?_)))) rfl) (lmask_intro (by first | exact offl_refl | (repeat (first | exact offl_mask | refine offl_upd rfl ?_ | refine offl_mask2 rfl ?_)))) hl2 ?_ ?_
    · exact ⟨by omega, idx_miss hik2 (dropE hc6) (by assumption)⟩
    omega
  have p13 := df h3
  refine cw_exit ?_
  refine seqK_e ?_
  refine loopK_e ?_
  refine blkK_hit ?_
  refine seqK_n ?_
  refine cw_seq ?_
  refine cw_region ?_
  refine ol rfl (lo_assign (v := .int _ _) rfl) ?_
  refine ow_nil ?_
  refine seqK_n ?_
  refine cw_ret ?_
  refine fnK_r (res1 rfl (rv_t (v := .int _ _) rfl)) ((HLe.refl _).trans hl2) ?_
  exact congrArg (Value.int .i64) (idx_end hik2 (by omega)).symm
theorem contains_Str (H : Hp) (l_a : Option Addr) (l_l l_c : Nat) (l : List Bs) (l_h : SlH strE 1 H (.slice l_a l_l l_c) l) (x : Bs) (hl : l.length ≤ 9223372036854775807) : Pr Tryd.prog 71 #[.slice l_a l_l l_c, str x] H (.bool (decide (x ∈ l))) := by
  refine pr_cw Tryd.func71 rfl Tryd.ntmps71 rfl (fun N => ?_)
  refine cw_seq ?_
  refine cw_region ?_
  refine ol rfl (lo_assign (v := .bool _) rfl) ?_
  refine ow_nil ?_
  refine seqK_n ?_
  refine cw_seq ?_
  refine cw_region ?_
  refine ol rfl (lo_move (v := .slice _ _ _) rfl) ?_
  refine ol rfl (lo_move (v := str _) rfl) ?_
  refine ow1 (op1_pr (index_Str _ l_a l_l l_c l l_h x (by first | omega | (simp <;> omega))) (en_f cb78 rfl) rfl ?_)
  have := idxP_r (fun y => decide (x = y)) l
  refine ol rfl (lo_geq rfl rfl) ?_
  refine ol rfl (lo_assign (v := .bool _) rfl) ?_
  refine ow_nil ?_
  refine seqK_n ?_
  refine cw_ret ?_
  refine fnK_r (res1 rfl (rv_t (v := .bool _) rfl)) (.refl _) ?_
  refine congrArg Value.bool ?_
  rw [Bool.eq_iff_iff, decide_eq_true_eq, decide_eq_true_eq, idxP_any]
  simp
theorem shop_check (H : Hp) (x : ShopR) (x_w : ShopR.wf x) : Pr Tryd.prog 46 #[.agg (ShopR.cells x).toArray] H (.int .i64 (shopE x)) := by
  refine pr_cw Tryd.func46 rfl Tryd.ntmps46 rfl (fun N => ?_)
  have x_w' := x_w
  simp only [ShopR.wf] at x_w'
  refine cw_seq ?_
  refine cw_region ?_
  refine ow1 (op1_box (cs := [_, _, _]) 0 rfl rfl (fun b1 => ?_))
  refine ol rfl (lo_assign (v := .int _ _) rfl) ?_
  refine ow_nil ?_
  refine seqK_n ?_
  refine cw_seq ?_
  refine cw_seq ?_
  refine cw_region ?_
  refine ol rfl (lo_fieldAddr rfl fl29_0) ?_
  refine ol rfl (lo_load1 (i := 0) (v := str _) rfl ag9 rfl rfl) ?_
  refine ow1 (op1_pr (words_Name _ x.name (by first | omega | decide | (simp; done))) (en_f cb25 rfl) rfl ?_)
  refine ol rfl (lo_assign (v := .int _ _) rfl) ?_
  refine ow_nil ?_
  refine seqK_n ?_
  refine cw_seq ?_
  refine cw_region ?_
  refine ol rfl (lo_move (v := .int _ _) rfl) ?_
  refine ol rfl (lo_neq rfl rfl) ?_
  refine ow_nil ?_
  refine seqK_n ?_
  refine cw_cond rfl (fun h2 => ?_) (fun h2 => ?_)
  · have h3 := not_t h2
    have p4 := df h3
    refine cw_seq ?_
    refine cw_region ?_
    refine ol rfl (lo_move (v := .int _ _) rfl) ?_
    refine ol rfl (lo_assign (v := .int _ _) rfl) ?_
    refine ow_nil ?_
    refine seqK_n ?_
    refine cw_ret ?_
    refine seqK_r ?_
    refine fnK_r (res1 rfl (rv_t (v := .int _ _) rfl)) (.refl _) ?_
    refine congrArg (Value.int .i64) ?_
    unfold shopE
    (repeat (first | rw [if_pos (by omega)] | rw [if_pos (by assumption)] | rw [if_pos (And.intro (by assumption) (by assumption))] | rw [if_pos (Or.inl (by assumption))] | rw [if_pos (Or.inr (by assumption))] | rw [if_neg (by omega)] | rw [if_neg (by assumption)] | rw [if_neg (not_not_intro (by assumption))] | rw [if_neg (nbt (by assumption))] | rw [if_neg (nbf (by assumption))] | rw [if_neg (nand_l (by assumption))] | rw [if_neg (nand_r (by assumption))] | rw [if_neg (nand_l (nbt (by assumption)))] | rw [if_neg (nand_r (nbt (by assumption)))] | rw [if_neg (nor_ (not_not_intro (by assumption)) (nbf (by assumption)))]))
    all_goals first | done | rfl | omega
  have h5 := not_f h2
  have p6 := dt h5
  refine cw_skip ?_
  refine seqK_n ?_
  refine cw_seq ?_
  refine cw_block ?_
  refine cw_seq ?_
  refine cw_region ?_
  refine ol rfl (lo_fieldAddr rfl fl29_1) ?_
  refine ol rfl (lo_load1 (i := 0) (v := .int _ _) rfl ag5 rfl rfl) ?_
  refine ol rfl (lo_gtr rfl rfl) ?_
  refine ol rfl (lo_assign (v := .bool _) rfl) ?_
  refine ow_nil ?_
  refine seqK_n ?_
  refine cw_cond rfl (fun h7 => ?_) (fun h7 => ?_)
  · have p8 := dt h7
    refine cw_seq ?_
    refine cw_region ?_
    refine ol rfl (lo_assign (v := .int _ _) rfl) ?_
    refine ow_nil ?_
    refine seqK_n ?_
    refine cw_ret ?_
    refine blkK_r ?_
    refine seqK_r ?_
    refine fnK_r (res1 rfl (rv_t (v := .int _ _) rfl)) (.refl _) ?_
    refine congrArg (Value.int .i64) ?_
    unfold shopE
    (repeat (first | rw [if_pos (by omega)] | rw [if_pos (by assumption)] | rw [if_pos (And.intro (by assumption) (by assumption))] | rw [if_pos (Or.inl (by assumption))] | rw [if_pos (Or.inr (by assumption))] | rw [if_neg (by omega)] | rw [if_neg (by assumption)] | rw [if_neg (not_not_intro (by assumption))] | rw [if_neg (nbt (by assumption))] | rw [if_neg (nbf (by assumption))] | rw [if_neg (nand_l (by assumption))] | rw [if_neg (nand_r (by assumption))] | rw [if_neg (nand_l (nbt (by assumption)))] | rw [if_neg (nand_r (nbt (by assumption)))] | rw [if_neg (nor_ (not_not_intro (by assumption)) (nbf (by assumption)))]))
    all_goals first | done | rfl | omega
  have p9 := df h7
  refine cw_seq ?_
  refine cw_region ?_
  refine ol rfl (lo_fieldAddr rfl fl29_1) ?_
  refine ol rfl (lo_load1 (i := 0) (v := .int _ _) rfl ag5 rfl rfl) ?_
  refine ol rfl (lo_eql rfl rfl) ?_
  refine ol rfl (lo_assign (v := .bool _) rfl) ?_
  refine ow_nil ?_
  refine seqK_n ?_
  refine cw_cond rfl (fun h10 => ?_) (fun h10 => ?_)
  · have p11 := dt h10
    refine cw_seq ?_
    refine cw_region ?_
    refine ol rfl (lo_fieldAddr rfl fl29_2) ?_
    refine ol rfl (lo_load1 (i := 0) (v := str _) rfl ag9 rfl rfl) ?_
    refine ow1 (op1_pr (words_Name _ x.to (by first | omega | decide | (simp; done))) (en_f cb25 rfl) rfl ?_)
    refine ol rfl (lo_assign (v := .int _ _) rfl) ?_
    refine ow_nil ?_
    refine seqK_n ?_
    refine cw_ret ?_
    refine blkK_r ?_
    refine seqK_r ?_
    refine fnK_r (res1 rfl (rv_t (v := .int _ _) rfl)) (.refl _) ?_
    refine congrArg (Value.int .i64) ?_
    unfold shopE
    (repeat (first | rw [if_pos (by omega)] | rw [if_pos (by assumption)] | rw [if_pos (And.intro (by assumption) (by assumption))] | rw [if_pos (Or.inl (by assumption))] | rw [if_pos (Or.inr (by assumption))] | rw [if_neg (by omega)] | rw [if_neg (by assumption)] | rw [if_neg (not_not_intro (by assumption))] | rw [if_neg (nbt (by assumption))] | rw [if_neg (nbf (by assumption))] | rw [if_neg (nand_l (by assumption))] | rw [if_neg (nand_r (by assumption))] | rw [if_neg (nand_l (nbt (by assumption)))] | rw [if_neg (nand_r (nbt (by assumption)))] | rw [if_neg (nor_ (not_not_intro (by assumption)) (nbf (by assumption)))]))
    all_goals first | done | rfl | omega
  have p12 := df h10
  refine cw_seq ?_
  refine cw_region ?_
  refine ol rfl (lo_fieldAddr rfl fl29_2) ?_
  refine ol rfl (lo_load1 (i := 0) (v := str _) rfl ag9 rfl rfl) ?_
  refine ol rfl (lo_sneq rfl rfl) ?_
  refine ol rfl (lo_assign (v := .bool _) rfl) ?_
  refine ow_nil ?_
  refine seqK_n ?_
  refine cw_cond rfl (fun h13 => ?_) (fun h13 => ?_)
  · have h14 := not_t h13
    have p15 := df h14
    refine cw_seq ?_
    refine cw_region ?_
    refine ol rfl (lo_assign (v := .int _ _) rfl) ?_
    refine ow_nil ?_
    refine seqK_n ?_
    refine cw_ret ?_
    refine blkK_r ?_
    refine seqK_r ?_
    refine fnK_r (res1 rfl (rv_t (v := .int _ _) rfl)) (.refl _) ?_
    refine congrArg (Value.int .i64) ?_
    unfold shopE
    (repeat (first | rw [if_pos (by omega)] | rw [if_pos (by assumption)] | rw [if_pos (And.intro (by assumption) (by assumption))] | rw [if_pos (Or.inl (by assumption))] | rw [if_pos (Or.inr (by assumption))] | rw [if_neg (by omega)] | rw [if_neg (by assumption)] | rw [if_neg (not_not_intro (by assumption))] | rw [if_neg (nbt (by assumption))] | rw [if_neg (nbf (by assumption))] | rw [if_neg (nand_l (by assumption))] | rw [if_neg (nand_r (by assumption))] | rw [if_neg (nand_l (nbt (by assumption)))] | rw [if_neg (nand_r (nbt (by assumption)))] | rw [if_neg (nor_ (not_not_intro (by assumption)) (nbf (by assumption)))]))
    all_goals first | done | rfl | omega
  have h16 := not_f h13
  have p17 := dt h16
  refine cw_skip ?_
  refine blkK_n ?_
  refine seqK_n ?_
  refine cw_seq ?_
  refine cw_region ?_
  refine ol rfl (lo_assign (v := .int _ _) rfl) ?_
  refine ow_nil ?_
  refine seqK_n ?_
  refine cw_ret ?_
  refine fnK_r (res1 rfl (rv_t (v := .int _ _) rfl)) (.refl _) ?_
  refine congrArg (Value.int .i64) ?_
  unfold shopE
  (repeat (first | rw [if_pos (by omega)] | rw [if_pos (by assumption)] | rw [if_pos (And.intro (by assumption) (by assumption))] | rw [if_pos (Or.inl (by assumption))] | rw [if_pos (Or.inr (by assumption))] | rw [if_neg (by omega)] | rw [if_neg (by assumption)] | rw [if_neg (not_not_intro (by assumption))] | rw [if_neg (nbt (by assumption))] | rw [if_neg (nbf (by assumption))] | rw [if_neg (nand_l (by assumption))] | rw [if_neg (nand_r (by assumption))] | rw [if_neg (nand_l (nbt (by assumption)))] | rw [if_neg (nand_r (nbt (by assumption)))] | rw [if_neg (nor_ (not_not_intro (by assumption)) (nbf (by assumption)))]))
  all_goals first | done | rfl | omega
theorem book_Shop (H : Hp) (b : BookR) (b_shops_a : Option Addr) (b_shops_c : Nat) (b_shops_h : SlH shopRE 3 H (.slice b_shops_a b.shops.length b_shops_c) b.shops) (b_binds_a : Option Addr) (b_binds_c : Nat) (b_binds_h : SlH bindRE 6 H (.slice b_binds_a b.binds.length b_binds_c) b.binds) (b_w : BookR.wf b) (name : Bs) : Pr Tryd.prog 47 #[.agg (BookR.cells b b_shops_a b_shops_c b_binds_a b_binds_c).toArray, str name] H (.tuple #[.agg (ShopR.cells ((shopOf b.shops name).getD ShopR.zero)).toArray, .bool ((shopOf b.shops name).isSome)]) := by
  refine pr_cw Tryd.func47 rfl Tryd.ntmps47 rfl (fun N => ?_)
  have b_w' := b_w
  simp only [BookR.wf] at b_w'
  refine cw_seq ?_
  refine cw_region ?_
  refine ow1 (op1_box (cs := [_, _]) 0 rfl rfl (fun b1 => ?_))
  refine ow1 (op1_alloc 1 rfl zr29 (fun b2 => ?_))
  refine ol rfl (lo_assign (v := .bool _) rfl) ?_
  refine ow_nil ?_
  refine seqK_n ?_
  refine cw_seq ?_
  refine cw_seq ?_
  refine cw_region ?_
  refine ol rfl (lo_fieldAddr rfl fl68_0) ?_
  refine ol rfl (lo_load1 (i := 0) (v := .slice _ _ _) rfl ag65 rfl rfl) ?_
  refine ol rfl (lo_len_slh rfl b_shops_h Tryd.underlying65) ?_
  refine ol rfl (lo_move (v := .int _ _) rfl) ?_
  refine ow_nil ?_
  refine seqK_n ?_
  refine cw_block ?_
  refine cw_loop1 [5, 7, 11, 12, 13, 14, 15, 16, 17, 18, 19, 20] [2] (fun (k : Nat) G => upd (G) 11 (.int .i64 (k : Int))) (fun (k : Nat) G => G) (fun (k : Nat) H' => k ≤ b.shops.length ∧ shopOf b.shops name = shopOf (b.shops.drop k) name) (fun (k : Nat) => b.shops.length - k) 0 (upd_intro (mask_intro (by first | exact off_refl | (repeat (first | exact off_mask | refine off_upd rfl ?_ | refine off_mask2 rfl ?_)))) rfl) (lmask_intro offl_refl) ?_ ?_
  · exact ⟨Nat.zero_le _, rfl⟩
  intro k J4 JL4 H4 hp3 hl4
  obtain ⟨hk1, hk2⟩ := hp3
  refine cw_seq ?_
  refine cw_region ?_
  refine ol rfl (lo_lss rfl rfl) ?_
  refine ow_nil ?_
  refine seqK_n ?_
  refine cw_seq ?_
  refine cw_cond rfl (fun h5 => ?_) (fun h5 => ?_)
  · have p6 := dt h5
    refine cw_skip ?_
    refine seqK_n ?_
    refine cw_seq ?_
    refine cw_block ?_
    refine cw_seq ?_
    refine cw_region ?_
    obtain ⟨c7, hc8⟩ := getE (xs := b.shops) (m := k) (by omega)
    obtain ⟨cs9, hE10, at11⟩ := (b_shops_h.mono ((HLe.refl _).trans hl4) (fun _ _ h => h)).get hc8
    obtain ⟨rfl, c7_w⟩ := hE10
    have c7_w' := c7_w
    simp only [ShopR.wf] at c7_w'
    refine ol rfl (lo_indexAddr rfl rfl (b_shops_h.mono ((HLe.refl _).trans hl4) (fun _ _ h => h)).1 at11 Tryd.underlying65 sz29 (by omega) (by omega)) ?_
    refine ol rfl (lo_loadEA rfl ag29 sz29 at11) ?_
    refine ow1 (op1_alloc 2 rfl zr29 (fun b12 => ?_))
    refine ow1 (op1_storeAll (i := 2) (vs := [_, _, _]) rfl rfl rfl sz29 rfl rfl rfl ?_)
    refine ow_nil ?_
    refine seqK_n ?_
    refine cw_seq ?_
    refine cw_region ?_
    refine ol rfl (lo_fieldAddr rfl fl29_0) ?_
    refine ol rfl (lo_load1 (i := 2) (v := str _) rfl ag9 rfl rfl) ?_
    refine ol rfl (lo_move (v := str _) rfl) ?_
    refine ol rfl (lo_seql rfl rfl) ?_
    refine ow_nil ?_
    refine seqK_n ?_
    refine cw_cond rfl (fun h13 => ?_) (fun h13 => ?_)
    · have p14 := dt h13
      refine cw_seq ?_
      refine cw_region ?_
      refine ol rfl (lo_loadA (i := 2) (vs := [_, _, _]) rfl ag29 sz29 rfl rfl rfl) ?_
      refine ow1 (op1_storeAll (i := 1) (vs := [_, _, _]) rfl rfl rfl sz29 rfl rfl rfl ?_)
      refine ol rfl (lo_assign (v := .bool _) rfl) ?_
      refine ow_nil ?_
      refine seqK_n ?_
      refine cw_ret ?_
      refine blkK_r ?_
      refine seqK_r ?_
      refine loopK_r ?_
      refine blkK_r ?_
      refine seqK_r ?_
      refine fnK_r (res2 rfl (rv_c (i := 1) (vs := [_, _, _]) rfl ag29 sz29 rfl rfl rfl) (rv_t (v := .bool _) rfl)) ((HLe.refl _).trans hl4) ?_
      have e := shopOf_hit hk2 (dropE hc8) (by assumption)
      rw [e]
      rfl
    have p15 := df h13
    refine cw_skip ?_
    refine blkK_n ?_
    refine seqK_n ?_
    refine cw_region ?_
    refine ol rfl (lo_add rfl rfl (rg_i64 (by omega))) ?_
    refine ol rfl (lo_move (v := .int _ _) rfl) ?_
    refine ow_nil ?_
    refine next1 (k + 1) (upd_intro (mask_intro (by first | exact off_refl | (repeat (first | exact off_mask | refine off_upd rfl ?_ | refine off_mask2 rfl ?_)))) rfl) (lmask_intro (by first | exact offl_refl | (repeat (first | exact offl_mask | refine offl_upd rfl ?_ | refine offl_mask2 rfl ?_)))) hl4 ?_ ?_
    · exact ⟨by omega, shopOf_miss hk2 (dropE hc8) (by assumption)⟩
    omega
  have p16 := df h5
  refine cw_exit ?_
  refine seqK_e ?_
  refine loopK_e ?_
  refine blkK_hit ?_
  refine seqK_n ?_
  refine cw_seq ?_
  refine cw_region ?_
  refine ol rfl (lo_build (v := .agg #[_, _, _]) rfl (bd29)) ?_
  refine ow1 (op1_storeAll (i := 1) (vs := [_, _, _]) rfl rfl rfl sz29 rfl rfl rfl ?_)
  refine ol rfl (lo_assign (v := .bool _) rfl) ?_
  refine ow_nil ?_
  refine seqK_n ?_
  refine cw_ret ?_
  refine fnK_r (res2 rfl (rv_c (i := 1) (vs := [_, _, _]) rfl ag29 sz29 rfl rfl rfl) (rv_t (v := .bool _) rfl)) ((HLe.refl _).trans hl4) ?_
  rw [List.drop_of_length_le (by omega)] at hk2
  rw [hk2]
  rfl
end Go.SW
set_option linter.unusedVariables false
set_option maxRecDepth 100000
set_option maxHeartbeats 4000000
namespace Go.SW
open Go.Proofs
theorem ag66 : Ag Tryd.prog 66 false := fun w => by kernel_rfl
theorem by29 : By Tryd.prog 29 40 := by_of (by kernel_rfl)
theorem by34 : By Tryd.prog 34 88 := by_of (by kernel_rfl)
theorem cb63 : Callable Tryd.prog 63 := callable_of Tryd.func63 (by kernel_rfl) (by kernel_rfl)
theorem cb67 : Callable Tryd.prog 67 := callable_of Tryd.func67 (by kernel_rfl) (by kernel_rfl)
theorem sz65 : Sz Tryd.prog 65 1 := fun w => by kernel_rfl
theorem sz66 : Sz Tryd.prog 66 1 := fun w => by kernel_rfl
theorem concat_Shop (H : Hp) (ls_a : Option Addr) (ls_l ls_c : Nat) (ls : List (List ShopR)) (ls_h : SlH (slE shopRE 3) 1 H (.slice ls_a ls_l ls_c) ls) (hls : ls.length ≤ 1000) (hlt : ls.flatten.length ≤ 1000000) : Ph Tryd.prog 48 #[.slice ls_a ls_l ls_c] H (fun v H' => ∃ (a1 : Option Addr) (c1 : Nat), v = .slice a1 ((ls).flatten).length c1 ∧ SlH shopRE 3 H' (.slice a1 ((ls).flatten).length c1) ((ls).flatten)) := by
  refine ph_cw Tryd.func48 rfl Tryd.ntmps48 rfl (fun N => ?_)
  refine cw_seq ?_
  refine cw_region ?_
  refine ol rfl (lo_assign (v := .slice _ _ _) rfl) ?_
  refine ow_nil ?_
  refine seqK_n ?_
  refine cw_seq ?_
  refine cw_region ?_
  refine ol rfl (lo_assign (v := .int _ _) rfl) ?_
  refine ow_nil ?_
  refine seqK_n ?_
  refine cw_seq ?_
  refine cw_seq ?_
  refine cw_region ?_
  refine ol rfl (lo_move (v := .slice _ _ _) rfl) ?_
  refine ol rfl (lo_len_slh rfl ls_h Tryd.underlying99) ?_
  refine ol rfl (lo_move (v := .int _ _) rfl) ?_
  refine ow_nil ?_
  refine seqK_n ?_
  refine cw_block ?_
  refine cw_loop2 [3, 5, 11, 12, 13, 14, 15, 16, 17, 18, 19, 20, 21, 22] [] (fun (k : Nat) (z : Nat) G => upd (upd (G) 11 (.int .i64 (k : Int))) 3 (.int .i64 (z : Int))) (fun (k : Nat) (z : Nat) G => G) (fun (k : Nat) (z : Nat) H' => k ≤ ls.length ∧ z + (ls.drop k).flatten.length = ls.flatten.length) (fun (k : Nat) (z : Nat) => ls.length - k) 0 0 (upd_intro (upd_intro (mask_intro (by first | exact off_refl | (repeat (first | exact off_mask | refine off_upd rfl ?_ | refine off_mask2 rfl ?_)))) rfl) rfl) (lmask_intro offl_refl) ?_ ?_
  · exact ⟨Nat.zero_le _, by simp⟩
  intro k z J2 JL2 H2 hp1 hl2
  obtain ⟨hk1, hk2⟩ := hp1
  refine cw_seq ?_
  refine cw_region ?_
  refine ol rfl (lo_lss rfl rfl) ?_
  refine ow_nil ?_
  refine seqK_n ?_
  refine cw_seq ?_
  refine cw_cond rfl (fun h3 => ?_) (fun h3 => ?_)
  · have p4 := dt h3
    refine cw_skip ?_
    refine seqK_n ?_
    refine cw_seq ?_
    refine cw_block ?_
    refine cw_seq ?_
    refine cw_region ?_
    obtain ⟨c5, hc6⟩ := getE (xs := ls) (m := k) (by omega)
    obtain ⟨cs7, hE8, at9⟩ := (ls_h.mono ((HLe.refl _).trans hl2) (fun _ _ q => (slE_mono shopRE_mono) _ _ _ _ ((HLe.refl _).trans hl2) q)).get hc6
    obtain ⟨a10, c11, rfl, hs12⟩ := hE8
    have hdl : (ls.drop k).flatten.length = c5.length + (ls.drop (k + 1)).flatten.length := by rw [dropE hc6, List.flatten_cons, List.length_append]
    refine ol rfl (lo_indexAddr rfl rfl (ls_h.mono ((HLe.refl _).trans hl2) (fun _ _ q => (slE_mono shopRE_mono) _ _ _ _ ((HLe.refl _).trans hl2) q)).1 at9 Tryd.underlying99 sz65 (by omega) (by omega)) ?_
    refine ol rfl (lo_loadE1 rfl ag65 at9) ?_
    refine ol rfl (lo_assign (v := .slice _ _ _) rfl) ?_
    refine ow_nil ?_
    refine seqK_n ?_
    refine cw_seq ?_
    refine cw_region ?_
    refine ol rfl (lo_move (v := .int _ _) rfl) ?_
    refine ol rfl (lo_move (v := .slice _ _ _) rfl) ?_
    refine ol rfl (lo_len_slh rfl hs12 Tryd.underlying65) ?_
    refine ol rfl (lo_add rfl rfl (rg_i64 (by omega))) ?_
    refine ol rfl (lo_assign (v := .int _ _) rfl) ?_
    refine ow_nil ?_
    refine seqK_n ?_
    refine cw_seq ?_
    refine cw_region ?_
    refine ol rfl (lo_move (v := .int _ _) rfl) ?_
    refine ol rfl (lo_lss rfl rfl) ?_
    refine ow_nil ?_
    refine seqK_n ?_
    refine cw_cond rfl (fun h13 => ?_) (fun h13 => ?_)
    · have p14 := dt h13
      exfalso; omega
    have p15 := df h13
    refine cw_skip ?_
    refine blkK_n ?_
    refine seqK_n ?_
    refine cw_region ?_
    refine ol rfl (lo_add rfl rfl (rg_i64 (by omega))) ?_
    refine ol rfl (lo_move (v := .int _ _) rfl) ?_
    refine ow_nil ?_
    refine next2 (k + 1) (z + c5.length) (upd_intro (upd_intro (mask_intro (by first | exact off_refl | (repeat (first | exact off_mask | refine off_upd rfl ?_ | refine off_mask2 rfl ?_)))) rfl) (congrArg (Value.int .i64) (by omega))) (lmask_intro (by first | exact offl_refl | (repeat (first | exact offl_mask | refine offl_upd rfl ?_ | refine offl_mask2 rfl ?_)))) hl2 ?_ ?_
    · exact ⟨by omega, by omega⟩
    omega
  have p16 := df h3
  refine cw_exit ?_
  refine seqK_e ?_
  refine loopK_e ?_
  refine blkK_hit ?_
  refine seqK_n ?_
  refine cw_seq ?_
  refine cw_region ?_
  refine ol rfl (lo_move (v := .int _ _) rfl) ?_
  refine ow1 (op1_in (en_f cb63 rfl) Tryd.func63 rfl Tryd.ntmps63 rfl rfl ?_)
  refine cw_seq ?_
  refine cw_region ?_
  refine ol rfl (lo_assign (v := .slice _ _ _) rfl) ?_
  refine ow_nil ?_
  refine seqK_n ?_
  refine cw_seq ?_
  refine cw_seq ?_
  refine cw_region ?_
  refine ol rfl (lo_move (v := .int _ _) rfl) ?_
  refine ol rfl (lo_lss rfl rfl) ?_
  refine ow_nil ?_
  refine seqK_n ?_
  refine cw_cond rfl (fun h17 => ?_) (fun h17 => ?_)
  · have p18 := dt h17
    exfalso; omega
  have p19 := df h17
  refine cw_skip ?_
  refine seqK_n ?_
  refine cw_seq ?_
  refine cw_seq ?_
  refine cw_region ?_
  refine ol rfl (lo_move (v := .int _ _) rfl) ?_
  refine ol rfl (lo_move (v := .slice _ _ _) rfl) ?_
  refine ol rfl (lo_cap_sl rfl Tryd.underlying65) ?_
  refine ol rfl (lo_move (v := .slice _ _ _) rfl) ?_
  refine ol rfl (lo_len_sl rfl Tryd.underlying65) ?_
  refine ol rfl (lo_sub rfl rfl (rg_i64 (by omega))) ?_
  refine ol rfl (lo_sub rfl rfl (rg_i64 (by omega))) ?_
  refine ol rfl (lo_assign (v := .int _ _) rfl) ?_
  refine ow_nil ?_
  refine seqK_n ?_
  refine cw_seq ?_
  refine cw_region ?_
  refine ol rfl (lo_move (v := .int _ _) rfl) ?_
  refine ol rfl (lo_gtr rfl rfl) ?_
  refine ow_nil ?_
  refine seqK_n ?_
  refine cw_cond rfl (fun h20 => ?_) (fun h20 => ?_)
  · have p21 := dt h20
    refine cw_region ?_
    refine ol rfl (lo_move (v := .slice _ _ _) rfl) ?_
    refine ol rfl (lo_move (v := .slice _ _ _) rfl) ?_
    refine ol rfl (lo_cap_sl rfl Tryd.underlying65) ?_
    refine ol rfl (lo_slice_hi (a := none) (c := 0) 0 rfl rfl Tryd.underlying65 sz29 rfl (by decide)) ?_
    refine ol rfl (lo_move (v := .int _ _) rfl) ?_
    refine ow1 (op1_appz (m := (((z : Int) - (0 - 0))).toNat) 0 rfl rfl Tryd.underlying65 Tryd.underlying3 sz29 by29 (by decide) zr29 rfl (List.all_eq_true.1 rfl) (by omega) (by omega) (by omega) rfl (fun v22 en23 cs24 ho25 => ?_))
    refine ol rfl (lo_move (v := .slice _ _ _) rfl) ?_
    refine ol rfl (lo_len_sl rfl Tryd.underlying65) ?_
    obtain ⟨a26, c27, rfl, ho28⟩ := ownV_cut ho25
    refine ol rfl (lo_slice_cut (a := a26) (c := c27) rfl rfl Tryd.underlying65 sz29 rfl) ?_
    refine ol rfl (lo_assign rfl) ?_
    refine ow_nil ?_
    refine seqK_n ?_
    refine cw_seq ?_
    refine cw_region ?_
    refine ol rfl (lo_move rfl) ?_
    refine ol rfl (lo_assign rfl) ?_
    refine ow_nil ?_
    refine seqK_n ?_
    refine cw_ret ?_
    refine fnK_r (res1 rfl (rv_t rfl)) (.refl _) ?_
    refine ol rfl (lo_assign rfl) ?_
    refine ow_nil ?_
    refine seqK_n ?_
    refine cw_seq ?_
    refine cw_seq ?_
    refine cw_region ?_
    refine ol rfl (lo_move (v := .slice _ _ _) rfl) ?_
    refine ol rfl (lo_len_slh rfl (ls_h.mono ((HLe.refl _).trans hl2) (fun _ _ q => (slE_mono shopRE_mono) _ _ _ _ ((HLe.refl _).trans hl2) q)) Tryd.underlying99) ?_
    refine ol rfl (lo_move (v := .int _ _) rfl) ?_
    refine ow_nil ?_
    refine seqK_n ?_
    refine cw_block ?_
    refine cw_loop4 [6, 8, 27, 28, 29, 30, 31, 32, 33, 34] [0] (fun (k : Nat) (out : List ShopR) (v : Value) (en : Option (Nat × Obj)) G => upd (upd (G) 27 (.int .i64 (k : Int))) 6 (v)) (fun (k : Nat) (out : List ShopR) (v : Value) (en : Option (Nat × Obj)) G => lupd (G) 0 (en)) (fun (k : Nat) (out : List ShopR) (v : Value) (en : Option (Nat × Obj)) H' => k ≤ ls.length ∧ ls.flatten = out ++ (ls.drop k).flatten ∧ OwnV 3 29 v en out.length (out.flatMap ShopR.cells) ∧ (∀ x ∈ out, ShopR.wf x)) (fun (k : Nat) (out : List ShopR) (v : Value) (en : Option (Nat × Obj)) => ls.length - k) 0 [] (.slice a26 0 c27) en23 (upd_intro (upd_intro (mask_intro (by first | exact off_refl | (repeat (first | exact off_mask | refine off_upd rfl ?_ | refine off_mask2 rfl ?_)))) rfl) rfl) (lupd_intro (lmask_intro offl_refl) rfl) ?_ ?_
    · exact ⟨Nat.zero_le _, rfl, ho28, wf_nil⟩
    intro k out v en J30 JL30 H30 hp29 hl30
    obtain ⟨hk1, hk2, ho, hw⟩ := hp29
    have hfl : ls.flatten.length = out.length + (ls.drop k).flatten.length := by rw [hk2, List.length_append]
    refine cw_seq ?_
    refine cw_region ?_
    refine ol rfl (lo_lss rfl rfl) ?_
    refine ow_nil ?_
    refine seqK_n ?_
    refine cw_seq ?_
    refine cw_cond rfl (fun h31 => ?_) (fun h31 => ?_)
    · have p32 := dt h31
      refine cw_skip ?_
      refine seqK_n ?_
      refine cw_seq ?_
      refine cw_block ?_
      refine cw_seq ?_
      refine cw_region ?_
      obtain ⟨c33, hc34⟩ := getE (xs := ls) (m := k) (by omega)
      obtain ⟨cs35, hE36, at37⟩ := (ls_h.mono (((HLe.refl _).trans hl2).trans hl30) (fun _ _ q => (slE_mono shopRE_mono) _ _ _ _ (((HLe.refl _).trans hl2).trans hl30) q)).get hc34
      obtain ⟨a38, c39, rfl, hs40⟩ := hE36
      have hdl : (ls.drop k).flatten.length = c33.length + (ls.drop (k + 1)).flatten.length := by rw [dropE hc34, List.flatten_cons, List.length_append]
      refine ol rfl (lo_indexAddr rfl rfl (ls_h.mono (((HLe.refl _).trans hl2).trans hl30) (fun _ _ q => (slE_mono shopRE_mono) _ _ _ _ (((HLe.refl _).trans hl2).trans hl30) q)).1 at37 Tryd.underlying99 sz65 (by omega) (by omega)) ?_
      refine ol rfl (lo_loadE1 rfl ag65 at37) ?_
      refine ol rfl (lo_assign (v := .slice _ _ _) rfl) ?_
      refine ow_nil ?_
      refine seqK_n ?_
      refine cw_region ?_
      refine ol rfl (lo_move rfl) ?_
      refine ol rfl (lo_move (v := .slice _ _ _) rfl) ?_
      refine ow1 (op1_app 0 rfl rfl Tryd.underlying65 Tryd.underlying65 rfl sz29 by29 (by decide) zr29 ho (src_slh (enc := ShopR.cells) (wf := ShopR.wf) (fun _ => rfl) hs40) (one_flat (fun _ => rfl) _) rfl (by omega) rfl (fun v41 en42 ho43 => ?_))
      have ho44 := own_cat (enc := ShopR.cells) out c33 ho43
      refine ol rfl (lo_assign rfl) ?_
      refine ow_nil ?_
      refine blkK_n ?_
      refine seqK_n ?_
      refine cw_region ?_
      refine ol rfl (lo_add rfl rfl (rg_i64 (by omega))) ?_
      refine ol rfl (lo_move (v := .int _ _) rfl) ?_
      refine ow_nil ?_
      refine next4 (k + 1) (out ++ c33) v41 en42 (upd_intro (upd_intro (mask_intro (by first | exact off_refl | (repeat (first | exact off_mask | refine off_upd rfl ?_ | refine off_mask2 rfl ?_)))) rfl) rfl) (lupd_intro (lmask_intro (by first | exact offl_refl | (repeat (first | exact offl_mask | refine offl_upd rfl ?_ | refine offl_mask2 rfl ?_)))) rfl) hl30 ?_ ?_
      · refine ⟨by omega, ?_, ho44, (wf_cat hw (slh_wf hs40))⟩
        rw [hk2, dropE hc34, List.flatten_cons]; simp
      omega
    have p45 := df h31
    refine cw_exit ?_
    refine seqK_e ?_
    refine loopK_e ?_
    refine blkK_hit ?_
    refine seqK_n ?_
    refine cw_seq ?_
    refine cw_region ?_
    refine ol rfl (lo_move rfl) ?_
    refine ol rfl (lo_assign rfl) ?_
    refine ow_nil ?_
    refine seqK_n ?_
    refine cw_giveO 0 rfl (fun _ hl46 hg47 => ?_)
    have hs48 := slh_own (enc := ShopR.cells) (wf := ShopR.wf) (fun _ => rfl) ho hw hg47
    obtain ⟨⟨a49, c50, rfl, -⟩, -⟩ := id hs48
    refine cw_ret ?_
    refine fnK_r (res1 rfl (rv_t (v := .slice _ _ _) rfl)) ((((HLe.refl _).trans hl2).trans hl30).trans hl46) ?_
    have e : ls.flatten = out := by rw [hk2, List.drop_of_length_le (by omega)]; simp
    rw [e]
    exact ⟨_, _, rfl, hs48⟩
  have p51 := df h20
  refine cw_skip ?_
  refine seqK_n ?_
  refine cw_seq ?_
  refine cw_region ?_
  refine ol rfl (lo_move (v := .slice _ _ _) rfl) ?_
  refine ol rfl (lo_assign (v := .slice _ _ _) rfl) ?_
  refine ow_nil ?_
  refine seqK_n ?_
  refine cw_ret ?_
  refine fnK_r (res1 rfl (rv_t (v := .slice _ _ _) rfl)) (.refl _) ?_
  refine ol rfl (lo_assign (v := .slice _ _ _) rfl) ?_
  refine ow_nil ?_
  refine seqK_n ?_
  refine cw_seq ?_
  refine cw_seq ?_
  refine cw_region ?_
  refine ol rfl (lo_move (v := .slice _ _ _) rfl) ?_
  refine ol rfl (lo_len_slh rfl (ls_h.mono ((HLe.refl _).trans hl2) (fun _ _ q => (slE_mono shopRE_mono) _ _ _ _ ((HLe.refl _).trans hl2) q)) Tryd.underlying99) ?_
  refine ol rfl (lo_move (v := .int _ _) rfl) ?_
  refine ow_nil ?_
  refine seqK_n ?_
  refine cw_block ?_
  refine cw_loop4 [6, 8, 27, 28, 29, 30, 31, 32, 33, 34] [0] (fun (k : Nat) (out : List ShopR) (v : Value) (en : Option (Nat × Obj)) G => upd (upd (G) 27 (.int .i64 (k : Int))) 6 (v)) (fun (k : Nat) (out : List ShopR) (v : Value) (en : Option (Nat × Obj)) G => lupd (G) 0 (en)) (fun (k : Nat) (out : List ShopR) (v : Value) (en : Option (Nat × Obj)) H' => k ≤ ls.length ∧ ls.flatten = out ++ (ls.drop k).flatten ∧ OwnV 3 29 v en out.length (out.flatMap ShopR.cells) ∧ (∀ x ∈ out, ShopR.wf x)) (fun (k : Nat) (out : List ShopR) (v : Value) (en : Option (Nat × Obj)) => ls.length - k) 0 [] (.slice none 0 0) none (upd_intro (upd_intro (mask_intro (by first | exact off_refl | (repeat (first | exact off_mask | refine off_upd rfl ?_ | refine off_mask2 rfl ?_)))) rfl) rfl) (lupd_intro (lmask_intro offl_refl) rfl) ?_ ?_
  · exact ⟨Nat.zero_le _, rfl, ownV_nil, wf_nil⟩
  intro k out v en J53 JL53 H53 hp52 hl53
  obtain ⟨hk1, hk2, ho, hw⟩ := hp52
  have hfl : ls.flatten.length = out.length + (ls.drop k).flatten.length := by rw [hk2, List.length_append]
  refine cw_seq ?_
  refine cw_region ?_
  refine ol rfl (lo_lss rfl rfl) ?_
  refine ow_nil ?_
  refine seqK_n ?_
  refine cw_seq ?_
  refine cw_cond rfl (fun h54 => ?_) (fun h54 => ?_)
  · have p55 := dt h54
    refine cw_skip ?_
    refine seqK_n ?_
    refine cw_seq ?_
    refine cw_block ?_
    refine cw_seq ?_
    refine cw_region ?_
    obtain ⟨c56, hc57⟩ := getE (xs := ls) (m := k) (by omega)
    obtain ⟨cs58, hE59, at60⟩ := (ls_h.mono (((HLe.refl _).trans hl2).trans hl53) (fun _ _ q => (slE_mono shopRE_mono) _ _ _ _ (((HLe.refl _).trans hl2).trans hl53) q)).get hc57
    obtain ⟨a61, c62, rfl, hs63⟩ := hE59
    have hdl : (ls.drop k).flatten.length = c56.length + (ls.drop (k + 1)).flatten.length := by rw [dropE hc57, List.flatten_cons, List.length_append]
    refine ol rfl (lo_indexAddr rfl rfl (ls_h.mono (((HLe.refl _).trans hl2).trans hl53) (fun _ _ q => (slE_mono shopRE_mono) _ _ _ _ (((HLe.refl _).trans hl2).trans hl53) q)).1 at60 Tryd.underlying99 sz65 (by omega) (by omega)) ?_
    refine ol rfl (lo_loadE1 rfl ag65 at60) ?_
    refine ol rfl (lo_assign (v := .slice _ _ _) rfl) ?_
    refine ow_nil ?_
    refine seqK_n ?_
    refine cw_region ?_
    refine ol rfl (lo_move rfl) ?_
    refine ol rfl (lo_move (v := .slice _ _ _) rfl) ?_
    refine ow1 (op1_app 0 rfl rfl Tryd.underlying65 Tryd.underlying65 rfl sz29 by29 (by decide) zr29 ho (src_slh (enc := ShopR.cells) (wf := ShopR.wf) (fun _ => rfl) hs63) (one_flat (fun _ => rfl) _) rfl (by omega) rfl (fun v64 en65 ho66 => ?_))
    have ho67 := own_cat (enc := ShopR.cells) out c56 ho66
    refine ol rfl (lo_assign rfl) ?_
    refine ow_nil ?_
    refine blkK_n ?_
    refine seqK_n ?_
    refine cw_region ?_
    refine ol rfl (lo_add rfl rfl (rg_i64 (by omega))) ?_
    refine ol rfl (lo_move (v := .int _ _) rfl) ?_
    refine ow_nil ?_
    refine next4 (k + 1) (out ++ c56) v64 en65 (upd_intro (upd_intro (mask_intro (by first | exact off_refl | (repeat (first | exact off_mask | refine off_upd rfl ?_ | refine off_mask2 rfl ?_)))) rfl) rfl) (lupd_intro (lmask_intro (by first | exact offl_refl | (repeat (first | exact offl_mask | refine offl_upd rfl ?_ | refine offl_mask2 rfl ?_)))) rfl) hl53 ?_ ?_
    · refine ⟨by omega, ?_, ho67, (wf_cat hw (slh_wf hs63))⟩
      rw [hk2, dropE hc57, List.flatten_cons]; simp
    omega
  have p68 := df h54
  refine cw_exit ?_
  refine seqK_e ?_
  refine loopK_e ?_
  refine blkK_hit ?_
  refine seqK_n ?_
  refine cw_seq ?_
  refine cw_region ?_
  refine ol rfl (lo_move rfl) ?_
  refine ol rfl (lo_assign rfl) ?_
  refine ow_nil ?_
  refine seqK_n ?_
  refine cw_giveO 0 rfl (fun _ hl69 hg70 => ?_)
  have hs71 := slh_own (enc := ShopR.cells) (wf := ShopR.wf) (fun _ => rfl) ho hw hg70
  obtain ⟨⟨a72, c73, rfl, -⟩, -⟩ := id hs71
  refine cw_ret ?_
  refine fnK_r (res1 rfl (rv_t (v := .slice _ _ _) rfl)) ((((HLe.refl _).trans hl2).trans hl53).trans hl69) ?_
  have e : ls.flatten = out := by rw [hk2, List.drop_of_length_le (by omega)]; simp
  rw [e]
  exact ⟨_, _, rfl, hs71⟩
theorem concat_Bind (H : Hp) (ls_a : Option Addr) (ls_l ls_c : Nat) (ls : List (List BindR)) (ls_h : SlH (slE bindRE 6) 1 H (.slice ls_a ls_l ls_c) ls) (hls : ls.length ≤ 1000) (hlt : ls.flatten.length ≤ 1000000) : Ph Tryd.prog 52 #[.slice ls_a ls_l ls_c] H (fun v H' => ∃ (a1 : Option Addr) (c1 : Nat), v = .slice a1 ((ls).flatten).length c1 ∧ SlH bindRE 6 H' (.slice a1 ((ls).flatten).length c1) ((ls).flatten)) := by
  refine ph_cw Tryd.func52 rfl Tryd.ntmps52 rfl (fun N => ?_)
  refine cw_seq ?_
  refine cw_region ?_
  refine ol rfl (lo_assign (v := .slice _ _ _) rfl) ?_
  refine ow_nil ?_
  refine seqK_n ?_
  refine cw_seq ?_
  refine cw_region ?_
  refine ol rfl (lo_assign (v := .int _ _) rfl) ?_
  refine ow_nil ?_
  refine seqK_n ?_
  refine cw_seq ?_
  refine cw_seq ?_
  refine cw_region ?_
  refine ol rfl (lo_move (v := .slice _ _ _) rfl) ?_
  refine ol rfl (lo_len_slh rfl ls_h Tryd.underlying103) ?_
  refine ol rfl (lo_move (v := .int _ _) rfl) ?_
  refine ow_nil ?_
  refine seqK_n ?_
  refine cw_block ?_
  refine cw_loop2 [3, 5, 11, 12, 13, 14, 15, 16, 17, 18, 19, 20, 21, 22] [] (fun (k : Nat) (z : Nat) G => upd (upd (G) 11 (.int .i64 (k : Int))) 3 (.int .i64 (z : Int))) (fun (k : Nat) (z : Nat) G => G) (fun (k : Nat) (z : Nat) H' => k ≤ ls.length ∧ z + (ls.drop k).flatten.length = ls.flatten.length) (fun (k : Nat) (z : Nat) => ls.length - k) 0 0 (upd_intro (upd_intro (mask_intro (by first | exact off_refl | (repeat (first | exact off_mask | refine off_upd rfl ?_ | refine off_mask2 rfl ?_)))) rfl) rfl) (lmask_intro offl_refl) ?_ ?_
  · exact ⟨Nat.zero_le _, by simp⟩
  intro k z J2 JL2 H2 hp1 hl2
  obtain ⟨hk1, hk2⟩ := hp1
  refine cw_seq ?_
  refine cw_region ?_
  refine ol rfl (lo_lss rfl rfl) ?_
  refine ow_nil ?_
  refine seqK_n ?_
  refine cw_seq ?_
  refine cw_cond rfl (fun h3 => ?_) (fun h3 => ?_)
  · have p4 := dt h3
    refine cw_skip ?_
    refine seqK_n ?_
    refine cw_seq ?_
    refine cw_block ?_
    refine cw_seq ?_
    refine cw_region ?_
    obtain ⟨c5, hc6⟩ := getE (xs := ls) (m := k) (by omega)
    obtain ⟨cs7, hE8, at9⟩ := (ls_h.mono ((HLe.refl _).trans hl2) (fun _ _ q => (slE_mono bindRE_mono) _ _ _ _ ((HLe.refl _).trans hl2) q)).get hc6
    obtain ⟨a10, c11, rfl, hs12⟩ := hE8
    have hdl : (ls.drop k).flatten.length = c5.length + (ls.drop (k + 1)).flatten.length := by rw [dropE hc6, List.flatten_cons, List.length_append]
    refine ol rfl (lo_indexAddr rfl rfl (ls_h.mono ((HLe.refl _).trans hl2) (fun _ _ q => (slE_mono bindRE_mono) _ _ _ _ ((HLe.refl _).trans hl2) q)).1 at9 Tryd.underlying103 sz66 (by omega) (by omega)) ?_
    refine ol rfl (lo_loadE1 rfl ag66 at9) ?_
    refine ol rfl (lo_assign (v := .slice _ _ _) rfl) ?_
    refine ow_nil ?_
    refine seqK_n ?_
    refine cw_seq ?_
    refine cw_region ?_
    refine ol rfl (lo_move (v := .int _ _) rfl) ?_
    refine ol rfl (lo_move (v := .slice _ _ _) rfl) ?_
    refine ol rfl (lo_len_slh rfl hs12 Tryd.underlying66) ?_
    refine ol rfl (lo_add rfl rfl (rg_i64 (by omega))) ?_
    refine ol rfl (lo_assign (v := .int _ _) rfl) ?_
    refine ow_nil ?_
    refine seqK_n ?_
    refine cw_seq ?_
    refine cw_region ?_
    refine ol rfl (lo_move (v := .int _ _) rfl) ?_
    refine ol rfl (lo_lss rfl rfl) ?_
    refine ow_nil ?_
    refine seqK_n ?_
    refine cw_cond rfl (fun h13 => ?_) (fun h13 => ?_)
    · have p14 := dt h13
      exfalso; omega
    have p15 := df h13
    refine cw_skip ?_
    refine blkK_n ?_
    refine seqK_n ?_
    refine cw_region ?_
    refine ol rfl (lo_add rfl rfl (rg_i64 (by omega))) ?_
    refine ol rfl (lo_move (v := .int _ _) rfl) ?_
    refine ow_nil ?_
    refine next2 (k + 1) (z + c5.length) (upd_intro (upd_intro (mask_intro (by first | exact off_refl | (repeat (first | exact off_mask | refine off_upd rfl ?_ | refine off_mask2 rfl ?_)))) rfl) (congrArg (Value.int .i64) (by omega))) (lmask_intro (by first | exact offl_refl | (repeat (first | exact offl_mask | refine offl_upd rfl ?_ | refine offl_mask2 rfl ?_)))) hl2 ?_ ?_
    · exact ⟨by omega, by omega⟩
    omega
  have p16 := df h3
  refine cw_exit ?_
  refine seqK_e ?_
  refine loopK_e ?_
  refine blkK_hit ?_
  refine seqK_n ?_
  refine cw_seq ?_
  refine cw_region ?_
  refine ol rfl (lo_move (v := .int _ _) rfl) ?_
  refine ow1 (op1_in (en_f cb67 rfl) Tryd.func67 rfl Tryd.ntmps67 rfl rfl ?_)
  refine cw_seq ?_
  refine cw_region ?_
  refine ol rfl (lo_assign (v := .slice _ _ _) rfl) ?_
  refine ow_nil ?_
  refine seqK_n ?_
  refine cw_seq ?_
  refine cw_seq ?_
  refine cw_region ?_
  refine ol rfl (lo_move (v := .int _ _) rfl) ?_
  refine ol rfl (lo_lss rfl rfl) ?_
  refine ow_nil ?_
  refine seqK_n ?_
  refine cw_cond rfl (fun h17 => ?_) (fun h17 => ?_)
  · have p18 := dt h17
    exfalso; omega
  have p19 := df h17
  refine cw_skip ?_
  refine seqK_n ?_
  refine cw_seq ?_
  refine cw_seq ?_
  refine cw_region ?_
  refine ol rfl (lo_move (v := .int _ _) rfl) ?_
  refine ol rfl (lo_move (v := .slice _ _ _) rfl) ?_
  refine ol rfl (lo_cap_sl rfl Tryd.underlying66) ?_
  refine ol rfl (lo_move (v := .slice _ _ _) rfl) ?_
  refine ol rfl (lo_len_sl rfl Tryd.underlying66) ?_
  refine ol rfl (lo_sub rfl rfl (rg_i64 (by omega))) ?_
  refine ol rfl (lo_sub rfl rfl (rg_i64 (by omega))) ?_
  refine ol rfl (lo_assign (v := .int _ _) rfl) ?_
  refine ow_nil ?_
  refine seqK_n ?_
  refine cw_seq ?_
  refine cw_region ?_
  refine ol rfl (lo_move (v := .int _ _) rfl) ?_
  refine ol rfl (lo_gtr rfl rfl) ?_
  refine ow_nil ?_
  refine seqK_n ?_
  refine cw_cond rfl (fun h20 => ?_) (fun h20 => ?_)
  · have p21 := dt h20
    refine cw_region ?_
    refine ol rfl (lo_move (v := .slice _ _ _) rfl) ?_
    refine ol rfl (lo_move (v := .slice _ _ _) rfl) ?_
    refine ol rfl (lo_cap_sl rfl Tryd.underlying66) ?_
    refine ol rfl (lo_slice_hi (a := none) (c := 0) 0 rfl rfl Tryd.underlying66 sz34 rfl (by decide)) ?_
    refine ol rfl (lo_move (v := .int _ _) rfl) ?_
    refine ow1 (op1_appz (m := (((z : Int) - (0 - 0))).toNat) 0 rfl rfl Tryd.underlying66 Tryd.underlying3 sz34 by34 (by decide) zr34 rfl (List.all_eq_true.1 rfl) (by omega) (by omega) (by omega) rfl (fun v22 en23 cs24 ho25 => ?_))
    refine ol rfl (lo_move (v := .slice _ _ _) rfl) ?_
    refine ol rfl (lo_len_sl rfl Tryd.underlying66) ?_
    obtain ⟨a26, c27, rfl, ho28⟩ := ownV_cut ho25
    refine ol rfl (lo_slice_cut (a := a26) (c := c27) rfl rfl Tryd.underlying66 sz34 rfl) ?_
    refine ol rfl (lo_assign rfl) ?_
    refine ow_nil ?_
    refine seqK_n ?_
    refine cw_seq ?_
    refine cw_region ?_
    refine ol rfl (lo_move rfl) ?_
    refine ol rfl (lo_assign rfl) ?_
    refine ow_nil ?_
    refine seqK_n ?_
    refine cw_ret ?_
    refine fnK_r (res1 rfl (rv_t rfl)) (.refl _) ?_
    refine ol rfl (lo_assign rfl) ?_
    refine ow_nil ?_
    refine seqK_n ?_
    refine cw_seq ?_
    refine cw_seq ?_
    refine cw_region ?_
    refine ol rfl (lo_move (v := .slice _ _ _) rfl) ?_
    refine ol rfl (lo_len_slh rfl (ls_h.mono ((HLe.refl _).trans hl2) (fun _ _ q => (slE_mono bindRE_mono) _ _ _ _ ((HLe.refl _).trans hl2) q)) Tryd.underlying103) ?_
    refine ol rfl (lo_move (v := .int _ _) rfl) ?_
    refine ow_nil ?_
    refine seqK_n ?_
    refine cw_block ?_
    refine cw_loop5 [6, 8, 27, 28, 29, 30, 31, 32, 33, 34] [0] (fun (k : Nat) (out : List BindR) (v : Value) (en : Option (Nat × Obj)) (cs : List Value) G => upd (upd (G) 27 (.int .i64 (k : Int))) 6 (v)) (fun (k : Nat) (out : List BindR) (v : Value) (en : Option (Nat × Obj)) (cs : List Value) G => lupd (G) 0 (en)) (fun (k : Nat) (out : List BindR) (v : Value) (en : Option (Nat × Obj)) (cs : List Value) H' => k ≤ ls.length ∧ ls.flatten = out ++ (ls.drop k).flatten ∧ OwnV 6 34 v en out.length cs ∧ Rl bindRE H' out cs) (fun (k : Nat) (out : List BindR) (v : Value) (en : Option (Nat × Obj)) (cs : List Value) => ls.length - k) 0 [] (.slice a26 0 c27) en23 [] (upd_intro (upd_intro (mask_intro (by first | exact off_refl | (repeat (first | exact off_mask | refine off_upd rfl ?_ | refine off_mask2 rfl ?_)))) rfl) rfl) (lupd_intro (lmask_intro offl_refl) rfl) ?_ ?_
    · exact ⟨Nat.zero_le _, rfl, ho28, rl_nil⟩
    intro k out v en cs J30 JL30 H30 hp29 hl30
    obtain ⟨hk1, hk2, ho, hw⟩ := hp29
    have hfl : ls.flatten.length = out.length + (ls.drop k).flatten.length := by rw [hk2, List.length_append]
    refine cw_seq ?_
    refine cw_region ?_
    refine ol rfl (lo_lss rfl rfl) ?_
    refine ow_nil ?_
    refine seqK_n ?_
    refine cw_seq ?_
    refine cw_cond rfl (fun h31 => ?_) (fun h31 => ?_)
    · have p32 := dt h31
      refine cw_skip ?_
      refine seqK_n ?_
      refine cw_seq ?_
      refine cw_block ?_
      refine cw_seq ?_
      refine cw_region ?_
      obtain ⟨c33, hc34⟩ := getE (xs := ls) (m := k) (by omega)
      obtain ⟨cs35, hE36, at37⟩ := (ls_h.mono (((HLe.refl _).trans hl2).trans hl30) (fun _ _ q => (slE_mono bindRE_mono) _ _ _ _ (((HLe.refl _).trans hl2).trans hl30) q)).get hc34
      obtain ⟨a38, c39, rfl, hs40⟩ := hE36
      have hdl : (ls.drop k).flatten.length = c33.length + (ls.drop (k + 1)).flatten.length := by rw [dropE hc34, List.flatten_cons, List.length_append]
      refine ol rfl (lo_indexAddr rfl rfl (ls_h.mono (((HLe.refl _).trans hl2).trans hl30) (fun _ _ q => (slE_mono bindRE_mono) _ _ _ _ (((HLe.refl _).trans hl2).trans hl30) q)).1 at37 Tryd.underlying103 sz66 (by omega) (by omega)) ?_
      refine ol rfl (lo_loadE1 rfl ag66 at37) ?_
      refine ol rfl (lo_assign (v := .slice _ _ _) rfl) ?_
      refine ow_nil ?_
      refine seqK_n ?_
      refine cw_region ?_
      refine ol rfl (lo_move rfl) ?_
      refine ol rfl (lo_move (v := .slice _ _ _) rfl) ?_
      obtain ⟨nw41, hrl42, hon43, hsc44⟩ := src_slE (P := Tryd.prog) bindRE_wide hs40
      refine ow1 (op1_app 0 rfl rfl Tryd.underlying66 Tryd.underlying66 rfl sz34 by34 (by decide) zr34 ho (hsc44 _ _) hon43 rfl (by omega) rfl (fun v45 en46 ho47 => ?_))
      have ho48 := ownV_cast (len' := (out ++ c33).length) ho47 (by simp) rfl
      have hrl49 : Rl bindRE _ (out ++ c33) _ := rl_app hw hrl42
      refine ol rfl (lo_assign rfl) ?_
      refine ow_nil ?_
      refine blkK_n ?_
      refine seqK_n ?_
      refine cw_region ?_
      refine ol rfl (lo_add rfl rfl (rg_i64 (by omega))) ?_
      refine ol rfl (lo_move (v := .int _ _) rfl) ?_
      refine ow_nil ?_
      refine next5 (k + 1) (out ++ c33) v45 en46 (cs ++ nw41) (upd_intro (upd_intro (mask_intro (by first | exact off_refl | (repeat (first | exact off_mask | refine off_upd rfl ?_ | refine off_mask2 rfl ?_)))) rfl) rfl) (lupd_intro (lmask_intro (by first | exact offl_refl | (repeat (first | exact offl_mask | refine offl_upd rfl ?_ | refine offl_mask2 rfl ?_)))) rfl) hl30 ?_ ?_
      · refine ⟨by omega, ?_, ho48, hrl49⟩
        rw [hk2, dropE hc34, List.flatten_cons]; simp
      omega
    have p50 := df h31
    refine cw_exit ?_
    refine seqK_e ?_
    refine loopK_e ?_
    refine blkK_hit ?_
    refine seqK_n ?_
    refine cw_seq ?_
    refine cw_region ?_
    refine ol rfl (lo_move rfl) ?_
    refine ol rfl (lo_assign rfl) ?_
    refine ow_nil ?_
    refine seqK_n ?_
    refine cw_giveO 0 rfl (fun _ hl51 hg52 => ?_)
    have hs53 := slh_ownE (E := bindRE) bindRE_wide ho (hw.mono bindRE_mono ((HLe.refl _).trans hl51)) hg52
    obtain ⟨⟨a54, c55, rfl, -⟩, -⟩ := id hs53
    refine cw_ret ?_
    refine fnK_r (res1 rfl (rv_t (v := .slice _ _ _) rfl)) ((((HLe.refl _).trans hl2).trans hl30).trans hl51) ?_
    have e : ls.flatten = out := by rw [hk2, List.drop_of_length_le (by omega)]; simp
    rw [e]
    exact ⟨_, _, rfl, hs53⟩
  have p56 := df h20
  refine cw_skip ?_
  refine seqK_n ?_
  refine cw_seq ?_
  refine cw_region ?_
  refine ol rfl (lo_move (v := .slice _ _ _) rfl) ?_
  refine ol rfl (lo_assign (v := .slice _ _ _) rfl) ?_
  refine ow_nil ?_
  refine seqK_n ?_
  refine cw_ret ?_
  refine fnK_r (res1 rfl (rv_t (v := .slice _ _ _) rfl)) (.refl _) ?_
  refine ol rfl (lo_assign (v := .slice _ _ _) rfl) ?_
  refine ow_nil ?_
  refine seqK_n ?_
  refine cw_seq ?_
  refine cw_seq ?_
  refine cw_region ?_
  refine ol rfl (lo_move (v := .slice _ _ _) rfl) ?_
  refine ol rfl (lo_len_slh rfl (ls_h.mono ((HLe.refl _).trans hl2) (fun _ _ q => (slE_mono bindRE_mono) _ _ _ _ ((HLe.refl _).trans hl2) q)) Tryd.underlying103) ?_
  refine ol rfl (lo_move (v := .int _ _) rfl) ?_
  refine ow_nil ?_
  refine seqK_n ?_
  refine cw_block ?_
  refine cw_loop5 [6, 8, 27, 28, 29, 30, 31, 32, 33, 34] [0] (fun (k : Nat) (out : List BindR) (v : Value) (en : Option (Nat × Obj)) (cs : List Value) G => upd (upd (G) 27 (.int .i64 (k : Int))) 6 (v)) (fun (k : Nat) (out : List BindR) (v : Value) (en : Option (Nat × Obj)) (cs : List Value) G => lupd (G) 0 (en)) (fun (k : Nat) (out : List BindR) (v : Value) (en : Option (Nat × Obj)) (cs : List Value) H' => k ≤ ls.length ∧ ls.flatten = out ++ (ls.drop k).flatten ∧ OwnV 6 34 v en out.length cs ∧ Rl bindRE H' out cs) (fun (k : Nat) (out : List BindR) (v : Value) (en : Option (Nat × Obj)) (cs : List Value) => ls.length - k) 0 [] (.slice none 0 0) none [] (upd_intro (upd_intro (mask_intro (by first | exact off_refl | (repeat (first | exact off_mask | refine off_upd rfl ?_ | refine off_mask2 rfl ?_)))) rfl) rfl) (lupd_intro (lmask_intro offl_refl) rfl) ?_ ?_
  · exact ⟨Nat.zero_le _, rfl, ownV_nil, rl_nil⟩
  intro k out v en cs J58 JL58 H58 hp57 hl58
  obtain ⟨hk1, hk2, ho, hw⟩ := hp57
  have hfl : ls.flatten.length = out.length + (ls.drop k).flatten.length := by rw [hk2, List.length_append]
  refine cw_seq ?_
  refine cw_region ?_
  refine ol rfl (lo_lss rfl rfl) ?_
  refine ow_nil ?_
  refine seqK_n ?_
  refine cw_seq ?_
  refine cw_cond rfl (fun h59 => ?_) (fun h59 => ?_)
  · have p60 := dt h59
    refine cw_skip ?_
    refine seqK_n ?_
    refine cw_seq ?_
    refine cw_block ?_
    refine cw_seq ?_
    refine cw_region ?_
    obtain ⟨c61, hc62⟩ := getE (xs := ls) (m := k) (by omega)
    obtain ⟨cs63, hE64, at65⟩ := (ls_h.mono (((HLe.refl _).trans hl2).trans hl58) (fun _ _ q => (slE_mono bindRE_mono) _ _ _ _ (((HLe.refl _).trans hl2).trans hl58) q)).get hc62
    obtain ⟨a66, c67, rfl, hs68⟩ := hE64
    have hdl : (ls.drop k).flatten.length = c61.length + (ls.drop (k + 1)).flatten.length := by rw [dropE hc62, List.flatten_cons, List.length_append]
    refine ol rfl (lo_indexAddr rfl rfl (ls_h.mono (((HLe.refl _).trans hl2).trans hl58) (fun _ _ q => (slE_mono bindRE_mono) _ _ _ _ (((HLe.refl _).trans hl2).trans hl58) q)).1 at65 Tryd.underlying103 sz66 (by omega) (by omega)) ?_
    refine ol rfl (lo_loadE1 rfl ag66 at65) ?_
    refine ol rfl (lo_assign (v := .slice _ _ _) rfl) ?_
    refine ow_nil ?_
    refine seqK_n ?_
    refine cw_region ?_
    refine ol rfl (lo_move rfl) ?_
    refine ol rfl (lo_move (v := .slice _ _ _) rfl) ?_
    obtain ⟨nw69, hrl70, hon71, hsc72⟩ := src_slE (P := Tryd.prog) bindRE_wide hs68
    refine ow1 (op1_app 0 rfl rfl Tryd.underlying66 Tryd.underlying66 rfl sz34 by34 (by decide) zr34 ho (hsc72 _ _) hon71 rfl (by omega) rfl (fun v73 en74 ho75 => ?_))
    have ho76 := ownV_cast (len' := (out ++ c61).length) ho75 (by simp) rfl
    have hrl77 : Rl bindRE _ (out ++ c61) _ := rl_app hw hrl70
    refine ol rfl (lo_assign rfl) ?_
    refine ow_nil ?_
    refine blkK_n ?_
    refine seqK_n ?_
    refine cw_region ?_
    refine ol rfl (lo_add rfl rfl (rg_i64 (by omega))) ?_
    refine ol rfl (lo_move (v := .int _ _) rfl) ?_
    refine ow_nil ?_
    refine next5 (k + 1) (out ++ c61) v73 en74 (cs ++ nw69) (upd_intro (upd_intro (mask_intro (by first | exact off_refl | (repeat (first | exact off_mask | refine off_upd rfl ?_ | refine off_mask2 rfl ?_)))) rfl) rfl) (lupd_intro (lmask_intro (by first | exact offl_refl | (repeat (first | exact offl_mask | refine offl_upd rfl ?_ | refine offl_mask2 rfl ?_)))) rfl) hl58 ?_ ?_
    · refine ⟨by omega, ?_, ho76, hrl77⟩
      rw [hk2, dropE hc62, List.flatten_cons]; simp
    omega
  have p78 := df h59
  refine cw_exit ?_
  refine seqK_e ?_
  refine loopK_e ?_
  refine blkK_hit ?_
  refine seqK_n ?_
  refine cw_seq ?_
  refine cw_region ?_
  refine ol rfl (lo_move rfl) ?_
  refine ol rfl (lo_assign rfl) ?_
  refine ow_nil ?_
  refine seqK_n ?_
  refine cw_giveO 0 rfl (fun _ hl79 hg80 => ?_)
  have hs81 := slh_ownE (E := bindRE) bindRE_wide ho (hw.mono bindRE_mono ((HLe.refl _).trans hl79)) hg80
  obtain ⟨⟨a82, c83, rfl, -⟩, -⟩ := id hs81
  refine cw_ret ?_
  refine fnK_r (res1 rfl (rv_t (v := .slice _ _ _) rfl)) ((((HLe.refl _).trans hl2).trans hl58).trans hl79) ?_
  have e : ls.flatten = out := by rw [hk2, List.drop_of_length_le (by omega)]; simp
  rw [e]
  exact ⟨_, _, rfl, hs81⟩
end Go.SW
set_option linter.unusedVariables false
set_option maxRecDepth 100000
set_option maxHeartbeats 4000000
namespace Go.SW
open Go.Proofs
theorem ag68 : Ag Tryd.prog 68 true := fun w => by kernel_rfl
theorem cb46 : Callable Tryd.prog 46 := callable_of Tryd.func46 (by kernel_rfl) (by kernel_rfl)
theorem cb47 : Callable Tryd.prog 47 := callable_of Tryd.func47 (by kernel_rfl) (by kernel_rfl)
theorem cb48 : Callable Tryd.prog 48 := callable_of Tryd.func48 (by kernel_rfl) (by kernel_rfl)
theorem sz68 : Sz Tryd.prog 68 2 := fun w => by kernel_rfl
theorem zr68 : Zr Tryd.prog 68 [.slice none 0 0, .slice none 0 0] := fun w => ⟨.agg #[.slice none 0 0, .slice none 0 0], by kernel_rfl, rfl⟩
theorem zx29 : ∃ z, ∀ w, (zeroValue 29).run Tryd.prog w = .ok z w := ⟨.agg #[str [], .int .u8 0, str []], fun w => by kernel_rfl⟩
theorem zx65 : ∃ z, ∀ w, (zeroValue 65).run Tryd.prog w = .ok z w := ⟨.slice none 0 0, fun w => by kernel_rfl⟩
theorem book_Make (H : Hp) (b : BookR) (b_shops_a : Option Addr) (b_shops_c : Nat) (b_shops_h : SlH shopRE 3 H (.slice b_shops_a b.shops.length b_shops_c) b.shops) (b_binds_a : Option Addr) (b_binds_c : Nat) (b_binds_h : SlH bindRE 6 H (.slice b_binds_a b.binds.length b_binds_c) b.binds) (b_w : BookR.wf b) (x : ShopR) (x_w : ShopR.wf x) : Ph Tryd.prog 33 #[.agg (BookR.cells b b_shops_a b_shops_c b_binds_a b_binds_c).toArray, .agg (ShopR.cells x).toArray] H (fun v H' => ∃ (a1 : Option Addr) (c1 : Nat) (a2 : Option Addr) (c2 : Nat), v = .tuple #[.agg (BookR.cells ((makeS b x).1) a1 c1 a2 c2).toArray, .int .i64 ((makeS b x).2)] ∧ SlH shopRE 3 H' (.slice a1 (((makeS b x).1).shops).length c1) (((makeS b x).1).shops) ∧ SlH bindRE 6 H' (.slice a2 (((makeS b x).1).binds).length c2) (((makeS b x).1).binds)) := by
  refine ph_cw Tryd.func33 rfl Tryd.ntmps33 rfl (fun N => ?_)
  have b_w' := b_w
  simp only [BookR.wf] at b_w'
  have x_w' := x_w
  simp only [ShopR.wf] at x_w'
  refine cw_seq ?_
  refine cw_region ?_
  refine ow1 (op1_box (cs := [_, _]) 0 rfl rfl (fun b1 => ?_))
  refine ow1 (op1_box (cs := [_, _, _]) 1 rfl rfl (fun b2 => ?_))
  refine ow1 (op1_alloc 2 rfl zr68 (fun b3 => ?_))
  refine ol rfl (lo_assign (v := .int _ _) rfl) ?_
  refine ow_nil ?_
  refine seqK_n ?_
  refine cw_seq ?_
  refine cw_seq ?_
  refine cw_region ?_
  refine ol rfl (lo_loadA (i := 1) (vs := [_, _, _]) rfl ag29 sz29 rfl rfl rfl) ?_
  refine ow1 (op1_pr (shop_check _ x x_w) (en_f cb46 rfl) rfl ?_)
  have := shopE_r x
  refine ol rfl (lo_assign (v := .int _ _) rfl) ?_
  refine ow_nil ?_
  refine seqK_n ?_
  refine cw_seq ?_
  refine cw_region ?_
  refine ol rfl (lo_move (v := .int _ _) rfl) ?_
  refine ol rfl (lo_neq rfl rfl) ?_
  refine ow_nil ?_
  refine seqK_n ?_
  refine cw_cond rfl (fun h4 => ?_) (fun h4 => ?_)
  · have h5 := not_t h4
    have p6 := df h5
    refine cw_seq ?_
    refine cw_region ?_
    refine ol rfl (lo_loadA (i := 0) (vs := [_, _]) rfl ag68 sz68 rfl rfl rfl) ?_
    refine ol rfl (lo_move (v := .int _ _) rfl) ?_
    refine ow1 (op1_storeAll (i := 2) (vs := [_, _]) rfl rfl rfl sz68 rfl rfl rfl ?_)
    refine ol rfl (lo_assign (v := .int _ _) rfl) ?_
    refine ow_nil ?_
    refine seqK_n ?_
    refine cw_ret ?_
    refine seqK_r ?_
    refine fnK_r (res2 rfl (rv_c (i := 2) (vs := [_, _]) rfl ag68 sz68 rfl rfl rfl) (rv_t (v := .int _ _) rfl)) (.refl _) ?_
    have e : makeS b x = (b, shopE x) := by
      unfold makeS
      (repeat (first | rw [if_pos (by omega)] | rw [if_pos (by assumption)] | rw [if_pos (And.intro (by assumption) (by assumption))] | rw [if_pos (Or.inl (by assumption))] | rw [if_pos (Or.inr (by assumption))] | rw [if_neg (by omega)] | rw [if_neg (by assumption)] | rw [if_neg (not_not_intro (by assumption))] | rw [if_neg (nbt (by assumption))] | rw [if_neg (nbf (by assumption))] | rw [if_neg (nand_l (by assumption))] | rw [if_neg (nand_r (by assumption))] | rw [if_neg (nand_l (nbt (by assumption)))] | rw [if_neg (nand_r (nbt (by assumption)))] | rw [if_neg (nor_ (not_not_intro (by assumption)) (nbf (by assumption)))]))
      all_goals first | done | rfl
    rw [e]
    exact ⟨_, _, _, _, rfl, b_shops_h, b_binds_h⟩
  have h7 := not_f h4
  have p8 := dt h7
  refine cw_skip ?_
  refine seqK_n ?_
  refine cw_seq ?_
  refine cw_region ?_
  refine ol rfl (lo_loadA (i := 0) (vs := [_, _]) rfl ag68 sz68 rfl rfl rfl) ?_
  refine ol rfl (lo_fieldAddr rfl fl29_0) ?_
  refine ol rfl (lo_load1 (i := 1) (v := str _) rfl ag9 rfl rfl) ?_
  refine ow1 (op1_pr (book_Shop _ b b_shops_a b_shops_c b_shops_h b_binds_a b_binds_c b_binds_h b_w x.name) (en_f cb47 rfl) rfl ?_)
  refine ol rfl (lo_move (v := .tuple #[_, _]) rfl) ?_
  refine ol rfl (lo_extract (v := .agg #[_, _, _]) rfl rfl) ?_
  refine ol rfl (lo_extract (v := .bool _) rfl rfl) ?_
  refine ow1 (op1_alloc 3 rfl zr29 (fun b9 => ?_))
  refine ow1 (op1_storeAll (i := 3) (vs := [_, _, _]) rfl rfl rfl sz29 rfl rfl rfl ?_)
  refine ol rfl (lo_assign (v := .bool _) rfl) ?_
  refine ow_nil ?_
  refine seqK_n ?_
  refine cw_seq ?_
  refine cw_block ?_
  refine cw_seq ?_
  refine cw_region ?_
  refine ol rfl (lo_move (v := .bool _) rfl) ?_
  refine ol rfl (lo_move (v := .bool _) rfl) ?_
  refine ow_sp (j := 1) rfl (fun h10 => ?_) (fun h10 => ?_)
  · refine ow1 (op1_g rfl h10 rfl (lo_loadA (i := 1) (vs := [_, _, _]) rfl ag29 sz29 rfl rfl rfl) ?_)
    refine ow1 (op1_g rfl h10 rfl (lo_loadA (i := 3) (vs := [_, _, _]) rfl ag29 sz29 rfl rfl rfl) ?_)
    refine ow1 (op1_g rfl h10 rfl (lo_aeql (u := (ShopR.cells x).toArray) (v := (ShopR.cells ((shopOf b.shops x.name).getD ShopR.zero)).toArray) rfl rfl eqg29 (eqr29 _ _ 9998)) ?_)
    refine ol rfl (lo_pick_t (v := .bool _) rfl h10 rfl) ?_
    refine ol rfl (lo_assign (v := .bool _) rfl) ?_
    refine ow_nil ?_
    refine seqK_n ?_
    refine cw_cond rfl (fun h11 => ?_) (fun h11 => ?_)
    · have p12 := dt h11
      refine cw_seq ?_
      refine cw_region ?_
      refine ol rfl (lo_loadA (i := 0) (vs := [_, _]) rfl ag68 sz68 rfl rfl rfl) ?_
      refine ow1 (op1_storeAll (i := 2) (vs := [_, _]) rfl rfl rfl sz68 rfl rfl rfl ?_)
      refine ol rfl (lo_assign (v := .int _ _) rfl) ?_
      refine ow_nil ?_
      refine seqK_n ?_
      refine cw_ret ?_
      refine blkK_r ?_
      refine seqK_r ?_
      refine fnK_r (res2 rfl (rv_c (i := 2) (vs := [_, _]) rfl ag68 sz68 rfl rfl rfl) (rv_t (v := .int _ _) rfl)) (.refl _) ?_
      have e : makeS b x = (b, 0) := by
        unfold makeS
        (repeat (first | rw [if_pos (by omega)] | rw [if_pos (by assumption)] | rw [if_pos (And.intro (by assumption) (by assumption))] | rw [if_pos (Or.inl (by assumption))] | rw [if_pos (Or.inr (by assumption))] | rw [if_neg (by omega)] | rw [if_neg (by assumption)] | rw [if_neg (not_not_intro (by assumption))] | rw [if_neg (nbt (by assumption))] | rw [if_neg (nbf (by assumption))] | rw [if_neg (nand_l (by assumption))] | rw [if_neg (nand_r (by assumption))] | rw [if_neg (nand_l (nbt (by assumption)))] | rw [if_neg (nand_r (nbt (by assumption)))] | rw [if_neg (nor_ (not_not_intro (by assumption)) (nbf (by assumption)))]))
        all_goals first | done | rfl
      rw [e]
      exact ⟨_, _, _, _, rfl, b_shops_h, b_binds_h⟩
    have p13 := df h11
    refine cw_seq ?_
    refine cw_region ?_
    refine ol rfl (lo_move (v := .bool _) rfl) ?_
    refine ol rfl (lo_assign (v := .bool _) rfl) ?_
    refine ow_nil ?_
    refine seqK_n ?_
    refine cw_cond_t rfl h10 ?_
    refine cw_seq ?_
    refine cw_region ?_
    refine ol rfl (lo_loadA (i := 0) (vs := [_, _]) rfl ag68 sz68 rfl rfl rfl) ?_
    refine ow1 (op1_storeAll (i := 2) (vs := [_, _]) rfl rfl rfl sz68 rfl rfl rfl ?_)
    refine ol rfl (lo_assign (v := .int _ _) rfl) ?_
    refine ow_nil ?_
    refine seqK_n ?_
    refine cw_ret ?_
    refine blkK_r ?_
    refine seqK_r ?_
    refine fnK_r (res2 rfl (rv_c (i := 2) (vs := [_, _]) rfl ag68 sz68 rfl rfl rfl) (rv_t (v := .int _ _) rfl)) (.refl _) ?_
    have e : makeS b x = (b, 9) := by
      unfold makeS
      (repeat (first | rw [if_pos (by omega)] | rw [if_pos (by assumption)] | rw [if_pos (And.intro (by assumption) (by assumption))] | rw [if_pos (Or.inl (by assumption))] | rw [if_pos (Or.inr (by assumption))] | rw [if_neg (by omega)] | rw [if_neg (by assumption)] | rw [if_neg (not_not_intro (by assumption))] | rw [if_neg (nbt (by assumption))] | rw [if_neg (nbf (by assumption))] | rw [if_neg (nand_l (by assumption))] | rw [if_neg (nand_r (by assumption))] | rw [if_neg (nand_l (nbt (by assumption)))] | rw [if_neg (nand_r (nbt (by assumption)))] | rw [if_neg (nor_ (not_not_intro (by assumption)) (nbf (by assumption)))]))
      all_goals first | done | rfl
    rw [e]
    exact ⟨_, _, _, _, rfl, b_shops_h, b_binds_h⟩
  refine ow1 (op1_gs rfl h10 rfl ?_)
  refine ow1 (op1_gs rfl h10 rfl ?_)
  refine ow1 (op1_gs rfl h10 rfl ?_)
  refine ol rfl (lo_pick_f (v := .bool _) rfl h10 rfl) ?_
  refine ol rfl (lo_assign (v := .bool _) rfl) ?_
  refine ow_nil ?_
  refine seqK_n ?_
  refine cw_cond_f rfl rfl ?_
  refine cw_seq ?_
  refine cw_region ?_
  refine ol rfl (lo_move (v := .bool _) rfl) ?_
  refine ol rfl (lo_assign (v := .bool _) rfl) ?_
  refine ow_nil ?_
  refine seqK_n ?_
  refine cw_cond_f rfl h10 ?_
  refine cw_seq ?_
  refine cw_region ?_
  refine ol rfl (lo_fieldAddr rfl fl68_0) ?_
  refine ol rfl (lo_load1 (i := 0) (v := .slice _ _ _) rfl ag65 rfl rfl) ?_
  refine ol rfl (lo_len_slh rfl b_shops_h Tryd.underlying65) ?_
  refine ol rfl (lo_geq rfl rfl) ?_
  refine ol rfl (lo_assign (v := .bool _) rfl) ?_
  refine ow_nil ?_
  refine seqK_n ?_
  refine cw_cond rfl (fun h14 => ?_) (fun h14 => ?_)
  · have p15 := dt h14
    refine cw_seq ?_
    refine cw_region ?_
    refine ol rfl (lo_loadA (i := 0) (vs := [_, _]) rfl ag68 sz68 rfl rfl rfl) ?_
    refine ow1 (op1_storeAll (i := 2) (vs := [_, _]) rfl rfl rfl sz68 rfl rfl rfl ?_)
    refine ol rfl (lo_assign (v := .int _ _) rfl) ?_
    refine ow_nil ?_
    refine seqK_n ?_
    refine cw_ret ?_
    refine blkK_r ?_
    refine seqK_r ?_
    refine fnK_r (res2 rfl (rv_c (i := 2) (vs := [_, _]) rfl ag68 sz68 rfl rfl rfl) (rv_t (v := .int _ _) rfl)) (.refl _) ?_
    have e : makeS b x = (b, 12) := by
      unfold makeS
      (repeat (first | rw [if_pos (by omega)] | rw [if_pos (by assumption)] | rw [if_pos (And.intro (by assumption) (by assumption))] | rw [if_pos (Or.inl (by assumption))] | rw [if_pos (Or.inr (by assumption))] | rw [if_neg (by omega)] | rw [if_neg (by assumption)] | rw [if_neg (not_not_intro (by assumption))] | rw [if_neg (nbt (by assumption))] | rw [if_neg (nbf (by assumption))] | rw [if_neg (nand_l (by assumption))] | rw [if_neg (nand_r (by assumption))] | rw [if_neg (nand_l (nbt (by assumption)))] | rw [if_neg (nand_r (nbt (by assumption)))] | rw [if_neg (nor_ (not_not_intro (by assumption)) (nbf (by assumption)))]))
      all_goals first | done | rfl
    rw [e]
    exact ⟨_, _, _, _, rfl, b_shops_h, b_binds_h⟩
  have p16 := df h14
  refine cw_skip ?_
  refine blkK_n ?_
  refine seqK_n ?_
  refine cw_seq ?_
  refine cw_region ?_
  refine ol rfl (lo_fieldAddr rfl fl68_0) ?_
  refine ol rfl (lo_load1 (i := 0) (v := .slice _ _ _) rfl ag65 rfl rfl) ?_
  refine ol rfl (lo_loadA (i := 1) (vs := [_, _, _]) rfl ag29 sz29 rfl rfl rfl) ?_
  refine ow1 (op1_bslice (cs := [_, _, _]) 4 rfl Tryd.underlying65 sz29 zx29 rfl ⟨rfl, rfl, trivial⟩ rfl rfl (by decide) (fun b17 => ?_))
  refine ow_giveO 4 rfl (fun _ hl18 hg19 => ?_)
  have hs20 := slh_bx (k := 3) (H := _) (enc := ShopR.cells) (wf := ShopR.wf) [x] (fun _ => rfl) (hg19 _ _ rfl) rfl rfl (Nat.le_refl _) (by first | (intro x hx; simp at hx; subst hx; first | omega | (simp; done) | (simp; omega)) | (simp; done) | (simp; omega))
  refine ow1 (op1_bslice (cs := [_, _]) 4 rfl Tryd.underlying99 sz65 zx65 rfl ⟨rfl, rfl, ⟨rfl, rfl, trivial⟩⟩ rfl rfl (by decide) (fun b21 => ?_))
  refine ow_giveO 4 rfl (fun _ hl22 hg23 => ?_)
  have hs24 := slh_bxE (E := (slE shopRE 3)) (H := _) (xs := [b.shops, [x]]) slE_wide (hg23 _ _ rfl) ⟨_, _, rfl, ⟨_, _, rfl, (b_shops_h.mono (((HLe.refl _).trans hl18).trans hl22) (fun _ _ h => h))⟩, ⟨_, _, rfl, ⟨_, _, rfl, (hs20.mono ((HLe.refl _).trans hl22) (fun _ _ h => h))⟩, rl_nil⟩⟩ rfl (Nat.le_refl _)
  refine ow1 (op1_ph (concat_Shop _ (some ⟨b21, 0, none⟩) 2 2 [b.shops, [x]] hs24 (by first | omega | (simp; done) | (simp; omega)) (by first | omega | (simp; done) | (simp; omega))) (en_f cb48 rfl) rfl ?_)
  rintro _ H29 ⟨a25, c26, rfl, hs27⟩ hl28
  refine ol rfl (lo_fieldAddr rfl fl68_0) ?_
  refine ow1 (op1_store1n (i := 0) (v := .slice _ _ _) [_, _] rfl rfl rfl sz65 rfl rfl rfl ?_)
  refine ow_nil ?_
  refine seqK_n ?_
  refine cw_seq ?_
  refine cw_region ?_
  refine ol rfl (lo_loadA (i := 0) (vs := [_, _]) rfl ag68 sz68 rfl rfl rfl) ?_
  refine ow1 (op1_storeAll (i := 2) (vs := [_, _]) rfl rfl rfl sz68 rfl rfl rfl ?_)
  refine ol rfl (lo_assign (v := .int _ _) rfl) ?_
  refine ow_nil ?_
  refine seqK_n ?_
  refine cw_ret ?_
  refine fnK_r (res2 rfl (rv_c (i := 2) (vs := [_, _]) rfl ag68 sz68 rfl rfl rfl) (rv_t (v := .int _ _) rfl)) ((((HLe.refl _).trans hl18).trans hl22).trans hl28) ?_
  have e : makeS b x = ((⟨([b.shops, [x]]).flatten, b.binds⟩ : BookR), 0) := by
    unfold makeS
    (repeat (first | rw [if_pos (by omega)] | rw [if_pos (by assumption)] | rw [if_pos (And.intro (by assumption) (by assumption))] | rw [if_pos (Or.inl (by assumption))] | rw [if_pos (Or.inr (by assumption))] | rw [if_neg (by omega)] | rw [if_neg (by assumption)] | rw [if_neg (not_not_intro (by assumption))] | rw [if_neg (nbt (by assumption))] | rw [if_neg (nbf (by assumption))] | rw [if_neg (nand_l (by assumption))] | rw [if_neg (nand_r (by assumption))] | rw [if_neg (nand_l (nbt (by assumption)))] | rw [if_neg (nand_r (nbt (by assumption)))] | rw [if_neg (nor_ (not_not_intro (by assumption)) (nbf (by assumption)))]))
    all_goals first | done | rfl
  rw [e]
  exact ⟨_, _, _, _, rfl, hs27, (b_binds_h.mono ((((HLe.refl _).trans hl18).trans hl22).trans hl28) (fun _ _ q => bindRE_mono _ _ _ _ ((((HLe.refl _).trans hl18).trans hl22).trans hl28) q))⟩
end Go.SW
set_option linter.unusedVariables false
set_option maxRecDepth 100000
set_option maxHeartbeats 4000000
namespace Go.SW
open Go.Proofs
theorem bd86_0u8_1s_2l_3b (a1 : Int) (a2 : Bs) (a3 : Option Addr) (a3l a3c : Nat) (a4 : Bool) (w : World) : (Instr.build 86 #[(0, .int .u8 a1), (1, str a2), (2, .slice a3 a3l a3c), (3, .bool a4)]).run Tryd.prog w = .ok (.agg #[.int .u8 a1, str a2, .slice a3 a3l a3c, .bool a4]) w := by kernel_rfl
theorem cb49 : Callable Tryd.prog 49 := callable_of Tryd.func49 (by kernel_rfl) (by kernel_rfl)
theorem cb65 : Callable Tryd.prog 65 := callable_of Tryd.func65 (by kernel_rfl) (by kernel_rfl)
theorem cb66 : Callable Tryd.prog 66 := callable_of Tryd.func66 (by kernel_rfl) (by kernel_rfl)
theorem cb68 : Callable Tryd.prog 68 := callable_of Tryd.func68 (by kernel_rfl) (by kernel_rfl)
theorem cb77 : Callable Tryd.prog 77 := callable_of Tryd.func77 (by kernel_rfl) (by kernel_rfl)
theorem fl68_1 : Fld Tryd.prog 68 1 1 := fun b o w => by kernel_rfl
theorem sz32 : Sz Tryd.prog 32 1 := fun w => by kernel_rfl
theorem bind_rule (H : Hp) (x : BindR) (x_want_a : Option Addr) (x_want_c : Nat) (x_want_h : SlH pairE 4 H (.slice x_want_a x.want.length x_want_c) x.want) (x_w : BindR.wf x) (sort : Int) (sort_r : 0 ≤ sort ∧ sort ≤ 255) : Ph Tryd.prog 49 #[.agg (BindR.cells x x_want_a x_want_c).toArray, .int .u8 sort] H (fun v H' => ∃ (a1 : Option Addr) (c1 : Nat), v = .agg (Rule.cells (bindRule x sort) a1 c1).toArray ∧ SlH pairE 4 H' (.slice a1 ((bindRule x sort).want).length c1) ((bindRule x sort).want)) := by
  refine ph_cw Tryd.func49 rfl Tryd.ntmps49 rfl (fun N => ?_)
  have x_w' := x_w
  simp only [BindR.wf] at x_w'
  refine cw_seq ?_
  refine cw_region ?_
  refine ow1 (op1_box (cs := [_, _, _, _, _, _]) 0 rfl rfl (fun b1 => ?_))
  refine ow1 (op1_alloc 1 rfl zr86 (fun b2 => ?_))
  refine ow_nil ?_
  refine seqK_n ?_
  refine cw_seq ?_
  refine cw_region ?_
  refine ol rfl (lo_move (v := .int _ _) rfl) ?_
  refine ol rfl (lo_fieldAddr rfl fl34_3) ?_
  refine ol rfl (lo_load1 (i := 0) (v := str _) rfl ag9 rfl rfl) ?_
  refine ol rfl (lo_fieldAddr rfl fl34_4) ?_
  refine ol rfl (lo_load1 (i := 0) (v := .slice _ _ _) rfl ag32 rfl rfl) ?_
  refine ol rfl (lo_fieldAddr rfl fl34_5) ?_
  refine ol rfl (lo_load1 (i := 0) (v := .bool _) rfl ag4 rfl rfl) ?_
  refine ol rfl (lo_build (v := .agg #[_, _, _, _]) rfl (bd86_0u8_1s_2l_3b _ _ _ _ _ _)) ?_
  refine ow1 (op1_storeAll (i := 1) (vs := [_, _, _, _]) rfl rfl rfl sz86 rfl rfl rfl ?_)
  refine ow_nil ?_
  refine seqK_n ?_
  refine cw_ret ?_
  refine fnK_r (res1 rfl (rv_c (i := 1) (vs := [_, _, _, _]) rfl ag86 sz86 rfl rfl rfl)) (.refl _) ?_
  exact ⟨_, _, rfl, x_want_h⟩
theorem bind_same (H : Hp) (x : BindR) (x_want_a : Option Addr) (x_want_c : Nat) (x_want_h : SlH pairE 4 H (.slice x_want_a x.want.length x_want_c) x.want) (x_w : BindR.wf x) (y : BindR) (y_want_a : Option Addr) (y_want_c : Nat) (y_want_h : SlH pairE 4 H (.slice y_want_a y.want.length y_want_c) y.want) (y_w : BindR.wf y) : Pr Tryd.prog 66 #[.agg (BindR.cells x x_want_a x_want_c).toArray, .agg (BindR.cells y y_want_a y_want_c).toArray] H (.bool (decide (x = y))) := by
  refine pr_cw Tryd.func66 rfl Tryd.ntmps66 rfl (fun N => ?_)
  have x_w' := x_w
  simp only [BindR.wf] at x_w'
  have y_w' := y_w
  simp only [BindR.wf] at y_w'
  refine cw_seq ?_
  refine cw_region ?_
  refine ow1 (op1_box (cs := [_, _, _, _, _, _]) 0 rfl rfl (fun b1 => ?_))
  refine ow1 (op1_box (cs := [_, _, _, _, _, _]) 1 rfl rfl (fun b2 => ?_))
  refine ol rfl (lo_assign (v := .bool _) rfl) ?_
  refine ow_nil ?_
  refine seqK_n ?_
  refine cw_seq ?_
  refine cw_anyL mixd ?_
  refine vw_q 0 rfl (by kernel_rfl) (by repeat (first | exact lle_l0 | exact LLe.refl _ | exact lle_none | refine lle_up ?_ rfl)) (fun _ _ hh hl => lo_fieldAddr rfl fl34_0) ?_
  refine vw_q 1 rfl (by kernel_rfl) (by repeat (first | exact lle_l0 | exact LLe.refl _ | exact lle_none | refine lle_up ?_ rfl)) (fun _ _ hh hl => lo_load1 (i := 0) (v := str _) rfl ag9 (hl _ _ rfl) rfl) ?_
  refine vw_q 2 rfl (by kernel_rfl) (by repeat (first | exact lle_l0 | exact LLe.refl _ | exact lle_none | refine lle_up ?_ rfl)) (fun _ _ hh hl => lo_fieldAddr rfl fl34_0) ?_
  refine vw_q 3 rfl (by kernel_rfl) (by repeat (first | exact lle_l0 | exact LLe.refl _ | exact lle_none | refine lle_up ?_ rfl)) (fun _ _ hh hl => lo_load1 (i := 1) (v := str _) rfl ag9 (hl _ _ rfl) rfl) ?_
  refine vw_q 4 rfl (by kernel_rfl) (by repeat (first | exact lle_l0 | exact LLe.refl _ | exact lle_none | refine lle_up ?_ rfl)) (fun _ _ hh hl => lo_seql rfl rfl) ?_
  refine vw_q 5 rfl (by kernel_rfl) (by repeat (first | exact lle_l0 | exact LLe.refl _ | exact lle_none | refine lle_up ?_ rfl)) (fun _ _ hh hl => lo_move (v := .bool _) rfl) ?_
  refine vw_sp (j := 5) rfl (fun h3 => ?_) (fun h3 => ?_)
  · have p4 := dt h3
    refine vw_qg 6 rfl (by kernel_rfl) (by repeat (first | exact lle_l0 | exact LLe.refl _ | exact lle_none | refine lle_up ?_ rfl)) rfl h3 (fun _ _ hh hl => lo_fieldAddr rfl fl34_1) ?_
    refine vw_qg 7 rfl (by kernel_rfl) (by repeat (first | exact lle_l0 | exact LLe.refl _ | exact lle_none | refine lle_up ?_ rfl)) rfl h3 (fun _ _ hh hl => lo_load1 (i := 0) (v := str _) rfl ag9 (hl _ _ rfl) rfl) ?_
    refine vw_qg 8 rfl (by kernel_rfl) (by repeat (first | exact lle_l0 | exact LLe.refl _ | exact lle_none | refine lle_up ?_ rfl)) rfl h3 (fun _ _ hh hl => lo_fieldAddr rfl fl34_1) ?_
    refine vw_qg 9 rfl (by kernel_rfl) (by repeat (first | exact lle_l0 | exact LLe.refl _ | exact lle_none | refine lle_up ?_ rfl)) rfl h3 (fun _ _ hh hl => lo_load1 (i := 1) (v := str _) rfl ag9 (hl _ _ rfl) rfl) ?_
    refine vw_qg 10 rfl (by kernel_rfl) (by repeat (first | exact lle_l0 | exact LLe.refl _ | exact lle_none | refine lle_up ?_ rfl)) rfl h3 (fun _ _ hh hl => lo_seql rfl rfl) ?_
    refine vw_q 11 rfl (by kernel_rfl) (by repeat (first | exact lle_l0 | exact LLe.refl _ | exact lle_none | refine lle_up ?_ rfl)) (fun _ _ hh hl => lo_pick_t (v := .bool _) rfl h3 rfl) ?_
    refine vw_q 12 rfl (by kernel_rfl) (by repeat (first | exact lle_l0 | exact LLe.refl _ | exact lle_none | refine lle_up ?_ rfl)) (fun _ _ hh hl => lo_move (v := .bool _) rfl) ?_
    refine vw_sp (j := 12) rfl (fun h5 => ?_) (fun h5 => ?_)
    · have p6 := dt h5
      refine vw_qg 13 rfl (by kernel_rfl) (by repeat (first | exact lle_l0 | exact LLe.refl _ | exact lle_none | refine lle_up ?_ rfl)) rfl h5 (fun _ _ hh hl => lo_fieldAddr rfl fl34_2) ?_
      refine vw_qg 14 rfl (by kernel_rfl) (by repeat (first | exact lle_l0 | exact LLe.refl _ | exact lle_none | refine lle_up ?_ rfl)) rfl h5 (fun _ _ hh hl => lo_load1 (i := 0) (v := .bool _) rfl ag4 (hl _ _ rfl) rfl) ?_
      refine vw_qg 15 rfl (by kernel_rfl) (by repeat (first | exact lle_l0 | exact LLe.refl _ | exact lle_none | refine lle_up ?_ rfl)) rfl h5 (fun _ _ hh hl => lo_fieldAddr rfl fl34_2) ?_
      refine vw_qg 16 rfl (by kernel_rfl) (by repeat (first | exact lle_l0 | exact LLe.refl _ | exact lle_none | refine lle_up ?_ rfl)) rfl h5 (fun _ _ hh hl => lo_load1 (i := 1) (v := .bool _) rfl ag4 (hl _ _ rfl) rfl) ?_
      refine vw_qg 17 rfl (by kernel_rfl) (by repeat (first | exact lle_l0 | exact LLe.refl _ | exact lle_none | refine lle_up ?_ rfl)) rfl h5 (fun _ _ hh hl => lo_beql rfl rfl Tryd.underlying4) ?_
      refine vw_q 18 rfl (by kernel_rfl) (by repeat (first | exact lle_l0 | exact LLe.refl _ | exact lle_none | refine lle_up ?_ rfl)) (fun _ _ hh hl => lo_pick_t (v := .bool _) rfl h5 rfl) ?_
      refine vw_q 19 rfl (by kernel_rfl) (by repeat (first | exact lle_l0 | exact LLe.refl _ | exact lle_none | refine lle_up ?_ rfl)) (fun _ _ hh hl => lo_move (v := .bool _) rfl) ?_
      refine vw_sp (j := 19) rfl (fun h7 => ?_) (fun h7 => ?_)
      · have p8 := beqT h7
        refine vw_qg 20 rfl (by kernel_rfl) (by repeat (first | exact lle_l0 | exact LLe.refl _ | exact lle_none | refine lle_up ?_ rfl)) rfl h7 (fun _ _ hh hl => lo_loadA (i := 0) (vs := [_, _, _, _, _, _]) rfl ag34 sz34 (hl _ _ rfl) rfl rfl) ?_
        refine vw_qg 22 rfl (by kernel_rfl) (by repeat (first | exact lle_l0 | exact LLe.refl _ | exact lle_none | refine lle_up ?_ rfl)) rfl h7 (fun _ _ hh hl => lo_loadA (i := 1) (vs := [_, _, _, _, _, _]) rfl ag34 sz34 (hl _ _ rfl) rfl rfl) ?_
        refine vw_e 21 rfl (by kernel_rfl) (op1_phg rfl h7 (bind_rule _ x x_want_a x_want_c x_want_h x_w 0 (by omega)) (en_f cb49 rfl) rfl ?_)
        rintro _ H13 ⟨a9, c10, rfl, hs11⟩ hl12
        refine ⟨⟨((HLe.refl _).trans hl12), (by repeat (first | exact lle_l0 | exact LLe.refl _ | exact lle_none | refine lle_up ?_ rfl))⟩, ?_⟩
        refine vw_e 23 rfl (by kernel_rfl) (op1_phg rfl h7 (bind_rule _ y y_want_a y_want_c (y_want_h.mono ((HLe.refl _).trans hl12) (fun _ _ h => h)) y_w 0 (by omega)) (en_f cb49 rfl) rfl ?_)
        rintro _ H18 ⟨a14, c15, rfl, hs16⟩ hl17
        refine ⟨⟨((HLe.refl _).trans hl17), (by repeat (first | exact lle_l0 | exact LLe.refl _ | exact lle_none | refine lle_up ?_ rfl))⟩, ?_⟩
        refine vw_qgc 24 rfl (by kernel_rfl) (by repeat (first | exact lle_l0 | exact LLe.refl _ | exact lle_none | refine lle_up ?_ rfl)) rfl h7 (match_Same _ (bindRule x 0) a9 c10 (hs11.mono ((HLe.refl _).trans hl17) (fun _ _ h => h)) (bindRule_wf x_w (by omega)) (bindRule y 0) a14 c15 hs16 (bindRule_wf y_w (by omega))) (en_f cb77 rfl) ?_
        refine vw_q 25 rfl (by kernel_rfl) (by repeat (first | exact lle_l0 | exact LLe.refl _ | exact lle_none | refine lle_up ?_ rfl)) (fun _ _ hh hl => lo_pick_t (v := .bool _) rfl h7 rfl) ?_
        refine vw_q 26 rfl (by kernel_rfl) (by repeat (first | exact lle_l0 | exact LLe.refl _ | exact lle_none | refine lle_up ?_ rfl)) (fun _ _ hh hl => lo_assign (v := .bool _) rfl) ?_
        refine vw_done (by kernel_rfl) ?_
        refine seqK_n ?_
        refine cw_ret ?_
        refine fnK_r (res1 rfl (rv_t (v := .bool _) rfl)) (((HLe.refl _).trans hl12).trans hl17) ?_
        first | (simp [BindR.eq_iff, bindRule, *]; done) | (simp [BindR.eq_iff, bindRule, *]; cases x.all <;> cases y.all <;> rfl)
      have p19 := beqF h7
      refine vw_qgs 20 rfl (by kernel_rfl) (by repeat (first | exact lle_l0 | exact LLe.refl _ | exact lle_none | refine lle_up ?_ rfl)) rfl h7 ?_
      refine vw_qgs 21 rfl (by kernel_rfl) (by repeat (first | exact lle_l0 | exact LLe.refl _ | exact lle_none | refine lle_up ?_ rfl)) rfl h7 ?_
      refine vw_qgs 22 rfl (by kernel_rfl) (by repeat (first | exact lle_l0 | exact LLe.refl _ | exact lle_none | refine lle_up ?_ rfl)) rfl h7 ?_
      refine vw_qgs 23 rfl (by kernel_rfl) (by repeat (first | exact lle_l0 | exact LLe.refl _ | exact lle_none | refine lle_up ?_ rfl)) rfl h7 ?_
      refine vw_qgs 24 rfl (by kernel_rfl) (by repeat (first | exact lle_l0 | exact LLe.refl _ | exact lle_none | refine lle_up ?_ rfl)) rfl h7 ?_
      refine vw_q 25 rfl (by kernel_rfl) (by repeat (first | exact lle_l0 | exact LLe.refl _ | exact lle_none | refine lle_up ?_ rfl)) (fun _ _ hh hl => lo_pick_f (v := .bool _) rfl h7 rfl) ?_
      refine vw_q 26 rfl (by kernel_rfl) (by repeat (first | exact lle_l0 | exact LLe.refl _ | exact lle_none | refine lle_up ?_ rfl)) (fun _ _ hh hl => lo_assign (v := .bool _) rfl) ?_
      refine vw_done (by kernel_rfl) ?_
      refine seqK_n ?_
      refine cw_ret ?_
      refine fnK_r (res1 rfl (rv_t (v := .bool _) rfl)) (.refl _) ?_
      first | (simp [BindR.eq_iff, bindRule, *]; done) | (simp [BindR.eq_iff, bindRule, *]; cases x.all <;> cases y.all <;> rfl)
    have p20 := df h5
    refine vw_qgs 13 rfl (by kernel_rfl) (by repeat (first | exact lle_l0 | exact LLe.refl _ | exact lle_none | refine lle_up ?_ rfl)) rfl h5 ?_
    refine vw_qgs 14 rfl (by kernel_rfl) (by repeat (first | exact lle_l0 | exact LLe.refl _ | exact lle_none | refine lle_up ?_ rfl)) rfl h5 ?_
    refine vw_qgs 15 rfl (by kernel_rfl) (by repeat (first | exact lle_l0 | exact LLe.refl _ | exact lle_none | refine lle_up ?_ rfl)) rfl h5 ?_
    refine vw_qgs 16 rfl (by kernel_rfl) (by repeat (first | exact lle_l0 | exact LLe.refl _ | exact lle_none | refine lle_up ?_ rfl)) rfl h5 ?_
    refine vw_qgs 17 rfl (by kernel_rfl) (by repeat (first | exact lle_l0 | exact LLe.refl _ | exact lle_none | refine lle_up ?_ rfl)) rfl h5 ?_
    refine vw_q 18 rfl (by kernel_rfl) (by repeat (first | exact lle_l0 | exact LLe.refl _ | exact lle_none | refine lle_up ?_ rfl)) (fun _ _ hh hl => lo_pick_f (v := .bool _) rfl h5 rfl) ?_
    refine vw_q 19 rfl (by kernel_rfl) (by repeat (first | exact lle_l0 | exact LLe.refl _ | exact lle_none | refine lle_up ?_ rfl)) (fun _ _ hh hl => lo_move (v := .bool _) rfl) ?_
    refine vw_qgs 20 rfl (by kernel_rfl) (by repeat (first | exact lle_l0 | exact LLe.refl _ | exact lle_none | refine lle_up ?_ rfl)) rfl rfl ?_
    refine vw_qgs 21 rfl (by kernel_rfl) (by repeat (first | exact lle_l0 | exact LLe.refl _ | exact lle_none | refine lle_up ?_ rfl)) rfl rfl ?_
    refine vw_qgs 22 rfl (by kernel_rfl) (by repeat (first | exact lle_l0 | exact LLe.refl _ | exact lle_none | refine lle_up ?_ rfl)) rfl rfl ?_
    refine vw_qgs 23 rfl (by kernel_rfl) (by repeat (first | exact lle_l0 | exact LLe.refl _ | exact lle_none | refine lle_up ?_ rfl)) rfl rfl ?_
    refine vw_qgs 24 rfl (by kernel_rfl) (by repeat (first | exact lle_l0 | exact LLe.refl _ | exact lle_none | refine lle_up ?_ rfl)) rfl rfl ?_
    refine vw_q 25 rfl (by kernel_rfl) (by repeat (first | exact lle_l0 | exact LLe.refl _ | exact lle_none | refine lle_up ?_ rfl)) (fun _ _ hh hl => lo_pick_f (v := .bool _) rfl rfl rfl) ?_
    refine vw_q 26 rfl (by kernel_rfl) (by repeat (first | exact lle_l0 | exact LLe.refl _ | exact lle_none | refine lle_up ?_ rfl)) (fun _ _ hh hl => lo_assign (v := .bool _) rfl) ?_
    refine vw_done (by kernel_rfl) ?_
    refine seqK_n ?_
    refine cw_ret ?_
    refine fnK_r (res1 rfl (rv_t (v := .bool _) rfl)) (.refl _) ?_
    first | (simp [BindR.eq_iff, bindRule, *]; done) | (simp [BindR.eq_iff, bindRule, *]; cases x.all <;> cases y.all <;> rfl)
  have p21 := df h3
  refine vw_qgs 6 rfl (by kernel_rfl) (by repeat (first | exact lle_l0 | exact LLe.refl _ | exact lle_none | refine lle_up ?_ rfl)) rfl h3 ?_
  refine vw_qgs 7 rfl (by kernel_rfl) (by repeat (first | exact lle_l0 | exact LLe.refl _ | exact lle_none | refine lle_up ?_ rfl)) rfl h3 ?_
  refine vw_qgs 8 rfl (by kernel_rfl) (by repeat (first | exact lle_l0 | exact LLe.refl _ | exact lle_none | refine lle_up ?_ rfl)) rfl h3 ?_
  refine vw_qgs 9 rfl (by kernel_rfl) (by repeat (first | exact lle_l0 | exact LLe.refl _ | exact lle_none | refine lle_up ?_ rfl)) rfl h3 ?_
  refine vw_qgs 10 rfl (by kernel_rfl) (by repeat (first | exact lle_l0 | exact LLe.refl _ | exact lle_none | refine lle_up ?_ rfl)) rfl h3 ?_
  refine vw_q 11 rfl (by kernel_rfl) (by repeat (first | exact lle_l0 | exact LLe.refl _ | exact lle_none | refine lle_up ?_ rfl)) (fun _ _ hh hl => lo_pick_f (v := .bool _) rfl h3 rfl) ?_
  refine vw_q 12 rfl (by kernel_rfl) (by repeat (first | exact lle_l0 | exact LLe.refl _ | exact lle_none | refine lle_up ?_ rfl)) (fun _ _ hh hl => lo_move (v := .bool _) rfl) ?_
  refine vw_qgs 13 rfl (by kernel_rfl) (by repeat (first | exact lle_l0 | exact LLe.refl _ | exact lle_none | refine lle_up ?_ rfl)) rfl rfl ?_
  refine vw_qgs 14 rfl (by kernel_rfl) (by repeat (first | exact lle_l0 | exact LLe.refl _ | exact lle_none | refine lle_up ?_ rfl)) rfl rfl ?_
  refine vw_qgs 15 rfl (by kernel_rfl) (by repeat (first | exact lle_l0 | exact LLe.refl _ | exact lle_none | refine lle_up ?_ rfl)) rfl rfl ?_
  refine vw_qgs 16 rfl (by kernel_rfl) (by repeat (first | exact lle_l0 | exact LLe.refl _ | exact lle_none | refine lle_up ?_ rfl)) rfl rfl ?_
  refine vw_qgs 17 rfl (by kernel_rfl) (by repeat (first | exact lle_l0 | exact LLe.refl _ | exact lle_none | refine lle_up ?_ rfl)) rfl rfl ?_
  refine vw_q 18 rfl (by kernel_rfl) (by repeat (first | exact lle_l0 | exact LLe.refl _ | exact lle_none | refine lle_up ?_ rfl)) (fun _ _ hh hl => lo_pick_f (v := .bool _) rfl rfl rfl) ?_
  refine vw_q 19 rfl (by kernel_rfl) (by repeat (first | exact lle_l0 | exact LLe.refl _ | exact lle_none | refine lle_up ?_ rfl)) (fun _ _ hh hl => lo_move (v := .bool _) rfl) ?_
  refine vw_qgs 20 rfl (by kernel_rfl) (by repeat (first | exact lle_l0 | exact LLe.refl _ | exact lle_none | refine lle_up ?_ rfl)) rfl rfl ?_
  refine vw_qgs 21 rfl (by kernel_rfl) (by repeat (first | exact lle_l0 | exact LLe.refl _ | exact lle_none | refine lle_up ?_ rfl)) rfl rfl ?_
  refine vw_qgs 22 rfl (by kernel_rfl) (by repeat (first | exact lle_l0 | exact LLe.refl _ | exact lle_none | refine lle_up ?_ rfl)) rfl rfl ?_
  refine vw_qgs 23 rfl (by kernel_rfl) (by repeat (first | exact lle_l0 | exact LLe.refl _ | exact lle_none | refine lle_up ?_ rfl)) rfl rfl ?_
  refine vw_qgs 24 rfl (by kernel_rfl) (by repeat (first | exact lle_l0 | exact LLe.refl _ | exact lle_none | refine lle_up ?_ rfl)) rfl rfl ?_
  refine vw_q 25 rfl (by kernel_rfl) (by repeat (first | exact lle_l0 | exact LLe.refl _ | exact lle_none | refine lle_up ?_ rfl)) (fun _ _ hh hl => lo_pick_f (v := .bool _) rfl rfl rfl) ?_
  refine vw_q 26 rfl (by kernel_rfl) (by repeat (first | exact lle_l0 | exact LLe.refl _ | exact lle_none | refine lle_up ?_ rfl)) (fun _ _ hh hl => lo_assign (v := .bool _) rfl) ?_
  refine vw_done (by kernel_rfl) ?_
  refine seqK_n ?_
  refine cw_ret ?_
  refine fnK_r (res1 rfl (rv_t (v := .bool _) rfl)) (.refl _) ?_
  first | (simp [BindR.eq_iff, bindRule, *]; done) | (simp [BindR.eq_iff, bindRule, *]; cases x.all <;> cases y.all <;> rfl)
theorem bind_clone (H : Hp) (x : BindR) (x_want_a : Option Addr) (x_want_c : Nat) (x_want_h : SlH pairE 4 H (.slice x_want_a x.want.length x_want_c) x.want) (x_w : BindR.wf x) (hl : x.want.length ≤ 1000000) : Ph Tryd.prog 53 #[.agg (BindR.cells x x_want_a x_want_c).toArray] H (fun v H' => ∃ (a1 : Option Addr) (c1 : Nat), v = .agg (BindR.cells x a1 c1).toArray ∧ SlH pairE 4 H' (.slice a1 x.want.length c1) x.want) := by
  refine ph_cw Tryd.func53 rfl Tryd.ntmps53 rfl (fun N => ?_)
  have x_w' := x_w
  simp only [BindR.wf] at x_w'
  refine cw_seq ?_
  refine cw_region ?_
  refine ow1 (op1_box (cs := [_, _, _, _, _, _]) 0 rfl rfl (fun b1 => ?_))
  refine ow1 (op1_alloc 1 rfl zr34 (fun b2 => ?_))
  refine ow_nil ?_
  refine seqK_n ?_
  refine cw_seq ?_
  refine cw_region ?_
  refine ol rfl (lo_fieldAddr rfl fl34_4) ?_
  refine ol rfl (lo_load1 (i := 0) (v := .slice _ _ _) rfl ag32 rfl rfl) ?_
  refine ow1 (op1_ph (clone_Pair _ x_want_a x.want.length x_want_c x.want x_want_h (by first | omega | (simp; done) | (simp; omega))) (en_f cb68 rfl) rfl ?_)
  rintro _ H7 ⟨a3, c4, rfl, hs5⟩ hl6
  refine ol rfl (lo_fieldAddr rfl fl34_4) ?_
  refine ow1 (op1_store1n (i := 0) (v := .slice _ _ _) [_, _, _, _, _, _] rfl rfl rfl sz32 rfl rfl rfl ?_)
  refine ow_nil ?_
  refine seqK_n ?_
  refine cw_seq ?_
  refine cw_region ?_
  refine ol rfl (lo_loadA (i := 0) (vs := [_, _, _, _, _, _]) rfl ag34 sz34 rfl rfl rfl) ?_
  refine ow1 (op1_storeAll (i := 1) (vs := [_, _, _, _, _, _]) rfl rfl rfl sz34 rfl rfl rfl ?_)
  refine ow_nil ?_
  refine seqK_n ?_
  refine cw_ret ?_
  refine fnK_r (res1 rfl (rv_c (i := 1) (vs := [_, _, _, _, _, _]) rfl ag34 sz34 rfl rfl rfl)) ((HLe.refl _).trans hl6) ?_
  exact ⟨_, _, rfl, hs5⟩
theorem book_there (H : Hp) (b : BookR) (b_shops_a : Option Addr) (b_shops_c : Nat) (b_shops_h : SlH shopRE 3 H (.slice b_shops_a b.shops.length b_shops_c) b.shops) (b_binds_a : Option Addr) (b_binds_c : Nat) (b_binds_h : SlH bindRE 6 H (.slice b_binds_a b.binds.length b_binds_c) b.binds) (b_w : BookR.wf b) (x : BindR) (x_want_a : Option Addr) (x_want_c : Nat) (x_want_h : SlH pairE 4 H (.slice x_want_a x.want.length x_want_c) x.want) (x_w : BindR.wf x) : Pr Tryd.prog 51 #[.agg (BookR.cells b b_shops_a b_shops_c b_binds_a b_binds_c).toArray, .agg (BindR.cells x x_want_a x_want_c).toArray] H (.int .i64 (idxP (fun y => decide (x = y)) b.binds)) := by
  refine pr_cw Tryd.func51 rfl Tryd.ntmps51 rfl (fun N => ?_)
  have b_w' := b_w
  simp only [BookR.wf] at b_w'
  have x_w' := x_w
  simp only [BindR.wf] at x_w'
  refine cw_seq ?_
  refine cw_region ?_
  refine ow1 (op1_box (cs := [_, _]) 0 rfl rfl (fun b1 => ?_))
  refine ow1 (op1_box (cs := [_, _, _, _, _, _]) 1 rfl rfl (fun b2 => ?_))
  refine ol rfl (lo_assign (v := .int _ _) rfl) ?_
  refine ow_nil ?_
  refine seqK_n ?_
  refine cw_seq ?_
  refine cw_region ?_
  refine ol rfl (lo_fieldAddr rfl fl68_1) ?_
  refine ol rfl (lo_load1 (i := 0) (v := .slice _ _ _) rfl ag66 rfl rfl) ?_
  refine ol rfl (lo_loadA (i := 1) (vs := [_, _, _, _, _, _]) rfl ag34 sz34 rfl rfl rfl) ?_
  refine ol rfl (lo_makeFuncB (fs := [_]) (cap := []) rfl rfl) ?_
  refine ow1 (op1_in (en_f cb65 rfl) Tryd.func65 rfl Tryd.ntmps65 rfl rfl ?_)
  refine cw_seq ?_
  refine cw_region ?_
  refine ol rfl (lo_assign (v := .int _ _) rfl) ?_
  refine ow_nil ?_
  refine seqK_n ?_
  refine cw_seq ?_
  refine cw_seq ?_
  refine cw_region ?_
  refine ol rfl (lo_move (v := .slice _ _ _) rfl) ?_
  refine ol rfl (lo_len_slh rfl b_binds_h Tryd.underlying66) ?_
  refine ol rfl (lo_move (v := .int _ _) rfl) ?_
  refine ow_nil ?_
  refine seqK_n ?_
  refine cw_block ?_
  refine cw_loop1 [4, 5, 8, 9, 10, 11, 12, 13, 14, 15, 16, 17, 18] [] (fun (k : Nat) G => upd (G) 8 (.int .i64 (k : Int))) (fun (k : Nat) G => G) (fun (k : Nat) H' => k ≤ b.binds.length ∧ idxP (fun y => decide (x = y)) b.binds = idxF (fun y => decide (x = y)) k (b.binds.drop k)) (fun (k : Nat) => b.binds.length - k) 0 (upd_intro (mask_intro (by first | exact off_refl | (repeat (first | exact off_mask | refine off_upd rfl ?_ | refine off_mask2 rfl ?_)))) rfl) (lmask_intro offl_refl) ?_ ?_
  · exact ⟨Nat.zero_le _, rfl⟩
  intro k J4 JL4 H4 hp3 hl4
  obtain ⟨hik1, hik2⟩ := hp3
  refine cw_seq ?_
  refine cw_region ?_
  refine ol rfl (lo_lss rfl rfl) ?_
  refine ow_nil ?_
  refine seqK_n ?_
  refine cw_seq ?_
  refine cw_cond rfl (fun h5 => ?_) (fun h5 => ?_)
  · have p6 := dt h5
    refine cw_skip ?_
    refine seqK_n ?_
    refine cw_seq ?_
    refine cw_block ?_
    refine cw_seq ?_
    refine cw_region ?_
    refine ol rfl (lo_move (v := .int _ _) rfl) ?_
    refine ol rfl (lo_assign (v := .int _ _) rfl) ?_
    refine ow_nil ?_
    refine seqK_n ?_
    refine cw_seq ?_
    refine cw_region ?_
    refine ol rfl (lo_move rfl) ?_
    refine ol rfl (lo_move (v := .slice _ _ _) rfl) ?_
    refine ol rfl (lo_move (v := .int _ _) rfl) ?_
    obtain ⟨c7, hc8⟩ := getE (xs := b.binds) (m := k) (by omega)
    obtain ⟨cs9, hE10, at11⟩ := (b_binds_h.mono ((HLe.refl _).trans hl4) (fun _ _ q => bindRE_mono _ _ _ _ ((HLe.refl _).trans hl4) q)).get hc8
    obtain ⟨a12, c13, rfl, hs14, c7_w⟩ := hE10
    have c7_w' := c7_w
    simp only [BindR.wf] at c7_w'
    refine ol rfl (lo_indexAddr rfl rfl (b_binds_h.mono ((HLe.refl _).trans hl4) (fun _ _ q => bindRE_mono _ _ _ _ ((HLe.refl _).trans hl4) q)).1 at11 Tryd.underlying66 sz34 (by omega) (by omega)) ?_
    refine ol rfl (lo_loadEA rfl ag34 sz34 at11) ?_
    refine ow1 (op1_pr (bind_same _ x x_want_a x_want_c (x_want_h.mono ((HLe.refl _).trans hl4) (fun _ _ h => h)) x_w c7 a12 c13 hs14 c7_w) (en_b rfl cb66 rfl) rfl ?_)
    refine ow_nil ?_
    refine seqK_n ?_
    refine cw_cond rfl (fun h15 => ?_) (fun h15 => ?_)
    · have p16 := dt h15
      refine cw_seq ?_
      refine cw_region ?_
      refine ol rfl (lo_move (v := .int _ _) rfl) ?_
      refine ol rfl (lo_assign (v := .int _ _) rfl) ?_
      refine ow_nil ?_
      refine seqK_n ?_
      refine cw_ret ?_
      refine blkK_r ?_
      refine seqK_r ?_
      refine loopK_r ?_
      refine blkK_r ?_
      refine seqK_r ?_
      refine fnK_r (res1 rfl (rv_t (v := .int _ _) rfl)) ((HLe.refl _).trans hl4) ?_
      refine ol rfl (lo_assign (v := .int _ _) rfl) ?_
      refine ow_nil ?_
      refine seqK_n ?_
      refine cw_ret ?_
      refine fnK_r (res1 rfl (rv_t (v := .int _ _) rfl)) ((HLe.refl _).trans hl4) ?_
      exact congrArg (Value.int .i64) (idx_hit hik2 (dropE hc8) (by first | assumption | (simp [*]; done))).symm
    have p17 := df h15
    refine cw_skip ?_
    refine blkK_n ?_
    refine seqK_n ?_
    refine cw_region ?_
    refine ol rfl (lo_add rfl rfl (rg_i64 (by omega))) ?_
    refine ol rfl (lo_move (v := .int _ _) rfl) ?_
    refine ow_nil ?_
    refine next1 (k + 1) (upd_intro (mask_intro (by first | exact off_refl | (repeat (first | exact off_mask | refine off_upd rfl ?_ | refine off_mask2 rfl ?_)))) rfl) (lmask_intro (by first | exact offl_refl | (repeat (first | exact offl_mask | refine offl_upd rfl ?_ | refine offl_mask2 rfl ?_)))) hl4 ?_ ?_
    · exact ⟨by omega, idx_miss hik2 (dropE hc8) (by first | assumption | (simp [*]; done))⟩
    omega
  have p18 := df h5
  refine cw_exit ?_
  refine seqK_e ?_
  refine loopK_e ?_
  refine blkK_hit ?_
  refine seqK_n ?_
  refine cw_seq ?_
  refine cw_region ?_
  refine ol rfl (lo_assign (v := .int _ _) rfl) ?_
  refine ow_nil ?_
  refine seqK_n ?_
  refine cw_ret ?_
  refine fnK_r (res1 rfl (rv_t (v := .int _ _) rfl)) ((HLe.refl _).trans hl4) ?_
  refine ol rfl (lo_assign (v := .int _ _) rfl) ?_
  refine ow_nil ?_
  refine seqK_n ?_
  refine cw_ret ?_
  refine fnK_r (res1 rfl (rv_t (v := .int _ _) rfl)) ((HLe.refl _).trans hl4) ?_
  exact congrArg (Value.int .i64) (idx_end hik2 (by omega)).symm
end Go.SW
set_option linter.unusedVariables false
set_option maxRecDepth 100000
set_option maxHeartbeats 4000000
namespace Go.SW
open Go.Proofs
theorem cb51 : Callable Tryd.prog 51 := callable_of Tryd.func51 (by kernel_rfl) (by kernel_rfl)
theorem cb52 : Callable Tryd.prog 52 := callable_of Tryd.func52 (by kernel_rfl) (by kernel_rfl)
theorem cb53 : Callable Tryd.prog 53 := callable_of Tryd.func53 (by kernel_rfl) (by kernel_rfl)
theorem zx34 : ∃ z, ∀ w, (zeroValue 34).run Tryd.prog w = .ok z w := ⟨.agg #[str [], str [], .bool false, str [], .slice none 0 0, .bool false], fun w => by kernel_rfl⟩
theorem zx66 : ∃ z, ∀ w, (zeroValue 66).run Tryd.prog w = .ok z w := ⟨.slice none 0 0, fun w => by kernel_rfl⟩
theorem book_Bind (H : Hp) (b : BookR) (b_shops_a : Option Addr) (b_shops_c : Nat) (b_shops_h : SlH shopRE 3 H (.slice b_shops_a b.shops.length b_shops_c) b.shops) (b_binds_a : Option Addr) (b_binds_c : Nat) (b_binds_h : SlH bindRE 6 H (.slice b_binds_a b.binds.length b_binds_c) b.binds) (b_w : BookR.wf b) (x : BindR) (x_want_a : Option Addr) (x_want_c : Nat) (x_want_h : SlH pairE 4 H (.slice x_want_a x.want.length x_want_c) x.want) (x_w : BindR.wf x) (hML : GInt H 0) (hl : x.want.length ≤ 1000000) : Ph Tryd.prog 34 #[.agg (BookR.cells b b_shops_a b_shops_c b_binds_a b_binds_c).toArray, .agg (BindR.cells x x_want_a x_want_c).toArray] H (fun v H' => ∃ (a1 : Option Addr) (c1 : Nat) (a2 : Option Addr) (c2 : Nat), v = .tuple #[.agg (BookR.cells ((bindS b x).1) a1 c1 a2 c2).toArray, .int .i64 ((bindS b x).2)] ∧ SlH shopRE 3 H' (.slice a1 (((bindS b x).1).shops).length c1) (((bindS b x).1).shops) ∧ SlH bindRE 6 H' (.slice a2 (((bindS b x).1).binds).length c2) (((bindS b x).1).binds)) := by
  refine ph_cw Tryd.func34 rfl Tryd.ntmps34 rfl (fun N => ?_)
  have b_w' := b_w
  simp only [BookR.wf] at b_w'
  have x_w' := x_w
  simp only [BindR.wf] at x_w'
  have hss := shopOf_wf (n := x.shop) (slh_wfE b_shops_h)
  have hss2 := hss
  simp only [ShopR.wf] at hss2
  refine cw_seq ?_
  refine cw_region ?_
  refine ow1 (op1_box (cs := [_, _]) 0 rfl rfl (fun b1 => ?_))
  refine ow1 (op1_box (cs := [_, _, _, _, _, _]) 1 rfl rfl (fun b2 => ?_))
  refine ow1 (op1_alloc 2 rfl zr68 (fun b3 => ?_))
  refine ol rfl (lo_assign (v := .int _ _) rfl) ?_
  refine ow_nil ?_
  refine seqK_n ?_
  refine cw_seq ?_
  refine cw_region ?_
  refine ol rfl (lo_loadA (i := 0) (vs := [_, _]) rfl ag68 sz68 rfl rfl rfl) ?_
  refine ol rfl (lo_fieldAddr rfl fl34_0) ?_
  refine ol rfl (lo_load1 (i := 1) (v := str _) rfl ag9 rfl rfl) ?_
  refine ow1 (op1_pr (book_Shop _ b b_shops_a b_shops_c b_shops_h b_binds_a b_binds_c b_binds_h b_w x.shop) (en_f cb47 rfl) rfl ?_)
  refine ol rfl (lo_move (v := .tuple #[_, _]) rfl) ?_
  refine ol rfl (lo_extract (v := .agg #[_, _, _]) rfl rfl) ?_
  refine ol rfl (lo_extract (v := .bool _) rfl rfl) ?_
  refine ow1 (op1_alloc 3 rfl zr29 (fun b4 => ?_))
  refine ow1 (op1_storeAll (i := 3) (vs := [_, _, _]) rfl rfl rfl sz29 rfl rfl rfl ?_)
  refine ol rfl (lo_assign (v := .bool _) rfl) ?_
  refine ow_nil ?_
  refine seqK_n ?_
  refine cw_seq ?_
  refine cw_block ?_
  refine cw_seq ?_
  refine cw_region ?_
  refine ol rfl (lo_move (v := .bool _) rfl) ?_
  refine ol rfl (lo_not rfl) ?_
  refine ol rfl (lo_assign (v := .bool _) rfl) ?_
  refine ow_nil ?_
  refine seqK_n ?_
  refine cw_cond rfl (fun h5 => ?_) (fun h5 => ?_)
  · have h6 := not_t h5
    refine cw_seq ?_
    refine cw_region ?_
    refine ol rfl (lo_loadA (i := 0) (vs := [_, _]) rfl ag68 sz68 rfl rfl rfl) ?_
    refine ow1 (op1_storeAll (i := 2) (vs := [_, _]) rfl rfl rfl sz68 rfl rfl rfl ?_)
    refine ol rfl (lo_assign (v := .int _ _) rfl) ?_
    refine ow_nil ?_
    refine seqK_n ?_
    refine cw_ret ?_
    refine blkK_r ?_
    refine seqK_r ?_
    refine fnK_r (res2 rfl (rv_c (i := 2) (vs := [_, _]) rfl ag68 sz68 rfl rfl rfl) (rv_t (v := .int _ _) rfl)) (.refl _) ?_
    have e : bindS b x = (b, 10) := by
      unfold bindS
      (repeat (first | rw [if_pos (by omega)] | rw [if_pos (by assumption)] | rw [if_pos (And.intro (by assumption) (by assumption))] | rw [if_pos (Or.inl (by assumption))] | rw [if_pos (Or.inr (by assumption))] | rw [if_neg (by omega)] | rw [if_neg (by assumption)] | rw [if_neg (not_not_intro (by assumption))] | rw [if_neg (nbt (by assumption))] | rw [if_neg (nbf (by assumption))] | rw [if_neg (nand_l (by assumption))] | rw [if_neg (nand_r (by assumption))] | rw [if_neg (nand_l (nbt (by assumption)))] | rw [if_neg (nand_r (nbt (by assumption)))] | rw [if_neg (nor_ (not_not_intro (by assumption)) (nbf (by assumption)))]))
      all_goals first | done | rfl | simp [*]
    rw [e]
    exact ⟨_, _, _, _, rfl, b_shops_h, b_binds_h⟩
  have h7 := not_f h5
  refine cw_seq ?_
  refine cw_region ?_
  refine ol rfl (lo_fieldAddr rfl fl29_1) ?_
  refine ol rfl (lo_load1 (i := 3) (v := .int _ _) rfl ag5 rfl rfl) ?_
  refine ol rfl (lo_eql rfl rfl) ?_
  refine ol rfl (lo_assign (v := .bool _) rfl) ?_
  refine ow_nil ?_
  refine seqK_n ?_
  refine cw_cond rfl (fun h8 => ?_) (fun h8 => ?_)
  · have p9 := dt h8
    refine cw_seq ?_
    refine cw_region ?_
    refine ol rfl (lo_loadA (i := 0) (vs := [_, _]) rfl ag68 sz68 rfl rfl rfl) ?_
    refine ow1 (op1_storeAll (i := 2) (vs := [_, _]) rfl rfl rfl sz68 rfl rfl rfl ?_)
    refine ol rfl (lo_assign (v := .int _ _) rfl) ?_
    refine ow_nil ?_
    refine seqK_n ?_
    refine cw_ret ?_
    refine blkK_r ?_
    refine seqK_r ?_
    refine fnK_r (res2 rfl (rv_c (i := 2) (vs := [_, _]) rfl ag68 sz68 rfl rfl rfl) (rv_t (v := .int _ _) rfl)) (.refl _) ?_
    have e : bindS b x = (b, 8) := by
      unfold bindS
      (repeat (first | rw [if_pos (by omega)] | rw [if_pos (by assumption)] | rw [if_pos (And.intro (by assumption) (by assumption))] | rw [if_pos (Or.inl (by assumption))] | rw [if_pos (Or.inr (by assumption))] | rw [if_neg (by omega)] | rw [if_neg (by assumption)] | rw [if_neg (not_not_intro (by assumption))] | rw [if_neg (nbt (by assumption))] | rw [if_neg (nbf (by assumption))] | rw [if_neg (nand_l (by assumption))] | rw [if_neg (nand_r (by assumption))] | rw [if_neg (nand_l (nbt (by assumption)))] | rw [if_neg (nand_r (nbt (by assumption)))] | rw [if_neg (nor_ (not_not_intro (by assumption)) (nbf (by assumption)))]))
      all_goals first | done | rfl | simp [*]
    rw [e]
    exact ⟨_, _, _, _, rfl, b_shops_h, b_binds_h⟩
  have p10 := df h8
  refine cw_skip ?_
  refine blkK_n ?_
  refine seqK_n ?_
  refine cw_seq ?_
  refine cw_seq ?_
  refine cw_region ?_
  refine ol rfl (lo_fieldAddr rfl fl34_1) ?_
  refine ol rfl (lo_load1 (i := 1) (v := str _) rfl ag9 rfl rfl) ?_
  refine ow1 (op1_pr (words_Name _ x.to (by first | omega | decide | (simp; done))) (en_f cb25 rfl) rfl ?_)
  refine ol rfl (lo_assign (v := .int _ _) rfl) ?_
  refine ow_nil ?_
  refine seqK_n ?_
  refine cw_seq ?_
  refine cw_region ?_
  refine ol rfl (lo_move (v := .int _ _) rfl) ?_
  refine ol rfl (lo_neq rfl rfl) ?_
  refine ow_nil ?_
  refine seqK_n ?_
  refine cw_cond rfl (fun h11 => ?_) (fun h11 => ?_)
  · have h12 := not_t h11
    have p13 := df h12
    refine cw_seq ?_
    refine cw_region ?_
    refine ol rfl (lo_loadA (i := 0) (vs := [_, _]) rfl ag68 sz68 rfl rfl rfl) ?_
    refine ol rfl (lo_move (v := .int _ _) rfl) ?_
    refine ow1 (op1_storeAll (i := 2) (vs := [_, _]) rfl rfl rfl sz68 rfl rfl rfl ?_)
    refine ol rfl (lo_assign (v := .int _ _) rfl) ?_
    refine ow_nil ?_
    refine seqK_n ?_
    refine cw_ret ?_
    refine seqK_r ?_
    refine fnK_r (res2 rfl (rv_c (i := 2) (vs := [_, _]) rfl ag68 sz68 rfl rfl rfl) (rv_t (v := .int _ _) rfl)) (.refl _) ?_
    have e : bindS b x = (b, nameE x.to) := by
      unfold bindS
      (repeat (first | rw [if_pos (by omega)] | rw [if_pos (by assumption)] | rw [if_pos (And.intro (by assumption) (by assumption))] | rw [if_pos (Or.inl (by assumption))] | rw [if_pos (Or.inr (by assumption))] | rw [if_neg (by omega)] | rw [if_neg (by assumption)] | rw [if_neg (not_not_intro (by assumption))] | rw [if_neg (nbt (by assumption))] | rw [if_neg (nbf (by assumption))] | rw [if_neg (nand_l (by assumption))] | rw [if_neg (nand_r (by assumption))] | rw [if_neg (nand_l (nbt (by assumption)))] | rw [if_neg (nand_r (nbt (by assumption)))] | rw [if_neg (nor_ (not_not_intro (by assumption)) (nbf (by assumption)))]))
      all_goals first | done | rfl | simp [*]
    rw [e]
    exact ⟨_, _, _, _, rfl, b_shops_h, b_binds_h⟩
  have h14 := not_f h11
  have p15 := dt h14
  refine cw_skip ?_
  refine seqK_n ?_
  refine cw_seq ?_
  refine cw_seq ?_
  refine cw_region ?_
  refine ol rfl (lo_loadA (i := 1) (vs := [_, _, _, _, _, _]) rfl ag34 sz34 rfl rfl rfl) ?_
  refine ol rfl (lo_fieldAddr rfl fl29_1) ?_
  refine ol rfl (lo_load1 (i := 3) (v := .int _ _) rfl ag5 rfl rfl) ?_
  refine ow1 (op1_ph (bind_rule _ x x_want_a x_want_c x_want_h x_w (((shopOf b.shops x.shop).getD ShopR.zero).sort) (by omega)) (en_f cb49 rfl) rfl ?_)
  rintro _ H20 ⟨a16, c17, rfl, hs18⟩ hl19
  refine ow1 (op1_pr (rule_Check _ (bindRule x (((shopOf b.shops x.shop).getD ShopR.zero).sort)) a16 c17 hs18 (bindRule_wf x_w (by omega)) (hML.mono ((HLe.refl _).trans hl19))) (en_f cb50 rfl) rfl ?_)
  refine ol rfl (lo_assign (v := .int _ _) rfl) ?_
  refine ow_nil ?_
  refine seqK_n ?_
  refine cw_block ?_
  refine cw_seq ?_
  refine cw_region ?_
  refine ol rfl (lo_move (v := .int _ _) rfl) ?_
  refine ol rfl (lo_neq rfl rfl) ?_
  refine ol rfl (lo_assign (v := .bool _) rfl) ?_
  refine ow_nil ?_
  refine seqK_n ?_
  refine cw_cond rfl (fun h21 => ?_) (fun h21 => ?_)
  · have h22 := not_t h21
    have p23 := df h22
    refine cw_seq ?_
    refine cw_region ?_
    refine ol rfl (lo_loadA (i := 0) (vs := [_, _]) rfl ag68 sz68 rfl rfl rfl) ?_
    refine ol rfl (lo_move (v := .int _ _) rfl) ?_
    refine ow1 (op1_storeAll (i := 2) (vs := [_, _]) rfl rfl rfl sz68 rfl rfl rfl ?_)
    refine ol rfl (lo_assign (v := .int _ _) rfl) ?_
    refine ow_nil ?_
    refine seqK_n ?_
    refine cw_ret ?_
    refine blkK_r ?_
    refine seqK_r ?_
    refine fnK_r (res2 rfl (rv_c (i := 2) (vs := [_, _]) rfl ag68 sz68 rfl rfl rfl) (rv_t (v := .int _ _) rfl)) ((HLe.refl _).trans hl19) ?_
    have e : bindS b x = (b, ruleE (bindRule x (((shopOf b.shops x.shop).getD ShopR.zero).sort))) := by
      unfold bindS
      (repeat (first | rw [if_pos (by omega)] | rw [if_pos (by assumption)] | rw [if_pos (And.intro (by assumption) (by assumption))] | rw [if_pos (Or.inl (by assumption))] | rw [if_pos (Or.inr (by assumption))] | rw [if_neg (by omega)] | rw [if_neg (by assumption)] | rw [if_neg (not_not_intro (by assumption))] | rw [if_neg (nbt (by assumption))] | rw [if_neg (nbf (by assumption))] | rw [if_neg (nand_l (by assumption))] | rw [if_neg (nand_r (by assumption))] | rw [if_neg (nand_l (nbt (by assumption)))] | rw [if_neg (nand_r (nbt (by assumption)))] | rw [if_neg (nor_ (not_not_intro (by assumption)) (nbf (by assumption)))]))
      all_goals first | done | rfl | simp [*]
    rw [e]
    exact ⟨_, _, _, _, rfl, (b_shops_h.mono ((HLe.refl _).trans hl19) (fun _ _ h => h)), (b_binds_h.mono ((HLe.refl _).trans hl19) (fun _ _ q => bindRE_mono _ _ _ _ ((HLe.refl _).trans hl19) q))⟩
  have h24 := not_f h21
  have p25 := dt h24
  refine cw_seq ?_
  refine cw_region ?_
  refine ol rfl (lo_loadA (i := 0) (vs := [_, _]) rfl ag68 sz68 rfl rfl rfl) ?_
  refine ol rfl (lo_loadA (i := 1) (vs := [_, _, _, _, _, _]) rfl ag34 sz34 rfl rfl rfl) ?_
  refine ow1 (op1_pr (book_there _ b b_shops_a b_shops_c (b_shops_h.mono ((HLe.refl _).trans hl19) (fun _ _ h => h)) b_binds_a b_binds_c (b_binds_h.mono ((HLe.refl _).trans hl19) (fun _ _ q => bindRE_mono _ _ _ _ ((HLe.refl _).trans hl19) q)) b_w x x_want_a x_want_c (x_want_h.mono ((HLe.refl _).trans hl19) (fun _ _ h => h)) x_w) (en_f cb51 rfl) rfl ?_)
  have := idxP_r (fun y => decide (x = y)) b.binds
  refine ol rfl (lo_geq rfl rfl) ?_
  refine ol rfl (lo_assign (v := .bool _) rfl) ?_
  refine ow_nil ?_
  refine seqK_n ?_
  refine cw_cond rfl (fun h26 => ?_) (fun h26 => ?_)
  · have p27 := dt h26
    refine cw_seq ?_
    refine cw_region ?_
    refine ol rfl (lo_loadA (i := 0) (vs := [_, _]) rfl ag68 sz68 rfl rfl rfl) ?_
    refine ow1 (op1_storeAll (i := 2) (vs := [_, _]) rfl rfl rfl sz68 rfl rfl rfl ?_)
    refine ol rfl (lo_assign (v := .int _ _) rfl) ?_
    refine ow_nil ?_
    refine seqK_n ?_
    refine cw_ret ?_
    refine blkK_r ?_
    refine seqK_r ?_
    refine fnK_r (res2 rfl (rv_c (i := 2) (vs := [_, _]) rfl ag68 sz68 rfl rfl rfl) (rv_t (v := .int _ _) rfl)) ((HLe.refl _).trans hl19) ?_
    have e : bindS b x = (b, 0) := by
      unfold bindS
      (repeat (first | rw [if_pos (by omega)] | rw [if_pos (by assumption)] | rw [if_pos (And.intro (by assumption) (by assumption))] | rw [if_pos (Or.inl (by assumption))] | rw [if_pos (Or.inr (by assumption))] | rw [if_neg (by omega)] | rw [if_neg (by assumption)] | rw [if_neg (not_not_intro (by assumption))] | rw [if_neg (nbt (by assumption))] | rw [if_neg (nbf (by assumption))] | rw [if_neg (nand_l (by assumption))] | rw [if_neg (nand_r (by assumption))] | rw [if_neg (nand_l (nbt (by assumption)))] | rw [if_neg (nand_r (nbt (by assumption)))] | rw [if_neg (nor_ (not_not_intro (by assumption)) (nbf (by assumption)))]))
      all_goals first | done | rfl | simp [*]
    rw [e]
    exact ⟨_, _, _, _, rfl, (b_shops_h.mono ((HLe.refl _).trans hl19) (fun _ _ h => h)), (b_binds_h.mono ((HLe.refl _).trans hl19) (fun _ _ q => bindRE_mono _ _ _ _ ((HLe.refl _).trans hl19) q))⟩
  have p28 := df h26
  refine cw_seq ?_
  refine cw_region ?_
  refine ol rfl (lo_fieldAddr rfl fl68_1) ?_
  refine ol rfl (lo_load1 (i := 0) (v := .slice _ _ _) rfl ag66 rfl rfl) ?_
  refine ol rfl (lo_len_slh rfl (b_binds_h.mono ((HLe.refl _).trans hl19) (fun _ _ q => bindRE_mono _ _ _ _ ((HLe.refl _).trans hl19) q)) Tryd.underlying66) ?_
  refine ol rfl (lo_geq rfl rfl) ?_
  refine ol rfl (lo_assign (v := .bool _) rfl) ?_
  refine ow_nil ?_
  refine seqK_n ?_
  refine cw_cond rfl (fun h29 => ?_) (fun h29 => ?_)
  · have p30 := dt h29
    refine cw_seq ?_
    refine cw_region ?_
    refine ol rfl (lo_loadA (i := 0) (vs := [_, _]) rfl ag68 sz68 rfl rfl rfl) ?_
    refine ow1 (op1_storeAll (i := 2) (vs := [_, _]) rfl rfl rfl sz68 rfl rfl rfl ?_)
    refine ol rfl (lo_assign (v := .int _ _) rfl) ?_
    refine ow_nil ?_
    refine seqK_n ?_
    refine cw_ret ?_
    refine blkK_r ?_
    refine seqK_r ?_
    refine fnK_r (res2 rfl (rv_c (i := 2) (vs := [_, _]) rfl ag68 sz68 rfl rfl rfl) (rv_t (v := .int _ _) rfl)) ((HLe.refl _).trans hl19) ?_
    have e : bindS b x = (b, 12) := by
      unfold bindS
      (repeat (first | rw [if_pos (by omega)] | rw [if_pos (by assumption)] | rw [if_pos (And.intro (by assumption) (by assumption))] | rw [if_pos (Or.inl (by assumption))] | rw [if_pos (Or.inr (by assumption))] | rw [if_neg (by omega)] | rw [if_neg (by assumption)] | rw [if_neg (not_not_intro (by assumption))] | rw [if_neg (nbt (by assumption))] | rw [if_neg (nbf (by assumption))] | rw [if_neg (nand_l (by assumption))] | rw [if_neg (nand_r (by assumption))] | rw [if_neg (nand_l (nbt (by assumption)))] | rw [if_neg (nand_r (nbt (by assumption)))] | rw [if_neg (nor_ (not_not_intro (by assumption)) (nbf (by assumption)))]))
      all_goals first | done | rfl | simp [*]
    rw [e]
    exact ⟨_, _, _, _, rfl, (b_shops_h.mono ((HLe.refl _).trans hl19) (fun _ _ h => h)), (b_binds_h.mono ((HLe.refl _).trans hl19) (fun _ _ q => bindRE_mono _ _ _ _ ((HLe.refl _).trans hl19) q))⟩
  have p31 := df h29
  refine cw_skip ?_
  refine blkK_n ?_
  refine seqK_n ?_
  refine cw_seq ?_
  refine cw_anyL mixd ?_
  refine vw_q 0 rfl (by kernel_rfl) (by repeat (first | exact lle_l0 | exact LLe.refl _ | exact lle_none | refine lle_up ?_ rfl)) (fun _ _ hh hl => lo_fieldAddr rfl fl68_1) ?_
  refine vw_q 1 rfl (by kernel_rfl) (by repeat (first | exact lle_l0 | exact LLe.refl _ | exact lle_none | refine lle_up ?_ rfl)) (fun _ _ hh hl => lo_load1 (i := 0) (v := .slice _ _ _) rfl ag66 (hl _ _ rfl) rfl) ?_
  refine vw_q 2 rfl (by kernel_rfl) (by repeat (first | exact lle_l0 | exact LLe.refl _ | exact lle_none | refine lle_up ?_ rfl)) (fun _ _ hh hl => lo_loadA (i := 1) (vs := [_, _, _, _, _, _]) rfl ag34 sz34 (hl _ _ rfl) rfl rfl) ?_
  refine vw_e 3 rfl (by kernel_rfl) (op1_ph (bind_clone _ x x_want_a x_want_c (x_want_h.mono ((HLe.refl _).trans hl19) (fun _ _ h => h)) x_w (by first | omega | (simp; done) | decide)) (en_f cb53 rfl) rfl ?_)
  rintro _ H36 ⟨a32, c33, rfl, hs34⟩ hl35
  refine ⟨⟨((HLe.refl _).trans hl35), (by repeat (first | exact lle_l0 | exact LLe.refl _ | exact lle_none | refine lle_up ?_ rfl))⟩, ?_⟩
  refine vw_e 4 rfl (by kernel_rfl) (op1_bslice (cs := [_, _, _, _, _, _]) 4 rfl Tryd.underlying66 sz34 zx34 rfl ⟨rfl, rfl, trivial⟩ rfl rfl (by decide) (fun b37 => ?_))
  refine ⟨⟨(.refl _), (by repeat (first | exact lle_l0 | exact LLe.refl _ | exact lle_none | refine lle_up ?_ rfl))⟩, ?_⟩
  refine vw_giveO 4 rfl (by repeat (first | exact lle_l0 | exact LLe.refl _ | exact lle_none | refine lle_up ?_ rfl)) (by kernel_rfl) (fun _ hl38 hg39 => ?_)
  have hs40 := slh_bxE (E := bindRE) (H := _) (xs := [x]) bindRE_wide (hg39 _ _ rfl) ⟨_, _, rfl, ⟨a32, c33, rfl, (hs34.mono ((HLe.refl _).trans hl38) (fun _ _ h => h)), x_w⟩, rl_nil⟩ rfl (Nat.le_refl _)
  refine vw_e 5 rfl (by kernel_rfl) (op1_bslice (cs := [_, _]) 4 rfl Tryd.underlying103 sz66 zx66 rfl ⟨rfl, rfl, ⟨rfl, rfl, trivial⟩⟩ rfl rfl (by decide) (fun b41 => ?_))
  refine ⟨⟨(.refl _), (by repeat (first | exact lle_l0 | exact LLe.refl _ | exact lle_none | refine lle_up ?_ rfl))⟩, ?_⟩
  refine vw_giveO 4 rfl (by repeat (first | exact lle_l0 | exact LLe.refl _ | exact lle_none | refine lle_up ?_ rfl)) (by kernel_rfl) (fun _ hl42 hg43 => ?_)
  have hs44 := slh_bxE (E := (slE bindRE 6)) (H := _) (xs := [b.binds, [x]]) slE_wide (hg43 _ _ rfl) ⟨_, _, rfl, ⟨_, _, rfl, (b_binds_h.mono (((((HLe.refl _).trans hl19).trans hl35).trans hl38).trans hl42) (fun _ _ q => bindRE_mono _ _ _ _ (((((HLe.refl _).trans hl19).trans hl35).trans hl38).trans hl42) q))⟩, ⟨_, _, rfl, ⟨_, _, rfl, (hs40.mono ((HLe.refl _).trans hl42) (fun _ _ q => bindRE_mono _ _ _ _ ((HLe.refl _).trans hl42) q))⟩, rl_nil⟩⟩ rfl (Nat.le_refl _)
  refine vw_e 6 rfl (by kernel_rfl) (op1_ph (concat_Bind _ (some ⟨b41, 0, none⟩) 2 2 [b.binds, [x]] hs44 (by first | omega | (simp; done) | (simp; omega)) (by first | omega | (simp; done) | (simp; omega))) (en_f cb52 rfl) rfl ?_)
  rintro _ H49 ⟨a45, c46, rfl, hs47⟩ hl48
  refine ⟨⟨((HLe.refl _).trans hl48), (by repeat (first | exact lle_l0 | exact LLe.refl _ | exact lle_none | refine lle_up ?_ rfl))⟩, ?_⟩
  refine vw_q 7 rfl (by kernel_rfl) (by repeat (first | exact lle_l0 | exact LLe.refl _ | exact lle_none | refine lle_up ?_ rfl)) (fun _ _ hh hl => lo_fieldAddr rfl fl68_1) ?_
  refine vw_t 8 rfl (by kernel_rfl) (by kernel_rfl) (op1_store1n (i := 0) (v := .slice _ _ _) [_, _] rfl rfl rfl sz66 rfl rfl rfl ?_)
  refine vw_done (by kernel_rfl) ?_
  refine seqK_n ?_
  refine cw_seq ?_
  refine cw_region ?_
  refine ol rfl (lo_loadA (i := 0) (vs := [_, _]) rfl ag68 sz68 rfl rfl rfl) ?_
  refine ow1 (op1_storeAll (i := 2) (vs := [_, _]) rfl rfl rfl sz68 rfl rfl rfl ?_)
  refine ol rfl (lo_assign (v := .int _ _) rfl) ?_
  refine ow_nil ?_
  refine seqK_n ?_
  refine cw_ret ?_
  refine fnK_r (res2 rfl (rv_c (i := 2) (vs := [_, _]) rfl ag68 sz68 rfl rfl rfl) (rv_t (v := .int _ _) rfl)) ((((((HLe.refl _).trans hl19).trans hl35).trans hl38).trans hl42).trans hl48) ?_
  have e : bindS b x = ((⟨b.shops, ([b.binds, [x]]).flatten⟩ : BookR), 0) := by
    unfold bindS
    (repeat (first | rw [if_pos (by omega)] | rw [if_pos (by assumption)] | rw [if_pos (And.intro (by assumption) (by assumption))] | rw [if_pos (Or.inl (by assumption))] | rw [if_pos (Or.inr (by assumption))] | rw [if_neg (by omega)] | rw [if_neg (by assumption)] | rw [if_neg (not_not_intro (by assumption))] | rw [if_neg (nbt (by assumption))] | rw [if_neg (nbf (by assumption))] | rw [if_neg (nand_l (by assumption))] | rw [if_neg (nand_r (by assumption))] | rw [if_neg (nand_l (nbt (by assumption)))] | rw [if_neg (nand_r (nbt (by assumption)))] | rw [if_neg (nor_ (not_not_intro (by assumption)) (nbf (by assumption)))]))
    all_goals first | done | rfl | simp [*]
  rw [e]
  exact ⟨_, _, _, _, rfl, (b_shops_h.mono ((((((HLe.refl _).trans hl19).trans hl35).trans hl38).trans hl42).trans hl48) (fun _ _ h => h)), hs47⟩
end Go.SW
set_option linter.unusedVariables false
set_option maxRecDepth 100000
set_option maxHeartbeats 4000000
namespace Go.SW
open Go.Proofs
theorem by9 : By Tryd.prog 9 16 := by_of (by kernel_rfl)
theorem cb55 : Callable Tryd.prog 55 := callable_of Tryd.func55 (by kernel_rfl) (by kernel_rfl)
theorem cb71 : Callable Tryd.prog 71 := callable_of Tryd.func71 (by kernel_rfl) (by kernel_rfl)
theorem zr9 : Zr Tryd.prog 9 [str []] := fun w => ⟨str [], by kernel_rfl, rfl⟩
theorem book_Leads (H : Hp) (b : BookR) (b_shops_a : Option Addr) (b_shops_c : Nat) (b_shops_h : SlH shopRE 3 H (.slice b_shops_a b.shops.length b_shops_c) b.shops) (b_binds_a : Option Addr) (b_binds_c : Nat) (b_binds_h : SlH bindRE 6 H (.slice b_binds_a b.binds.length b_binds_c) b.binds) (b_w : BookR.wf b) (shop : Bs) (key : Bs) (h_a : Option Addr) (h_l h_c : Nat) (h : List Pair) (h_h : SlH pairE 4 H (.slice h_a h_l h_c) h) (hML : GInt H 0) (hbl : b.binds.length ≤ 1000000) (hbk : ∀ y ∈ b.binds, y.key.length ≤ 1000000) (hkl : key.length ≤ 1000000) (hhl : h.length ≤ 1000000) : Ph Tryd.prog 35 #[.agg (BookR.cells b b_shops_a b_shops_c b_binds_a b_binds_c).toArray, str shop, str key, .slice h_a h_l h_c] H (fun v H' => ∃ (a1 : Option Addr) (c1 : Nat) (a2 : Option Addr) (c2 : Nat), v = .tuple #[.slice a1 ((leadS b shop key h).1).length c1, .slice a2 ((leadS b shop key h).2.1).length c2, .int .i64 ((leadS b shop key h).2.2)] ∧ SlH strE 1 H' (.slice a1 ((leadS b shop key h).1).length c1) ((leadS b shop key h).1) ∧ SlH strE 1 H' (.slice a2 ((leadS b shop key h).2.1).length c2) ((leadS b shop key h).2.1)) := by
  refine ph_cw Tryd.func35 rfl Tryd.ntmps35 rfl (fun N => ?_)
  have b_w' := b_w
  simp only [BookR.wf] at b_w'
  have hss := shopOf_wf (n := shop) (slh_wfE b_shops_h)
  have hss2 := hss
  simp only [ShopR.wf] at hss2
  refine cw_seq ?_
  refine cw_region ?_
  refine ow1 (op1_box (cs := [_, _]) 0 rfl rfl (fun b1 => ?_))
  refine ol rfl (lo_assign (v := .slice _ _ _) rfl) ?_
  refine ol rfl (lo_assign (v := .slice _ _ _) rfl) ?_
  refine ol rfl (lo_assign (v := .int _ _) rfl) ?_
  refine ow_nil ?_
  refine seqK_n ?_
  refine cw_scope ?_
  refine cw_seq ?_
  refine cw_region ?_
  refine ol rfl (lo_loadA (i := 0) (vs := [_, _]) rfl ag68 sz68 rfl rfl rfl) ?_
  refine ol rfl (lo_move (v := str _) rfl) ?_
  refine ow1 (op1_pr (book_Shop _ b b_shops_a b_shops_c b_shops_h b_binds_a b_binds_c b_binds_h b_w shop) (en_f cb47 rfl) rfl ?_)
  refine ol rfl (lo_move (v := .tuple #[_, _]) rfl) ?_
  refine ol rfl (lo_extract (v := .agg #[_, _, _]) rfl rfl) ?_
  refine ol rfl (lo_extract (v := .bool _) rfl rfl) ?_
  refine ow1 (op1_alloc 1 rfl zr29 (fun b2 => ?_))
  refine ow1 (op1_storeAll (i := 1) (vs := [_, _, _]) rfl rfl rfl sz29 rfl rfl rfl ?_)
  refine ol rfl (lo_assign (v := .bool _) rfl) ?_
  refine ow_nil ?_
  refine seqK_n ?_
  refine cw_seq ?_
  refine cw_block ?_
  refine cw_seq ?_
  refine cw_region ?_
  refine ol rfl (lo_move (v := .bool _) rfl) ?_
  refine ol rfl (lo_not rfl) ?_
  refine ol rfl (lo_assign (v := .bool _) rfl) ?_
  refine ow_nil ?_
  refine seqK_n ?_
  refine cw_cond rfl (fun h3 => ?_) (fun h3 => ?_)
  · have h4 := not_t h3
    refine cw_seq ?_
    refine cw_region ?_
    refine ol rfl (lo_assign (v := .slice _ _ _) rfl) ?_
    refine ol rfl (lo_assign (v := .slice _ _ _) rfl) ?_
    refine ol rfl (lo_assign (v := .int _ _) rfl) ?_
    refine ow_nil ?_
    refine seqK_n ?_
    refine cw_ret ?_
    refine blkK_r ?_
    refine seqK_r ?_
    refine scK_r ?_
    refine fnK_r (res3 rfl (rv_t (v := .slice _ _ _) rfl) (rv_t (v := .slice _ _ _) rfl) (rv_t (v := .int _ _) rfl)) (.refl _) ?_
    have e : leadS b shop key h = ([], [], 10) := by unfold leadS; rw [if_pos (by assumption)]
    rw [e]
    exact ⟨none, 0, none, 0, rfl, slh_nil, slh_nil⟩
  have h5 := not_f h3
  refine cw_seq ?_
  refine cw_region ?_
  refine ol rfl (lo_fieldAddr rfl fl29_1) ?_
  refine ol rfl (lo_load1 (i := 1) (v := .int _ _) rfl ag5 rfl rfl) ?_
  refine ol rfl (lo_eql rfl rfl) ?_
  refine ol rfl (lo_assign (v := .bool _) rfl) ?_
  refine ow_nil ?_
  refine seqK_n ?_
  refine cw_cond rfl (fun h6 => ?_) (fun h6 => ?_)
  · have p7 := dt h6
    refine cw_seq ?_
    refine cw_anyL mixd ?_
    refine vw_q 0 rfl (by kernel_rfl) (by repeat (first | exact lle_l0 | exact LLe.refl _ | exact lle_none | refine lle_up ?_ rfl)) (fun _ _ hh hl => lo_fieldAddr rfl fl29_2) ?_
    refine vw_q 1 rfl (by kernel_rfl) (by repeat (first | exact lle_l0 | exact LLe.refl _ | exact lle_none | refine lle_up ?_ rfl)) (fun _ _ hh hl => lo_load1 (i := 1) (v := str _) rfl ag9 (hl _ _ rfl) rfl) ?_
    refine vw_q 3 rfl (by kernel_rfl) (by repeat (first | exact lle_l0 | exact LLe.refl _ | exact lle_none | refine lle_up ?_ rfl)) (fun _ _ hh hl => lo_assign (v := .slice _ _ _) rfl) ?_
    refine vw_tp 2 rfl (by kernel_rfl) (by kernel_rfl) (op1_bslice (cs := [_]) 2 rfl Tryd.underlying72 sz9 zx9 rfl ⟨rfl, rfl, trivial⟩ rfl rfl (by decide) (fun b8 => ?_))
    refine ⟨(.refl _), ?_⟩
    refine vw_q 4 rfl (by kernel_rfl) (by repeat (first | exact lle_l0 | exact LLe.refl _ | exact lle_none | refine lle_up ?_ rfl)) (fun _ _ hh hl => lo_assign rfl) ?_
    refine vw_q 5 rfl (by kernel_rfl) (by repeat (first | exact lle_l0 | exact LLe.refl _ | exact lle_none | refine lle_up ?_ rfl)) (fun _ _ hh hl => lo_assign (v := .int _ _) rfl) ?_
    refine vw_done (by kernel_rfl) ?_
    refine seqK_n ?_
    refine cw_giveO 2 rfl (fun _ hl9 hg10 => ?_)
    have hs11 := slh_bx (k := 1) (H := _) (enc := (fun s => [str s])) (wf := (fun s => s.length ≤ 9223372036854775807)) [((shopOf b.shops shop).getD ShopR.zero).to] (fun _ => rfl) (hg10 _ _ rfl) rfl rfl (Nat.le_refl _) (by first | (intro x hx; simp at hx; subst hx; first | omega | (simp; done) | (simp; omega)) | (simp; done) | (simp; omega))
    refine cw_ret ?_
    refine blkK_r ?_
    refine seqK_r ?_
    refine scK_r ?_
    refine fnK_r (res3 rfl (rv_t (v := .slice _ _ _) rfl) (rv_t (v := .slice _ _ _) rfl) (rv_t (v := .int _ _) rfl)) ((HLe.refl _).trans hl9) ?_
    have e : leadS b shop key h = ([], [((shopOf b.shops shop).getD ShopR.zero).to], 0) := by unfold leadS; rw [if_neg (nbf (by assumption)), if_pos (by assumption)]
    rw [e]
    exact ⟨none, 0, _, _, rfl, slh_nil, hs11⟩
  have p12 := df h6
  refine cw_skip ?_
  refine blkK_n ?_
  refine seqK_n ?_
  refine cw_seq ?_
  refine cw_region ?_
  refine ol rfl (lo_assign (v := .slice _ _ _) rfl) ?_
  refine ol rfl (lo_assign (v := .slice _ _ _) rfl) ?_
  refine ow_nil ?_
  refine seqK_n ?_
  refine cw_seq ?_
  refine cw_label ?_
  refine seqK_n ?_
  refine cw_seq ?_
  refine cw_seq ?_
  refine cw_region ?_
  refine ol rfl (lo_fieldAddr rfl fl68_1) ?_
  refine ol rfl (lo_load1 (i := 0) (v := .slice _ _ _) rfl ag66 rfl rfl) ?_
  refine ol rfl (lo_len_slh rfl b_binds_h Tryd.underlying66) ?_
  refine ol rfl (lo_move (v := .int _ _) rfl) ?_
  refine ow_nil ?_
  refine seqK_n ?_
  refine cw_block ?_
  refine cw_loop7 [13, 14, 16, 36, 37, 38, 39, 40, 41, 42, 43, 44, 45, 46, 47, 48, 49, 50, 51, 52, 53, 54, 55, 56, 57, 58, 59, 60, 61, 62, 63, 64] [2, 3, 40, 41] (fun (k : Nat) (qs : List Bs) (v1 : Value) (en1 : Option (Nat × Obj)) (ps : List Bs) (v2 : Value) (en2 : Option (Nat × Obj)) G => upd (upd (upd (G) 36 (.int .i64 (k : Int))) 13 (v1)) 14 (v2)) (fun (k : Nat) (qs : List Bs) (v1 : Value) (en1 : Option (Nat × Obj)) (ps : List Bs) (v2 : Value) (en2 : Option (Nat × Obj)) G => lupd (lupd (G) 40 (en1)) 41 (en2)) (fun (k : Nat) (qs : List Bs) (v1 : Value) (en1 : Option (Nat × Obj)) (ps : List Bs) (v2 : Value) (en2 : Option (Nat × Obj)) H' => k ≤ b.binds.length ∧ leadGo ((shopOf b.shops shop).getD ShopR.zero).sort shop key h b.binds [] [] = leadGo ((shopOf b.shops shop).getD ShopR.zero).sort shop key h (b.binds.drop k) qs ps ∧ OwnV 1 9 v1 en1 qs.length (qs.flatMap (fun s => [str s])) ∧ (∀ x ∈ qs, (fun s => s.length ≤ 9223372036854775807) x) ∧ OwnV 1 9 v2 en2 ps.length (ps.flatMap (fun s => [str s])) ∧ (∀ x ∈ ps, (fun s => s.length ≤ 9223372036854775807) x) ∧ qs.length ≤ k ∧ ps.length ≤ k) (fun (k : Nat) (qs : List Bs) (v1 : Value) (en1 : Option (Nat × Obj)) (ps : List Bs) (v2 : Value) (en2 : Option (Nat × Obj)) => b.binds.length - k) 0 [] (.slice none 0 0) none [] (.slice none 0 0) none (upd_intro (upd_intro (upd_intro (mask_intro (by first | exact off_refl | (repeat (first | exact off_mask | refine off_upd rfl ?_ | refine off_mask2 rfl ?_)))) rfl) rfl) rfl) (lupd_intro (lupd_intro (lmask_intro offl_refl) rfl) rfl) ?_ ?_
  · exact ⟨Nat.zero_le _, rfl, ownV_nil, wf_nil, ownV_nil, wf_nil, Nat.le_refl _, Nat.le_refl _⟩
  intro k qs v1 en1 ps v2 en2 J14 JL14 H14 hp13 hl14
  obtain ⟨hk1, hk2, ho1, hw1, ho2, hw2, hq1, hq2⟩ := hp13
  refine cw_seq ?_
  refine cw_region ?_
  refine ol rfl (lo_lss rfl rfl) ?_
  refine ow_nil ?_
  refine seqK_n ?_
  refine cw_seq ?_
  refine cw_cond rfl (fun h15 => ?_) (fun h15 => ?_)
  · have p16 := dt h15
    refine cw_skip ?_
    refine seqK_n ?_
    refine cw_seq ?_
    refine cw_block ?_
    refine cw_seq ?_
    refine cw_region ?_
    obtain ⟨c17, hc18⟩ := getE (xs := b.binds) (m := k) (by omega)
    obtain ⟨cs19, hE20, at21⟩ := (b_binds_h.mono ((HLe.refl _).trans hl14) (fun _ _ q => bindRE_mono _ _ _ _ ((HLe.refl _).trans hl14) q)).get hc18
    obtain ⟨a22, c23, rfl, hs24, c17_w⟩ := hE20
    have c17_w' := c17_w
    simp only [BindR.wf] at c17_w'
    have hbk0 := hbk c17 (List.mem_of_getElem? hc18)
    refine ol rfl (lo_indexAddr rfl rfl (b_binds_h.mono ((HLe.refl _).trans hl14) (fun _ _ q => bindRE_mono _ _ _ _ ((HLe.refl _).trans hl14) q)).1 at21 Tryd.underlying66 sz34 (by omega) (by omega)) ?_
    refine ol rfl (lo_loadEA rfl ag34 sz34 at21) ?_
    refine ow1 (op1_alloc 2 rfl zr34 (fun b25 => ?_))
    refine ow1 (op1_storeAll (i := 2) (vs := [_, _, _, _, _, _]) rfl rfl rfl sz34 rfl rfl rfl ?_)
    refine ow_nil ?_
    refine seqK_n ?_
    refine cw_block ?_
    refine cw_seq ?_
    refine cw_seq ?_
    refine cw_region ?_
    refine ol rfl (lo_fieldAddr rfl fl34_0) ?_
    refine ol rfl (lo_load1 (i := 2) (v := str _) rfl ag9 rfl rfl) ?_
    refine ol rfl (lo_move (v := str _) rfl) ?_
    refine ol rfl (lo_sneq rfl rfl) ?_
    refine ol rfl (lo_assign (v := .bool _) rfl) ?_
    refine ow_nil ?_
    refine seqK_n ?_
    refine cw_cond rfl (fun h26 => ?_) (fun h26 => ?_)
    · have h27 := not_t h26
      have p28 := df h27
      refine cw_skip ?_
      refine seqK_n ?_
      refine cw_cond_t rfl h26 ?_
      refine cw_exit ?_
      refine blkK_e rfl ?_
      refine blkK_hit ?_
      refine seqK_n ?_
      refine cw_region ?_
      refine ol rfl (lo_add rfl rfl (rg_i64 (by omega))) ?_
      refine ol rfl (lo_move (v := .int _ _) rfl) ?_
      refine ow_nil ?_
      refine next7 (k + 1) qs v1 en1 ps v2 en2 (upd_intro (upd_intro (upd_intro (mask_intro (by first | exact off_refl | (repeat (first | exact off_mask | refine off_upd rfl ?_ | refine off_mask2 rfl ?_)))) rfl) rfl) rfl) (lupd_intro (lupd_intro (lmask_intro (by first | exact offl_refl | (repeat (first | exact offl_mask | refine offl_upd rfl ?_ | refine offl_mask2 rfl ?_)))) rfl) rfl) hl14 ?_ ?_
      · refine ⟨by omega, ?_, ho1, hw1, ho2, hw2, ?_, ?_⟩
        · rw [hk2, dropE hc18]
          conv => lhs; unfold leadGo
          (repeat (first | rw [if_pos (by omega)] | rw [if_pos (by assumption)] | rw [if_pos (And.intro (by assumption) (by assumption))] | rw [if_pos (Or.inl (by assumption))] | rw [if_pos (Or.inr (by assumption))] | rw [if_neg (by omega)] | rw [if_neg (by assumption)] | rw [if_neg (not_not_intro (by assumption))] | rw [if_neg (nbt (by assumption))] | rw [if_neg (nbf (by assumption))] | rw [if_neg (nand_l (by assumption))] | rw [if_neg (nand_r (by assumption))] | rw [if_neg (nand_l (nbt (by assumption)))] | rw [if_neg (nand_r (nbt (by assumption)))] | rw [if_neg (nor_ (not_not_intro (by assumption)) (nbf (by assumption)))]))
          all_goals first | done | rfl | (unfold putS; (repeat (first | rw [if_pos (by omega)] | rw [if_pos (by assumption)] | rw [if_pos (And.intro (by assumption) (by assumption))] | rw [if_pos (Or.inl (by assumption))] | rw [if_pos (Or.inr (by assumption))] | rw [if_neg (by omega)] | rw [if_neg (by assumption)] | rw [if_neg (not_not_intro (by assumption))] | rw [if_neg (nbt (by assumption))] | rw [if_neg (nbf (by assumption))] | rw [if_neg (nand_l (by assumption))] | rw [if_neg (nand_r (by assumption))] | rw [if_neg (nand_l (nbt (by assumption)))] | rw [if_neg (nand_r (nbt (by assumption)))] | rw [if_neg (nor_ (not_not_intro (by assumption)) (nbf (by assumption)))])); first | done | rfl)
        · have := putS_len qs c17.to; simp at *; omega
        have := putS_len ps c17.to; simp at *; omega
      omega
    have h29 := not_f h26
    have p30 := dt h29
    refine cw_region ?_
    refine ol rfl (lo_loadA (i := 2) (vs := [_, _, _, _, _, _]) rfl ag34 sz34 rfl rfl rfl) ?_
    refine ol rfl (lo_fieldAddr rfl fl29_1) ?_
    refine ol rfl (lo_load1 (i := 1) (v := .int _ _) rfl ag5 rfl rfl) ?_
    refine ow1 (op1_ph (bind_rule _ c17 a22 c23 hs24 c17_w (((shopOf b.shops shop).getD ShopR.zero).sort) (by omega)) (en_f cb49 rfl) rfl ?_)
    rintro _ H35 ⟨a31, c32, rfl, hs33⟩ hl34
    refine ol rfl (lo_move (v := str _) rfl) ?_
    refine ol rfl (lo_move (v := .slice _ _ _) rfl) ?_
    refine ow1 (op1_pr (rule_Goes _ (bindRule c17 (((shopOf b.shops shop).getD ShopR.zero).sort)) a31 c32 hs33 (bindRule_wf c17_w (by omega)) key h_a h_l h_c h (h_h.mono (((HLe.refl _).trans hl14).trans hl34) (fun _ _ h => h)) (hML.mono (((HLe.refl _).trans hl14).trans hl34)) (by simp only [bindRule]; omega) (by first | omega | (simp; done) | decide) (by first | omega | (simp <;> omega))) (en_f cb54 rfl) rfl ?_)
    refine ol rfl (lo_not rfl) ?_
    refine ol rfl (lo_assign (v := .bool _) rfl) ?_
    refine ow_nil ?_
    refine seqK_n ?_
    refine cw_cond rfl (fun h36 => ?_) (fun h36 => ?_)
    · have h37 := not_t h36
      refine cw_exit ?_
      refine blkK_e rfl ?_
      refine blkK_hit ?_
      refine seqK_n ?_
      refine cw_region ?_
      refine ol rfl (lo_add rfl rfl (rg_i64 (by omega))) ?_
      refine ol rfl (lo_move (v := .int _ _) rfl) ?_
      refine ow_nil ?_
      refine next7 (k + 1) qs v1 en1 ps v2 en2 (upd_intro (upd_intro (upd_intro (mask_intro (by first | exact off_refl | (repeat (first | exact off_mask | refine off_upd rfl ?_ | refine off_mask2 rfl ?_)))) rfl) rfl) rfl) (lupd_intro (lupd_intro (lmask_intro (by first | exact offl_refl | (repeat (first | exact offl_mask | refine offl_upd rfl ?_ | refine offl_mask2 rfl ?_)))) rfl) rfl) (hl14.trans hl34) ?_ ?_
      · refine ⟨by omega, ?_, ho1, hw1, ho2, hw2, ?_, ?_⟩
        · rw [hk2, dropE hc18]
          conv => lhs; unfold leadGo
          (repeat (first | rw [if_pos (by omega)] | rw [if_pos (by assumption)] | rw [if_pos (And.intro (by assumption) (by assumption))] | rw [if_pos (Or.inl (by assumption))] | rw [if_pos (Or.inr (by assumption))] | rw [if_neg (by omega)] | rw [if_neg (by assumption)] | rw [if_neg (not_not_intro (by assumption))] | rw [if_neg (nbt (by assumption))] | rw [if_neg (nbf (by assumption))] | rw [if_neg (nand_l (by assumption))] | rw [if_neg (nand_r (by assumption))] | rw [if_neg (nand_l (nbt (by assumption)))] | rw [if_neg (nand_r (nbt (by assumption)))] | rw [if_neg (nor_ (not_not_intro (by assumption)) (nbf (by assumption)))]))
          all_goals first | done | rfl | (unfold putS; (repeat (first | rw [if_pos (by omega)] | rw [if_pos (by assumption)] | rw [if_pos (And.intro (by assumption) (by assumption))] | rw [if_pos (Or.inl (by assumption))] | rw [if_pos (Or.inr (by assumption))] | rw [if_neg (by omega)] | rw [if_neg (by assumption)] | rw [if_neg (not_not_intro (by assumption))] | rw [if_neg (nbt (by assumption))] | rw [if_neg (nbf (by assumption))] | rw [if_neg (nand_l (by assumption))] | rw [if_neg (nand_r (by assumption))] | rw [if_neg (nand_l (nbt (by assumption)))] | rw [if_neg (nand_r (nbt (by assumption)))] | rw [if_neg (nor_ (not_not_intro (by assumption)) (nbf (by assumption)))])); first | done | rfl)
        · have := putS_len qs c17.to; simp at *; omega
        have := putS_len ps c17.to; simp at *; omega
      omega
    have h38 := not_f h36
    refine cw_seq ?_
    refine cw_region ?_
    refine ol rfl (lo_fieldAddr rfl fl34_2) ?_
    refine ol rfl (lo_load1 (i := 2) (v := .bool _) rfl ag4 rfl rfl) ?_
    refine ol rfl (lo_assign (v := .bool _) rfl) ?_
    refine ow_nil ?_
    refine seqK_n ?_
    refine cw_cond rfl (fun h39 => ?_) (fun h39 => ?_)
    · refine cw_region ?_
      refine ol rfl (lo_move rfl) ?_
      refine ol rfl (lo_fieldAddr rfl fl34_1) ?_
      refine ol rfl (lo_load1 (i := 2) (v := str _) rfl ag9 rfl rfl) ?_
      refine ow1 (op1_in (en_f cb55 rfl) Tryd.func55 rfl Tryd.ntmps55 rfl rfl ?_)
      refine cw_seq ?_
      refine cw_region ?_
      refine ol rfl (lo_assign (v := .slice _ _ _) rfl) ?_
      refine ow_nil ?_
      refine seqK_n ?_
      refine cw_seq ?_
      refine cw_seq ?_
      refine cw_region ?_
      refine ol rfl (lo_move rfl) ?_
      refine ol rfl (lo_move (v := str _) rfl) ?_
      obtain ⟨a40, c41, rfl⟩ := own_shape ho2
      refine ow1 (op1_prl 41 rfl (fun _ hl42 hg43 => (contains_Str _ a40 ps.length c41 ps (slh_own (enc := (fun s => [str s])) (wf := (fun s => s.length ≤ 9223372036854775807)) (fun _ => rfl) ho2 hw2 hg43) c17.to (by first | omega | (simp <;> omega)))) (en_f cb71 rfl) rfl ?_)
      refine ow_nil ?_
      refine seqK_n ?_
      refine cw_cond rfl (fun h44 => ?_) (fun h44 => ?_)
      · have p45 := dt h44
        refine cw_seq ?_
        refine cw_region ?_
        refine ol rfl (lo_move rfl) ?_
        refine ol rfl (lo_assign rfl) ?_
        refine ow_nil ?_
        refine seqK_n ?_
        refine cw_ret ?_
        refine seqK_r ?_
        refine fnK_r (res1 rfl (rv_t rfl)) (.refl _) ?_
        refine ol rfl (lo_assign rfl) ?_
        refine ow_nil ?_
        refine blkK_n ?_
        refine blkK_n ?_
        refine seqK_n ?_
        refine cw_region ?_
        refine ol rfl (lo_add rfl rfl (rg_i64 (by omega))) ?_
        refine ol rfl (lo_move (v := .int _ _) rfl) ?_
        refine ow_nil ?_
        refine next7 (k + 1) qs v1 en1 ps (.slice a40 ps.length c41) en2 (upd_intro (upd_intro (upd_intro (mask_intro (by first | exact off_refl | (repeat (first | exact off_mask | refine off_upd rfl ?_ | refine off_mask2 rfl ?_)))) rfl) rfl) rfl) (lupd_intro (lupd_intro (lmask_intro (by first | exact offl_refl | (repeat (first | exact offl_mask | refine offl_upd rfl ?_ | refine offl_mask2 rfl ?_)))) rfl) rfl) (hl14.trans hl34) ?_ ?_
        · refine ⟨by omega, ?_, ho1, hw1, ho2, hw2, ?_, ?_⟩
          · rw [hk2, dropE hc18]
            conv => lhs; unfold leadGo
            (repeat (first | rw [if_pos (by omega)] | rw [if_pos (by assumption)] | rw [if_pos (And.intro (by assumption) (by assumption))] | rw [if_pos (Or.inl (by assumption))] | rw [if_pos (Or.inr (by assumption))] | rw [if_neg (by omega)] | rw [if_neg (by assumption)] | rw [if_neg (not_not_intro (by assumption))] | rw [if_neg (nbt (by assumption))] | rw [if_neg (nbf (by assumption))] | rw [if_neg (nand_l (by assumption))] | rw [if_neg (nand_r (by assumption))] | rw [if_neg (nand_l (nbt (by assumption)))] | rw [if_neg (nand_r (nbt (by assumption)))] | rw [if_neg (nor_ (not_not_intro (by assumption)) (nbf (by assumption)))]))
            all_goals first | done | rfl | (unfold putS; (repeat (first | rw [if_pos (by omega)] | rw [if_pos (by assumption)] | rw [if_pos (And.intro (by assumption) (by assumption))] | rw [if_pos (Or.inl (by assumption))] | rw [if_pos (Or.inr (by assumption))] | rw [if_neg (by omega)] | rw [if_neg (by assumption)] | rw [if_neg (not_not_intro (by assumption))] | rw [if_neg (nbt (by assumption))] | rw [if_neg (nbf (by assumption))] | rw [if_neg (nand_l (by assumption))] | rw [if_neg (nand_r (by assumption))] | rw [if_neg (nand_l (nbt (by assumption)))] | rw [if_neg (nand_r (nbt (by assumption)))] | rw [if_neg (nor_ (not_not_intro (by assumption)) (nbf (by assumption)))])); first | done | rfl)
          · have := putS_len qs c17.to; simp at *; omega
          have := putS_len ps c17.to; simp at *; omega
        omega
      have p46 := df h44
      refine cw_skip ?_
      refine seqK_n ?_
      refine cw_seq ?_
      refine cw_region ?_
      refine ol rfl (lo_move rfl) ?_
      refine ol rfl (lo_move (v := str _) rfl) ?_
      refine ow1 (op1_bslice (cs := [_]) 3 rfl Tryd.underlying72 sz9 zx9 rfl ⟨rfl, rfl, trivial⟩ rfl rfl (by decide) (fun b47 => ?_))
      refine ow1 (op1_app 41 rfl rfl Tryd.underlying72 Tryd.underlying72 rfl sz9 by9 (by decide) zr9 ho2 (src_bx (i := 3) rfl rfl) (List.all_eq_true.1 rfl) rfl (by omega) rfl (fun v48 en49 ho50 => ?_))
      have ho51 := own_push (enc := (fun s => [str s])) ps c17.to ho50 rfl
      refine ol rfl (lo_assign rfl) ?_
      refine ow_nil ?_
      refine seqK_n ?_
      refine cw_ret ?_
      refine fnK_r (res1 rfl (rv_t rfl)) (.refl _) ?_
      refine ol rfl (lo_assign rfl) ?_
      refine ow_nil ?_
      refine blkK_n ?_
      refine blkK_n ?_
      refine seqK_n ?_
      refine cw_region ?_
      refine ol rfl (lo_add rfl rfl (rg_i64 (by omega))) ?_
      refine ol rfl (lo_move (v := .int _ _) rfl) ?_
      refine ow_nil ?_
      refine next7 (k + 1) qs v1 en1 (ps ++ [c17.to]) v48 en49 (upd_intro (upd_intro (upd_intro (mask_intro (by first | exact off_refl | (repeat (first | exact off_mask | refine off_upd rfl ?_ | refine off_mask2 rfl ?_)))) rfl) rfl) rfl) (lupd_intro (lupd_intro (lmask_intro (by first | exact offl_refl | (repeat (first | exact offl_mask | refine offl_upd rfl ?_ | refine offl_mask2 rfl ?_)))) rfl) rfl) (hl14.trans hl34) ?_ ?_
      · refine ⟨by omega, ?_, ho1, hw1, ho51, (wf_push hw2 (by show List.length c17.to ≤ 9223372036854775807; first | omega | (simp; omega) | (simp; done))), ?_, ?_⟩
        · rw [hk2, dropE hc18]
          conv => lhs; unfold leadGo
          (repeat (first | rw [if_pos (by omega)] | rw [if_pos (by assumption)] | rw [if_pos (And.intro (by assumption) (by assumption))] | rw [if_pos (Or.inl (by assumption))] | rw [if_pos (Or.inr (by assumption))] | rw [if_neg (by omega)] | rw [if_neg (by assumption)] | rw [if_neg (not_not_intro (by assumption))] | rw [if_neg (nbt (by assumption))] | rw [if_neg (nbf (by assumption))] | rw [if_neg (nand_l (by assumption))] | rw [if_neg (nand_r (by assumption))] | rw [if_neg (nand_l (nbt (by assumption)))] | rw [if_neg (nand_r (nbt (by assumption)))] | rw [if_neg (nor_ (not_not_intro (by assumption)) (nbf (by assumption)))]))
          all_goals first | done | rfl | (unfold putS; (repeat (first | rw [if_pos (by omega)] | rw [if_pos (by assumption)] | rw [if_pos (And.intro (by assumption) (by assumption))] | rw [if_pos (Or.inl (by assumption))] | rw [if_pos (Or.inr (by assumption))] | rw [if_neg (by omega)] | rw [if_neg (by assumption)] | rw [if_neg (not_not_intro (by assumption))] | rw [if_neg (nbt (by assumption))] | rw [if_neg (nbf (by assumption))] | rw [if_neg (nand_l (by assumption))] | rw [if_neg (nand_r (by assumption))] | rw [if_neg (nand_l (nbt (by assumption)))] | rw [if_neg (nand_r (nbt (by assumption)))] | rw [if_neg (nor_ (not_not_intro (by assumption)) (nbf (by assumption)))])); first | done | rfl)
        · have := putS_len qs c17.to; simp at *; omega
        have := putS_len ps c17.to; simp at *; omega
      omega
    refine cw_region ?_
    refine ol rfl (lo_move rfl) ?_
    refine ol rfl (lo_fieldAddr rfl fl34_1) ?_
    refine ol rfl (lo_load1 (i := 2) (v := str _) rfl ag9 rfl rfl) ?_
    refine ow1 (op1_in (en_f cb55 rfl) Tryd.func55 rfl Tryd.ntmps55 rfl rfl ?_)
    refine cw_seq ?_
    refine cw_region ?_
    refine ol rfl (lo_assign (v := .slice _ _ _) rfl) ?_
    refine ow_nil ?_
    refine seqK_n ?_
    refine cw_seq ?_
    refine cw_seq ?_
    refine cw_region ?_
    refine ol rfl (lo_move rfl) ?_
    refine ol rfl (lo_move (v := str _) rfl) ?_
    obtain ⟨a52, c53, rfl⟩ := own_shape ho1
    refine ow1 (op1_prl 40 rfl (fun _ hl54 hg55 => (contains_Str _ a52 qs.length c53 qs (slh_own (enc := (fun s => [str s])) (wf := (fun s => s.length ≤ 9223372036854775807)) (fun _ => rfl) ho1 hw1 hg55) c17.to (by first | omega | (simp <;> omega)))) (en_f cb71 rfl) rfl ?_)
    refine ow_nil ?_
    refine seqK_n ?_
    refine cw_cond rfl (fun h56 => ?_) (fun h56 => ?_)
    · have p57 := dt h56
      refine cw_seq ?_
      refine cw_region ?_
      refine ol rfl (lo_move rfl) ?_
      refine ol rfl (lo_assign rfl) ?_
      refine ow_nil ?_
      refine seqK_n ?_
      refine cw_ret ?_
      refine seqK_r ?_
      refine fnK_r (res1 rfl (rv_t rfl)) (.refl _) ?_
      refine ol rfl (lo_assign rfl) ?_
      refine ow_nil ?_
      refine blkK_n ?_
      refine blkK_n ?_
      refine seqK_n ?_
      refine cw_region ?_
      refine ol rfl (lo_add rfl rfl (rg_i64 (by omega))) ?_
      refine ol rfl (lo_move (v := .int _ _) rfl) ?_
      refine ow_nil ?_
      refine next7 (k + 1) qs (.slice a52 qs.length c53) en1 ps v2 en2 (upd_intro (upd_intro (upd_intro (mask_intro (by first | exact off_refl | (repeat (first | exact off_mask | refine off_upd rfl ?_ | refine off_mask2 rfl ?_)))) rfl) rfl) rfl) (lupd_intro (lupd_intro (lmask_intro (by first | exact offl_refl | (repeat (first | exact offl_mask | refine offl_upd rfl ?_ | refine offl_mask2 rfl ?_)))) rfl) rfl) (hl14.trans hl34) ?_ ?_
      · refine ⟨by omega, ?_, ho1, hw1, ho2, hw2, ?_, ?_⟩
        · rw [hk2, dropE hc18]
          conv => lhs; unfold leadGo
          (repeat (first | rw [if_pos (by omega)] | rw [if_pos (by assumption)] | rw [if_pos (And.intro (by assumption) (by assumption))] | rw [if_pos (Or.inl (by assumption))] | rw [if_pos (Or.inr (by assumption))] | rw [if_neg (by omega)] | rw [if_neg (by assumption)] | rw [if_neg (not_not_intro (by assumption))] | rw [if_neg (nbt (by assumption))] | rw [if_neg (nbf (by assumption))] | rw [if_neg (nand_l (by assumption))] | rw [if_neg (nand_r (by assumption))] | rw [if_neg (nand_l (nbt (by assumption)))] | rw [if_neg (nand_r (nbt (by assumption)))] | rw [if_neg (nor_ (not_not_intro (by assumption)) (nbf (by assumption)))]))
          all_goals first | done | rfl | (unfold putS; (repeat (first | rw [if_pos (by omega)] | rw [if_pos (by assumption)] | rw [if_pos (And.intro (by assumption) (by assumption))] | rw [if_pos (Or.inl (by assumption))] | rw [if_pos (Or.inr (by assumption))] | rw [if_neg (by omega)] | rw [if_neg (by assumption)] | rw [if_neg (not_not_intro (by assumption))] | rw [if_neg (nbt (by assumption))] | rw [if_neg (nbf (by assumption))] | rw [if_neg (nand_l (by assumption))] | rw [if_neg (nand_r (by assumption))] | rw [if_neg (nand_l (nbt (by assumption)))] | rw [if_neg (nand_r (nbt (by assumption)))] | rw [if_neg (nor_ (not_not_intro (by assumption)) (nbf (by assumption)))])); first | done | rfl)
        · have := putS_len qs c17.to; simp at *; omega
        have := putS_len ps c17.to; simp at *; omega
      omega
    have p58 := df h56
    refine cw_skip ?_
    refine seqK_n ?_
    refine cw_seq ?_
    refine cw_region ?_
    refine ol rfl (lo_move rfl) ?_
    refine ol rfl (lo_move (v := str _) rfl) ?_
    refine ow1 (op1_bslice (cs := [_]) 3 rfl Tryd.underlying72 sz9 zx9 rfl ⟨rfl, rfl, trivial⟩ rfl rfl (by decide) (fun b59 => ?_))
    refine ow1 (op1_app 40 rfl rfl Tryd.underlying72 Tryd.underlying72 rfl sz9 by9 (by decide) zr9 ho1 (src_bx (i := 3) rfl rfl) (List.all_eq_true.1 rfl) rfl (by omega) rfl (fun v60 en61 ho62 => ?_))
    have ho63 := own_push (enc := (fun s => [str s])) qs c17.to ho62 rfl
    refine ol rfl (lo_assign rfl) ?_
    refine ow_nil ?_
    refine seqK_n ?_
    refine cw_ret ?_
    refine fnK_r (res1 rfl (rv_t rfl)) (.refl _) ?_
    refine ol rfl (lo_assign rfl) ?_
    refine ow_nil ?_
    refine blkK_n ?_
    refine blkK_n ?_
    refine seqK_n ?_
    refine cw_region ?_
    refine ol rfl (lo_add rfl rfl (rg_i64 (by omega))) ?_
    refine ol rfl (lo_move (v := .int _ _) rfl) ?_
    refine ow_nil ?_
    refine next7 (k + 1) (qs ++ [c17.to]) v60 en61 ps v2 en2 (upd_intro (upd_intro (upd_intro (mask_intro (by first | exact off_refl | (repeat (first | exact off_mask | refine off_upd rfl ?_ | refine off_mask2 rfl ?_)))) rfl) rfl) rfl) (lupd_intro (lupd_intro (lmask_intro (by first | exact offl_refl | (repeat (first | exact offl_mask | refine offl_upd rfl ?_ | refine offl_mask2 rfl ?_)))) rfl) rfl) (hl14.trans hl34) ?_ ?_
    · refine ⟨by omega, ?_, ho63, (wf_push hw1 (by show List.length c17.to ≤ 9223372036854775807; first | omega | (simp; omega) | (simp; done))), ho2, hw2, ?_, ?_⟩
      · rw [hk2, dropE hc18]
        conv => lhs; unfold leadGo
        (repeat (first | rw [if_pos (by omega)] | rw [if_pos (by assumption)] | rw [if_pos (And.intro (by assumption) (by assumption))] | rw [if_pos (Or.inl (by assumption))] | rw [if_pos (Or.inr (by assumption))] | rw [if_neg (by omega)] | rw [if_neg (by assumption)] | rw [if_neg (not_not_intro (by assumption))] | rw [if_neg (nbt (by assumption))] | rw [if_neg (nbf (by assumption))] | rw [if_neg (nand_l (by assumption))] | rw [if_neg (nand_r (by assumption))] | rw [if_neg (nand_l (nbt (by assumption)))] | rw [if_neg (nand_r (nbt (by assumption)))] | rw [if_neg (nor_ (not_not_intro (by assumption)) (nbf (by assumption)))]))
        all_goals first | done | rfl | (unfold putS; (repeat (first | rw [if_pos (by omega)] | rw [if_pos (by assumption)] | rw [if_pos (And.intro (by assumption) (by assumption))] | rw [if_pos (Or.inl (by assumption))] | rw [if_pos (Or.inr (by assumption))] | rw [if_neg (by omega)] | rw [if_neg (by assumption)] | rw [if_neg (not_not_intro (by assumption))] | rw [if_neg (nbt (by assumption))] | rw [if_neg (nbf (by assumption))] | rw [if_neg (nand_l (by assumption))] | rw [if_neg (nand_r (by assumption))] | rw [if_neg (nand_l (nbt (by assumption)))] | rw [if_neg (nand_r (nbt (by assumption)))] | rw [if_neg (nor_ (not_not_intro (by assumption)) (nbf (by assumption)))])); first | done | rfl)
      · have := putS_len qs c17.to; simp at *; omega
      have := putS_len ps c17.to; simp at *; omega
    omega
  have p64 := df h15
  refine cw_exit ?_
  refine seqK_e ?_
  refine loopK_e ?_
  refine blkK_hit ?_
  refine seqK_n ?_
  refine cw_seq ?_
  refine cw_region ?_
  refine ol rfl (lo_move rfl) ?_
  refine ol rfl (lo_move rfl) ?_
  refine ol rfl (lo_assign rfl) ?_
  refine ol rfl (lo_assign rfl) ?_
  refine ol rfl (lo_assign (v := .int _ _) rfl) ?_
  refine ow_nil ?_
  refine seqK_n ?_
  refine cw_giveO 40 rfl (fun _ hl65 hg66 => ?_)
  have hs67 := slh_own (enc := (fun s => [str s])) (wf := (fun s => s.length ≤ 9223372036854775807)) (fun _ => rfl) ho1 hw1 hg66
  obtain ⟨⟨a68, c69, rfl, -⟩, -⟩ := id hs67
  refine cw_giveO 41 rfl (fun _ hl70 hg71 => ?_)
  have hs72 := slh_own (enc := (fun s => [str s])) (wf := (fun s => s.length ≤ 9223372036854775807)) (fun _ => rfl) ho2 hw2 hg71
  obtain ⟨⟨a73, c74, rfl, -⟩, -⟩ := id hs72
  refine cw_ret ?_
  refine scK_r ?_
  refine fnK_r (res3 rfl (rv_t (v := .slice _ _ _) rfl) (rv_t (v := .slice _ _ _) rfl) (rv_t (v := .int _ _) rfl)) ((((HLe.refl _).trans hl14).trans hl65).trans hl70) ?_
  have e : leadS b shop key h = (qs, ps, 0) := by
    unfold leadS
    rw [if_neg (nbf (by assumption)), if_neg (by assumption), hk2, List.drop_of_length_le (by omega)]
    rfl
  rw [e]
  exact ⟨_, _, _, _, rfl, (hs67.mono ((HLe.refl _).trans hl70) (fun _ _ h => h)), hs72⟩
end Go.SW
set_option linter.unusedVariables false
set_option maxRecDepth 100000
set_option maxHeartbeats 4000000
namespace Go.SW
open Go.Proofs
theorem bd29_0s_1u8 (a1 : Bs) (a2 : Int) (w : World) : (Instr.build 29 #[(0, str a1), (1, .int .u8 a2)]).run Tryd.prog w = .ok (.agg #[str a1, .int .u8 a2, str []]) w := by kernel_rfl
theorem bd34_0s_1s (a1 : Bs) (a2 : Bs) (w : World) : (Instr.build 34 #[(0, str a1), (1, str a2)]).run Tryd.prog w = .ok (.agg #[str a1, str a2, .bool false, str [], .slice none 0 0, .bool false]) w := by kernel_rfl
theorem bd34_0s_1s_3s (a1 : Bs) (a2 : Bs) (a3 : Bs) (w : World) : (Instr.build 34 #[(0, str a1), (1, str a2), (3, str a3)]).run Tryd.prog w = .ok (.agg #[str a1, str a2, .bool false, str a3, .slice none 0 0, .bool false]) w := by kernel_rfl
theorem bd68  (w : World) : (Instr.build 68 #[]).run Tryd.prog w = .ok (.agg #[.slice none 0 0, .slice none 0 0]) w := by kernel_rfl
theorem cb21 : Callable Tryd.prog 21 := callable_of Tryd.func21 (by kernel_rfl) (by kernel_rfl)
theorem cb33 : Callable Tryd.prog 33 := callable_of Tryd.func33 (by kernel_rfl) (by kernel_rfl)
theorem cb34 : Callable Tryd.prog 34 := callable_of Tryd.func34 (by kernel_rfl) (by kernel_rfl)
theorem cb35 : Callable Tryd.prog 35 := callable_of Tryd.func35 (by kernel_rfl) (by kernel_rfl)
theorem cb37 : Callable Tryd.prog 37 := callable_of Tryd.func37 (by kernel_rfl) (by kernel_rfl)
theorem cb38 : Callable Tryd.prog 38 := callable_of Tryd.func38 (by kernel_rfl) (by kernel_rfl)
theorem l14_awake (H : Hp)  (hML : GInt H 0) : Pr Tryd.prog 21 #[] H (.bool true) := by
  refine pr_cw Tryd.func21 rfl Tryd.ntmps21 rfl (fun N => ?_)
  refine cw_seq ?_
  refine cw_region ?_
  refine ol rfl (lo_assign (v := .bool _) rfl) ?_
  refine ow_nil ?_
  refine seqK_n ?_
  refine cw_seq ?_
  refine cw_region ?_
  refine ol rfl (lo_build (v := .agg #[_, _]) rfl (bd68)) ?_
  refine ol rfl (lo_build (v := .agg #[_, _, _]) rfl (bd29_0s_1u8 _ _)) ?_
  refine ow1 (op1_ph (book_Make _ (⟨[], []⟩ : BookR) none 0 slh_nil none 0 slh_nil (by simp only [BookR.wf]; first | omega | (simp; done) | (simp; omega)) (⟨[97], 1, []⟩ : ShopR) (by simp only [ShopR.wf]; first | omega | (simp; done) | (simp; omega))) (en_f cb33 rfl) rfl ?_)
  rintro _ H8 ⟨a1, c2, a4, c5, rfl, hs3, hs6⟩ hl7
  refine ol rfl (lo_move (v := .tuple #[_, _]) rfl) ?_
  refine ol rfl (lo_extract (v := .agg #[_, _]) rfl rfl) ?_
  refine ol rfl (lo_extract (v := .int _ _) rfl rfl) ?_
  refine ow1 (op1_alloc 0 rfl zr68 (fun b9 => ?_))
  refine ow1 (op1_storeAll (i := 0) (vs := [_, _]) rfl rfl rfl sz68 rfl rfl rfl ?_)
  refine ol rfl (lo_assign (v := .int _ _) rfl) ?_
  refine ow_nil ?_
  refine seqK_n ?_
  refine cw_seq ?_
  refine cw_region ?_
  refine ol rfl (lo_loadA (i := 0) (vs := [_, _]) rfl ag68 sz68 rfl rfl rfl) ?_
  refine ol rfl (lo_build (v := .agg #[_, _, _, _, _, _]) rfl (bd34_0s_1s _ _)) ?_
  refine ow1 (op1_ph (book_Bind _ ((makeS (⟨[], []⟩ : BookR) (⟨[97], 1, []⟩ : ShopR)).1) a1 c2 hs3 a4 c5 hs6 (makeS_wf (by simp only [BookR.wf]; first | omega | (simp; done) | (simp; omega))) (⟨[97], [113], false, [], [], false⟩ : BindR) none 0 slh_nil (by simp only [BindR.wf]; first | omega | (simp; done) | (simp; omega)) (hML.mono ((HLe.refl _).trans hl7)) (by first | omega | (simp; done) | decide)) (en_f cb34 rfl) rfl ?_)
  rintro _ H17 ⟨a10, c11, a13, c14, rfl, hs12, hs15⟩ hl16
  refine ol rfl (lo_move (v := .tuple #[_, _]) rfl) ?_
  refine ol rfl (lo_extract (v := .agg #[_, _]) rfl rfl) ?_
  refine ol rfl (lo_extract (v := .int _ _) rfl rfl) ?_
  refine ow1 (op1_storeAll (i := 0) (vs := [_, _]) rfl rfl rfl sz68 rfl rfl rfl ?_)
  refine ow_nil ?_
  refine seqK_n ?_
  refine cw_seq ?_
  refine cw_region ?_
  refine ol rfl (lo_loadA (i := 0) (vs := [_, _]) rfl ag68 sz68 rfl rfl rfl) ?_
  refine ol rfl (lo_build (v := .agg #[_, _, _, _, _, _]) rfl (bd34_0s_1s_3s _ _ _)) ?_
  refine ow1 (op1_ph (book_Bind _ ((bindS ((makeS (⟨[], []⟩ : BookR) (⟨[97], 1, []⟩ : ShopR)).1) (⟨[97], [113], false, [], [], false⟩ : BindR)).1) a10 c11 hs12 a13 c14 hs15 (bindS_wf (makeS_wf (by simp only [BookR.wf]; first | omega | (simp; done) | (simp; omega)))) (⟨[97], [113], false, [120], [], false⟩ : BindR) none 0 slh_nil (by simp only [BindR.wf]; first | omega | (simp; done) | (simp; omega)) (hML.mono (((HLe.refl _).trans hl7).trans hl16)) (by first | omega | (simp; done) | decide)) (en_f cb34 rfl) rfl ?_)
  rintro _ H25 ⟨a18, c19, a21, c22, rfl, hs20, hs23⟩ hl24
  refine ol rfl (lo_move (v := .tuple #[_, _]) rfl) ?_
  refine ol rfl (lo_extract (v := .agg #[_, _]) rfl rfl) ?_
  refine ol rfl (lo_extract (v := .int _ _) rfl rfl) ?_
  refine ow1 (op1_storeAll (i := 0) (vs := [_, _]) rfl rfl rfl sz68 rfl rfl rfl ?_)
  refine ol rfl (lo_assign (v := .int _ _) rfl) ?_
  refine ow_nil ?_
  refine seqK_n ?_
  refine cw_seq ?_
  refine cw_region ?_
  refine ol rfl (lo_loadA (i := 0) (vs := [_, _]) rfl ag68 sz68 rfl rfl rfl) ?_
  refine ow1 (op1_ph (book_Leads _ ((bindS ((bindS ((makeS (⟨[], []⟩ : BookR) (⟨[97], 1, []⟩ : ShopR)).1) (⟨[97], [113], false, [], [], false⟩ : BindR)).1) (⟨[97], [113], false, [120], [], false⟩ : BindR)).1) a18 c19 hs20 a21 c22 hs23 (bindS_wf (bindS_wf (makeS_wf (by simp only [BookR.wf]; first | omega | (simp; done) | (simp; omega))))) [97] [] none 0 0 [] slh_nil (hML.mono ((((HLe.refl _).trans hl7).trans hl16).trans hl24)) (by first | omega | (simp; done) | decide) (by first | assumption | decide +kernel) (by first | omega | (simp; done) | decide) (by first | omega | (simp; done) | decide)) (en_f cb35 rfl) rfl ?_)
  rintro _ H33 ⟨a26, c27, a29, c30, rfl, hs28, hs31⟩ hl32
  refine ol rfl (lo_move (v := .tuple #[_, _, _]) rfl) ?_
  refine ol rfl (lo_extract (v := .slice _ _ _) rfl rfl) ?_
  refine ol rfl (lo_extract (v := .slice _ _ _) rfl rfl) ?_
  refine ol rfl (lo_extract (v := .int _ _) rfl rfl) ?_
  refine ol rfl (lo_assign (v := .slice _ _ _) rfl) ?_
  refine ol rfl (lo_assign (v := .slice _ _ _) rfl) ?_
  refine ol rfl (lo_assign (v := .int _ _) rfl) ?_
  refine ow_nil ?_
  refine seqK_n ?_
  refine cw_seq ?_
  refine cw_region ?_
  refine ow1 (op1_pr (l04_Awake _ (hML.mono (((((HLe.refl _).trans hl7).trans hl16).trans hl24).trans hl32))) (en_f cb36 rfl) rfl ?_)
  refine ol rfl (lo_move (v := .bool _) rfl) ?_
  refine ow1 (op1_prg rfl rfl (l10_Awake _ (hML.mono (((((HLe.refl _).trans hl7).trans hl16).trans hl24).trans hl32))) (en_f cb37 rfl) rfl ?_)
  refine ol rfl (lo_pick_t (v := .bool _) rfl rfl rfl) ?_
  refine ol rfl (lo_move (v := .bool _) rfl) ?_
  refine ow1 (op1_g rfl rfl rfl (lo_move (v := .int _ _) rfl) ?_)
  refine ow1 (op1_g rfl rfl rfl (lo_eql rfl rfl) ?_)
  refine ol rfl (lo_pick_t (v := .bool _) rfl rfl rfl) ?_
  refine ol rfl (lo_move (v := .bool _) rfl) ?_
  refine ow1 (op1_g rfl (by decide +kernel) rfl (lo_move (v := .int _ _) rfl) ?_)
  refine ow1 (op1_g rfl (by decide +kernel) rfl (lo_eql rfl rfl) ?_)
  refine ol rfl (lo_pick_t (v := .bool _) rfl (by decide +kernel) rfl) ?_
  refine ol rfl (lo_move (v := .bool _) rfl) ?_
  refine ow1 (op1_g rfl (by decide +kernel) rfl (lo_move (v := .slice _ _ _) rfl) ?_)
  refine ow1 (op1_gd rfl (by decide +kernel) (op1_bslice (cs := [_]) 1 rfl Tryd.underlying72 sz9 zx9 rfl ⟨rfl, rfl, trivial⟩ rfl rfl (by decide) (fun b34 => ?_)))
  refine ow_giveO 1 rfl (fun _ hl35 hg36 => ?_)
  have hs37 := slh_bx (k := 1) (H := _) (enc := (fun s => [str s])) (wf := (fun s => s.length ≤ 9223372036854775807)) [[113]] (fun _ => rfl) (hg36 _ _ rfl) rfl rfl (Nat.le_refl _) (by first | (intro x hx; simp at hx; subst hx; first | omega | (simp; done) | (simp; omega)) | (simp; done) | (simp; omega))
  refine ow1 (op1_prg rfl (by decide +kernel) (eq_Str _ a26 (((leadS ((bindS ((bindS ((makeS (⟨[], []⟩ : BookR) (⟨[97], 1, []⟩ : ShopR)).1) (⟨[97], [113], false, [], [], false⟩ : BindR)).1) (⟨[97], [113], false, [120], [], false⟩ : BindR)).1) [97] [] []).1).length) c27 ((leadS ((bindS ((bindS ((makeS (⟨[], []⟩ : BookR) (⟨[97], 1, []⟩ : ShopR)).1) (⟨[97], [113], false, [], [], false⟩ : BindR)).1) (⟨[97], [113], false, [120], [], false⟩ : BindR)).1) [97] [] []).1) (hs28.mono ((HLe.refl _).trans hl35) (fun _ _ h => h)) (some ⟨b34, 0, none⟩) 1 1 [[113]] hs37 (by decide +kernel)) (en_f cb38 rfl) rfl ?_)
  refine ol rfl (lo_pick_t (v := .bool _) rfl (by decide +kernel) rfl) ?_
  refine ol rfl (lo_move (v := .bool _) rfl) ?_
  refine ow1 (op1_g rfl (by decide +kernel) rfl (lo_move (v := .slice _ _ _) rfl) ?_)
  refine ow1 (op1_g rfl (by decide +kernel) rfl (lo_len_slh rfl (hs31.mono ((HLe.refl _).trans hl35) (fun _ _ h => h)) Tryd.underlying72) ?_)
  refine ow1 (op1_g rfl (by decide +kernel) rfl (lo_eql rfl rfl) ?_)
  refine ol rfl (lo_pick_t (v := .bool _) rfl (by decide +kernel) rfl) ?_
  refine ol rfl (lo_assign (v := .bool _) rfl) ?_
  refine ow_nil ?_
  refine seqK_n ?_
  refine cw_ret ?_
  refine fnK_r (res1 rfl (rv_t (v := .bool _) rfl)) ((((((HLe.refl _).trans hl7).trans hl16).trans hl24).trans hl32).trans hl35) ?_
  exact congrArg Value.bool (by decide +kernel)
theorem l14_Awake (H : Hp)  (hML : GInt H 0) : Pr Tryd.prog 11 #[] H (.bool true) := by
  refine pr_cw Tryd.func11 rfl Tryd.ntmps11 rfl (fun N => ?_)
  refine cw_seq ?_
  refine cw_region ?_
  refine ol rfl (lo_assign (v := .bool _) rfl) ?_
  refine ow_nil ?_
  refine seqK_n ?_
  refine cw_seq ?_
  refine cw_region ?_
  refine ow1 (op1_pr (l14_awake _ hML) (en_f cb21 rfl) rfl ?_)
  refine ol rfl (lo_assign (v := .bool _) rfl) ?_
  refine ow_nil ?_
  refine seqK_n ?_
  refine cw_ret ?_
  refine fnK_r (res1 rfl (rv_t (v := .bool _) rfl)) (.refl _) ?_
  rfl
end Go.SW
set_option linter.unusedVariables false
set_option maxRecDepth 100000
set_option maxHeartbeats 4000000
namespace Go.SW
open Go.Proofs
theorem cb10 : Callable Tryd.prog 10 := callable_of Tryd.func10 (by kernel_rfl) (by kernel_rfl)
theorem cb11 : Callable Tryd.prog 11 := callable_of Tryd.func11 (by kernel_rfl) (by kernel_rfl)
theorem cb8 : Callable Tryd.prog 8 := callable_of Tryd.func8 (by kernel_rfl) (by kernel_rfl)
theorem cb9 : Callable Tryd.prog 9 := callable_of Tryd.func9 (by kernel_rfl) (by kernel_rfl)
theorem l22_awake (H : Hp)  (hML : GInt H 0) : Pr Tryd.prog 8 #[] H (.bool true) := by
  refine pr_cw Tryd.func8 rfl Tryd.ntmps8 rfl (fun N => ?_)
  refine cw_seq ?_
  refine cw_region ?_
  refine ol rfl (lo_assign (v := .bool _) rfl) ?_
  refine ow_nil ?_
  refine seqK_n ?_
  refine cw_seq ?_
  refine cw_region ?_
  refine ol rfl (lo_build (v := .agg #[_, _, _, _, _, _, _, _, _, _, _, _, _, _, _, _, _, _, _, _, _, _, _, _, _, _, _, _, _]) rfl (bd38_0u8_1u64 _ _)) ?_
  refine ow1 (op1_pr (deed_Bytes _ (⟨11, 1, (⟨[], 0, []⟩ : ShopR), (⟨[], 0, 0, []⟩ : QueueR), (⟨[], [], false, [], [], false⟩ : BindR), [], 0, 0, 0, 0, 0, (⟨0, [], [], [], [], 0, 0⟩ : Mail), []⟩ : DeedR) none 0 slh_nil none 0 slh_nil (by simp only [DeedR.wf, ShopR.wf, QueueR.wf, BindR.wf, Mail.wf]; first | omega | (simp; done) | (simp; omega)) hML) (en_f cb9 rfl) rfl ?_)
  have := deedBytes_len (d := (⟨11, 1, (⟨[], 0, []⟩ : ShopR), (⟨[], 0, 0, []⟩ : QueueR), (⟨[], [], false, [], [], false⟩ : BindR), [], 0, 0, 0, 0, 0, (⟨0, [], [], [], [], 0, 0⟩ : Mail), []⟩ : DeedR)) (by first | omega | decide)
  have := deedE_r (⟨11, 1, (⟨[], 0, []⟩ : ShopR), (⟨[], 0, 0, []⟩ : QueueR), (⟨[], [], false, [], [], false⟩ : BindR), [], 0, 0, 0, 0, 0, (⟨0, [], [], [], [], 0, 0⟩ : Mail), []⟩ : DeedR)
  refine ol rfl (lo_move (v := .tuple #[_, _]) rfl) ?_
  refine ol rfl (lo_extract (v := str _) rfl rfl) ?_
  refine ol rfl (lo_extract (v := .int _ _) rfl rfl) ?_
  refine ol rfl (lo_assign (v := str _) rfl) ?_
  refine ol rfl (lo_assign (v := .int _ _) rfl) ?_
  refine ow_nil ?_
  refine seqK_n ?_
  refine cw_seq ?_
  refine cw_region ?_
  refine ow1 (op1_pr (l13_Awake _ hML) (en_f cb10 rfl) rfl ?_)
  refine ol rfl (lo_move (v := .bool _) rfl) ?_
  refine ow1 (op1_prg rfl rfl (l14_Awake _ hML) (en_f cb11 rfl) rfl ?_)
  refine ol rfl (lo_pick_t (v := .bool _) rfl rfl rfl) ?_
  refine ol rfl (lo_move (v := .bool _) rfl) ?_
  refine ow1 (op1_g rfl rfl rfl (lo_move (v := .int _ _) rfl) ?_)
  refine ow1 (op1_g rfl rfl rfl (lo_eql rfl rfl) ?_)
  refine ol rfl (lo_pick_t (v := .bool _) rfl rfl rfl) ?_
  refine ol rfl (lo_move (v := .bool _) rfl) ?_
  refine ow1 (op1_g rfl (by decide +kernel) rfl (lo_move (v := str _) rfl) ?_)
  refine ow1 (op1_g rfl (by decide +kernel) rfl (lo_len_str rfl Tryd.underlying9) ?_)
  refine ow1 (op1_g rfl (by decide +kernel) rfl (lo_eql rfl rfl) ?_)
  refine ol rfl (lo_pick_t (v := .bool _) rfl (by decide +kernel) rfl) ?_
  refine ol rfl (lo_assign (v := .bool _) rfl) ?_
  refine ow_nil ?_
  refine seqK_n ?_
  refine cw_ret ?_
  refine fnK_r (res1 rfl (rv_t (v := .bool _) rfl)) (.refl _) ?_
  exact congrArg Value.bool (by decide +kernel)
theorem l22_Awake (H : Hp)  (hML : GInt H 0) : Pr Tryd.prog 7 #[] H (.bool true) := by
  refine pr_cw Tryd.func7 rfl Tryd.ntmps7 rfl (fun N => ?_)
  refine cw_seq ?_
  refine cw_region ?_
  refine ol rfl (lo_assign (v := .bool _) rfl) ?_
  refine ow_nil ?_
  refine seqK_n ?_
  refine cw_seq ?_
  refine cw_region ?_
  refine ow1 (op1_pr (l22_awake _ hML) (en_f cb8 rfl) rfl ?_)
  refine ol rfl (lo_assign (v := .bool _) rfl) ?_
  refine ow_nil ?_
  refine seqK_n ?_
  refine cw_ret ?_
  refine fnK_r (res1 rfl (rv_t (v := .bool _) rfl)) (.refl _) ?_
  rfl
end Go.SW
set_option linter.unusedVariables false
set_option maxRecDepth 100000
set_option maxHeartbeats 4000000
namespace Go.SW
open Go.Proofs
theorem cb5 : Callable Tryd.prog 5 := callable_of Tryd.func5 (by kernel_rfl) (by kernel_rfl)
theorem cb7 : Callable Tryd.prog 7 := callable_of Tryd.func7 (by kernel_rfl) (by kernel_rfl)
theorem l26_awake (H : Hp)  (hML : GInt H 0) : Pr Tryd.prog 4 #[] H (.bool true) := by
  refine pr_cw Tryd.func4 rfl Tryd.ntmps4 rfl (fun N => ?_)
  refine cw_seq ?_
  refine cw_region ?_
  refine ol rfl (lo_assign (v := .bool _) rfl) ?_
  refine ow_nil ?_
  refine seqK_n ?_
  refine cw_seq ?_
  refine cw_region ?_
  refine ow1 (op1_pr (l22_Awake _ hML) (en_f cb7 rfl) rfl ?_)
  refine ol rfl (lo_move (v := .bool _) rfl) ?_
  refine ow1 (op1_prg rfl rfl (draft_Life _ 3 (by omega) 4 (by omega)) (en_f cb5 rfl) rfl ?_)
  refine ow1 (op1_g rfl rfl rfl (lo_eql rfl rfl) ?_)
  refine ol rfl (lo_pick_t (v := .bool _) rfl rfl rfl) ?_
  refine ol rfl (lo_move (v := .bool _) rfl) ?_
  refine ow1 (op1_prg rfl (by decide +kernel) (draft_Life _ 18446744073709551615 (by omega) 1 (by omega)) (en_f cb5 rfl) rfl ?_)
  refine ow1 (op1_g rfl (by decide +kernel) rfl (lo_eql rfl rfl) ?_)
  refine ol rfl (lo_pick_t (v := .bool _) rfl (by decide +kernel) rfl) ?_
  refine ol rfl (lo_assign (v := .bool _) rfl) ?_
  refine ow_nil ?_
  refine seqK_n ?_
  refine cw_ret ?_
  refine fnK_r (res1 rfl (rv_t (v := .bool _) rfl)) (.refl _) ?_
  exact congrArg Value.bool (by decide +kernel)
end Go.SW
