/-
  A part of the proof of ReplySame: The walks of this seat, printed by program: frame.Bytes. The walks of this seat, printed by program: reply.Reply.Frame. The walks of this seat, printed by program: frame.Parse. The walks of this seat, printed by program: feed.Feed.Take. The walks of this seat, printed by program: feed.Feed.Rest, feed.Feed.Err, stairwelllaw01.awake, stairwelllaw01.Awake, stairwelllaw02.awake, stairwelllaw02.Awake, stairwelllaw07.awake, stairwelllaw07.Awake. The walks of this seat, printed by program: stairwelllaw08.awake, stairwelllaw08.Awake. The walks of this seat, printed by program: words.Matches, stairwelllaw04.awake, stairwelllaw04.Awake, stairwelllaw09.awake, stairwelllaw09.Awake, stairwelllaw12.awake, stairwelllaw12.Awake.
-/
import Derived.Test.YtfchllcmfnhlbaaDoorProg
import Derived.KernelRfl
import Derived.Test.YtfchllcmfnhlbaaDoorReplySameP2
import Derived.Test.YtfchllcmfnhlbaaDoorReplySameP1
set_option linter.unusedVariables false
set_option linter.unusedSimpArgs false

set_option linter.unusedVariables false
set_option maxRecDepth 100000
namespace Go.SW
open Go.Proofs
theorem cb107 : Callable Tryd.prog 107 := callable_of Tryd.func107 (by kernel_rfl) (by kernel_rfl)
theorem fl35_0 : Fld Tryd.prog 35 0 0 := fun b o w => by kernel_rfl
theorem fl35_1 : Fld Tryd.prog 35 1 1 := fun b o w => by kernel_rfl
theorem fl35_2 : Fld Tryd.prog 35 2 2 := fun b o w => by kernel_rfl
theorem zx9 : ∃ z, ∀ w, (zeroValue 9).run Tryd.prog w = .ok z w := ⟨str [], fun w => by kernel_rfl⟩

theorem frame_Bytes (H : Hp) (f : Frame) (f_w : Frame.wf f) (hCrc : GTab H 1 laidT) : Pr Tryd.prog 88 #[.agg (Frame.cells f).toArray] H (.tuple #[str (frameBytes f), .int .i64 (frameErr f)]) := by
  refine pr_cw Tryd.func88 rfl Tryd.ntmps88 rfl (fun N => ?_)
  have f_w' := f_w
  simp only [Frame.wf] at f_w'
  refine cw_seq ?_
  refine cw_region ?_
  refine ow1 (op1_box (cs := [_, _, _]) 0 rfl rfl (fun b1 => ?_))
  refine ow1 (op1_l rfl (lo_assign (v := str _) rfl) ?_)
  refine ow1 (op1_l rfl (lo_assign (v := .int _ _) rfl) ?_)
  refine ow_nil ?_
  refine seqK_n ?_
  refine cw_seq ?_
  refine cw_seq ?_
  refine cw_region ?_
  refine ow1 (op1_l rfl (lo_fieldAddr rfl fl35_2) ?_)
  refine ow1 (op1_l rfl (lo_load1 (i := 0) (v := str _) rfl ag9 rfl rfl) ?_)
  refine ow1 (op1_l rfl (lo_len_str rfl Tryd.underlying9) ?_)
  refine ow1 (op1_l rfl (lo_gtr rfl rfl) ?_)
  refine ow_nil ?_
  refine seqK_n ?_
  refine cw_cond rfl (fun h2 => ?_) (fun h2 => ?_)
  · have p3 := dt h2
    refine cw_seq ?_
    refine cw_region ?_
    refine ow1 (op1_l rfl (lo_assign (v := str _) rfl) ?_)
    refine ow1 (op1_l rfl (lo_assign (v := .int _ _) rfl) ?_)
    refine ow_nil ?_
    refine seqK_n ?_
    refine cw_ret ?_
    refine seqK_r ?_
    refine fnK_r (res2 rfl (rv_t (v := str _) rfl) (rv_t (v := .int _ _) rfl)) (.refl _) ?_
    simp [frameBytes, frameErr, frameOut, *]
  · have p4 := df h2
    refine cw_skip ?_
    refine seqK_n ?_
    refine cw_seq ?_
    refine cw_anyL mixd ?_
    refine vw_q 0 rfl (by kernel_rfl) (by repeat (first | exact lle_l0 | exact LLe.refl _ | exact lle_none | refine lle_up ?_ rfl)) (fun _ _ hh hl => lo_build (v := .agg #[_, _]) rfl (bd78)) ?_
    refine vw_q 1 rfl (by kernel_rfl) (by repeat (first | exact lle_l0 | exact LLe.refl _ | exact lle_none | refine lle_up ?_ rfl)) (fun _ _ hh hl => lo_fieldAddr rfl fl35_0) ?_
    refine vw_q 2 rfl (by kernel_rfl) (by repeat (first | exact lle_l0 | exact LLe.refl _ | exact lle_none | refine lle_up ?_ rfl)) (fun _ _ hh hl => lo_load1 (i := 0) (v := .int _ _) rfl ag5 (hl _ _ rfl) rfl) ?_
    refine vw_q 3 rfl (by kernel_rfl) (by repeat (first | exact lle_l0 | exact LLe.refl _ | exact lle_none | refine lle_up ?_ rfl)) (fun _ _ hh hl => lo_conv_in rfl (by rw [Tryd.underlying5]; rfl) Tryd.underlying22 (rg_u64 (by omega))) ?_
    have nl0 : (⟨[], 0⟩ : Out).s.length = 0 := rfl
    have := outNum_len (⟨[], 0⟩ : Out) f.channel 1
    refine vw_qc 4 rfl (by kernel_rfl) (by repeat (first | exact lle_l0 | exact LLe.refl _ | exact lle_none | refine lle_up ?_ rfl)) (out_Num _ (⟨[], 0⟩ : Out) f.channel (by omega) 1 (by omega) (by first | omega | (have := hrl (by assumption); omega) | (simp [outNum, outRaw, numB_len, numK] <;> omega) | (have := hrl (by assumption); simp [outNum, outRaw, numB_len, numK] <;> omega))) (en_f cb46 rfl) ?_
    refine vw_q 5 rfl (by kernel_rfl) (by repeat (first | exact lle_l0 | exact LLe.refl _ | exact lle_none | refine lle_up ?_ rfl)) (fun _ _ hh hl => lo_fieldAddr rfl fl35_1) ?_
    refine vw_q 6 rfl (by kernel_rfl) (by repeat (first | exact lle_l0 | exact LLe.refl _ | exact lle_none | refine lle_up ?_ rfl)) (fun _ _ hh hl => lo_load1 (i := 0) (v := .int _ _) rfl ag5 (hl _ _ rfl) rfl) ?_
    refine vw_q 7 rfl (by kernel_rfl) (by repeat (first | exact lle_l0 | exact LLe.refl _ | exact lle_none | refine lle_up ?_ rfl)) (fun _ _ hh hl => lo_conv_in rfl (by rw [Tryd.underlying5]; rfl) Tryd.underlying22 (rg_u64 (by omega))) ?_
    have := outNum_len (outNum (⟨[], 0⟩ : Out) f.channel 1) f.kind 1
    refine vw_qc 8 rfl (by kernel_rfl) (by repeat (first | exact lle_l0 | exact LLe.refl _ | exact lle_none | refine lle_up ?_ rfl)) (out_Num _ (outNum (⟨[], 0⟩ : Out) f.channel 1) f.kind (by omega) 1 (by omega) (by first | omega | (have := hrl (by assumption); omega) | (simp [outNum, outRaw, numB_len, numK] <;> omega) | (have := hrl (by assumption); simp [outNum, outRaw, numB_len, numK] <;> omega))) (en_f cb46 rfl) ?_
    refine vw_q 9 rfl (by kernel_rfl) (by repeat (first | exact lle_l0 | exact LLe.refl _ | exact lle_none | refine lle_up ?_ rfl)) (fun _ _ hh hl => lo_fieldAddr rfl fl35_2) ?_
    refine vw_q 10 rfl (by kernel_rfl) (by repeat (first | exact lle_l0 | exact LLe.refl _ | exact lle_none | refine lle_up ?_ rfl)) (fun _ _ hh hl => lo_load1 (i := 0) (v := str _) rfl ag9 (hl _ _ rfl) rfl) ?_
    have := outText_len (outNum (outNum (⟨[], 0⟩ : Out) f.channel 1) f.kind 1) f.body
    refine vw_qc 11 rfl (by kernel_rfl) (by repeat (first | exact lle_l0 | exact LLe.refl _ | exact lle_none | refine lle_up ?_ rfl)) (out_Text _ (outNum (outNum (⟨[], 0⟩ : Out) f.channel 1) f.kind 1) f.body (by first | omega | (have := hrl (by assumption); omega) | (simp [outNum, outRaw, numB_len, numK] <;> omega) | (have := hrl (by assumption); simp [outNum, outRaw, numB_len, numK] <;> omega))) (en_f cb45 rfl) ?_
    refine vw_e 12 rfl (by kernel_rfl) (op1_alloc 1 rfl zr78 (fun b5 => ?_))
    refine ⟨⟨(.refl _), (by repeat (first | exact lle_l0 | exact LLe.refl _ | exact lle_none | refine lle_up ?_ rfl))⟩, ?_⟩
    refine vw_t 13 rfl (by kernel_rfl) (by kernel_rfl) (op1_storeA (i := 1) (vs := [_, _]) rfl rfl rfl sz78 rfl rfl rfl ?_)
    refine vw_done (by kernel_rfl) ?_
    refine seqK_n ?_
    refine cw_seq ?_
    refine cw_anyL mixd ?_
    refine vw_q 0 rfl (by kernel_rfl) (by repeat (first | exact lle_l0 | exact LLe.refl _ | exact lle_none | refine lle_up ?_ rfl)) (fun _ _ hh hl => lo_loadA (i := 1) (vs := [_, _]) rfl ag78 sz78 (hl _ _ rfl) rfl rfl) ?_
    refine vw_q 1 rfl (by kernel_rfl) (by repeat (first | exact lle_l0 | exact LLe.refl _ | exact lle_none | refine lle_up ?_ rfl)) (fun _ _ hh hl => lo_loadA (i := 1) (vs := [_, _]) rfl ag78 sz78 (hl _ _ rfl) rfl rfl) ?_
    refine vw_qc 2 rfl (by kernel_rfl) (by repeat (first | exact lle_l0 | exact LLe.refl _ | exact lle_none | refine lle_up ?_ rfl)) (out_String _ (outText (outNum (outNum (⟨[], 0⟩ : Out) f.channel 1) f.kind 1) f.body)) (en_f cb49 rfl) ?_
    refine vw_e 3 rfl (by kernel_rfl) (op1_bslice (cs := [_]) 2 rfl Tryd.underlying108 sz9 zx9 rfl ⟨rfl, rfl, trivial⟩ rfl rfl (by decide) (fun b6 => ?_))
    refine ⟨⟨(.refl _), (by repeat (first | exact lle_l0 | exact LLe.refl _ | exact lle_none | refine lle_up ?_ rfl))⟩, ?_⟩
    refine vw_giveO 2 rfl (by repeat (first | exact lle_l0 | exact LLe.refl _ | exact lle_none | refine lle_up ?_ rfl)) (by kernel_rfl) (fun _ hl7 hg8 => ?_)
    have hs9 := slh_bx (H := _) (enc := (fun s => [str s])) (wf := (fun s => s.length ≤ 9223372036854775807)) [(outText (outNum (outNum (⟨[], 0⟩ : Out) f.channel 1) f.kind 1) f.body).s] (fun _ => rfl) (hg8 _ _ rfl) rfl rfl (Nat.le_refl _) (by first | (intro x hx; simp at hx; subst hx; first | omega | (simp; done) | (simp; omega)) | (simp; done) | (simp; omega))
    have := crcSum_r [(outText (outNum (outNum (⟨[], 0⟩ : Out) f.channel 1) f.kind 1) f.body).s]
    refine vw_qc 4 rfl (by kernel_rfl) (by repeat (first | exact lle_l0 | exact LLe.refl _ | exact lle_none | refine lle_up ?_ rfl)) (crc_Sum _ (some ⟨b6, 0, none⟩) 1 1 [(outText (outNum (outNum (⟨[], 0⟩ : Out) f.channel 1) f.kind 1) f.body).s] hs9 (hCrc.mono ((HLe.refl _).trans hl7)) (by first | omega | (simp; done) | (simp; omega))) (en_f cb107 rfl) ?_
    refine vw_q 5 rfl (by kernel_rfl) (by repeat (first | exact lle_l0 | exact LLe.refl _ | exact lle_none | refine lle_up ?_ rfl)) (fun _ _ hh hl => lo_conv_in rfl (by rw [Tryd.underlying135]; rfl) Tryd.underlying22 (rg_u64 (by omega))) ?_
    have := outNum_len (outText (outNum (outNum (⟨[], 0⟩ : Out) f.channel 1) f.kind 1) f.body) (crcSum [(outText (outNum (outNum (⟨[], 0⟩ : Out) f.channel 1) f.kind 1) f.body).s]) 4
    refine vw_qc 6 rfl (by kernel_rfl) (by repeat (first | exact lle_l0 | exact LLe.refl _ | exact lle_none | refine lle_up ?_ rfl)) (out_Num _ (outText (outNum (outNum (⟨[], 0⟩ : Out) f.channel 1) f.kind 1) f.body) (crcSum [(outText (outNum (outNum (⟨[], 0⟩ : Out) f.channel 1) f.kind 1) f.body).s]) (by omega) 4 (by omega) (by first | omega | (have := hrl (by assumption); omega) | (simp [outNum, outRaw, numB_len, numK] <;> omega) | (have := hrl (by assumption); simp [outNum, outRaw, numB_len, numK] <;> omega))) (en_f cb46 rfl) ?_
    have := outNum_len (outNum (outText (outNum (outNum (⟨[], 0⟩ : Out) f.channel 1) f.kind 1) f.body) (crcSum [(outText (outNum (outNum (⟨[], 0⟩ : Out) f.channel 1) f.kind 1) f.body).s]) 4) 206 1
    refine vw_qc 7 rfl (by kernel_rfl) (by repeat (first | exact lle_l0 | exact LLe.refl _ | exact lle_none | refine lle_up ?_ rfl)) (out_Num _ (outNum (outText (outNum (outNum (⟨[], 0⟩ : Out) f.channel 1) f.kind 1) f.body) (crcSum [(outText (outNum (outNum (⟨[], 0⟩ : Out) f.channel 1) f.kind 1) f.body).s]) 4) 206 (by omega) 1 (by omega) (by first | omega | (have := hrl (by assumption); omega) | (simp [outNum, outRaw, numB_len, numK] <;> omega) | (have := hrl (by assumption); simp [outNum, outRaw, numB_len, numK] <;> omega))) (en_f cb46 rfl) ?_
    refine vw_qc 8 rfl (by kernel_rfl) (by repeat (first | exact lle_l0 | exact LLe.refl _ | exact lle_none | refine lle_up ?_ rfl)) (out_String _ (outNum (outNum (outText (outNum (outNum (⟨[], 0⟩ : Out) f.channel 1) f.kind 1) f.body) (crcSum [(outText (outNum (outNum (⟨[], 0⟩ : Out) f.channel 1) f.kind 1) f.body).s]) 4) 206 1)) (en_f cb49 rfl) ?_
    refine vw_q 9 rfl (by kernel_rfl) (by repeat (first | exact lle_l0 | exact LLe.refl _ | exact lle_none | refine lle_up ?_ rfl)) (fun _ _ hh hl => lo_assign (v := str _) rfl) ?_
    refine vw_q 10 rfl (by kernel_rfl) (by repeat (first | exact lle_l0 | exact LLe.refl _ | exact lle_none | refine lle_up ?_ rfl)) (fun _ _ hh hl => lo_assign (v := .int _ _) rfl) ?_
    refine vw_done (by kernel_rfl) ?_
    refine seqK_n ?_
    refine cw_ret ?_
    refine fnK_r (res2 rfl (rv_t (v := str _) rfl) (rv_t (v := .int _ _) rfl)) ((HLe.refl _).trans hl7) ?_
    simp [frameBytes, frameErr, frameOut, *]

end Go.SW


set_option linter.unusedVariables false
set_option maxRecDepth 100000
namespace Go.SW
open Go.Proofs
theorem ag35 : Ag Tryd.prog 35 true := fun w => by kernel_rfl
theorem bd35  (w : World) : (Instr.build 35 #[]).run Tryd.prog w = .ok (.agg #[.int .u8 0, .int .u8 0, str []]) w := by kernel_rfl
theorem bd35_0u8_1u8_2s (a1 : Int) (a2 : Int) (a3 : Bs) (w : World) : (Instr.build 35 #[(0, .int .u8 a1), (1, .int .u8 a2), (2, str a3)]).run Tryd.prog w = .ok (.agg #[.int .u8 a1, .int .u8 a2, str a3]) w := by kernel_rfl
theorem cb18 : Callable Tryd.prog 18 := callable_of Tryd.func18 (by kernel_rfl) (by kernel_rfl)
theorem cb47 : Callable Tryd.prog 47 := callable_of Tryd.func47 (by kernel_rfl) (by kernel_rfl)
theorem fl27_0 : Fld Tryd.prog 27 0 0 := fun b o w => by kernel_rfl
theorem sz35 : Sz Tryd.prog 35 3 := fun w => by kernel_rfl
theorem zr35 : Zr Tryd.prog 35 [.int .u8 0, .int .u8 0, str []] := fun w => ⟨.agg #[.int .u8 0, .int .u8 0, str []], by kernel_rfl, rfl⟩

theorem reply_Frame (H : Hp) (r : Reply) (r_mail_head_a : Option Addr) (r_mail_head_c : Nat) (r_mail_head_h : SlH pairE 4 H (.slice r_mail_head_a r.mail.head.length r_mail_head_c) r.mail.head) (r_w : Reply.wf r) (hML : GInt H 2) : Pr Tryd.prog 15 #[.agg (Reply.cells r r_mail_head_a r_mail_head_c).toArray] H (.tuple #[.agg (Frame.cells (replyFrame r)).toArray, .int .i64 (replyE r)]) := by
  refine pr_cw Tryd.func15 rfl Tryd.ntmps15 rfl (fun N => ?_)
  have r_w' := r_w
  simp only [Reply.wf, Mail.wf] at r_w'
  refine cw_seq ?_
  refine cw_region ?_
  refine ow1 (op1_box (cs := [_, _, _, _, _, _, _, _, _, _, _, _, _]) 0 rfl rfl (fun b1 => ?_))
  refine ow1 (op1_alloc 1 rfl zr35 (fun b2 => ?_))
  refine ow1 (op1_l rfl (lo_assign (v := .int _ _) rfl) ?_)
  refine ow_nil ?_
  refine seqK_n ?_
  refine cw_seq ?_
  refine cw_seq ?_
  refine cw_region ?_
  refine ow1 (op1_l rfl (lo_loadA (i := 0) (vs := [_, _, _, _, _, _, _, _, _, _, _, _, _]) rfl ag27 sz27 rfl rfl rfl) ?_)
  refine ow1 (op1_pr (reply_Check _ r r_mail_head_a r_mail_head_c r_mail_head_h r_w hML) (en_f cb18 rfl) rfl ?_)
  have hrl := replyE_len r
  refine ow1 (op1_l rfl (lo_assign (v := .int _ _) rfl) ?_)
  refine ow_nil ?_
  refine seqK_n ?_
  refine cw_seq ?_
  refine cw_region ?_
  refine ow1 (op1_l rfl (lo_move (v := .int _ _) rfl) ?_)
  refine ow1 (op1_l rfl (lo_neq rfl rfl) ?_)
  refine ow_nil ?_
  refine seqK_n ?_
  refine cw_cond rfl (fun h3 => ?_) (fun h3 => ?_)
  · have h4 := not_t h3
    have p5 := df h4
    refine cw_seq ?_
    refine cw_region ?_
    refine ow1 (op1_l rfl (lo_build (v := .agg #[_, _, _]) rfl (bd35)) ?_)
    refine ow1 (op1_l rfl (lo_move (v := .int _ _) rfl) ?_)
    refine ow1 (op1_storeA (i := 1) (vs := [_, _, _]) rfl rfl rfl sz35 rfl rfl rfl ?_)
    refine ow1 (op1_l rfl (lo_assign (v := .int _ _) rfl) ?_)
    refine ow_nil ?_
    refine seqK_n ?_
    refine cw_ret ?_
    refine seqK_r ?_
    refine fnK_r (res2 rfl (rv_c (i := 1) (vs := [_, _, _]) rfl ag35 sz35 rfl rfl rfl) (rv_t (v := .int _ _) rfl)) (.refl _) ?_
    simp [replyFrame, replyOut, replyOut1, Frame.cells, Frame.zero, *]
  · have h6 := not_f h3
    have p7 := dt h6
    refine cw_skip ?_
    refine seqK_n ?_
    refine cw_seq ?_
    refine cw_region ?_
    refine ow1 (op1_alloc 2 rfl zr78 (fun b8 => ?_))
    refine ow_nil ?_
    refine seqK_n ?_
    refine cw_seq ?_
    refine cw_seq ?_
    refine cw_region ?_
    refine ow1 (op1_l rfl (lo_fieldAddr rfl fl27_1) ?_)
    refine ow1 (op1_l rfl (lo_load1 (i := 0) (v := .int _ _) rfl ag5 rfl rfl) ?_)
    refine ow_nil ?_
    refine seqK_n ?_
    refine cw_block ?_
    refine cw_seq ?_
    refine cw_region ?_
    refine ow1 (op1_l rfl (lo_eql rfl rfl) ?_)
    refine ow1 (op1_l rfl (lo_assign (v := .bool _) rfl) ?_)
    refine ow_nil ?_
    refine seqK_n ?_
    refine cw_cond rfl (fun h9 => ?_) (fun h9 => ?_)
    · have p10 := dt h9
      refine cw_region ?_
      refine ow1 (op1_l rfl (lo_loadA (i := 2) (vs := [_, _]) rfl ag78 sz78 rfl rfl rfl) ?_)
      refine ow1 (op1_l rfl (lo_fieldAddr rfl fl27_5) ?_)
      refine ow1 (op1_l rfl (lo_load1 (i := 0) (v := str _) rfl ag9 rfl rfl) ?_)
      refine ow1 (op1_pr (out_Text _ (⟨[], 0⟩ : Out) r.name (by first | omega | (have := hrl (by assumption); omega) | (simp [outNum, outRaw, numB_len, numK] <;> omega) | (have := hrl (by assumption); simp [outNum, outRaw, numB_len, numK] <;> omega))) (en_f cb45 rfl) rfl ?_)
      have nl0 : (⟨[], 0⟩ : Out).s.length = 0 := rfl
      have := outText_len (⟨[], 0⟩ : Out) r.name
      refine ow1 (op1_storeA (i := 2) (vs := [_, _]) rfl rfl rfl sz78 rfl rfl rfl ?_)
      refine ow_nil ?_
      refine blkK_n ?_
      refine seqK_n ?_
      refine cw_seq ?_
      refine cw_seq ?_
      refine cw_region ?_
      refine ow1 (op1_l rfl (lo_fieldAddr rfl fl27_1) ?_)
      refine ow1 (op1_l rfl (lo_load1 (i := 0) (v := .int _ _) rfl ag5 rfl rfl) ?_)
      refine ow1 (op1_l rfl (lo_eql rfl rfl) ?_)
      refine ow_nil ?_
      refine seqK_n ?_
      refine cw_cond_f rfl (fd (by omega)) ?_
      refine cw_skip ?_
      refine seqK_n ?_
      refine cw_seq ?_
      refine cw_anyX 1 mixd ?_
      refine vw_q 0 rfl (by kernel_rfl) (by repeat (first | exact lle_l0 | exact LLe.refl _ | exact lle_none | refine lle_up ?_ rfl)) (fun _ _ hh hl => lo_fieldAddr rfl fl27_0) ?_
      refine vw_q 1 rfl (by kernel_rfl) (by repeat (first | exact lle_l0 | exact LLe.refl _ | exact lle_none | refine lle_up ?_ rfl)) (fun _ _ hh hl => lo_load1 (i := 0) (v := .int _ _) rfl ag5 (hl _ _ rfl) rfl) ?_
      refine vw_q 2 rfl (by kernel_rfl) (by repeat (first | exact lle_l0 | exact LLe.refl _ | exact lle_none | refine lle_up ?_ rfl)) (fun _ _ hh hl => lo_fieldAddr rfl fl27_1) ?_
      refine vw_q 3 rfl (by kernel_rfl) (by repeat (first | exact lle_l0 | exact LLe.refl _ | exact lle_none | refine lle_up ?_ rfl)) (fun _ _ hh hl => lo_load1 (i := 0) (v := .int _ _) rfl ag5 (hl _ _ rfl) rfl) ?_
      have := wr_u8 (64 + r.kind)
      refine vw_q 4 rfl (by kernel_rfl) (by repeat (first | exact lle_l0 | exact LLe.refl _ | exact lle_none | refine lle_up ?_ rfl)) (fun _ _ hh hl => lo_add_w rfl rfl) ?_
      refine vw_q 5 rfl (by kernel_rfl) (by repeat (first | exact lle_l0 | exact LLe.refl _ | exact lle_none | refine lle_up ?_ rfl)) (fun _ _ hh hl => lo_loadA (i := 2) (vs := [_, _]) rfl ag78 sz78 (hl _ _ rfl) rfl rfl) ?_
      refine vw_qc 6 rfl (by kernel_rfl) (by repeat (first | exact lle_l0 | exact LLe.refl _ | exact lle_none | refine lle_up ?_ rfl)) (out_String _ (outText (⟨[], 0⟩ : Out) r.name)) (en_f cb49 rfl) ?_
      refine vw_q 7 rfl (by kernel_rfl) (by repeat (first | exact lle_l0 | exact LLe.refl _ | exact lle_none | refine lle_up ?_ rfl)) (fun _ _ hh hl => lo_build (v := .agg #[_, _, _]) rfl (bd35_0u8_1u8_2s _ _ _)) ?_
      refine vw_t 8 rfl (by kernel_rfl) (by kernel_rfl) (op1_storeA (i := 1) (vs := [_, _, _]) rfl rfl rfl sz35 rfl rfl rfl ?_)
      refine vw_q 9 rfl (by kernel_rfl) (by repeat (first | exact lle_l0 | exact LLe.refl _ | exact lle_none | refine lle_up ?_ rfl)) (fun _ _ hh hl => lo_assign (v := .int _ _) rfl) ?_
      refine vw_done (by kernel_rfl) ?_
      refine seqK_n ?_
      refine cw_ret ?_
      refine fnK_r (res2 rfl (rv_c (i := 1) (vs := [_, _, _]) rfl ag35 sz35 rfl rfl rfl) (rv_t (v := .int _ _) rfl)) (.refl _) ?_
      simp [replyFrame, replyOut, replyOut1, Frame.cells, Frame.zero, *]
    · have p11 := df h9
      refine cw_seq ?_
      refine cw_seq ?_
      refine cw_region ?_
      refine ow1 (op1_l rfl (lo_eql rfl rfl) ?_)
      refine ow1 (op1_l rfl (lo_assign (v := .bool _) rfl) ?_)
      refine ow_nil ?_
      refine seqK_n ?_
      refine cw_cond rfl (fun h12 => ?_) (fun h12 => ?_)
      · have p13 := dt h12
        refine cw_skip ?_
        refine seqK_n ?_
        refine cw_cond_t rfl h12 ?_
        refine cw_region ?_
        refine ow1 (op1_l rfl (lo_loadA (i := 2) (vs := [_, _]) rfl ag78 sz78 rfl rfl rfl) ?_)
        refine ow1 (op1_l rfl (lo_fieldAddr rfl fl27_2) ?_)
        refine ow1 (op1_l rfl (lo_load1 (i := 0) (v := .int _ _) rfl ag22 rfl rfl) ?_)
        refine ow1 (op1_pr (out_Num _ (⟨[], 0⟩ : Out) r.n (by omega) 8 (by omega) (by first | omega | (have := hrl (by assumption); omega) | (simp [outNum, outRaw, numB_len, numK] <;> omega) | (have := hrl (by assumption); simp [outNum, outRaw, numB_len, numK] <;> omega))) (en_f cb46 rfl) rfl ?_)
        have nl0 : (⟨[], 0⟩ : Out).s.length = 0 := rfl
        have := outNum_len (⟨[], 0⟩ : Out) r.n 8
        refine ow1 (op1_storeA (i := 2) (vs := [_, _]) rfl rfl rfl sz78 rfl rfl rfl ?_)
        refine ow_nil ?_
        refine blkK_n ?_
        refine seqK_n ?_
        refine cw_seq ?_
        refine cw_seq ?_
        refine cw_region ?_
        refine ow1 (op1_l rfl (lo_fieldAddr rfl fl27_1) ?_)
        refine ow1 (op1_l rfl (lo_load1 (i := 0) (v := .int _ _) rfl ag5 rfl rfl) ?_)
        refine ow1 (op1_l rfl (lo_eql rfl rfl) ?_)
        refine ow_nil ?_
        refine seqK_n ?_
        refine cw_cond_f rfl (fd (by omega)) ?_
        refine cw_skip ?_
        refine seqK_n ?_
        refine cw_seq ?_
        refine cw_anyX 1 mixd ?_
        refine vw_q 0 rfl (by kernel_rfl) (by repeat (first | exact lle_l0 | exact LLe.refl _ | exact lle_none | refine lle_up ?_ rfl)) (fun _ _ hh hl => lo_fieldAddr rfl fl27_0) ?_
        refine vw_q 1 rfl (by kernel_rfl) (by repeat (first | exact lle_l0 | exact LLe.refl _ | exact lle_none | refine lle_up ?_ rfl)) (fun _ _ hh hl => lo_load1 (i := 0) (v := .int _ _) rfl ag5 (hl _ _ rfl) rfl) ?_
        refine vw_q 2 rfl (by kernel_rfl) (by repeat (first | exact lle_l0 | exact LLe.refl _ | exact lle_none | refine lle_up ?_ rfl)) (fun _ _ hh hl => lo_fieldAddr rfl fl27_1) ?_
        refine vw_q 3 rfl (by kernel_rfl) (by repeat (first | exact lle_l0 | exact LLe.refl _ | exact lle_none | refine lle_up ?_ rfl)) (fun _ _ hh hl => lo_load1 (i := 0) (v := .int _ _) rfl ag5 (hl _ _ rfl) rfl) ?_
        have := wr_u8 (64 + r.kind)
        refine vw_q 4 rfl (by kernel_rfl) (by repeat (first | exact lle_l0 | exact LLe.refl _ | exact lle_none | refine lle_up ?_ rfl)) (fun _ _ hh hl => lo_add_w rfl rfl) ?_
        refine vw_q 5 rfl (by kernel_rfl) (by repeat (first | exact lle_l0 | exact LLe.refl _ | exact lle_none | refine lle_up ?_ rfl)) (fun _ _ hh hl => lo_loadA (i := 2) (vs := [_, _]) rfl ag78 sz78 (hl _ _ rfl) rfl rfl) ?_
        refine vw_qc 6 rfl (by kernel_rfl) (by repeat (first | exact lle_l0 | exact LLe.refl _ | exact lle_none | refine lle_up ?_ rfl)) (out_String _ (outNum (⟨[], 0⟩ : Out) r.n 8)) (en_f cb49 rfl) ?_
        refine vw_q 7 rfl (by kernel_rfl) (by repeat (first | exact lle_l0 | exact LLe.refl _ | exact lle_none | refine lle_up ?_ rfl)) (fun _ _ hh hl => lo_build (v := .agg #[_, _, _]) rfl (bd35_0u8_1u8_2s _ _ _)) ?_
        refine vw_t 8 rfl (by kernel_rfl) (by kernel_rfl) (op1_storeA (i := 1) (vs := [_, _, _]) rfl rfl rfl sz35 rfl rfl rfl ?_)
        refine vw_q 9 rfl (by kernel_rfl) (by repeat (first | exact lle_l0 | exact LLe.refl _ | exact lle_none | refine lle_up ?_ rfl)) (fun _ _ hh hl => lo_assign (v := .int _ _) rfl) ?_
        refine vw_done (by kernel_rfl) ?_
        refine seqK_n ?_
        refine cw_ret ?_
        refine fnK_r (res2 rfl (rv_c (i := 1) (vs := [_, _, _]) rfl ag35 sz35 rfl rfl rfl) (rv_t (v := .int _ _) rfl)) (.refl _) ?_
        simp [replyFrame, replyOut, replyOut1, Frame.cells, Frame.zero, *]
      · have p14 := df h12
        refine cw_seq ?_
        refine cw_region ?_
        refine ow1 (op1_l rfl (lo_eql rfl rfl) ?_)
        refine ow1 (op1_l rfl (lo_assign (v := .bool _) rfl) ?_)
        refine ow_nil ?_
        refine seqK_n ?_
        refine cw_cond rfl (fun h15 => ?_) (fun h15 => ?_)
        · have p16 := dt h15
          refine cw_skip ?_
          refine seqK_n ?_
          refine cw_cond_t rfl h15 ?_
          refine cw_region ?_
          refine ow1 (op1_l rfl (lo_loadA (i := 2) (vs := [_, _]) rfl ag78 sz78 rfl rfl rfl) ?_)
          refine ow1 (op1_l rfl (lo_fieldAddr rfl fl27_2) ?_)
          refine ow1 (op1_l rfl (lo_load1 (i := 0) (v := .int _ _) rfl ag22 rfl rfl) ?_)
          refine ow1 (op1_pr (out_Num _ (⟨[], 0⟩ : Out) r.n (by omega) 8 (by omega) (by first | omega | (have := hrl (by assumption); omega) | (simp [outNum, outRaw, numB_len, numK] <;> omega) | (have := hrl (by assumption); simp [outNum, outRaw, numB_len, numK] <;> omega))) (en_f cb46 rfl) rfl ?_)
          have nl0 : (⟨[], 0⟩ : Out).s.length = 0 := rfl
          have := outNum_len (⟨[], 0⟩ : Out) r.n 8
          refine ow1 (op1_storeA (i := 2) (vs := [_, _]) rfl rfl rfl sz78 rfl rfl rfl ?_)
          refine ow_nil ?_
          refine blkK_n ?_
          refine seqK_n ?_
          refine cw_seq ?_
          refine cw_seq ?_
          refine cw_region ?_
          refine ow1 (op1_l rfl (lo_fieldAddr rfl fl27_1) ?_)
          refine ow1 (op1_l rfl (lo_load1 (i := 0) (v := .int _ _) rfl ag5 rfl rfl) ?_)
          refine ow1 (op1_l rfl (lo_eql rfl rfl) ?_)
          refine ow_nil ?_
          refine seqK_n ?_
          refine cw_cond_f rfl (fd (by omega)) ?_
          refine cw_skip ?_
          refine seqK_n ?_
          refine cw_seq ?_
          refine cw_anyX 1 mixd ?_
          refine vw_q 0 rfl (by kernel_rfl) (by repeat (first | exact lle_l0 | exact LLe.refl _ | exact lle_none | refine lle_up ?_ rfl)) (fun _ _ hh hl => lo_fieldAddr rfl fl27_0) ?_
          refine vw_q 1 rfl (by kernel_rfl) (by repeat (first | exact lle_l0 | exact LLe.refl _ | exact lle_none | refine lle_up ?_ rfl)) (fun _ _ hh hl => lo_load1 (i := 0) (v := .int _ _) rfl ag5 (hl _ _ rfl) rfl) ?_
          refine vw_q 2 rfl (by kernel_rfl) (by repeat (first | exact lle_l0 | exact LLe.refl _ | exact lle_none | refine lle_up ?_ rfl)) (fun _ _ hh hl => lo_fieldAddr rfl fl27_1) ?_
          refine vw_q 3 rfl (by kernel_rfl) (by repeat (first | exact lle_l0 | exact LLe.refl _ | exact lle_none | refine lle_up ?_ rfl)) (fun _ _ hh hl => lo_load1 (i := 0) (v := .int _ _) rfl ag5 (hl _ _ rfl) rfl) ?_
          have := wr_u8 (64 + r.kind)
          refine vw_q 4 rfl (by kernel_rfl) (by repeat (first | exact lle_l0 | exact LLe.refl _ | exact lle_none | refine lle_up ?_ rfl)) (fun _ _ hh hl => lo_add_w rfl rfl) ?_
          refine vw_q 5 rfl (by kernel_rfl) (by repeat (first | exact lle_l0 | exact LLe.refl _ | exact lle_none | refine lle_up ?_ rfl)) (fun _ _ hh hl => lo_loadA (i := 2) (vs := [_, _]) rfl ag78 sz78 (hl _ _ rfl) rfl rfl) ?_
          refine vw_qc 6 rfl (by kernel_rfl) (by repeat (first | exact lle_l0 | exact LLe.refl _ | exact lle_none | refine lle_up ?_ rfl)) (out_String _ (outNum (⟨[], 0⟩ : Out) r.n 8)) (en_f cb49 rfl) ?_
          refine vw_q 7 rfl (by kernel_rfl) (by repeat (first | exact lle_l0 | exact LLe.refl _ | exact lle_none | refine lle_up ?_ rfl)) (fun _ _ hh hl => lo_build (v := .agg #[_, _, _]) rfl (bd35_0u8_1u8_2s _ _ _)) ?_
          refine vw_t 8 rfl (by kernel_rfl) (by kernel_rfl) (op1_storeA (i := 1) (vs := [_, _, _]) rfl rfl rfl sz35 rfl rfl rfl ?_)
          refine vw_q 9 rfl (by kernel_rfl) (by repeat (first | exact lle_l0 | exact LLe.refl _ | exact lle_none | refine lle_up ?_ rfl)) (fun _ _ hh hl => lo_assign (v := .int _ _) rfl) ?_
          refine vw_done (by kernel_rfl) ?_
          refine seqK_n ?_
          refine cw_ret ?_
          refine fnK_r (res2 rfl (rv_c (i := 1) (vs := [_, _, _]) rfl ag35 sz35 rfl rfl rfl) (rv_t (v := .int _ _) rfl)) (.refl _) ?_
          simp [replyFrame, replyOut, replyOut1, Frame.cells, Frame.zero, *]
        · have p17 := df h15
          refine cw_region ?_
          refine ow1 (op1_l rfl (lo_eql rfl rfl) ?_)
          refine ow1 (op1_l rfl (lo_assign (v := .bool _) rfl) ?_)
          refine ow_nil ?_
          refine seqK_n ?_
          refine cw_cond rfl (fun h18 => ?_) (fun h18 => ?_)
          · have p19 := dt h18
            refine cw_region ?_
            refine ow1 (op1_l rfl (lo_loadA (i := 2) (vs := [_, _]) rfl ag78 sz78 rfl rfl rfl) ?_)
            refine ow1 (op1_l rfl (lo_fieldAddr rfl fl27_2) ?_)
            refine ow1 (op1_l rfl (lo_load1 (i := 0) (v := .int _ _) rfl ag22 rfl rfl) ?_)
            refine ow1 (op1_pr (out_Num _ (⟨[], 0⟩ : Out) r.n (by omega) 8 (by omega) (by first | omega | (have := hrl (by assumption); omega) | (simp [outNum, outRaw, numB_len, numK] <;> omega) | (have := hrl (by assumption); simp [outNum, outRaw, numB_len, numK] <;> omega))) (en_f cb46 rfl) rfl ?_)
            have nl0 : (⟨[], 0⟩ : Out).s.length = 0 := rfl
            have := outNum_len (⟨[], 0⟩ : Out) r.n 8
            refine ow1 (op1_storeA (i := 2) (vs := [_, _]) rfl rfl rfl sz78 rfl rfl rfl ?_)
            refine ow_nil ?_
            refine blkK_n ?_
            refine seqK_n ?_
            refine cw_seq ?_
            refine cw_seq ?_
            refine cw_region ?_
            refine ow1 (op1_l rfl (lo_fieldAddr rfl fl27_1) ?_)
            refine ow1 (op1_l rfl (lo_load1 (i := 0) (v := .int _ _) rfl ag5 rfl rfl) ?_)
            refine ow1 (op1_l rfl (lo_eql rfl rfl) ?_)
            refine ow_nil ?_
            refine seqK_n ?_
            refine cw_cond_f rfl (fd (by omega)) ?_
            refine cw_skip ?_
            refine seqK_n ?_
            refine cw_seq ?_
            refine cw_anyX 1 mixd ?_
            refine vw_q 0 rfl (by kernel_rfl) (by repeat (first | exact lle_l0 | exact LLe.refl _ | exact lle_none | refine lle_up ?_ rfl)) (fun _ _ hh hl => lo_fieldAddr rfl fl27_0) ?_
            refine vw_q 1 rfl (by kernel_rfl) (by repeat (first | exact lle_l0 | exact LLe.refl _ | exact lle_none | refine lle_up ?_ rfl)) (fun _ _ hh hl => lo_load1 (i := 0) (v := .int _ _) rfl ag5 (hl _ _ rfl) rfl) ?_
            refine vw_q 2 rfl (by kernel_rfl) (by repeat (first | exact lle_l0 | exact LLe.refl _ | exact lle_none | refine lle_up ?_ rfl)) (fun _ _ hh hl => lo_fieldAddr rfl fl27_1) ?_
            refine vw_q 3 rfl (by kernel_rfl) (by repeat (first | exact lle_l0 | exact LLe.refl _ | exact lle_none | refine lle_up ?_ rfl)) (fun _ _ hh hl => lo_load1 (i := 0) (v := .int _ _) rfl ag5 (hl _ _ rfl) rfl) ?_
            have := wr_u8 (64 + r.kind)
            refine vw_q 4 rfl (by kernel_rfl) (by repeat (first | exact lle_l0 | exact LLe.refl _ | exact lle_none | refine lle_up ?_ rfl)) (fun _ _ hh hl => lo_add_w rfl rfl) ?_
            refine vw_q 5 rfl (by kernel_rfl) (by repeat (first | exact lle_l0 | exact LLe.refl _ | exact lle_none | refine lle_up ?_ rfl)) (fun _ _ hh hl => lo_loadA (i := 2) (vs := [_, _]) rfl ag78 sz78 (hl _ _ rfl) rfl rfl) ?_
            refine vw_qc 6 rfl (by kernel_rfl) (by repeat (first | exact lle_l0 | exact LLe.refl _ | exact lle_none | refine lle_up ?_ rfl)) (out_String _ (outNum (⟨[], 0⟩ : Out) r.n 8)) (en_f cb49 rfl) ?_
            refine vw_q 7 rfl (by kernel_rfl) (by repeat (first | exact lle_l0 | exact LLe.refl _ | exact lle_none | refine lle_up ?_ rfl)) (fun _ _ hh hl => lo_build (v := .agg #[_, _, _]) rfl (bd35_0u8_1u8_2s _ _ _)) ?_
            refine vw_t 8 rfl (by kernel_rfl) (by kernel_rfl) (op1_storeA (i := 1) (vs := [_, _, _]) rfl rfl rfl sz35 rfl rfl rfl ?_)
            refine vw_q 9 rfl (by kernel_rfl) (by repeat (first | exact lle_l0 | exact LLe.refl _ | exact lle_none | refine lle_up ?_ rfl)) (fun _ _ hh hl => lo_assign (v := .int _ _) rfl) ?_
            refine vw_done (by kernel_rfl) ?_
            refine seqK_n ?_
            refine cw_ret ?_
            refine fnK_r (res2 rfl (rv_c (i := 1) (vs := [_, _, _]) rfl ag35 sz35 rfl rfl rfl) (rv_t (v := .int _ _) rfl)) (.refl _) ?_
            simp [replyFrame, replyOut, replyOut1, Frame.cells, Frame.zero, *]
          · have p20 := df h18
            refine cw_seq ?_
            refine cw_seq ?_
            refine cw_region ?_
            refine ow1 (op1_l rfl (lo_eql rfl rfl) ?_)
            refine ow1 (op1_l rfl (lo_assign (v := .bool _) rfl) ?_)
            refine ow_nil ?_
            refine seqK_n ?_
            refine cw_cond rfl (fun h21 => ?_) (fun h21 => ?_)
            · have p22 := dt h21
              refine cw_skip ?_
              refine seqK_n ?_
              refine cw_cond_t rfl h21 ?_
              refine cw_anyL mixd ?_
              refine vw_q 0 rfl (by kernel_rfl) (by repeat (first | exact lle_l0 | exact LLe.refl _ | exact lle_none | refine lle_up ?_ rfl)) (fun _ _ hh hl => lo_loadA (i := 2) (vs := [_, _]) rfl ag78 sz78 (hl _ _ rfl) rfl rfl) ?_
              refine vw_q 1 rfl (by kernel_rfl) (by repeat (first | exact lle_l0 | exact LLe.refl _ | exact lle_none | refine lle_up ?_ rfl)) (fun _ _ hh hl => lo_fieldAddr rfl fl27_2) ?_
              refine vw_q 2 rfl (by kernel_rfl) (by repeat (first | exact lle_l0 | exact LLe.refl _ | exact lle_none | refine lle_up ?_ rfl)) (fun _ _ hh hl => lo_load1 (i := 0) (v := .int _ _) rfl ag22 (hl _ _ rfl) rfl) ?_
              have nl0 : (⟨[], 0⟩ : Out).s.length = 0 := rfl
              have := outNum_len (⟨[], 0⟩ : Out) r.n 8
              refine vw_qc 3 rfl (by kernel_rfl) (by repeat (first | exact lle_l0 | exact LLe.refl _ | exact lle_none | refine lle_up ?_ rfl)) (out_Num _ (⟨[], 0⟩ : Out) r.n (by omega) 8 (by omega) (by first | omega | (have := hrl (by assumption); omega) | (simp [outNum, outRaw, numB_len, numK] <;> omega) | (have := hrl (by assumption); simp [outNum, outRaw, numB_len, numK] <;> omega))) (en_f cb46 rfl) ?_
              refine vw_q 4 rfl (by kernel_rfl) (by repeat (first | exact lle_l0 | exact LLe.refl _ | exact lle_none | refine lle_up ?_ rfl)) (fun _ _ hh hl => lo_fieldAddr rfl fl27_3) ?_
              refine vw_q 5 rfl (by kernel_rfl) (by repeat (first | exact lle_l0 | exact LLe.refl _ | exact lle_none | refine lle_up ?_ rfl)) (fun _ _ hh hl => lo_load1 (i := 0) (v := .int _ _) rfl ag22 (hl _ _ rfl) rfl) ?_
              have := outNum_len (outNum (⟨[], 0⟩ : Out) r.n 8) r.m 8
              refine vw_qc 6 rfl (by kernel_rfl) (by repeat (first | exact lle_l0 | exact LLe.refl _ | exact lle_none | refine lle_up ?_ rfl)) (out_Num _ (outNum (⟨[], 0⟩ : Out) r.n 8) r.m (by omega) 8 (by omega) (by first | omega | (have := hrl (by assumption); omega) | (simp [outNum, outRaw, numB_len, numK] <;> omega) | (have := hrl (by assumption); simp [outNum, outRaw, numB_len, numK] <;> omega))) (en_f cb46 rfl) ?_
              refine vw_t 7 rfl (by kernel_rfl) (by kernel_rfl) (op1_storeA (i := 2) (vs := [_, _]) rfl rfl rfl sz78 rfl rfl rfl ?_)
              refine vw_done (by kernel_rfl) ?_
              refine blkK_n ?_
              refine seqK_n ?_
              refine cw_seq ?_
              refine cw_seq ?_
              refine cw_region ?_
              refine ow1 (op1_l rfl (lo_fieldAddr rfl fl27_1) ?_)
              refine ow1 (op1_l rfl (lo_load1 (i := 0) (v := .int _ _) rfl ag5 rfl rfl) ?_)
              refine ow1 (op1_l rfl (lo_eql rfl rfl) ?_)
              refine ow_nil ?_
              refine seqK_n ?_
              refine cw_cond_t rfl h21 ?_
              refine cw_seq ?_
              refine cw_region ?_
              refine ow1 (op1_l rfl (lo_assign (v := .int _ _) rfl) ?_)
              refine ow_nil ?_
              refine seqK_n ?_
              refine cw_seq ?_
              refine cw_seq ?_
              refine cw_region ?_
              refine ow1 (op1_l rfl (lo_fieldAddr rfl fl27_4) ?_)
              refine ow1 (op1_l rfl (lo_load1 (i := 0) (v := .bool _) rfl ag4 rfl rfl) ?_)
              refine ow_nil ?_
              refine seqK_n ?_
              refine cw_cond rfl (fun h23 => ?_) (fun h23 => ?_)
              · refine cw_region ?_
                refine ow1 (op1_l rfl (lo_assign (v := .int _ _) rfl) ?_)
                refine ow_nil ?_
                refine seqK_n ?_
                refine cw_seq ?_
                refine cw_region ?_
                refine ow1 (op1_l rfl (lo_fieldAddr rfl fl27_6) ?_)
                refine ow1 (op1_l rfl (lo_fieldAddr rfl fl25_3) ?_)
                refine ow1 (op1_l rfl (lo_load1 (i := 0) (v := .slice _ _ _) rfl ag23 rfl rfl) ?_)
                refine ow1 (op1_pr (head_Bytes _ r_mail_head_a r.mail.head.length r_mail_head_c r.mail.head r_mail_head_h (by first | omega | (simp <;> omega))) (en_f cb47 rfl) rfl ?_)
                have := headBytes_len r.mail.head
                refine ow1 (op1_l rfl (lo_move (v := .tuple #[_, _]) rfl) ?_)
                refine ow1 (op1_l rfl (lo_extract (v := str _) rfl rfl) ?_)
                refine ow1 (op1_l rfl (lo_extract (v := .int _ _) rfl rfl) ?_)
                refine ow1 (op1_l rfl (lo_assign (v := str _) rfl) ?_)
                refine ow1 (op1_l rfl (lo_assign (v := .int _ _) rfl) ?_)
                refine ow_nil ?_
                refine seqK_n ?_
                refine cw_anyL mixd ?_
                refine vw_q 0 rfl (by kernel_rfl) (by repeat (first | exact lle_l0 | exact LLe.refl _ | exact lle_none | refine lle_up ?_ rfl)) (fun _ _ hh hl => lo_loadA (i := 2) (vs := [_, _]) rfl ag78 sz78 (hl _ _ rfl) rfl rfl) ?_
                refine vw_q 1 rfl (by kernel_rfl) (by repeat (first | exact lle_l0 | exact LLe.refl _ | exact lle_none | refine lle_up ?_ rfl)) (fun _ _ hh hl => lo_move (v := .int _ _) rfl) ?_
                have := outNum_len (outNum (outNum (⟨[], 0⟩ : Out) r.n 8) r.m 8) 1 1
                refine vw_qc 2 rfl (by kernel_rfl) (by repeat (first | exact lle_l0 | exact LLe.refl _ | exact lle_none | refine lle_up ?_ rfl)) (out_Num _ (outNum (outNum (⟨[], 0⟩ : Out) r.n 8) r.m 8) 1 (by omega) 1 (by omega) (by first | omega | (have := hrl (by assumption); omega) | (simp [outNum, outRaw, numB_len, numK] <;> omega) | (have := hrl (by assumption); simp [outNum, outRaw, numB_len, numK] <;> omega))) (en_f cb46 rfl) ?_
                refine vw_q 3 rfl (by kernel_rfl) (by repeat (first | exact lle_l0 | exact LLe.refl _ | exact lle_none | refine lle_up ?_ rfl)) (fun _ _ hh hl => lo_fieldAddr rfl fl27_6) ?_
                refine vw_q 4 rfl (by kernel_rfl) (by repeat (first | exact lle_l0 | exact LLe.refl _ | exact lle_none | refine lle_up ?_ rfl)) (fun _ _ hh hl => lo_fieldAddr rfl fl25_1) ?_
                refine vw_q 5 rfl (by kernel_rfl) (by repeat (first | exact lle_l0 | exact LLe.refl _ | exact lle_none | refine lle_up ?_ rfl)) (fun _ _ hh hl => lo_load1 (i := 0) (v := str _) rfl ag9 (hl _ _ rfl) rfl) ?_
                have := outText_len (outNum (outNum (outNum (⟨[], 0⟩ : Out) r.n 8) r.m 8) 1 1) r.mail.shop
                refine vw_qc 6 rfl (by kernel_rfl) (by repeat (first | exact lle_l0 | exact LLe.refl _ | exact lle_none | refine lle_up ?_ rfl)) (out_Text _ (outNum (outNum (outNum (⟨[], 0⟩ : Out) r.n 8) r.m 8) 1 1) r.mail.shop (by first | omega | (have := hrl (by assumption); omega) | (simp [outNum, outRaw, numB_len, numK] <;> omega) | (have := hrl (by assumption); simp [outNum, outRaw, numB_len, numK] <;> omega))) (en_f cb45 rfl) ?_
                refine vw_q 7 rfl (by kernel_rfl) (by repeat (first | exact lle_l0 | exact LLe.refl _ | exact lle_none | refine lle_up ?_ rfl)) (fun _ _ hh hl => lo_fieldAddr rfl fl27_6) ?_
                refine vw_q 8 rfl (by kernel_rfl) (by repeat (first | exact lle_l0 | exact LLe.refl _ | exact lle_none | refine lle_up ?_ rfl)) (fun _ _ hh hl => lo_fieldAddr rfl fl25_2) ?_
                refine vw_q 9 rfl (by kernel_rfl) (by repeat (first | exact lle_l0 | exact LLe.refl _ | exact lle_none | refine lle_up ?_ rfl)) (fun _ _ hh hl => lo_load1 (i := 0) (v := str _) rfl ag9 (hl _ _ rfl) rfl) ?_
                have := outText_len (outText (outNum (outNum (outNum (⟨[], 0⟩ : Out) r.n 8) r.m 8) 1 1) r.mail.shop) r.mail.key
                refine vw_qc 10 rfl (by kernel_rfl) (by repeat (first | exact lle_l0 | exact LLe.refl _ | exact lle_none | refine lle_up ?_ rfl)) (out_Text _ (outText (outNum (outNum (outNum (⟨[], 0⟩ : Out) r.n 8) r.m 8) 1 1) r.mail.shop) r.mail.key (by first | omega | (have := hrl (by assumption); omega) | (simp [outNum, outRaw, numB_len, numK] <;> omega) | (have := hrl (by assumption); simp [outNum, outRaw, numB_len, numK] <;> omega))) (en_f cb45 rfl) ?_
                refine vw_q 11 rfl (by kernel_rfl) (by repeat (first | exact lle_l0 | exact LLe.refl _ | exact lle_none | refine lle_up ?_ rfl)) (fun _ _ hh hl => lo_move (v := str _) rfl) ?_
                have := outRaw_len (outText (outText (outNum (outNum (outNum (⟨[], 0⟩ : Out) r.n 8) r.m 8) 1 1) r.mail.shop) r.mail.key) (headBytes r.mail.head)
                refine vw_qc 12 rfl (by kernel_rfl) (by repeat (first | exact lle_l0 | exact LLe.refl _ | exact lle_none | refine lle_up ?_ rfl)) (out_Raw _ (outText (outText (outNum (outNum (outNum (⟨[], 0⟩ : Out) r.n 8) r.m 8) 1 1) r.mail.shop) r.mail.key) (headBytes r.mail.head) (by first | omega | (have := hrl (by assumption); omega) | (simp [outNum, outRaw, numB_len, numK] <;> omega) | (have := hrl (by assumption); simp [outNum, outRaw, numB_len, numK] <;> omega))) (en_f cb48 rfl) ?_
                refine vw_q 13 rfl (by kernel_rfl) (by repeat (first | exact lle_l0 | exact LLe.refl _ | exact lle_none | refine lle_up ?_ rfl)) (fun _ _ hh hl => lo_fieldAddr rfl fl27_6) ?_
                refine vw_q 14 rfl (by kernel_rfl) (by repeat (first | exact lle_l0 | exact LLe.refl _ | exact lle_none | refine lle_up ?_ rfl)) (fun _ _ hh hl => lo_fieldAddr rfl fl25_4) ?_
                refine vw_q 15 rfl (by kernel_rfl) (by repeat (first | exact lle_l0 | exact LLe.refl _ | exact lle_none | refine lle_up ?_ rfl)) (fun _ _ hh hl => lo_load1 (i := 0) (v := str _) rfl ag9 (hl _ _ rfl) rfl) ?_
                have := outText_len (outRaw (outText (outText (outNum (outNum (outNum (⟨[], 0⟩ : Out) r.n 8) r.m 8) 1 1) r.mail.shop) r.mail.key) (headBytes r.mail.head)) r.mail.body
                refine vw_qc 16 rfl (by kernel_rfl) (by repeat (first | exact lle_l0 | exact LLe.refl _ | exact lle_none | refine lle_up ?_ rfl)) (out_Text _ (outRaw (outText (outText (outNum (outNum (outNum (⟨[], 0⟩ : Out) r.n 8) r.m 8) 1 1) r.mail.shop) r.mail.key) (headBytes r.mail.head)) r.mail.body (by first | omega | (have := hrl (by assumption); omega) | (simp [outNum, outRaw, numB_len, numK] <;> omega) | (have := hrl (by assumption); simp [outNum, outRaw, numB_len, numK] <;> omega))) (en_f cb45 rfl) ?_
                refine vw_t 17 rfl (by kernel_rfl) (by kernel_rfl) (op1_storeA (i := 2) (vs := [_, _]) rfl rfl rfl sz78 rfl rfl rfl ?_)
                refine vw_done (by kernel_rfl) ?_
                refine seqK_n ?_
                refine cw_seq ?_
                refine cw_anyX 1 mixd ?_
                refine vw_q 0 rfl (by kernel_rfl) (by repeat (first | exact lle_l0 | exact LLe.refl _ | exact lle_none | refine lle_up ?_ rfl)) (fun _ _ hh hl => lo_fieldAddr rfl fl27_0) ?_
                refine vw_q 1 rfl (by kernel_rfl) (by repeat (first | exact lle_l0 | exact LLe.refl _ | exact lle_none | refine lle_up ?_ rfl)) (fun _ _ hh hl => lo_load1 (i := 0) (v := .int _ _) rfl ag5 (hl _ _ rfl) rfl) ?_
                refine vw_q 2 rfl (by kernel_rfl) (by repeat (first | exact lle_l0 | exact LLe.refl _ | exact lle_none | refine lle_up ?_ rfl)) (fun _ _ hh hl => lo_fieldAddr rfl fl27_1) ?_
                refine vw_q 3 rfl (by kernel_rfl) (by repeat (first | exact lle_l0 | exact LLe.refl _ | exact lle_none | refine lle_up ?_ rfl)) (fun _ _ hh hl => lo_load1 (i := 0) (v := .int _ _) rfl ag5 (hl _ _ rfl) rfl) ?_
                have := wr_u8 (64 + r.kind)
                refine vw_q 4 rfl (by kernel_rfl) (by repeat (first | exact lle_l0 | exact LLe.refl _ | exact lle_none | refine lle_up ?_ rfl)) (fun _ _ hh hl => lo_add_w rfl rfl) ?_
                refine vw_q 5 rfl (by kernel_rfl) (by repeat (first | exact lle_l0 | exact LLe.refl _ | exact lle_none | refine lle_up ?_ rfl)) (fun _ _ hh hl => lo_loadA (i := 2) (vs := [_, _]) rfl ag78 sz78 (hl _ _ rfl) rfl rfl) ?_
                refine vw_qc 6 rfl (by kernel_rfl) (by repeat (first | exact lle_l0 | exact LLe.refl _ | exact lle_none | refine lle_up ?_ rfl)) (out_String _ (outText (outRaw (outText (outText (outNum (outNum (outNum (⟨[], 0⟩ : Out) r.n 8) r.m 8) 1 1) r.mail.shop) r.mail.key) (headBytes r.mail.head)) r.mail.body)) (en_f cb49 rfl) ?_
                refine vw_q 7 rfl (by kernel_rfl) (by repeat (first | exact lle_l0 | exact LLe.refl _ | exact lle_none | refine lle_up ?_ rfl)) (fun _ _ hh hl => lo_build (v := .agg #[_, _, _]) rfl (bd35_0u8_1u8_2s _ _ _)) ?_
                refine vw_t 8 rfl (by kernel_rfl) (by kernel_rfl) (op1_storeA (i := 1) (vs := [_, _, _]) rfl rfl rfl sz35 rfl rfl rfl ?_)
                refine vw_q 9 rfl (by kernel_rfl) (by repeat (first | exact lle_l0 | exact LLe.refl _ | exact lle_none | refine lle_up ?_ rfl)) (fun _ _ hh hl => lo_assign (v := .int _ _) rfl) ?_
                refine vw_done (by kernel_rfl) ?_
                refine seqK_n ?_
                refine cw_ret ?_
                refine fnK_r (res2 rfl (rv_c (i := 1) (vs := [_, _, _]) rfl ag35 sz35 rfl rfl rfl) (rv_t (v := .int _ _) rfl)) (.refl _) ?_
                simp [replyFrame, replyOut, replyOut1, Frame.cells, Frame.zero, *]
              · refine cw_skip ?_
                refine seqK_n ?_
                refine cw_seq ?_
                refine cw_region ?_
                refine ow1 (op1_l rfl (lo_fieldAddr rfl fl27_6) ?_)
                refine ow1 (op1_l rfl (lo_fieldAddr rfl fl25_3) ?_)
                refine ow1 (op1_l rfl (lo_load1 (i := 0) (v := .slice _ _ _) rfl ag23 rfl rfl) ?_)
                refine ow1 (op1_pr (head_Bytes _ r_mail_head_a r.mail.head.length r_mail_head_c r.mail.head r_mail_head_h (by first | omega | (simp <;> omega))) (en_f cb47 rfl) rfl ?_)
                have := headBytes_len r.mail.head
                refine ow1 (op1_l rfl (lo_move (v := .tuple #[_, _]) rfl) ?_)
                refine ow1 (op1_l rfl (lo_extract (v := str _) rfl rfl) ?_)
                refine ow1 (op1_l rfl (lo_extract (v := .int _ _) rfl rfl) ?_)
                refine ow1 (op1_l rfl (lo_assign (v := str _) rfl) ?_)
                refine ow1 (op1_l rfl (lo_assign (v := .int _ _) rfl) ?_)
                refine ow_nil ?_
                refine seqK_n ?_
                refine cw_anyL mixd ?_
                refine vw_q 0 rfl (by kernel_rfl) (by repeat (first | exact lle_l0 | exact LLe.refl _ | exact lle_none | refine lle_up ?_ rfl)) (fun _ _ hh hl => lo_loadA (i := 2) (vs := [_, _]) rfl ag78 sz78 (hl _ _ rfl) rfl rfl) ?_
                refine vw_q 1 rfl (by kernel_rfl) (by repeat (first | exact lle_l0 | exact LLe.refl _ | exact lle_none | refine lle_up ?_ rfl)) (fun _ _ hh hl => lo_move (v := .int _ _) rfl) ?_
                have := outNum_len (outNum (outNum (⟨[], 0⟩ : Out) r.n 8) r.m 8) 0 1
                refine vw_qc 2 rfl (by kernel_rfl) (by repeat (first | exact lle_l0 | exact LLe.refl _ | exact lle_none | refine lle_up ?_ rfl)) (out_Num _ (outNum (outNum (⟨[], 0⟩ : Out) r.n 8) r.m 8) 0 (by omega) 1 (by omega) (by first | omega | (have := hrl (by assumption); omega) | (simp [outNum, outRaw, numB_len, numK] <;> omega) | (have := hrl (by assumption); simp [outNum, outRaw, numB_len, numK] <;> omega))) (en_f cb46 rfl) ?_
                refine vw_q 3 rfl (by kernel_rfl) (by repeat (first | exact lle_l0 | exact LLe.refl _ | exact lle_none | refine lle_up ?_ rfl)) (fun _ _ hh hl => lo_fieldAddr rfl fl27_6) ?_
                refine vw_q 4 rfl (by kernel_rfl) (by repeat (first | exact lle_l0 | exact LLe.refl _ | exact lle_none | refine lle_up ?_ rfl)) (fun _ _ hh hl => lo_fieldAddr rfl fl25_1) ?_
                refine vw_q 5 rfl (by kernel_rfl) (by repeat (first | exact lle_l0 | exact LLe.refl _ | exact lle_none | refine lle_up ?_ rfl)) (fun _ _ hh hl => lo_load1 (i := 0) (v := str _) rfl ag9 (hl _ _ rfl) rfl) ?_
                have := outText_len (outNum (outNum (outNum (⟨[], 0⟩ : Out) r.n 8) r.m 8) 0 1) r.mail.shop
                refine vw_qc 6 rfl (by kernel_rfl) (by repeat (first | exact lle_l0 | exact LLe.refl _ | exact lle_none | refine lle_up ?_ rfl)) (out_Text _ (outNum (outNum (outNum (⟨[], 0⟩ : Out) r.n 8) r.m 8) 0 1) r.mail.shop (by first | omega | (have := hrl (by assumption); omega) | (simp [outNum, outRaw, numB_len, numK] <;> omega) | (have := hrl (by assumption); simp [outNum, outRaw, numB_len, numK] <;> omega))) (en_f cb45 rfl) ?_
                refine vw_q 7 rfl (by kernel_rfl) (by repeat (first | exact lle_l0 | exact LLe.refl _ | exact lle_none | refine lle_up ?_ rfl)) (fun _ _ hh hl => lo_fieldAddr rfl fl27_6) ?_
                refine vw_q 8 rfl (by kernel_rfl) (by repeat (first | exact lle_l0 | exact LLe.refl _ | exact lle_none | refine lle_up ?_ rfl)) (fun _ _ hh hl => lo_fieldAddr rfl fl25_2) ?_
                refine vw_q 9 rfl (by kernel_rfl) (by repeat (first | exact lle_l0 | exact LLe.refl _ | exact lle_none | refine lle_up ?_ rfl)) (fun _ _ hh hl => lo_load1 (i := 0) (v := str _) rfl ag9 (hl _ _ rfl) rfl) ?_
                have := outText_len (outText (outNum (outNum (outNum (⟨[], 0⟩ : Out) r.n 8) r.m 8) 0 1) r.mail.shop) r.mail.key
                refine vw_qc 10 rfl (by kernel_rfl) (by repeat (first | exact lle_l0 | exact LLe.refl _ | exact lle_none | refine lle_up ?_ rfl)) (out_Text _ (outText (outNum (outNum (outNum (⟨[], 0⟩ : Out) r.n 8) r.m 8) 0 1) r.mail.shop) r.mail.key (by first | omega | (have := hrl (by assumption); omega) | (simp [outNum, outRaw, numB_len, numK] <;> omega) | (have := hrl (by assumption); simp [outNum, outRaw, numB_len, numK] <;> omega))) (en_f cb45 rfl) ?_
                refine vw_q 11 rfl (by kernel_rfl) (by repeat (first | exact lle_l0 | exact LLe.refl _ | exact lle_none | refine lle_up ?_ rfl)) (fun _ _ hh hl => lo_move (v := str _) rfl) ?_
                have := outRaw_len (outText (outText (outNum (outNum (outNum (⟨[], 0⟩ : Out) r.n 8) r.m 8) 0 1) r.mail.shop) r.mail.key) (headBytes r.mail.head)
                refine vw_qc 12 rfl (by kernel_rfl) (by repeat (first | exact lle_l0 | exact LLe.refl _ | exact lle_none | refine lle_up ?_ rfl)) (out_Raw _ (outText (outText (outNum (outNum (outNum (⟨[], 0⟩ : Out) r.n 8) r.m 8) 0 1) r.mail.shop) r.mail.key) (headBytes r.mail.head) (by first | omega | (have := hrl (by assumption); omega) | (simp [outNum, outRaw, numB_len, numK] <;> omega) | (have := hrl (by assumption); simp [outNum, outRaw, numB_len, numK] <;> omega))) (en_f cb48 rfl) ?_
                refine vw_q 13 rfl (by kernel_rfl) (by repeat (first | exact lle_l0 | exact LLe.refl _ | exact lle_none | refine lle_up ?_ rfl)) (fun _ _ hh hl => lo_fieldAddr rfl fl27_6) ?_
                refine vw_q 14 rfl (by kernel_rfl) (by repeat (first | exact lle_l0 | exact LLe.refl _ | exact lle_none | refine lle_up ?_ rfl)) (fun _ _ hh hl => lo_fieldAddr rfl fl25_4) ?_
                refine vw_q 15 rfl (by kernel_rfl) (by repeat (first | exact lle_l0 | exact LLe.refl _ | exact lle_none | refine lle_up ?_ rfl)) (fun _ _ hh hl => lo_load1 (i := 0) (v := str _) rfl ag9 (hl _ _ rfl) rfl) ?_
                have := outText_len (outRaw (outText (outText (outNum (outNum (outNum (⟨[], 0⟩ : Out) r.n 8) r.m 8) 0 1) r.mail.shop) r.mail.key) (headBytes r.mail.head)) r.mail.body
                refine vw_qc 16 rfl (by kernel_rfl) (by repeat (first | exact lle_l0 | exact LLe.refl _ | exact lle_none | refine lle_up ?_ rfl)) (out_Text _ (outRaw (outText (outText (outNum (outNum (outNum (⟨[], 0⟩ : Out) r.n 8) r.m 8) 0 1) r.mail.shop) r.mail.key) (headBytes r.mail.head)) r.mail.body (by first | omega | (have := hrl (by assumption); omega) | (simp [outNum, outRaw, numB_len, numK] <;> omega) | (have := hrl (by assumption); simp [outNum, outRaw, numB_len, numK] <;> omega))) (en_f cb45 rfl) ?_
                refine vw_t 17 rfl (by kernel_rfl) (by kernel_rfl) (op1_storeA (i := 2) (vs := [_, _]) rfl rfl rfl sz78 rfl rfl rfl ?_)
                refine vw_done (by kernel_rfl) ?_
                refine seqK_n ?_
                refine cw_seq ?_
                refine cw_anyX 1 mixd ?_
                refine vw_q 0 rfl (by kernel_rfl) (by repeat (first | exact lle_l0 | exact LLe.refl _ | exact lle_none | refine lle_up ?_ rfl)) (fun _ _ hh hl => lo_fieldAddr rfl fl27_0) ?_
                refine vw_q 1 rfl (by kernel_rfl) (by repeat (first | exact lle_l0 | exact LLe.refl _ | exact lle_none | refine lle_up ?_ rfl)) (fun _ _ hh hl => lo_load1 (i := 0) (v := .int _ _) rfl ag5 (hl _ _ rfl) rfl) ?_
                refine vw_q 2 rfl (by kernel_rfl) (by repeat (first | exact lle_l0 | exact LLe.refl _ | exact lle_none | refine lle_up ?_ rfl)) (fun _ _ hh hl => lo_fieldAddr rfl fl27_1) ?_
                refine vw_q 3 rfl (by kernel_rfl) (by repeat (first | exact lle_l0 | exact LLe.refl _ | exact lle_none | refine lle_up ?_ rfl)) (fun _ _ hh hl => lo_load1 (i := 0) (v := .int _ _) rfl ag5 (hl _ _ rfl) rfl) ?_
                have := wr_u8 (64 + r.kind)
                refine vw_q 4 rfl (by kernel_rfl) (by repeat (first | exact lle_l0 | exact LLe.refl _ | exact lle_none | refine lle_up ?_ rfl)) (fun _ _ hh hl => lo_add_w rfl rfl) ?_
                refine vw_q 5 rfl (by kernel_rfl) (by repeat (first | exact lle_l0 | exact LLe.refl _ | exact lle_none | refine lle_up ?_ rfl)) (fun _ _ hh hl => lo_loadA (i := 2) (vs := [_, _]) rfl ag78 sz78 (hl _ _ rfl) rfl rfl) ?_
                refine vw_qc 6 rfl (by kernel_rfl) (by repeat (first | exact lle_l0 | exact LLe.refl _ | exact lle_none | refine lle_up ?_ rfl)) (out_String _ (outText (outRaw (outText (outText (outNum (outNum (outNum (⟨[], 0⟩ : Out) r.n 8) r.m 8) 0 1) r.mail.shop) r.mail.key) (headBytes r.mail.head)) r.mail.body)) (en_f cb49 rfl) ?_
                refine vw_q 7 rfl (by kernel_rfl) (by repeat (first | exact lle_l0 | exact LLe.refl _ | exact lle_none | refine lle_up ?_ rfl)) (fun _ _ hh hl => lo_build (v := .agg #[_, _, _]) rfl (bd35_0u8_1u8_2s _ _ _)) ?_
                refine vw_t 8 rfl (by kernel_rfl) (by kernel_rfl) (op1_storeA (i := 1) (vs := [_, _, _]) rfl rfl rfl sz35 rfl rfl rfl ?_)
                refine vw_q 9 rfl (by kernel_rfl) (by repeat (first | exact lle_l0 | exact LLe.refl _ | exact lle_none | refine lle_up ?_ rfl)) (fun _ _ hh hl => lo_assign (v := .int _ _) rfl) ?_
                refine vw_done (by kernel_rfl) ?_
                refine seqK_n ?_
                refine cw_ret ?_
                refine fnK_r (res2 rfl (rv_c (i := 1) (vs := [_, _, _]) rfl ag35 sz35 rfl rfl rfl) (rv_t (v := .int _ _) rfl)) (.refl _) ?_
                simp [replyFrame, replyOut, replyOut1, Frame.cells, Frame.zero, *]
            · have p24 := df h21
              refine cw_region ?_
              refine ow1 (op1_l rfl (lo_eql rfl rfl) ?_)
              refine ow1 (op1_l rfl (lo_assign (v := .bool _) rfl) ?_)
              refine ow_nil ?_
              refine seqK_n ?_
              refine cw_cond rfl (fun h25 => ?_) (fun h25 => ?_)
              · have p26 := dt h25
                refine cw_anyL mixd ?_
                refine vw_q 0 rfl (by kernel_rfl) (by repeat (first | exact lle_l0 | exact LLe.refl _ | exact lle_none | refine lle_up ?_ rfl)) (fun _ _ hh hl => lo_loadA (i := 2) (vs := [_, _]) rfl ag78 sz78 (hl _ _ rfl) rfl rfl) ?_
                refine vw_q 1 rfl (by kernel_rfl) (by repeat (first | exact lle_l0 | exact LLe.refl _ | exact lle_none | refine lle_up ?_ rfl)) (fun _ _ hh hl => lo_fieldAddr rfl fl27_2) ?_
                refine vw_q 2 rfl (by kernel_rfl) (by repeat (first | exact lle_l0 | exact LLe.refl _ | exact lle_none | refine lle_up ?_ rfl)) (fun _ _ hh hl => lo_load1 (i := 0) (v := .int _ _) rfl ag22 (hl _ _ rfl) rfl) ?_
                have nl0 : (⟨[], 0⟩ : Out).s.length = 0 := rfl
                have := outNum_len (⟨[], 0⟩ : Out) r.n 8
                refine vw_qc 3 rfl (by kernel_rfl) (by repeat (first | exact lle_l0 | exact LLe.refl _ | exact lle_none | refine lle_up ?_ rfl)) (out_Num _ (⟨[], 0⟩ : Out) r.n (by omega) 8 (by omega) (by first | omega | (have := hrl (by assumption); omega) | (simp [outNum, outRaw, numB_len, numK] <;> omega) | (have := hrl (by assumption); simp [outNum, outRaw, numB_len, numK] <;> omega))) (en_f cb46 rfl) ?_
                refine vw_q 4 rfl (by kernel_rfl) (by repeat (first | exact lle_l0 | exact LLe.refl _ | exact lle_none | refine lle_up ?_ rfl)) (fun _ _ hh hl => lo_fieldAddr rfl fl27_3) ?_
                refine vw_q 5 rfl (by kernel_rfl) (by repeat (first | exact lle_l0 | exact LLe.refl _ | exact lle_none | refine lle_up ?_ rfl)) (fun _ _ hh hl => lo_load1 (i := 0) (v := .int _ _) rfl ag22 (hl _ _ rfl) rfl) ?_
                have := outNum_len (outNum (⟨[], 0⟩ : Out) r.n 8) r.m 8
                refine vw_qc 6 rfl (by kernel_rfl) (by repeat (first | exact lle_l0 | exact LLe.refl _ | exact lle_none | refine lle_up ?_ rfl)) (out_Num _ (outNum (⟨[], 0⟩ : Out) r.n 8) r.m (by omega) 8 (by omega) (by first | omega | (have := hrl (by assumption); omega) | (simp [outNum, outRaw, numB_len, numK] <;> omega) | (have := hrl (by assumption); simp [outNum, outRaw, numB_len, numK] <;> omega))) (en_f cb46 rfl) ?_
                refine vw_t 7 rfl (by kernel_rfl) (by kernel_rfl) (op1_storeA (i := 2) (vs := [_, _]) rfl rfl rfl sz78 rfl rfl rfl ?_)
                refine vw_done (by kernel_rfl) ?_
                refine blkK_n ?_
                refine seqK_n ?_
                refine cw_seq ?_
                refine cw_seq ?_
                refine cw_region ?_
                refine ow1 (op1_l rfl (lo_fieldAddr rfl fl27_1) ?_)
                refine ow1 (op1_l rfl (lo_load1 (i := 0) (v := .int _ _) rfl ag5 rfl rfl) ?_)
                refine ow1 (op1_l rfl (lo_eql rfl rfl) ?_)
                refine ow_nil ?_
                refine seqK_n ?_
                refine cw_cond_f rfl h21 ?_
                refine cw_skip ?_
                refine seqK_n ?_
                refine cw_seq ?_
                refine cw_anyX 1 mixd ?_
                refine vw_q 0 rfl (by kernel_rfl) (by repeat (first | exact lle_l0 | exact LLe.refl _ | exact lle_none | refine lle_up ?_ rfl)) (fun _ _ hh hl => lo_fieldAddr rfl fl27_0) ?_
                refine vw_q 1 rfl (by kernel_rfl) (by repeat (first | exact lle_l0 | exact LLe.refl _ | exact lle_none | refine lle_up ?_ rfl)) (fun _ _ hh hl => lo_load1 (i := 0) (v := .int _ _) rfl ag5 (hl _ _ rfl) rfl) ?_
                refine vw_q 2 rfl (by kernel_rfl) (by repeat (first | exact lle_l0 | exact LLe.refl _ | exact lle_none | refine lle_up ?_ rfl)) (fun _ _ hh hl => lo_fieldAddr rfl fl27_1) ?_
                refine vw_q 3 rfl (by kernel_rfl) (by repeat (first | exact lle_l0 | exact LLe.refl _ | exact lle_none | refine lle_up ?_ rfl)) (fun _ _ hh hl => lo_load1 (i := 0) (v := .int _ _) rfl ag5 (hl _ _ rfl) rfl) ?_
                have := wr_u8 (64 + r.kind)
                refine vw_q 4 rfl (by kernel_rfl) (by repeat (first | exact lle_l0 | exact LLe.refl _ | exact lle_none | refine lle_up ?_ rfl)) (fun _ _ hh hl => lo_add_w rfl rfl) ?_
                refine vw_q 5 rfl (by kernel_rfl) (by repeat (first | exact lle_l0 | exact LLe.refl _ | exact lle_none | refine lle_up ?_ rfl)) (fun _ _ hh hl => lo_loadA (i := 2) (vs := [_, _]) rfl ag78 sz78 (hl _ _ rfl) rfl rfl) ?_
                refine vw_qc 6 rfl (by kernel_rfl) (by repeat (first | exact lle_l0 | exact LLe.refl _ | exact lle_none | refine lle_up ?_ rfl)) (out_String _ (outNum (outNum (⟨[], 0⟩ : Out) r.n 8) r.m 8)) (en_f cb49 rfl) ?_
                refine vw_q 7 rfl (by kernel_rfl) (by repeat (first | exact lle_l0 | exact LLe.refl _ | exact lle_none | refine lle_up ?_ rfl)) (fun _ _ hh hl => lo_build (v := .agg #[_, _, _]) rfl (bd35_0u8_1u8_2s _ _ _)) ?_
                refine vw_t 8 rfl (by kernel_rfl) (by kernel_rfl) (op1_storeA (i := 1) (vs := [_, _, _]) rfl rfl rfl sz35 rfl rfl rfl ?_)
                refine vw_q 9 rfl (by kernel_rfl) (by repeat (first | exact lle_l0 | exact LLe.refl _ | exact lle_none | refine lle_up ?_ rfl)) (fun _ _ hh hl => lo_assign (v := .int _ _) rfl) ?_
                refine vw_done (by kernel_rfl) ?_
                refine seqK_n ?_
                refine cw_ret ?_
                refine fnK_r (res2 rfl (rv_c (i := 1) (vs := [_, _, _]) rfl ag35 sz35 rfl rfl rfl) (rv_t (v := .int _ _) rfl)) (.refl _) ?_
                simp [replyFrame, replyOut, replyOut1, Frame.cells, Frame.zero, *]
              · have p27 := df h25
                refine cw_skip ?_
                refine blkK_n ?_
                refine seqK_n ?_
                refine cw_seq ?_
                refine cw_seq ?_
                refine cw_region ?_
                refine ow1 (op1_l rfl (lo_fieldAddr rfl fl27_1) ?_)
                refine ow1 (op1_l rfl (lo_load1 (i := 0) (v := .int _ _) rfl ag5 rfl rfl) ?_)
                refine ow1 (op1_l rfl (lo_eql rfl rfl) ?_)
                refine ow_nil ?_
                refine seqK_n ?_
                refine cw_cond_f rfl h21 ?_
                refine cw_skip ?_
                refine seqK_n ?_
                refine cw_seq ?_
                refine cw_anyX 1 mixd ?_
                refine vw_q 0 rfl (by kernel_rfl) (by repeat (first | exact lle_l0 | exact LLe.refl _ | exact lle_none | refine lle_up ?_ rfl)) (fun _ _ hh hl => lo_fieldAddr rfl fl27_0) ?_
                refine vw_q 1 rfl (by kernel_rfl) (by repeat (first | exact lle_l0 | exact LLe.refl _ | exact lle_none | refine lle_up ?_ rfl)) (fun _ _ hh hl => lo_load1 (i := 0) (v := .int _ _) rfl ag5 (hl _ _ rfl) rfl) ?_
                refine vw_q 2 rfl (by kernel_rfl) (by repeat (first | exact lle_l0 | exact LLe.refl _ | exact lle_none | refine lle_up ?_ rfl)) (fun _ _ hh hl => lo_fieldAddr rfl fl27_1) ?_
                refine vw_q 3 rfl (by kernel_rfl) (by repeat (first | exact lle_l0 | exact LLe.refl _ | exact lle_none | refine lle_up ?_ rfl)) (fun _ _ hh hl => lo_load1 (i := 0) (v := .int _ _) rfl ag5 (hl _ _ rfl) rfl) ?_
                have := wr_u8 (64 + r.kind)
                refine vw_q 4 rfl (by kernel_rfl) (by repeat (first | exact lle_l0 | exact LLe.refl _ | exact lle_none | refine lle_up ?_ rfl)) (fun _ _ hh hl => lo_add_w rfl rfl) ?_
                refine vw_q 5 rfl (by kernel_rfl) (by repeat (first | exact lle_l0 | exact LLe.refl _ | exact lle_none | refine lle_up ?_ rfl)) (fun _ _ hh hl => lo_loadA (i := 2) (vs := [_, _]) rfl ag78 sz78 (hl _ _ rfl) rfl rfl) ?_
                refine vw_qc 6 rfl (by kernel_rfl) (by repeat (first | exact lle_l0 | exact LLe.refl _ | exact lle_none | refine lle_up ?_ rfl)) (out_String _ (⟨[], 0⟩ : Out)) (en_f cb49 rfl) ?_
                refine vw_q 7 rfl (by kernel_rfl) (by repeat (first | exact lle_l0 | exact LLe.refl _ | exact lle_none | refine lle_up ?_ rfl)) (fun _ _ hh hl => lo_build (v := .agg #[_, _, _]) rfl (bd35_0u8_1u8_2s _ _ _)) ?_
                refine vw_t 8 rfl (by kernel_rfl) (by kernel_rfl) (op1_storeA (i := 1) (vs := [_, _, _]) rfl rfl rfl sz35 rfl rfl rfl ?_)
                refine vw_q 9 rfl (by kernel_rfl) (by repeat (first | exact lle_l0 | exact LLe.refl _ | exact lle_none | refine lle_up ?_ rfl)) (fun _ _ hh hl => lo_assign (v := .int _ _) rfl) ?_
                refine vw_done (by kernel_rfl) ?_
                refine seqK_n ?_
                refine cw_ret ?_
                refine fnK_r (res2 rfl (rv_c (i := 1) (vs := [_, _, _]) rfl ag35 sz35 rfl rfl rfl) (rv_t (v := .int _ _) rfl)) (.refl _) ?_
                simp [replyFrame, replyOut, replyOut1, Frame.cells, Frame.zero, *]

end Go.SW


set_option linter.unusedVariables false
set_option maxRecDepth 100000
namespace Go.SW
open Go.Proofs
theorem bd35_0u8_1u8 (a1 : Int) (a2 : Int) (w : World) : (Instr.build 35 #[(0, .int .u8 a1), (1, .int .u8 a2)]).run Tryd.prog w = .ok (.agg #[.int .u8 a1, .int .u8 a2, str []]) w := by kernel_rfl
theorem cb35 : Callable Tryd.prog 35 := callable_of Tryd.func35 (by kernel_rfl) (by kernel_rfl)
theorem cb68 : Callable Tryd.prog 68 := callable_of Tryd.func68 (by kernel_rfl) (by kernel_rfl)

theorem frame_Parse (H : Hp) (s : Bs) (hCrc : GTab H 1 laidT) (hs : s.length ≤ 4611686018427387904) : Pr Tryd.prog 108 #[str s] H (.tuple #[.agg (Frame.cells ((parseF s).1)).toArray, .int .i64 ((parseF s).2.1), .int .i64 ((parseF s).2.2)]) := by
  refine pr_cw Tryd.func108 rfl Tryd.ntmps108 rfl (fun N => ?_)
  refine cw_seq ?_
  refine cw_region ?_
  refine ow1 (op1_alloc 0 rfl zr35 (fun b1 => ?_))
  refine ow1 (op1_l rfl (lo_assign (v := .int _ _) rfl) ?_)
  refine ow1 (op1_l rfl (lo_assign (v := .int _ _) rfl) ?_)
  refine ow_nil ?_
  refine seqK_n ?_
  refine cw_seq ?_
  refine cw_region ?_
  refine ow1 (op1_l rfl (lo_move (v := str _) rfl) ?_)
  refine ow1 (op1_pn 1 (octet_New _ s) (en_f cb35 rfl) rfl ?_)
  rintro _ _ b4 _ ⟨rfl, rfl, rfl⟩ _
  refine ow1 (op1_l rfl (lo_assign (v := .pointer (some ⟨_, _, none⟩)) rfl) ?_)
  refine ow_nil ?_
  refine seqK_n ?_
  refine cw_seq ?_
  refine cw_region ?_
  refine ow1 (op1_l rfl (lo_move (v := .pointer (some ⟨_, _, none⟩)) rfl) ?_)
  refine ow1 (op1_pm 1 rfl (in_Num _ b4 (⟨s, 0⟩) 1 (by omega)) (en_f cb69 rfl) rfl ?_)
  rintro _ _ _ ⟨rfl, rfl, rfl⟩ _
  have := inNum_r (⟨s, 0⟩) 1
  refine ow1 (op1_l rfl (lo_conv_in rfl (by rw [Tryd.underlying22]; rfl) Tryd.underlying5 (rg_u8 (by omega))) ?_)
  refine ow1 (op1_l rfl (lo_move (v := .pointer (some ⟨_, _, none⟩)) rfl) ?_)
  refine ow1 (op1_pm 1 rfl (in_Num _ b4 ((inNum (⟨s, 0⟩) 1).2) 1 (by omega)) (en_f cb69 rfl) rfl ?_)
  rintro _ _ _ ⟨rfl, rfl, rfl⟩ _
  have := inNum_r ((inNum (⟨s, 0⟩) 1).2) 1
  refine ow1 (op1_l rfl (lo_conv_in rfl (by rw [Tryd.underlying22]; rfl) Tryd.underlying5 (rg_u8 (by omega))) ?_)
  refine ow1 (op1_l rfl (lo_build (v := .agg #[_, _, _]) rfl (bd35_0u8_1u8 _ _)) ?_)
  refine ow1 (op1_alloc 2 rfl zr35 (fun b9 => ?_))
  refine ow1 (op1_storeA (i := 2) (vs := [_, _, _]) rfl rfl rfl sz35 rfl rfl rfl ?_)
  refine ow_nil ?_
  refine seqK_n ?_
  refine cw_seq ?_
  refine cw_region ?_
  refine ow1 (op1_l rfl (lo_move (v := .pointer (some ⟨_, _, none⟩)) rfl) ?_)
  refine ow1 (op1_pm 1 rfl (in_Text _ b4 ((inNum ((inNum (⟨s, 0⟩) 1).2) 1).2) 2048 (by omega)) (en_f cb68 rfl) rfl ?_)
  rintro _ _ _ ⟨rfl, rfl, rfl⟩ _
  have := inText_len ((inNum ((inNum (⟨s, 0⟩) 1).2) 1).2) 2048
  refine ow1 (op1_l rfl (lo_fieldAddr rfl fl35_2) ?_)
  refine ow1 (op1_store1 (i := 2) (v := str _) rfl rfl rfl sz9 rfl rfl ?_)
  refine ow_nil ?_
  refine seqK_n ?_
  refine cw_seq ?_
  refine cw_region ?_
  refine ow1 (op1_l rfl (lo_move (v := .pointer (some ⟨_, _, none⟩)) rfl) ?_)
  refine ow1 (op1_pm 1 rfl (in_Num _ b4 ((inText ((inNum ((inNum (⟨s, 0⟩) 1).2) 1).2) 2048).2) 4 (by omega)) (en_f cb69 rfl) rfl ?_)
  rintro _ _ _ ⟨rfl, rfl, rfl⟩ _
  have := inNum_r ((inText ((inNum ((inNum (⟨s, 0⟩) 1).2) 1).2) 2048).2) 4
  refine ow1 (op1_l rfl (lo_move (v := .pointer (some ⟨_, _, none⟩)) rfl) ?_)
  refine ow1 (op1_pm 1 rfl (in_Num _ b4 ((inNum ((inText ((inNum ((inNum (⟨s, 0⟩) 1).2) 1).2) 2048).2) 4).2) 1 (by omega)) (en_f cb69 rfl) rfl ?_)
  rintro _ _ _ ⟨rfl, rfl, rfl⟩ _
  have := inNum_r ((inNum ((inText ((inNum ((inNum (⟨s, 0⟩) 1).2) 1).2) 2048).2) 4).2) 1
  refine ow1 (op1_l rfl (lo_assign (v := .int _ _) rfl) ?_)
  refine ow1 (op1_l rfl (lo_assign (v := .int _ _) rfl) ?_)
  refine ow_nil ?_
  refine seqK_n ?_
  refine cw_seq ?_
  refine cw_seq ?_
  refine cw_region ?_
  refine ow1 (op1_l rfl (lo_move (v := .pointer (some ⟨_, _, none⟩)) rfl) ?_)
  refine ow1 (op1_pm 1 rfl (in_Err _ b4 ((inNum ((inNum ((inText ((inNum ((inNum (⟨s, 0⟩) 1).2) 1).2) 2048).2) 4).2) 1).2)) (en_f cb72 rfl) rfl ?_)
  rintro _ _ _ ⟨rfl, rfl, rfl⟩ _
  refine ow1 (op1_l rfl (lo_assign (v := .int _ _) rfl) ?_)
  refine ow_nil ?_
  refine seqK_n ?_
  refine cw_seq ?_
  refine cw_region ?_
  refine ow1 (op1_l rfl (lo_move (v := .int _ _) rfl) ?_)
  refine ow1 (op1_l rfl (lo_neq rfl rfl) ?_)
  refine ow_nil ?_
  refine seqK_n ?_
  refine cw_cond rfl (fun h18 => ?_) (fun h18 => ?_)
  · have h19 := not_t h18
    have p20 := df h19
    refine cw_seq ?_
    refine cw_region ?_
    refine ow1 (op1_l rfl (lo_build (v := .agg #[_, _, _]) rfl (bd35)) ?_)
    refine ow1 (op1_l rfl (lo_move (v := .int _ _) rfl) ?_)
    refine ow1 (op1_storeA (i := 0) (vs := [_, _, _]) rfl rfl rfl sz35 rfl rfl rfl ?_)
    refine ow1 (op1_l rfl (lo_assign (v := .int _ _) rfl) ?_)
    refine ow1 (op1_l rfl (lo_assign (v := .int _ _) rfl) ?_)
    refine ow_nil ?_
    refine seqK_n ?_
    refine cw_ret ?_
    refine seqK_r ?_
    refine fnK_r (res3 rfl (rv_c (i := 0) (vs := [_, _, _]) rfl ag35 sz35 rfl rfl rfl) (rv_t (v := .int _ _) rfl) (rv_t (v := .int _ _) rfl)) (.refl _) ?_
    first | (simp [parseF, Frame.cells, Frame.zero, *]; done) | (simp [parseF, Frame.cells, Frame.zero, *]; omega)
  · have h21 := not_f h18
    have p22 := dt h21
    refine cw_skip ?_
    refine seqK_n ?_
    refine cw_seq ?_
    refine cw_region ?_
    refine ow1 (op1_l rfl (lo_fieldAddr rfl fl35_2) ?_)
    refine ow1 (op1_l rfl (lo_load1 (i := 2) (v := str _) rfl ag9 rfl rfl) ?_)
    refine ow1 (op1_l rfl (lo_len_str rfl Tryd.underlying9) ?_)
    refine ow1 (op1_l rfl (lo_add rfl rfl (rg_i64 (by omega))) ?_)
    refine ow1 (op1_l rfl (lo_assign (v := .int _ _) rfl) ?_)
    refine ow_nil ?_
    refine seqK_n ?_
    refine cw_seq ?_
    refine cw_block ?_
    refine cw_seq ?_
    refine cw_region ?_
    refine ow1 (op1_l rfl (lo_move (v := .int _ _) rfl) ?_)
    refine ow1 (op1_l rfl (lo_neq rfl rfl) ?_)
    refine ow1 (op1_l rfl (lo_assign (v := .bool _) rfl) ?_)
    refine ow_nil ?_
    refine seqK_n ?_
    refine cw_cond rfl (fun h23 => ?_) (fun h23 => ?_)
    · have h24 := not_t h23
      have p25 := df h24
      refine cw_seq ?_
      refine cw_region ?_
      refine ow1 (op1_l rfl (lo_build (v := .agg #[_, _, _]) rfl (bd35)) ?_)
      refine ow1 (op1_storeA (i := 0) (vs := [_, _, _]) rfl rfl rfl sz35 rfl rfl rfl ?_)
      refine ow1 (op1_l rfl (lo_assign (v := .int _ _) rfl) ?_)
      refine ow1 (op1_l rfl (lo_assign (v := .int _ _) rfl) ?_)
      refine ow_nil ?_
      refine seqK_n ?_
      refine cw_ret ?_
      refine blkK_r ?_
      refine seqK_r ?_
      refine fnK_r (res3 rfl (rv_c (i := 0) (vs := [_, _, _]) rfl ag35 sz35 rfl rfl rfl) (rv_t (v := .int _ _) rfl) (rv_t (v := .int _ _) rfl)) (.refl _) ?_
      first | (simp [parseF, Frame.cells, Frame.zero, *]; done) | (simp [parseF, Frame.cells, Frame.zero, *]; omega)
    · have h26 := not_f h23
      have p27 := dt h26
      refine cw_seq ?_
      refine cw_region ?_
      refine ow1 (op1_l rfl (lo_move (v := str _) rfl) ?_)
      refine ow1 (op1_l rfl (lo_move (v := .int _ _) rfl) ?_)
      refine ow1 (op1_l rfl (lo_slice_str_hi (4 + (((inText ((inNum ((inNum (⟨s, 0⟩) 1).2) 1).2) 2048).1).length)) rfl rfl Tryd.underlying9 (by omega) (by first | omega | (have := parse_len (s := s) (by assumption); omega))) ?_)
      refine ow1 (op1_bslice (cs := [_]) 3 rfl Tryd.underlying108 sz9 zx9 rfl ⟨rfl, rfl, trivial⟩ rfl rfl (by decide) (fun b28 => ?_))
      refine ow_giveO 3 rfl (fun _ hl29 hg30 => ?_)
      have hs31 := slh_bx (H := _) (enc := (fun s => [str s])) (wf := (fun s => s.length ≤ 9223372036854775807)) [(s.take (4 + (((inText ((inNum ((inNum (⟨s, 0⟩) 1).2) 1).2) 2048).1).length)))] (fun _ => rfl) (hg30 _ _ rfl) rfl rfl (Nat.le_refl _) (by first | (intro x hx; simp at hx; subst hx; first | omega | (simp; done) | (simp; omega)) | (simp; done) | (simp; omega))
      refine ow1 (op1_pr (crc_Sum _ (some ⟨b28, 0, none⟩) 1 1 [(s.take (4 + (((inText ((inNum ((inNum (⟨s, 0⟩) 1).2) 1).2) 2048).1).length)))] hs31 (hCrc.mono ((HLe.refl _).trans hl29)) (by first | omega | (simp; done) | (simp; omega))) (en_f cb107 rfl) rfl ?_)
      have := crcSum_r [(s.take (4 + (((inText ((inNum ((inNum (⟨s, 0⟩) 1).2) 1).2) 2048).1).length)))]
      refine ow1 (op1_l rfl (lo_conv_in rfl (by rw [Tryd.underlying135]; rfl) Tryd.underlying22 (rg_u64 (by omega))) ?_)
      refine ow1 (op1_l rfl (lo_move (v := .int _ _) rfl) ?_)
      refine ow1 (op1_l rfl (lo_neq rfl rfl) ?_)
      refine ow1 (op1_l rfl (lo_assign (v := .bool _) rfl) ?_)
      refine ow_nil ?_
      refine seqK_n ?_
      refine cw_cond rfl (fun h32 => ?_) (fun h32 => ?_)
      · have h33 := not_t h32
        have p34 := df h33
        refine cw_seq ?_
        refine cw_region ?_
        refine ow1 (op1_l rfl (lo_build (v := .agg #[_, _, _]) rfl (bd35)) ?_)
        refine ow1 (op1_storeA (i := 0) (vs := [_, _, _]) rfl rfl rfl sz35 rfl rfl rfl ?_)
        refine ow1 (op1_l rfl (lo_assign (v := .int _ _) rfl) ?_)
        refine ow1 (op1_l rfl (lo_assign (v := .int _ _) rfl) ?_)
        refine ow_nil ?_
        refine seqK_n ?_
        refine cw_ret ?_
        refine blkK_r ?_
        refine seqK_r ?_
        refine fnK_r (res3 rfl (rv_c (i := 0) (vs := [_, _, _]) rfl ag35 sz35 rfl rfl rfl) (rv_t (v := .int _ _) rfl) (rv_t (v := .int _ _) rfl)) ((HLe.refl _).trans hl29) ?_
        first | (simp [parseF, Frame.cells, Frame.zero, *]; done) | (simp [parseF, Frame.cells, Frame.zero, *]; omega)
      · have h35 := not_f h32
        have p36 := dt h35
        refine cw_skip ?_
        refine blkK_n ?_
        refine seqK_n ?_
        refine cw_seq ?_
        refine cw_region ?_
        refine ow1 (op1_l rfl (lo_loadA (i := 2) (vs := [_, _, _]) rfl ag35 sz35 rfl rfl rfl) ?_)
        refine ow1 (op1_l rfl (lo_move (v := .int _ _) rfl) ?_)
        refine ow1 (op1_l rfl (lo_add rfl rfl (rg_i64 (by omega))) ?_)
        refine ow1 (op1_storeA (i := 0) (vs := [_, _, _]) rfl rfl rfl sz35 rfl rfl rfl ?_)
        refine ow1 (op1_l rfl (lo_assign (v := .int _ _) rfl) ?_)
        refine ow1 (op1_l rfl (lo_assign (v := .int _ _) rfl) ?_)
        refine ow_nil ?_
        refine seqK_n ?_
        refine cw_ret ?_
        refine fnK_r (res3 rfl (rv_c (i := 0) (vs := [_, _, _]) rfl ag35 sz35 rfl rfl rfl) (rv_t (v := .int _ _) rfl) (rv_t (v := .int _ _) rfl)) ((HLe.refl _).trans hl29) ?_
        first | (simp [parseF, Frame.cells, Frame.zero, *]; done) | (simp [parseF, Frame.cells, Frame.zero, *]; omega)

end Go.SW


set_option linter.unusedVariables false
set_option maxRecDepth 100000
namespace Go.SW
open Go.Proofs
theorem ag115 : Ag Tryd.prog 115 true := fun w => by kernel_rfl
theorem bd115_1i64 (a1 : Int) (w : World) : (Instr.build 115 #[(1, .int .i64 a1)]).run Tryd.prog w = .ok (.agg #[str [], .int .i64 a1]) w := by kernel_rfl
theorem by35 : By Tryd.prog 35 24 := by_of (by kernel_rfl)
theorem cb108 : Callable Tryd.prog 108 := callable_of Tryd.func108 (by kernel_rfl) (by kernel_rfl)
theorem fl115_0 : Fld Tryd.prog 115 0 0 := fun b o w => by kernel_rfl
theorem fl115_1 : Fld Tryd.prog 115 1 1 := fun b o w => by kernel_rfl
theorem sz115 : Sz Tryd.prog 115 2 := fun w => by kernel_rfl
theorem zr115 : Zr Tryd.prog 115 [str [], .int .i64 0] := fun w => ⟨.agg #[str [], .int .i64 0], by kernel_rfl, rfl⟩
theorem zx35 : ∃ z, ∀ w, (zeroValue 35).run Tryd.prog w = .ok z w := ⟨.agg #[.int .u8 0, .int .u8 0, str []], fun w => by kernel_rfl⟩

theorem feed_Take (H : Hp) (f : Feed) (chunk : Bs) (hCrc : GTab H 1 laidT) (hfl : f.rest.length + chunk.length ≤ 4000000000) : Ph Tryd.prog 89 #[.agg (Feed.cells f).toArray, str chunk] H (fun v H' => ∃ (a1 : Option Addr) (c1 : Nat), v = .tuple #[.agg (Feed.cells ((feedTake f chunk).1)).toArray, .slice a1 ((feedTake f chunk).2).length c1] ∧ SlH frameE 3 H' (.slice a1 ((feedTake f chunk).2).length c1) ((feedTake f chunk).2)) := by
  refine ph_cw Tryd.func89 rfl Tryd.ntmps89 rfl (fun N => ?_)
  refine cw_seq ?_
  refine cw_region ?_
  refine ow1 (op1_box (cs := [_, _]) 0 rfl rfl (fun b1 => ?_))
  refine ow1 (op1_alloc 1 rfl zr115 (fun b2 => ?_))
  refine ow1 (op1_l rfl (lo_assign (v := .slice _ _ _) rfl) ?_)
  refine ow_nil ?_
  refine seqK_n ?_
  refine cw_scope ?_
  refine cw_seq ?_
  refine cw_seq ?_
  refine cw_region ?_
  refine ow1 (op1_l rfl (lo_fieldAddr rfl fl115_1) ?_)
  refine ow1 (op1_l rfl (lo_load1 (i := 0) (v := .int _ _) rfl ag36 rfl rfl) ?_)
  refine ow1 (op1_l rfl (lo_neq rfl rfl) ?_)
  refine ow_nil ?_
  refine seqK_n ?_
  refine cw_cond rfl (fun h3 => ?_) (fun h3 => ?_)
  · have h4 := not_t h3
    have p5 := df h4
    refine cw_seq ?_
    refine cw_region ?_
    refine ow1 (op1_l rfl (lo_loadA (i := 0) (vs := [_, _]) rfl ag115 sz115 rfl rfl rfl) ?_)
    refine ow1 (op1_storeA (i := 1) (vs := [_, _]) rfl rfl rfl sz115 rfl rfl rfl ?_)
    refine ow1 (op1_l rfl (lo_assign (v := .slice _ _ _) rfl) ?_)
    refine ow_nil ?_
    refine seqK_n ?_
    refine cw_ret ?_
    refine seqK_r ?_
    refine scK_r ?_
    refine fnK_r (res2 rfl (rv_c (i := 1) (vs := [_, _]) rfl ag115 sz115 rfl rfl rfl) (rv_t (v := .slice _ _ _) rfl)) (.refl _) ?_
    have e : feedTake f chunk = (f, []) := by simp [feedTake, *]
    rw [e]
    exact ⟨none, 0, rfl, slh_nil⟩
  · have h6 := not_f h3
    have p7 := dt h6
    refine cw_skip ?_
    refine seqK_n ?_
    refine cw_seq ?_
    refine cw_region ?_
    refine ow1 (op1_l rfl (lo_assign (v := .slice _ _ _) rfl) ?_)
    refine ow_nil ?_
    refine seqK_n ?_
    refine cw_seq ?_
    refine cw_region ?_
    refine ow1 (op1_l rfl (lo_fieldAddr rfl fl115_0) ?_)
    refine ow1 (op1_l rfl (lo_load1 (i := 0) (v := str _) rfl ag9 rfl rfl) ?_)
    refine ow1 (op1_l rfl (lo_move (v := str _) rfl) ?_)
    refine ow1 (op1_l rfl (lo_cat rfl rfl (by first | omega | (simp <;> omega))) ?_)
    refine ow1 (op1_l rfl (lo_fieldAddr rfl fl115_0) ?_)
    refine ow1 (op1_store1 (i := 0) (v := str _) rfl rfl rfl sz9 rfl rfl ?_)
    refine ow_nil ?_
    refine seqK_n ?_
    refine cw_seq ?_
    refine cw_label ?_
    refine seqK_n ?_
    refine cw_seq ?_
    refine cw_block ?_
    refine cw_loop5 [6, 7, 8, 9, 19, 20, 21, 22, 23, 24, 25, 26, 27, 28, 29, 30, 31, 32, 33, 34, 35, 36, 37, 38, 39, 40, 41] [0, 2, 3, 9] (fun (k : Nat) (rest : Bs) (out : List Frame) (v : Value) (en : Option (Nat × Obj)) G => upd (G) 6 (v)) (fun (k : Nat) (rest : Bs) (out : List Frame) (v : Value) (en : Option (Nat × Obj)) G => lupd (lupd (G) 0 (some (b1, bx 115 [str rest, .int .i64 f.err]))) 9 (en)) (fun (k : Nat) (rest : Bs) (out : List Frame) (v : Value) (en : Option (Nat × Obj)) H' => feedTake f chunk = feedGo k rest out ∧ rest.length < k ∧ (rest.length : Int) + out.length ≤ f.rest.length + chunk.length ∧ OwnV 3 35 v en out.length (out.flatMap Frame.cells) ∧ (∀ x ∈ out, Frame.wf x)) (fun (k : Nat) (rest : Bs) (out : List Frame) (v : Value) (en : Option (Nat × Obj)) => k) ((f.rest ++ chunk).length + 1) (f.rest ++ chunk) [] (.slice none 0 0) none (upd_intro (mask_intro (by first | exact off_refl | (repeat (first | exact off_mask | refine off_upd rfl ?_ | refine off_mask2 rfl ?_)))) rfl) (lupd_intro (lupd_intro (lmask_intro offl_refl) rfl) rfl) ?_ ?_
    · exact ⟨by simp [feedTake, *], by omega, by simp, ownV_nil, fun x hx => by cases hx⟩
    · intro k rest out v en J9 JL9 H9 hp8 hl9
      obtain ⟨hk1, hk2, hk3, ho, hw⟩ := hp8
      refine cw_block ?_
      refine cw_seq ?_
      refine cw_region ?_
      refine ow1 (op1_l rfl (lo_fieldAddr rfl fl115_0) ?_)
      refine ow1 (op1_l rfl (lo_load1 (i := 0) (v := str _) rfl ag9 rfl rfl) ?_)
      refine ow1 (op1_pr (frame_Parse _ rest (hCrc.mono ((HLe.refl _).trans hl9)) (by first | omega | (simp <;> omega))) (en_f cb108 rfl) rfl ?_)
      have hpo := parseF_ok rest
      refine ow1 (op1_l rfl (lo_move (v := .tuple #[_, _, _]) rfl) ?_)
      refine ow1 (op1_l rfl (lo_extract (v := .agg #[_, _, _]) rfl rfl) ?_)
      refine ow1 (op1_l rfl (lo_extract (v := .int _ _) rfl rfl) ?_)
      refine ow1 (op1_l rfl (lo_extract (v := .int _ _) rfl rfl) ?_)
      refine ow1 (op1_alloc 2 rfl zr35 (fun b10 => ?_))
      refine ow1 (op1_storeA (i := 2) (vs := [_, _, _]) rfl rfl rfl sz35 rfl rfl rfl ?_)
      refine ow1 (op1_l rfl (lo_assign (v := .int _ _) rfl) ?_)
      refine ow1 (op1_l rfl (lo_assign (v := .int _ _) rfl) ?_)
      refine ow_nil ?_
      refine seqK_n ?_
      refine cw_seq ?_
      refine cw_region ?_
      refine ow1 (op1_l rfl (lo_move (v := .int _ _) rfl) ?_)
      refine ow_nil ?_
      refine seqK_n ?_
      refine cw_block ?_
      refine cw_seq ?_
      refine cw_region ?_
      refine ow1 (op1_l rfl (lo_eql rfl rfl) ?_)
      refine ow1 (op1_l rfl (lo_assign (v := .bool _) rfl) ?_)
      refine ow_nil ?_
      refine seqK_n ?_
      refine cw_cond rfl (fun h11 => ?_) (fun h11 => ?_)
      · have p12 := dt h11
        refine cw_seq ?_
        refine cw_region ?_
        refine ow1 (op1_l rfl (lo_move rfl) ?_)
        refine ow1 (op1_l rfl (lo_loadA (i := 2) (vs := [_, _, _]) rfl ag35 sz35 rfl rfl rfl) ?_)
        refine ow1 (op1_bslice (cs := [_, _, _]) 3 rfl Tryd.underlying116 sz35 zx35 rfl ⟨rfl, rfl, trivial⟩ rfl rfl (by decide) (fun b13 => ?_))
        refine ow1 (op1_app 9 rfl rfl Tryd.underlying116 Tryd.underlying116 rfl sz35 by35 (by decide) zr35 ho (src_bx (i := 3) rfl rfl) (List.all_eq_true.1 rfl) rfl (by omega) rfl (fun v14 en15 ho16 => ?_))
        have ho17 := own_push (enc := Frame.cells) out ((parseF rest).1) ho16 rfl
        refine ow1 (op1_l rfl (lo_assign rfl) ?_)
        refine ow_nil ?_
        refine seqK_n ?_
        refine cw_region ?_
        refine ow1 (op1_l rfl (lo_fieldAddr rfl fl115_0) ?_)
        refine ow1 (op1_l rfl (lo_load1 (i := 0) (v := str _) rfl ag9 rfl rfl) ?_)
        refine ow1 (op1_l rfl (lo_move (v := .int _ _) rfl) ?_)
        refine ow1 (op1_l rfl (lo_slice_str_lo ((parseF rest).2.1).toNat rfl rfl Tryd.underlying9 (by first | omega | (have := hpo (by assumption); omega)) (by first | omega | (have := hpo (by assumption); omega))) ?_)
        refine ow1 (op1_l rfl (lo_fieldAddr rfl fl115_0) ?_)
        refine ow1 (op1_store1 (i := 0) (v := str _) rfl rfl rfl sz9 rfl rfl ?_)
        refine ow_nil ?_
        refine blkK_n ?_
        refine blkK_n ?_
        refine next5 (k - 1) (rest.drop ((parseF rest).2.1).toNat) (out ++ [((parseF rest).1)]) v14 en15 (upd_intro (mask_intro (by first | exact off_refl | (repeat (first | exact off_mask | refine off_upd rfl ?_ | refine off_mask2 rfl ?_)))) rfl) (lupd_intro (lupd_intro (lmask_intro (by first | exact offl_refl | (repeat (first | exact offl_mask | refine offl_upd rfl ?_ | refine offl_mask2 rfl ?_)))) rfl) rfl) hl9 ?_ ?_
        · have hp0 : (parseF rest).2.2 = 0 := by assumption
          have hpo := hpo hp0
          refine ⟨?_, by simp; omega, by simp; omega, ho17, wf_push hw (parseF_wf rest)⟩
          obtain ⟨j, rfl⟩ : ∃ j, k = j + 1 := ⟨k - 1, by omega⟩
          rw [hk1]
          simp only [feedGo, Nat.add_sub_cancel]
          rw [if_pos hp0]
        · omega
      · have p18 := df h11
        refine cw_seq ?_
        refine cw_region ?_
        refine ow1 (op1_l rfl (lo_eql rfl rfl) ?_)
        refine ow1 (op1_l rfl (lo_assign (v := .bool _) rfl) ?_)
        refine ow_nil ?_
        refine seqK_n ?_
        refine cw_cond rfl (fun h19 => ?_) (fun h19 => ?_)
        · have p20 := dt h19
          refine cw_exit ?_
          refine blkK_e rfl ?_
          refine blkK_e rfl ?_
          refine loopK_e ?_
          refine blkK_hit ?_
          refine seqK_n ?_
          refine cw_seq ?_
          refine cw_region ?_
          refine ow1 (op1_l rfl (lo_loadA (i := 0) (vs := [_, _]) rfl ag115 sz115 rfl rfl rfl) ?_)
          refine ow1 (op1_l rfl (lo_move rfl) ?_)
          refine ow1 (op1_storeA (i := 1) (vs := [_, _]) rfl rfl rfl sz115 rfl rfl rfl ?_)
          refine ow1 (op1_l rfl (lo_assign rfl) ?_)
          refine ow_nil ?_
          refine seqK_n ?_
          refine cw_giveO 9 rfl (fun _ hl21 hg22 => ?_)
          have hs23 := slh_own (enc := Frame.cells) (wf := Frame.wf) (fun _ => rfl) ho hw hg22
          obtain ⟨⟨a24, c25, rfl, -⟩, -⟩ := id hs23
          refine cw_ret ?_
          refine scK_r ?_
          refine fnK_r (res2 rfl (rv_c (i := 1) (vs := [_, _]) rfl ag115 sz115 rfl rfl rfl) (rv_t (v := .slice _ _ _) rfl)) (((HLe.refl _).trans hl9).trans hl21) ?_
          have e : feedTake f chunk = (⟨rest, f.err⟩, out) := by
            obtain ⟨j, rfl⟩ : ∃ j, k = j + 1 := ⟨k - 1, by omega⟩
            rw [hk1]
            simp [feedGo, *]
          rw [e]
          exact ⟨_, _, rfl, hs23⟩
        · have p26 := df h19
          refine cw_seq ?_
          refine cw_region ?_
          refine ow1 (op1_l rfl (lo_move (v := .int _ _) rfl) ?_)
          refine ow1 (op1_l rfl (lo_build (v := .agg #[_, _]) rfl (bd115_1i64 _)) ?_)
          refine ow1 (op1_storeA (i := 0) (vs := [_, _]) rfl rfl rfl sz115 rfl rfl rfl ?_)
          refine ow_nil ?_
          refine seqK_n ?_
          refine cw_exit ?_
          refine blkK_e rfl ?_
          refine blkK_e rfl ?_
          refine loopK_e ?_
          refine blkK_hit ?_
          refine seqK_n ?_
          refine cw_seq ?_
          refine cw_region ?_
          refine ow1 (op1_l rfl (lo_loadA (i := 0) (vs := [_, _]) rfl ag115 sz115 rfl rfl rfl) ?_)
          refine ow1 (op1_l rfl (lo_move rfl) ?_)
          refine ow1 (op1_storeA (i := 1) (vs := [_, _]) rfl rfl rfl sz115 rfl rfl rfl ?_)
          refine ow1 (op1_l rfl (lo_assign rfl) ?_)
          refine ow_nil ?_
          refine seqK_n ?_
          refine cw_giveO 9 rfl (fun _ hl27 hg28 => ?_)
          have hs29 := slh_own (enc := Frame.cells) (wf := Frame.wf) (fun _ => rfl) ho hw hg28
          obtain ⟨⟨a30, c31, rfl, -⟩, -⟩ := id hs29
          refine cw_ret ?_
          refine scK_r ?_
          refine fnK_r (res2 rfl (rv_c (i := 1) (vs := [_, _]) rfl ag115 sz115 rfl rfl rfl) (rv_t (v := .slice _ _ _) rfl)) (((HLe.refl _).trans hl9).trans hl27) ?_
          have e : feedTake f chunk = (⟨[], (parseF rest).2.2⟩, out) := by
            obtain ⟨j, rfl⟩ : ∃ j, k = j + 1 := ⟨k - 1, by omega⟩
            rw [hk1]
            simp [feedGo, *]
          rw [e]
          exact ⟨_, _, rfl, hs29⟩

end Go.SW


set_option linter.unusedVariables false
set_option maxRecDepth 100000
namespace Go.SW
open Go.Proofs
theorem cb101 : Callable Tryd.prog 101 := callable_of Tryd.func101 (by kernel_rfl) (by kernel_rfl)
theorem cb109 : Callable Tryd.prog 109 := callable_of Tryd.func109 (by kernel_rfl) (by kernel_rfl)
theorem cb116 : Callable Tryd.prog 116 := callable_of Tryd.func116 (by kernel_rfl) (by kernel_rfl)
theorem cb85 : Callable Tryd.prog 85 := callable_of Tryd.func85 (by kernel_rfl) (by kernel_rfl)
theorem cb88 : Callable Tryd.prog 88 := callable_of Tryd.func88 (by kernel_rfl) (by kernel_rfl)
theorem cb92 : Callable Tryd.prog 92 := callable_of Tryd.func92 (by kernel_rfl) (by kernel_rfl)

theorem feed_Rest (H : Hp) (f : Feed) : Pr Tryd.prog 90 #[.agg (Feed.cells f).toArray] H (str f.rest) := by
  refine pr_cw Tryd.func90 rfl Tryd.ntmps90 rfl (fun N => ?_)
  refine cw_seq ?_
  refine cw_region ?_
  refine ow1 (op1_box (cs := [_, _]) 0 rfl rfl (fun b1 => ?_))
  refine ow1 (op1_l rfl (lo_assign (v := str _) rfl) ?_)
  refine ow_nil ?_
  refine seqK_n ?_
  refine cw_seq ?_
  refine cw_region ?_
  refine ow1 (op1_l rfl (lo_fieldAddr rfl fl115_0) ?_)
  refine ow1 (op1_l rfl (lo_load1 (i := 0) (v := str _) rfl ag9 rfl rfl) ?_)
  refine ow1 (op1_l rfl (lo_assign (v := str _) rfl) ?_)
  refine ow_nil ?_
  refine seqK_n ?_
  refine cw_ret ?_
  refine fnK_r (res1 rfl (rv_t (v := str _) rfl)) (.refl _) ?_
  rfl

theorem feed_Err (H : Hp) (f : Feed) : Pr Tryd.prog 91 #[.agg (Feed.cells f).toArray] H (.int .i64 f.err) := by
  refine pr_cw Tryd.func91 rfl Tryd.ntmps91 rfl (fun N => ?_)
  refine cw_seq ?_
  refine cw_region ?_
  refine ow1 (op1_box (cs := [_, _]) 0 rfl rfl (fun b1 => ?_))
  refine ow1 (op1_l rfl (lo_assign (v := .int _ _) rfl) ?_)
  refine ow_nil ?_
  refine seqK_n ?_
  refine cw_seq ?_
  refine cw_region ?_
  refine ow1 (op1_l rfl (lo_fieldAddr rfl fl115_1) ?_)
  refine ow1 (op1_l rfl (lo_load1 (i := 0) (v := .int _ _) rfl ag36 rfl rfl) ?_)
  refine ow1 (op1_l rfl (lo_assign (v := .int _ _) rfl) ?_)
  refine ow_nil ?_
  refine seqK_n ?_
  refine cw_ret ?_
  refine fnK_r (res1 rfl (rv_t (v := .int _ _) rfl)) (.refl _) ?_
  rfl

theorem l01_awake (H : Hp)  : Pr Tryd.prog 109 #[] H (.bool true) := by
  refine pr_cw Tryd.func109 rfl Tryd.ntmps109 rfl (fun N => ?_)
  refine cw_seq ?_
  refine cw_region ?_
  refine ow1 (op1_l rfl (lo_assign (v := .bool _) rfl) ?_)
  refine ow_nil ?_
  refine seqK_n ?_
  refine cw_seq ?_
  refine cw_region ?_
  refine ow1 (op1_l rfl (lo_build (v := .agg #[_, _]) rfl (bd78)) ?_)
  refine ow1 (op1_pr (out_Num _ (⟨[], 0⟩ : Out) 258 (by omega) 2 (by omega) (by first | omega | (have := hrl (by assumption); omega) | (simp [outNum, outRaw, numB_len, numK] <;> omega) | (have := hrl (by assumption); simp [outNum, outRaw, numB_len, numK] <;> omega))) (en_f cb46 rfl) rfl ?_)
  have nl0 : (⟨[], 0⟩ : Out).s.length = 0 := rfl
  have := outNum_len (⟨[], 0⟩ : Out) 258 2
  refine ow1 (op1_pr (out_String _ (outNum (⟨[], 0⟩ : Out) 258 2)) (en_f cb49 rfl) rfl ?_)
  refine ow1 (op1_l rfl (lo_seql rfl rfl) ?_)
  refine ow1 (op1_l rfl (lo_move (v := .bool _) rfl) ?_)
  refine ow1 (op1_g rfl (by decide +kernel) rfl (lo_build (v := .agg #[_, _]) rfl (bd78)) ?_)
  refine ow1 (op1_prg rfl (by decide +kernel) (out_Text _ (⟨[], 0⟩ : Out) [97, 98] (by first | omega | (have := hrl (by assumption); omega) | (simp [outNum, outRaw, numB_len, numK] <;> omega) | (have := hrl (by assumption); simp [outNum, outRaw, numB_len, numK] <;> omega))) (en_f cb45 rfl) rfl ?_)
  have nl0 : (⟨[], 0⟩ : Out).s.length = 0 := rfl
  have := outText_len (⟨[], 0⟩ : Out) [97, 98]
  refine ow1 (op1_prg rfl (by decide +kernel) (out_String _ (outText (⟨[], 0⟩ : Out) [97, 98])) (en_f cb49 rfl) rfl ?_)
  refine ow1 (op1_g rfl (by decide +kernel) rfl (lo_seql rfl rfl) ?_)
  refine ow1 (op1_l rfl (lo_pick_t (v := .bool _) rfl (by decide +kernel) rfl) ?_)
  refine ow1 (op1_l rfl (lo_move (v := .bool _) rfl) ?_)
  refine ow1 (op1_png 0 rfl (by decide +kernel) (octet_New _ [1, 2]) (en_f cb35 rfl) rfl ?_)
  rintro _ _ b3 _ ⟨rfl, rfl, rfl⟩ _
  refine ow1 (op1_pmg 0 rfl (by decide +kernel) rfl (in_Num _ b3 (⟨[1, 2], 0⟩) 2 (by omega)) (en_f cb69 rfl) rfl ?_)
  rintro _ _ _ ⟨rfl, rfl, rfl⟩ _
  have := inNum_r (⟨[1, 2], 0⟩) 2
  refine ow1 (op1_g rfl (by decide +kernel) rfl (lo_eql rfl rfl) ?_)
  refine ow1 (op1_l rfl (lo_pick_t (v := .bool _) rfl (by decide +kernel) rfl) ?_)
  refine ow1 (op1_l rfl (lo_assign (v := .bool _) rfl) ?_)
  refine ow_nil ?_
  refine seqK_n ?_
  refine cw_ret ?_
  refine fnK_r (res1 rfl (rv_t (v := .bool _) rfl)) (.refl _) ?_
  exact congrArg Value.bool (by decide +kernel)

theorem l01_Awake (H : Hp)  : Pr Tryd.prog 92 #[] H (.bool true) := by
  refine pr_cw Tryd.func92 rfl Tryd.ntmps92 rfl (fun N => ?_)
  refine cw_seq ?_
  refine cw_region ?_
  refine ow1 (op1_l rfl (lo_assign (v := .bool _) rfl) ?_)
  refine ow_nil ?_
  refine seqK_n ?_
  refine cw_seq ?_
  refine cw_region ?_
  refine ow1 (op1_pr (l01_awake _ ) (en_f cb109 rfl) rfl ?_)
  refine ow1 (op1_l rfl (lo_assign (v := .bool _) rfl) ?_)
  refine ow_nil ?_
  refine seqK_n ?_
  refine cw_ret ?_
  refine fnK_r (res1 rfl (rv_t (v := .bool _) rfl)) (.refl _) ?_
  rfl

theorem l02_awake (H : Hp)  (hCrc : GTab H 1 laidT) : Pr Tryd.prog 116 #[] H (.bool true) := by
  refine pr_cw Tryd.func116 rfl Tryd.ntmps116 rfl (fun N => ?_)
  refine cw_seq ?_
  refine cw_region ?_
  refine ow1 (op1_l rfl (lo_assign (v := .bool _) rfl) ?_)
  refine ow_nil ?_
  refine seqK_n ?_
  refine cw_seq ?_
  refine cw_region ?_
  refine ow1 (op1_bslice (cs := [_, _]) 0 rfl Tryd.underlying108 sz9 zx9 rfl ⟨rfl, rfl, ⟨rfl, rfl, trivial⟩⟩ rfl rfl (by decide) (fun b1 => ?_))
  refine ow_giveO 0 rfl (fun _ hl2 hg3 => ?_)
  have hs4 := slh_bx (H := _) (enc := (fun s => [str s])) (wf := (fun s => s.length ≤ 9223372036854775807)) [[49, 50, 51, 52], [53, 54, 55, 56, 57]] (fun _ => rfl) (hg3 _ _ rfl) rfl rfl (Nat.le_refl _) (by first | (intro x hx; simp at hx; subst hx; first | omega | (simp; done) | (simp; omega)) | (simp; done) | (simp; omega))
  refine ow1 (op1_pr (crc_Sum _ (some ⟨b1, 0, none⟩) 2 2 [[49, 50, 51, 52], [53, 54, 55, 56, 57]] hs4 (hCrc.mono ((HLe.refl _).trans hl2)) (by first | omega | (simp; done) | (simp; omega))) (en_f cb107 rfl) rfl ?_)
  have := crcSum_r [[49, 50, 51, 52], [53, 54, 55, 56, 57]]
  refine ow1 (op1_l rfl (lo_eql rfl rfl) ?_)
  refine ow1 (op1_l rfl (lo_move (v := .bool _) rfl) ?_)
  refine ow1 (op1_prg rfl (by decide +kernel) (crc_Sum _ none 0 0 [] slh_nil (hCrc.mono ((HLe.refl _).trans hl2)) (by first | omega | (simp; done) | (simp; omega))) (en_f cb107 rfl) rfl ?_)
  have := crcSum_r []
  refine ow1 (op1_g rfl (by decide +kernel) rfl (lo_eql rfl rfl) ?_)
  refine ow1 (op1_l rfl (lo_pick_t (v := .bool _) rfl (by decide +kernel) rfl) ?_)
  refine ow1 (op1_l rfl (lo_assign (v := .bool _) rfl) ?_)
  refine ow_nil ?_
  refine seqK_n ?_
  refine cw_ret ?_
  refine fnK_r (res1 rfl (rv_t (v := .bool _) rfl)) ((HLe.refl _).trans hl2) ?_
  exact congrArg Value.bool (by decide +kernel)

theorem l02_Awake (H : Hp)  (hCrc : GTab H 1 laidT) : Pr Tryd.prog 101 #[] H (.bool true) := by
  refine pr_cw Tryd.func101 rfl Tryd.ntmps101 rfl (fun N => ?_)
  refine cw_seq ?_
  refine cw_region ?_
  refine ow1 (op1_l rfl (lo_assign (v := .bool _) rfl) ?_)
  refine ow_nil ?_
  refine seqK_n ?_
  refine cw_seq ?_
  refine cw_region ?_
  refine ow1 (op1_pr (l02_awake _ hCrc) (en_f cb116 rfl) rfl ?_)
  refine ow1 (op1_l rfl (lo_assign (v := .bool _) rfl) ?_)
  refine ow_nil ?_
  refine seqK_n ?_
  refine cw_ret ?_
  refine fnK_r (res1 rfl (rv_t (v := .bool _) rfl)) (.refl _) ?_
  rfl

theorem l07_awake (H : Hp)  (hCrc : GTab H 1 laidT) : Pr Tryd.prog 85 #[] H (.bool true) := by
  refine pr_cw Tryd.func85 rfl Tryd.ntmps85 rfl (fun N => ?_)
  refine cw_seq ?_
  refine cw_region ?_
  refine ow1 (op1_l rfl (lo_assign (v := .bool _) rfl) ?_)
  refine ow_nil ?_
  refine seqK_n ?_
  refine cw_seq ?_
  refine cw_region ?_
  refine ow1 (op1_l rfl (lo_build (v := .agg #[_, _, _]) rfl (bd35_0u8_1u8 _ _)) ?_)
  refine ow1 (op1_pr (frame_Bytes _ (⟨1, 2, []⟩ : Frame) (by simp only [Frame.wf]; first | omega | (simp; done) | (simp; omega)) hCrc) (en_f cb88 rfl) rfl ?_)
  refine ow1 (op1_l rfl (lo_move (v := .tuple #[_, _]) rfl) ?_)
  refine ow1 (op1_l rfl (lo_extract (v := str _) rfl rfl) ?_)
  refine ow1 (op1_l rfl (lo_extract (v := .int _ _) rfl rfl) ?_)
  refine ow1 (op1_l rfl (lo_assign (v := str _) rfl) ?_)
  refine ow1 (op1_l rfl (lo_assign (v := .int _ _) rfl) ?_)
  refine ow_nil ?_
  refine seqK_n ?_
  refine cw_seq ?_
  refine cw_region ?_
  refine ow1 (op1_pr (l01_Awake _ ) (en_f cb92 rfl) rfl ?_)
  refine ow1 (op1_l rfl (lo_move (v := .bool _) rfl) ?_)
  refine ow1 (op1_prg rfl rfl (l02_Awake _ hCrc) (en_f cb101 rfl) rfl ?_)
  refine ow1 (op1_l rfl (lo_pick_t (v := .bool _) rfl rfl rfl) ?_)
  refine ow1 (op1_l rfl (lo_move (v := .bool _) rfl) ?_)
  refine ow1 (op1_g rfl rfl rfl (lo_move (v := .int _ _) rfl) ?_)
  refine ow1 (op1_g rfl rfl rfl (lo_eql rfl rfl) ?_)
  refine ow1 (op1_l rfl (lo_pick_t (v := .bool _) rfl rfl rfl) ?_)
  refine ow1 (op1_l rfl (lo_move (v := .bool _) rfl) ?_)
  refine ow1 (op1_g rfl (by decide +kernel) rfl (lo_move (v := str _) rfl) ?_)
  refine ow1 (op1_g rfl (by decide +kernel) rfl (lo_len_str rfl Tryd.underlying9) ?_)
  refine ow1 (op1_g rfl (by decide +kernel) rfl (lo_eql rfl rfl) ?_)
  refine ow1 (op1_l rfl (lo_pick_t (v := .bool _) rfl (by decide +kernel) rfl) ?_)
  refine ow1 (op1_l rfl (lo_move (v := .bool _) rfl) ?_)
  refine ow1 (op1_g rfl (by decide +kernel) rfl (lo_move (v := str _) rfl) ?_)
  have := u8r ((frameBytes (⟨1, 2, []⟩ : Frame)).getD 8 0)
  refine ow1 (op1_g rfl (by decide +kernel) rfl (lo_index_str 8 rfl rfl Tryd.underlying9 (by omega) (by first | omega | decide +kernel)) ?_)
  refine ow1 (op1_g rfl (by decide +kernel) rfl (lo_eql rfl rfl) ?_)
  refine ow1 (op1_l rfl (lo_pick_t (v := .bool _) rfl (by decide +kernel) rfl) ?_)
  refine ow1 (op1_l rfl (lo_assign (v := .bool _) rfl) ?_)
  refine ow_nil ?_
  refine seqK_n ?_
  refine cw_ret ?_
  refine fnK_r (res1 rfl (rv_t (v := .bool _) rfl)) (.refl _) ?_
  exact congrArg Value.bool (by decide +kernel)

theorem l07_Awake (H : Hp)  (hCrc : GTab H 1 laidT) : Pr Tryd.prog 60 #[] H (.bool true) := by
  refine pr_cw Tryd.func60 rfl Tryd.ntmps60 rfl (fun N => ?_)
  refine cw_seq ?_
  refine cw_region ?_
  refine ow1 (op1_l rfl (lo_assign (v := .bool _) rfl) ?_)
  refine ow_nil ?_
  refine seqK_n ?_
  refine cw_seq ?_
  refine cw_region ?_
  refine ow1 (op1_pr (l07_awake _ hCrc) (en_f cb85 rfl) rfl ?_)
  refine ow1 (op1_l rfl (lo_assign (v := .bool _) rfl) ?_)
  refine ow_nil ?_
  refine seqK_n ?_
  refine cw_ret ?_
  refine fnK_r (res1 rfl (rv_t (v := .bool _) rfl)) (.refl _) ?_
  rfl

end Go.SW


set_option linter.unusedVariables false
set_option maxRecDepth 100000
namespace Go.SW
open Go.Proofs
theorem bd115  (w : World) : (Instr.build 115 #[]).run Tryd.prog w = .ok (.agg #[str [], .int .i64 0]) w := by kernel_rfl
theorem cb60 : Callable Tryd.prog 60 := callable_of Tryd.func60 (by kernel_rfl) (by kernel_rfl)
theorem cb66 : Callable Tryd.prog 66 := callable_of Tryd.func66 (by kernel_rfl) (by kernel_rfl)
theorem cb89 : Callable Tryd.prog 89 := callable_of Tryd.func89 (by kernel_rfl) (by kernel_rfl)
theorem cb90 : Callable Tryd.prog 90 := callable_of Tryd.func90 (by kernel_rfl) (by kernel_rfl)
theorem cb91 : Callable Tryd.prog 91 := callable_of Tryd.func91 (by kernel_rfl) (by kernel_rfl)

theorem l08_awake (H : Hp)  (hCrc : GTab H 1 laidT) : Pr Tryd.prog 66 #[] H (.bool true) := by
  refine pr_cw Tryd.func66 rfl Tryd.ntmps66 rfl (fun N => ?_)
  refine cw_seq ?_
  refine cw_region ?_
  refine ow1 (op1_l rfl (lo_assign (v := .bool _) rfl) ?_)
  refine ow_nil ?_
  refine seqK_n ?_
  refine cw_seq ?_
  refine cw_region ?_
  refine ow1 (op1_l rfl (lo_build (v := .agg #[_, _, _]) rfl (bd35_0u8_1u8_2s _ _ _)) ?_)
  refine ow1 (op1_pr (frame_Bytes _ (⟨1, 2, [97, 98]⟩ : Frame) (by simp only [Frame.wf]; first | omega | (simp; done) | (simp; omega)) hCrc) (en_f cb88 rfl) rfl ?_)
  refine ow1 (op1_l rfl (lo_move (v := .tuple #[_, _]) rfl) ?_)
  refine ow1 (op1_l rfl (lo_extract (v := str _) rfl rfl) ?_)
  refine ow1 (op1_l rfl (lo_extract (v := .int _ _) rfl rfl) ?_)
  refine ow1 (op1_l rfl (lo_assign (v := str _) rfl) ?_)
  refine ow1 (op1_l rfl (lo_assign (v := .int _ _) rfl) ?_)
  refine ow_nil ?_
  refine seqK_n ?_
  refine cw_seq ?_
  refine cw_seq ?_
  refine cw_region ?_
  refine ow1 (op1_pr (l07_Awake _ hCrc) (en_f cb60 rfl) rfl ?_)
  refine ow1 (op1_l rfl (lo_not rfl) ?_)
  refine ow1 (op1_l rfl (lo_move (v := .bool _) rfl) ?_)
  refine ow1 (op1_g rfl rfl rfl (lo_move (v := str _) rfl) ?_)
  refine ow1 (op1_g rfl rfl rfl (lo_len_str rfl Tryd.underlying9) ?_)
  refine ow1 (op1_g rfl rfl rfl (lo_neq rfl rfl) ?_)
  refine ow1 (op1_l rfl (lo_pick_f (v := .bool _) rfl rfl rfl) ?_)
  refine ow_nil ?_
  refine seqK_n ?_
  refine cw_cond_f rfl (by first | decide +kernel | (rw [hce]; decide +kernel)) ?_
  refine cw_skip ?_
  refine seqK_n ?_
  refine cw_seq ?_
  refine cw_region ?_
  refine ow1 (op1_l rfl (lo_build (v := .agg #[_, _]) rfl (bd115)) ?_)
  refine ow1 (op1_l rfl (lo_move (v := str _) rfl) ?_)
  refine ow1 (op1_l rfl (lo_move (v := str _) rfl) ?_)
  refine ow1 (op1_l rfl (lo_slice_str_hi 5 rfl rfl Tryd.underlying9 (by first | omega | decide +kernel) (by first | omega | decide +kernel)) ?_)
  refine ow1 (op1_l rfl (lo_cat rfl rfl (by decide +kernel)) ?_)
  refine ow1 (op1_ph (feed_Take _ (⟨[], 0⟩ : Feed) ((frameBytes (⟨1, 2, [97, 98]⟩ : Frame)) ++ ((frameBytes (⟨1, 2, [97, 98]⟩ : Frame)).take 5)) hCrc (by first | omega | (simp; done) | (simp; omega) | decide +kernel)) (en_f cb89 rfl) rfl ?_)
  rintro _ H5 ⟨a1, c2, rfl, hs3⟩ hl4
  refine ow1 (op1_l rfl (lo_move (v := .tuple #[_, _]) rfl) ?_)
  refine ow1 (op1_l rfl (lo_extract (v := .agg #[_, _]) rfl rfl) ?_)
  refine ow1 (op1_l rfl (lo_extract (v := .slice _ _ _) rfl rfl) ?_)
  refine ow1 (op1_alloc 0 rfl zr115 (fun b6 => ?_))
  refine ow1 (op1_storeA (i := 0) (vs := [_, _]) rfl rfl rfl sz115 rfl rfl rfl ?_)
  refine ow1 (op1_l rfl (lo_assign (v := .slice _ _ _) rfl) ?_)
  refine ow_nil ?_
  refine seqK_n ?_
  refine cw_seq ?_
  refine cw_anyL mixd ?_
  refine vw_q 0 rfl (by kernel_rfl) (by repeat (first | exact lle_l0 | exact LLe.refl _ | exact lle_none | refine lle_up ?_ rfl)) (fun _ _ hh hl => lo_loadA (i := 0) (vs := [_, _]) rfl ag115 sz115 (hl _ _ rfl) rfl rfl) ?_
  refine vw_q 1 rfl (by kernel_rfl) (by repeat (first | exact lle_l0 | exact LLe.refl _ | exact lle_none | refine lle_up ?_ rfl)) (fun _ _ hh hl => lo_move (v := str _) rfl) ?_
  refine vw_q 2 rfl (by kernel_rfl) (by repeat (first | exact lle_l0 | exact LLe.refl _ | exact lle_none | refine lle_up ?_ rfl)) (fun _ _ hh hl => lo_slice_str_lo 5 rfl rfl Tryd.underlying9 (by first | omega | decide +kernel) (by first | omega | decide +kernel)) ?_
  refine vw_tp 3 rfl (by kernel_rfl) (by kernel_rfl) (op1_ph (feed_Take _ ((feedTake (⟨[], 0⟩ : Feed) ((frameBytes (⟨1, 2, [97, 98]⟩ : Frame)) ++ ((frameBytes (⟨1, 2, [97, 98]⟩ : Frame)).take 5))).1) ((frameBytes (⟨1, 2, [97, 98]⟩ : Frame)).drop 5) (hCrc.mono ((HLe.refl _).trans hl4)) (by first | omega | (simp; done) | (simp; omega) | decide +kernel)) (en_f cb89 rfl) rfl ?_)
  rintro _ H11 ⟨a7, c8, rfl, hs9⟩ hl10
  refine ⟨((HLe.refl _).trans hl10), ?_⟩
  refine vw_q 4 rfl (by kernel_rfl) (by repeat (first | exact lle_l0 | exact LLe.refl _ | exact lle_none | refine lle_up ?_ rfl)) (fun _ _ hh hl => lo_move (v := .tuple #[_, _]) rfl) ?_
  refine vw_q 5 rfl (by kernel_rfl) (by repeat (first | exact lle_l0 | exact LLe.refl _ | exact lle_none | refine lle_up ?_ rfl)) (fun _ _ hh hl => lo_extract (v := .agg #[_, _]) rfl rfl) ?_
  refine vw_q 6 rfl (by kernel_rfl) (by repeat (first | exact lle_l0 | exact LLe.refl _ | exact lle_none | refine lle_up ?_ rfl)) (fun _ _ hh hl => lo_extract (v := .slice _ _ _) rfl rfl) ?_
  refine vw_tp 7 rfl (by kernel_rfl) (by kernel_rfl) (op1_storeA (i := 0) (vs := [_, _]) rfl rfl rfl sz115 rfl rfl rfl ?_)
  refine ⟨(.refl _), ?_⟩
  refine vw_q 8 rfl (by kernel_rfl) (by repeat (first | exact lle_l0 | exact LLe.refl _ | exact lle_none | refine lle_up ?_ rfl)) (fun _ _ hh hl => lo_assign (v := .slice _ _ _) rfl) ?_
  refine vw_done (by kernel_rfl) ?_
  refine seqK_n ?_
  refine cw_seq ?_
  refine cw_region ?_
  refine ow1 (op1_l rfl (lo_move (v := .slice _ _ _) rfl) ?_)
  refine ow1 (op1_l rfl (lo_len_slh rfl (hs3.mono ((HLe.refl _).trans hl10) (fun _ _ h => h)) Tryd.underlying116) ?_)
  refine ow1 (op1_l rfl (lo_eql rfl rfl) ?_)
  refine ow1 (op1_l rfl (lo_move (v := .bool _) rfl) ?_)
  refine ow1 (op1_g rfl (by first | decide +kernel | (rw [hce]; decide +kernel)) rfl (lo_move (v := .slice _ _ _) rfl) ?_)
  refine ow1 (op1_g rfl (by first | decide +kernel | (rw [hce]; decide +kernel)) rfl (lo_len_slh rfl hs9 Tryd.underlying116) ?_)
  refine ow1 (op1_g rfl (by first | decide +kernel | (rw [hce]; decide +kernel)) rfl (lo_eql rfl rfl) ?_)
  refine ow1 (op1_l rfl (lo_pick_t (v := .bool _) rfl (by first | decide +kernel | (rw [hce]; decide +kernel)) rfl) ?_)
  refine ow1 (op1_l rfl (lo_move (v := .bool _) rfl) ?_)
  refine ow1 (op1_g rfl (by first | decide +kernel | (rw [hce]; decide +kernel)) rfl (lo_move (v := .slice _ _ _) rfl) ?_)
  obtain ⟨c12, hc13⟩ := getE (xs := (feedTake ((feedTake (⟨[], 0⟩ : Feed) ((frameBytes (⟨1, 2, [97, 98]⟩ : Frame)) ++ ((frameBytes (⟨1, 2, [97, 98]⟩ : Frame)).take 5))).1) ((frameBytes (⟨1, 2, [97, 98]⟩ : Frame)).drop 5)).2) (m := 0) (by first | omega | decide +kernel)
  obtain ⟨cs14, hE15, at16⟩ := hs9.get hc13
  obtain ⟨rfl, c12_w⟩ := hE15
  have c12_w' := c12_w
  simp only [Frame.wf] at c12_w'
  have hce : c12 = ⟨1, 2, [97, 98]⟩ := Option.some.inj (hc13.symm.trans (by decide +kernel))
  refine ow1 (op1_g rfl (by first | decide +kernel | (rw [hce]; decide +kernel)) rfl (lo_indexAddr rfl rfl hs9.1 at16 Tryd.underlying116 sz35 (by first | omega | decide +kernel) (by first | omega | decide +kernel)) ?_)
  refine ow1 (op1_g rfl (by first | decide +kernel | (rw [hce]; decide +kernel)) rfl (lo_fieldAddr rfl fl35_2) ?_)
  refine ow1 (op1_g rfl (by first | decide +kernel | (rw [hce]; decide +kernel)) rfl (lo_loadEf (o := 2) (v := str _) rfl ag9 at16 rfl rfl) ?_)
  refine ow1 (op1_g rfl (by first | decide +kernel | (rw [hce]; decide +kernel)) rfl (lo_seql rfl rfl) ?_)
  refine ow1 (op1_l rfl (lo_pick_t (v := .bool _) rfl (by first | decide +kernel | (rw [hce]; decide +kernel)) rfl) ?_)
  refine ow1 (op1_l rfl (lo_move (v := .bool _) rfl) ?_)
  refine ow1 (op1_g rfl (by first | decide +kernel | (rw [hce]; decide +kernel)) rfl (lo_loadA (i := 0) (vs := [_, _]) rfl ag115 sz115 rfl rfl rfl) ?_)
  refine ow1 (op1_prg rfl (by first | decide +kernel | (rw [hce]; decide +kernel)) (feed_Rest _ ((feedTake ((feedTake (⟨[], 0⟩ : Feed) ((frameBytes (⟨1, 2, [97, 98]⟩ : Frame)) ++ ((frameBytes (⟨1, 2, [97, 98]⟩ : Frame)).take 5))).1) ((frameBytes (⟨1, 2, [97, 98]⟩ : Frame)).drop 5)).1)) (en_f cb90 rfl) rfl ?_)
  refine ow1 (op1_g rfl (by first | decide +kernel | (rw [hce]; decide +kernel)) rfl (lo_seql rfl rfl) ?_)
  refine ow1 (op1_l rfl (lo_pick_t (v := .bool _) rfl (by first | decide +kernel | (rw [hce]; decide +kernel)) rfl) ?_)
  refine ow1 (op1_l rfl (lo_move (v := .bool _) rfl) ?_)
  refine ow1 (op1_g rfl (by first | decide +kernel | (rw [hce]; decide +kernel)) rfl (lo_loadA (i := 0) (vs := [_, _]) rfl ag115 sz115 rfl rfl rfl) ?_)
  refine ow1 (op1_prg rfl (by first | decide +kernel | (rw [hce]; decide +kernel)) (feed_Err _ ((feedTake ((feedTake (⟨[], 0⟩ : Feed) ((frameBytes (⟨1, 2, [97, 98]⟩ : Frame)) ++ ((frameBytes (⟨1, 2, [97, 98]⟩ : Frame)).take 5))).1) ((frameBytes (⟨1, 2, [97, 98]⟩ : Frame)).drop 5)).1)) (en_f cb91 rfl) rfl ?_)
  refine ow1 (op1_g rfl (by first | decide +kernel | (rw [hce]; decide +kernel)) rfl (lo_eql rfl rfl) ?_)
  refine ow1 (op1_l rfl (lo_pick_t (v := .bool _) rfl (by first | decide +kernel | (rw [hce]; decide +kernel)) rfl) ?_)
  refine ow1 (op1_l rfl (lo_assign (v := .bool _) rfl) ?_)
  refine ow_nil ?_
  refine seqK_n ?_
  refine cw_ret ?_
  refine fnK_r (res1 rfl (rv_t (v := .bool _) rfl)) (((HLe.refl _).trans hl4).trans hl10) ?_
  exact congrArg Value.bool (by first | decide +kernel | (rw [hce]; decide +kernel))

theorem l08_Awake (H : Hp)  (hCrc : GTab H 1 laidT) : Pr Tryd.prog 30 #[] H (.bool true) := by
  refine pr_cw Tryd.func30 rfl Tryd.ntmps30 rfl (fun N => ?_)
  refine cw_seq ?_
  refine cw_region ?_
  refine ow1 (op1_l rfl (lo_assign (v := .bool _) rfl) ?_)
  refine ow_nil ?_
  refine seqK_n ?_
  refine cw_seq ?_
  refine cw_region ?_
  refine ow1 (op1_pr (l08_awake _ hCrc) (en_f cb66 rfl) rfl ?_)
  refine ow1 (op1_l rfl (lo_assign (v := .bool _) rfl) ?_)
  refine ow_nil ?_
  refine seqK_n ?_
  refine cw_ret ?_
  refine fnK_r (res1 rfl (rv_t (v := .bool _) rfl)) (.refl _) ?_
  rfl

end Go.SW


set_option linter.unusedVariables false
set_option maxRecDepth 100000
namespace Go.SW
open Go.Proofs
theorem bd27_0u8_1u8 (a1 : Int) (a2 : Int) (w : World) : (Instr.build 27 #[(0, .int .u8 a1), (1, .int .u8 a2)]).run Tryd.prog w = .ok (.agg #[.int .u8 a1, .int .u8 a2, .int .u64 0, .int .u64 0, .bool false, str [], .int .u64 0, str [], str [], .slice none 0 0, str [], .int .u64 0, .int .u8 0]) w := by kernel_rfl
theorem cb110 : Callable Tryd.prog 110 := callable_of Tryd.func110 (by kernel_rfl) (by kernel_rfl)
theorem cb117 : Callable Tryd.prog 117 := callable_of Tryd.func117 (by kernel_rfl) (by kernel_rfl)
theorem cb15 : Callable Tryd.prog 15 := callable_of Tryd.func15 (by kernel_rfl) (by kernel_rfl)
theorem cb30 : Callable Tryd.prog 30 := callable_of Tryd.func30 (by kernel_rfl) (by kernel_rfl)
theorem cb31 : Callable Tryd.prog 31 := callable_of Tryd.func31 (by kernel_rfl) (by kernel_rfl)
theorem cb67 : Callable Tryd.prog 67 := callable_of Tryd.func67 (by kernel_rfl) (by kernel_rfl)
theorem cb93 : Callable Tryd.prog 93 := callable_of Tryd.func93 (by kernel_rfl) (by kernel_rfl)

theorem words_Matches (H : Hp) (pattern : Bs) (key : Bs) (hML : GInt H 2) (hp : pattern.length < 4294967281) (hk : key.length < 4294967281) : Pr Tryd.prog 117 #[str pattern, str key] H (.bool (mt (wordsOf pattern) (wordsOf key))) := by
  refine pr_cw Tryd.func117 rfl Tryd.ntmps117 rfl (fun N => ?_)
  refine cw_seq ?_
  refine cw_region ?_
  refine ow1 (op1_l rfl (lo_assign (v := .bool _) rfl) ?_)
  refine ow_nil ?_
  refine seqK_n ?_
  refine cw_seq ?_
  refine cw_region ?_
  refine ow1 (op1_l rfl (lo_move (v := str _) rfl) ?_)
  refine ow1 (op1_ph (words_Split _ pattern hML (by omega)) (en_f cb113 rfl) rfl ?_)
  rintro _ H5 ⟨a1, c2, rfl, hs3⟩ hl4
  refine ow1 (op1_l rfl (lo_move (v := str _) rfl) ?_)
  refine ow1 (op1_ph (words_Split _ key (hML.mono ((HLe.refl _).trans hl4)) (by omega)) (en_f cb113 rfl) rfl ?_)
  rintro _ H10 ⟨a6, c7, rfl, hs8⟩ hl9
  refine ow1 (op1_l rfl (lo_assign (v := .slice _ _ _) rfl) ?_)
  refine ow1 (op1_l rfl (lo_assign (v := .slice _ _ _) rfl) ?_)
  refine ow_nil ?_
  refine seqK_n ?_
  refine cw_seq ?_
  refine cw_region ?_
  refine ow1 (op1_l rfl (lo_assign (v := .int _ _) rfl) ?_)
  refine ow1 (op1_l rfl (lo_assign (v := .int _ _) rfl) ?_)
  refine ow_nil ?_
  refine seqK_n ?_
  refine cw_seq ?_
  refine cw_region ?_
  refine ow1 (op1_l rfl (lo_assign (v := .int _ _) rfl) ?_)
  refine ow1 (op1_l rfl (lo_assign (v := .int _ _) rfl) ?_)
  refine ow_nil ?_
  refine seqK_n ?_
  refine cw_seq ?_
  refine cw_block ?_
  refine cw_loop4 [4, 7, 8, 9, 10, 15, 16, 17, 18, 19, 20, 21, 22, 23, 24, 25, 26, 27, 28, 29, 30, 31, 32, 33, 34, 35, 36, 37, 38, 39, 40, 41, 42, 43, 44, 45, 46, 47, 48, 49, 50, 51, 52, 53, 54, 55, 56, 57, 58, 59, 60, 61, 62, 63, 64, 65, 66, 67, 68] [] (fun (i : Nat) (j : Nat) (b : Int) (f : Nat) G => upd (upd (upd (upd (G) 7 (.int .i64 (i : Int))) 8 (.int .i64 (j : Int))) 9 (.int .i64 b)) 10 (.int .i64 (f : Int))) (fun (i : Nat) (j : Nat) (b : Int) (f : Nat) G => G) (fun (i : Nat) (j : Nat) (b : Int) (f : Nat) H' => MI (wordsOf pattern) (wordsOf key) i j b f) (fun (i : Nat) (j : Nat) (b : Int) (f : Nat) => mmu (wordsOf pattern) (wordsOf key) j b f) 0 0 (-1) 0 (upd_intro (upd_intro (upd_intro (upd_intro (mask_intro (by first | exact off_refl | (repeat (first | exact off_mask | refine off_upd rfl ?_ | refine off_mask2 rfl ?_)))) rfl) rfl) rfl) rfl) (lmask_intro offl_refl) ?_ ?_
  · exact MI.start _ _
  · intro i j b f J12 JL12 H12 hp11 hl12
    have hmi := hp11
    have hwp := words_le pattern
    have hwk := words_le key
    have := hmi.hi
    have := hmi.hj
    have := hmi.hf
    have := hmi.hb
    have := hmi.hbi
    refine cw_seq ?_
    refine cw_seq ?_
    refine cw_region ?_
    refine ow1 (op1_l rfl (lo_move (v := .int _ _) rfl) ?_)
    refine ow1 (op1_l rfl (lo_move (v := .slice _ _ _) rfl) ?_)
    refine ow1 (op1_l rfl (lo_len_slh rfl (hs8.mono ((HLe.refl _).trans hl12) (fun _ _ h => h)) Tryd.underlying108) ?_)
    refine ow1 (op1_l rfl (lo_lss rfl rfl) ?_)
    refine ow_nil ?_
    refine seqK_n ?_
    refine cw_cond rfl (fun h13 => ?_) (fun h13 => ?_)
    · have p14 := dt h13
      refine cw_skip ?_
      refine seqK_n ?_
      refine cw_block ?_
      refine cw_block ?_
      refine cw_seq ?_
      refine cw_region ?_
      refine ow1 (op1_l rfl (lo_move (v := .int _ _) rfl) ?_)
      refine ow1 (op1_l rfl (lo_move (v := .slice _ _ _) rfl) ?_)
      refine ow1 (op1_l rfl (lo_len_slh rfl (hs3.mono (((HLe.refl _).trans hl9).trans hl12) (fun _ _ h => h)) Tryd.underlying108) ?_)
      refine ow1 (op1_l rfl (lo_lss rfl rfl) ?_)
      refine ow1 (op1_l rfl (lo_move (v := .bool _) rfl) ?_)
      refine ow_sp (j := 4) rfl (fun h15 => ?_) (fun h15 => ?_)
      · have p16 := dt h15
        refine ow1 (op1_g rfl h15 rfl (lo_move (v := .slice _ _ _) rfl) ?_)
        refine ow1 (op1_g rfl h15 rfl (lo_move (v := .int _ _) rfl) ?_)
        obtain ⟨c17, hc18⟩ := getE (xs := wordsOf pattern) (m := i) (by omega)
        obtain ⟨cs19, hE20, at21⟩ := (hs3.mono (((HLe.refl _).trans hl9).trans hl12) (fun _ _ h => h)).get hc18
        obtain ⟨rfl, c17_w⟩ := hE20
        have c17_w : c17.length ≤ 9223372036854775807 := c17_w
        refine ow1 (op1_g rfl h15 rfl (lo_indexAddr rfl rfl (hs3.mono (((HLe.refl _).trans hl9).trans hl12) (fun _ _ h => h)).1 at21 Tryd.underlying108 sz9 (by omega) (by omega)) ?_)
        refine ow1 (op1_g rfl h15 rfl (lo_loadE1 rfl ag9 at21) ?_)
        refine ow1 (op1_g rfl h15 rfl (lo_seql rfl rfl) ?_)
        refine ow1 (op1_l rfl (lo_pick_t (v := .bool _) rfl h15 rfl) ?_)
        refine ow1 (op1_l rfl (lo_assign (v := .bool _) rfl) ?_)
        refine ow_nil ?_
        refine seqK_n ?_
        refine cw_cond rfl (fun h22 => ?_) (fun h22 => ?_)
        · have p23 := dt h22
          refine cw_seq ?_
          refine cw_region ?_
          refine ow1 (op1_l rfl (lo_move (v := .int _ _) rfl) ?_)
          refine ow1 (op1_l rfl (lo_add rfl rfl (rg_i64 (by omega))) ?_)
          refine ow1 (op1_l rfl (lo_assign (v := .int _ _) rfl) ?_)
          refine ow_nil ?_
          refine seqK_n ?_
          refine cw_region ?_
          refine ow1 (op1_l rfl (lo_move (v := .int _ _) rfl) ?_)
          refine ow1 (op1_l rfl (lo_move (v := .int _ _) rfl) ?_)
          refine ow1 (op1_l rfl (lo_assign (v := .int _ _) rfl) ?_)
          refine ow1 (op1_l rfl (lo_assign (v := .int _ _) rfl) ?_)
          refine ow_nil ?_
          refine blkK_n ?_
          refine blkK_n ?_
          obtain ⟨c24, hc25⟩ := getE (xs := wordsOf key) (m := j) (by omega)
          refine next4 (i + 1) j ((i : Int) + 1) j (upd_intro (upd_intro (upd_intro (upd_intro (mask_intro (by first | exact off_refl | (repeat (first | exact off_mask | refine off_upd rfl ?_ | refine off_mask2 rfl ?_)))) (congrArg (Value.int .i64) (by omega))) rfl) rfl) rfl) (lmask_intro (by first | exact offl_refl | (repeat (first | exact offl_mask | refine offl_upd rfl ?_ | refine offl_mask2 rfl ?_)))) hl12 ?_ ?_
          · exact MI.hash hmi (by rw [hc18]; simp [*])
          · exact mmu_hash hmi (by omega)
        · have p26 := df h22
          refine cw_seq ?_
          refine cw_anyL mixd ?_
          refine vw_q 0 rfl (by kernel_rfl) (by repeat (first | exact lle_l0 | exact LLe.refl _ | exact lle_none | refine lle_up ?_ rfl)) (fun _ _ hh hl => lo_move (v := .int _ _) rfl) ?_
          refine vw_q 1 rfl (by kernel_rfl) (by repeat (first | exact lle_l0 | exact LLe.refl _ | exact lle_none | refine lle_up ?_ rfl)) (fun _ _ hh hl => lo_move (v := .slice _ _ _) rfl) ?_
          refine vw_q 2 rfl (by kernel_rfl) (by repeat (first | exact lle_l0 | exact LLe.refl _ | exact lle_none | refine lle_up ?_ rfl)) (fun _ _ hh hl => lo_len_slh rfl (hs3.mono ((((HLe.refl _).trans hl9).trans hl12).trans hh) (fun _ _ h => h)) Tryd.underlying108) ?_
          refine vw_q 3 rfl (by kernel_rfl) (by repeat (first | exact lle_l0 | exact LLe.refl _ | exact lle_none | refine lle_up ?_ rfl)) (fun _ _ hh hl => lo_lss rfl rfl) ?_
          refine vw_q 4 rfl (by kernel_rfl) (by repeat (first | exact lle_l0 | exact LLe.refl _ | exact lle_none | refine lle_up ?_ rfl)) (fun _ _ hh hl => lo_move (v := .bool _) rfl) ?_
          refine vw_qg 5 rfl (by kernel_rfl) (by repeat (first | exact lle_l0 | exact LLe.refl _ | exact lle_none | refine lle_up ?_ rfl)) rfl h15 (fun _ _ hh hl => lo_move (v := .slice _ _ _) rfl) ?_
          refine vw_qg 6 rfl (by kernel_rfl) (by repeat (first | exact lle_l0 | exact LLe.refl _ | exact lle_none | refine lle_up ?_ rfl)) rfl h15 (fun _ _ hh hl => lo_move (v := .int _ _) rfl) ?_
          refine vw_qg 7 rfl (by kernel_rfl) (by repeat (first | exact lle_l0 | exact LLe.refl _ | exact lle_none | refine lle_up ?_ rfl)) rfl h15 (fun _ _ hh hl => lo_indexAddr rfl rfl (hs3.mono (((HLe.refl _).trans hl9).trans hl12) (fun _ _ h => h)).1 (at21.mono hh) Tryd.underlying108 sz9 (by omega) (by omega)) ?_
          refine vw_qg 8 rfl (by kernel_rfl) (by repeat (first | exact lle_l0 | exact LLe.refl _ | exact lle_none | refine lle_up ?_ rfl)) rfl h15 (fun _ _ hh hl => lo_loadE1 rfl ag9 (at21.mono hh)) ?_
          refine vw_qg 9 rfl (by kernel_rfl) (by repeat (first | exact lle_l0 | exact LLe.refl _ | exact lle_none | refine lle_up ?_ rfl)) rfl h15 (fun _ _ hh hl => lo_seql rfl rfl) ?_
          refine vw_qg 10 rfl (by kernel_rfl) (by repeat (first | exact lle_l0 | exact LLe.refl _ | exact lle_none | refine lle_up ?_ rfl)) rfl h15 (fun _ _ hh hl => lo_move (v := .bool _) rfl) ?_
          refine vw_sp (j := 10) rfl (fun h27 => ?_) (fun h27 => ?_)
          · have p28 := dt h27
            refine vw_qgs 11 rfl (by kernel_rfl) (by repeat (first | exact lle_l0 | exact LLe.refl _ | exact lle_none | refine lle_up ?_ rfl)) rfl h27 ?_
            refine vw_qgs 12 rfl (by kernel_rfl) (by repeat (first | exact lle_l0 | exact LLe.refl _ | exact lle_none | refine lle_up ?_ rfl)) rfl h27 ?_
            refine vw_qgs 13 rfl (by kernel_rfl) (by repeat (first | exact lle_l0 | exact LLe.refl _ | exact lle_none | refine lle_up ?_ rfl)) rfl h27 ?_
            refine vw_qgs 14 rfl (by kernel_rfl) (by repeat (first | exact lle_l0 | exact LLe.refl _ | exact lle_none | refine lle_up ?_ rfl)) rfl h27 ?_
            refine vw_qgs 15 rfl (by kernel_rfl) (by repeat (first | exact lle_l0 | exact LLe.refl _ | exact lle_none | refine lle_up ?_ rfl)) rfl h27 ?_
            refine vw_qgs 16 rfl (by kernel_rfl) (by repeat (first | exact lle_l0 | exact LLe.refl _ | exact lle_none | refine lle_up ?_ rfl)) rfl h27 ?_
            refine vw_qgs 17 rfl (by kernel_rfl) (by repeat (first | exact lle_l0 | exact LLe.refl _ | exact lle_none | refine lle_up ?_ rfl)) rfl h27 ?_
            refine vw_qgs 18 rfl (by kernel_rfl) (by repeat (first | exact lle_l0 | exact LLe.refl _ | exact lle_none | refine lle_up ?_ rfl)) rfl h27 ?_
            refine vw_qgs 19 rfl (by kernel_rfl) (by repeat (first | exact lle_l0 | exact LLe.refl _ | exact lle_none | refine lle_up ?_ rfl)) rfl h27 ?_
            refine vw_qg 20 rfl (by kernel_rfl) (by repeat (first | exact lle_l0 | exact LLe.refl _ | exact lle_none | refine lle_up ?_ rfl)) rfl h15 (fun _ _ hh hl => lo_pick_t (v := .bool _) rfl h27 rfl) ?_
            refine vw_q 21 rfl (by kernel_rfl) (by repeat (first | exact lle_l0 | exact LLe.refl _ | exact lle_none | refine lle_up ?_ rfl)) (fun _ _ hh hl => lo_pick_t (v := .bool _) rfl h15 rfl) ?_
            refine vw_q 22 rfl (by kernel_rfl) (by repeat (first | exact lle_l0 | exact LLe.refl _ | exact lle_none | refine lle_up ?_ rfl)) (fun _ _ hh hl => lo_assign (v := .bool _) rfl) ?_
            refine vw_done (by kernel_rfl) ?_
            refine seqK_n ?_
            refine cw_cond_t rfl rfl ?_
            refine cw_region ?_
            refine ow1 (op1_l rfl (lo_move (v := .int _ _) rfl) ?_)
            refine ow1 (op1_l rfl (lo_add rfl rfl (rg_i64 (by omega))) ?_)
            refine ow1 (op1_l rfl (lo_move (v := .int _ _) rfl) ?_)
            refine ow1 (op1_l rfl (lo_add rfl rfl (rg_i64 (by omega))) ?_)
            refine ow1 (op1_l rfl (lo_assign (v := .int _ _) rfl) ?_)
            refine ow1 (op1_l rfl (lo_assign (v := .int _ _) rfl) ?_)
            refine ow_nil ?_
            refine blkK_n ?_
            refine blkK_n ?_
            obtain ⟨c29, hc30⟩ := getE (xs := wordsOf key) (m := j) (by omega)
            refine next4 (i + 1) (j + 1) b f (upd_intro (upd_intro (upd_intro (upd_intro (mask_intro (by first | exact off_refl | (repeat (first | exact off_mask | refine off_upd rfl ?_ | refine off_mask2 rfl ?_)))) (congrArg (Value.int .i64) (by omega))) rfl) rfl) rfl) (lmask_intro (by first | exact offl_refl | (repeat (first | exact offl_mask | refine offl_upd rfl ?_ | refine offl_mask2 rfl ?_)))) hl12 ?_ ?_
            · exact MI.step hmi hc18 hc30 (by assumption) (by first | exact .inl (by assumption) | exact .inr (by assumption))
            · exact mmu_step (by omega)
          · have p31 := df h27
            refine vw_qg 11 rfl (by kernel_rfl) (by repeat (first | exact lle_l0 | exact LLe.refl _ | exact lle_none | refine lle_up ?_ rfl)) rfl h27 (fun _ _ hh hl => lo_move (v := .slice _ _ _) rfl) ?_
            refine vw_qg 12 rfl (by kernel_rfl) (by repeat (first | exact lle_l0 | exact LLe.refl _ | exact lle_none | refine lle_up ?_ rfl)) rfl h27 (fun _ _ hh hl => lo_move (v := .int _ _) rfl) ?_
            refine vw_qg 13 rfl (by kernel_rfl) (by repeat (first | exact lle_l0 | exact LLe.refl _ | exact lle_none | refine lle_up ?_ rfl)) rfl h27 (fun _ _ hh hl => lo_indexAddr rfl rfl (hs3.mono (((HLe.refl _).trans hl9).trans hl12) (fun _ _ h => h)).1 (at21.mono hh) Tryd.underlying108 sz9 (by omega) (by omega)) ?_
            refine vw_qg 14 rfl (by kernel_rfl) (by repeat (first | exact lle_l0 | exact LLe.refl _ | exact lle_none | refine lle_up ?_ rfl)) rfl h27 (fun _ _ hh hl => lo_loadE1 rfl ag9 (at21.mono hh)) ?_
            refine vw_qg 15 rfl (by kernel_rfl) (by repeat (first | exact lle_l0 | exact LLe.refl _ | exact lle_none | refine lle_up ?_ rfl)) rfl h27 (fun _ _ hh hl => lo_move (v := .slice _ _ _) rfl) ?_
            refine vw_qg 16 rfl (by kernel_rfl) (by repeat (first | exact lle_l0 | exact LLe.refl _ | exact lle_none | refine lle_up ?_ rfl)) rfl h27 (fun _ _ hh hl => lo_move (v := .int _ _) rfl) ?_
            obtain ⟨c32, hc33⟩ := getE (xs := wordsOf key) (m := j) (by omega)
            obtain ⟨cs34, hE35, at36⟩ := (hs8.mono ((HLe.refl _).trans hl12) (fun _ _ h => h)).get hc33
            obtain ⟨rfl, c32_w⟩ := hE35
            have c32_w : c32.length ≤ 9223372036854775807 := c32_w
            refine vw_qg 17 rfl (by kernel_rfl) (by repeat (first | exact lle_l0 | exact LLe.refl _ | exact lle_none | refine lle_up ?_ rfl)) rfl h27 (fun _ _ hh hl => lo_indexAddr rfl rfl (hs8.mono ((HLe.refl _).trans hl12) (fun _ _ h => h)).1 (at36.mono hh) Tryd.underlying108 sz9 (by omega) (by omega)) ?_
            refine vw_qg 18 rfl (by kernel_rfl) (by repeat (first | exact lle_l0 | exact LLe.refl _ | exact lle_none | refine lle_up ?_ rfl)) rfl h27 (fun _ _ hh hl => lo_loadE1 rfl ag9 (at36.mono hh)) ?_
            refine vw_qg 19 rfl (by kernel_rfl) (by repeat (first | exact lle_l0 | exact LLe.refl _ | exact lle_none | refine lle_up ?_ rfl)) rfl h27 (fun _ _ hh hl => lo_seql rfl rfl) ?_
            refine vw_qg 20 rfl (by kernel_rfl) (by repeat (first | exact lle_l0 | exact LLe.refl _ | exact lle_none | refine lle_up ?_ rfl)) rfl h15 (fun _ _ hh hl => lo_pick_f (v := .bool _) rfl h27 rfl) ?_
            refine vw_q 21 rfl (by kernel_rfl) (by repeat (first | exact lle_l0 | exact LLe.refl _ | exact lle_none | refine lle_up ?_ rfl)) (fun _ _ hh hl => lo_pick_t (v := .bool _) rfl h15 rfl) ?_
            refine vw_q 22 rfl (by kernel_rfl) (by repeat (first | exact lle_l0 | exact LLe.refl _ | exact lle_none | refine lle_up ?_ rfl)) (fun _ _ hh hl => lo_assign (v := .bool _) rfl) ?_
            refine vw_done (by kernel_rfl) ?_
            refine seqK_n ?_
            refine cw_cond rfl (fun h37 => ?_) (fun h37 => ?_)
            · have p38 := dt h37
              refine cw_region ?_
              refine ow1 (op1_l rfl (lo_move (v := .int _ _) rfl) ?_)
              refine ow1 (op1_l rfl (lo_add rfl rfl (rg_i64 (by omega))) ?_)
              refine ow1 (op1_l rfl (lo_move (v := .int _ _) rfl) ?_)
              refine ow1 (op1_l rfl (lo_add rfl rfl (rg_i64 (by omega))) ?_)
              refine ow1 (op1_l rfl (lo_assign (v := .int _ _) rfl) ?_)
              refine ow1 (op1_l rfl (lo_assign (v := .int _ _) rfl) ?_)
              refine ow_nil ?_
              refine blkK_n ?_
              refine blkK_n ?_
              refine next4 (i + 1) (j + 1) b f (upd_intro (upd_intro (upd_intro (upd_intro (mask_intro (by first | exact off_refl | (repeat (first | exact off_mask | refine off_upd rfl ?_ | refine off_mask2 rfl ?_)))) (congrArg (Value.int .i64) (by omega))) rfl) rfl) rfl) (lmask_intro (by first | exact offl_refl | (repeat (first | exact offl_mask | refine offl_upd rfl ?_ | refine offl_mask2 rfl ?_)))) hl12 ?_ ?_
              · exact MI.step hmi hc18 hc33 (by assumption) (by first | exact .inl (by assumption) | exact .inr (by assumption))
              · exact mmu_step (by omega)
            · have p39 := df h37
              refine cw_seq ?_
              refine cw_region ?_
              refine ow1 (op1_l rfl (lo_move (v := .int _ _) rfl) ?_)
              refine ow1 (op1_l rfl (lo_geq rfl rfl) ?_)
              refine ow1 (op1_l rfl (lo_assign (v := .bool _) rfl) ?_)
              refine ow_nil ?_
              refine seqK_n ?_
              refine cw_cond rfl (fun h40 => ?_) (fun h40 => ?_)
              · have p41 := dt h40
                refine cw_seq ?_
                refine cw_region ?_
                refine ow1 (op1_l rfl (lo_move (v := .int _ _) rfl) ?_)
                refine ow1 (op1_l rfl (lo_add rfl rfl (rg_i64 (by omega))) ?_)
                refine ow1 (op1_l rfl (lo_assign (v := .int _ _) rfl) ?_)
                refine ow_nil ?_
                refine seqK_n ?_
                refine cw_region ?_
                refine ow1 (op1_l rfl (lo_move (v := .int _ _) rfl) ?_)
                refine ow1 (op1_l rfl (lo_move (v := .int _ _) rfl) ?_)
                refine ow1 (op1_l rfl (lo_assign (v := .int _ _) rfl) ?_)
                refine ow1 (op1_l rfl (lo_assign (v := .int _ _) rfl) ?_)
                refine ow_nil ?_
                refine blkK_n ?_
                refine blkK_n ?_
                have hbad : ∀ w, (wordsOf pattern)[i]? = some w → w ≠ [35] ∧ w ≠ [42] ∧ w ≠ c32 := by
                  intro w hw
                  rw [hc18] at hw; cases hw
                  exact ⟨by assumption, by assumption, by assumption⟩
                refine next4 b.toNat (f + 1) b (f + 1) (upd_intro (upd_intro (upd_intro (upd_intro (mask_intro (by first | exact off_refl | (repeat (first | exact off_mask | refine off_upd rfl ?_ | refine off_mask2 rfl ?_)))) (congrArg (Value.int .i64) (by omega))) rfl) rfl) rfl) (lmask_intro (by first | exact offl_refl | (repeat (first | exact offl_mask | refine offl_upd rfl ?_ | refine offl_mask2 rfl ?_)))) hl12 ?_ ?_
                · exact MI.back hmi hc33 (by omega) hbad
                · exact mmu_back hmi.hf (by omega)
              · have p42 := df h40
                refine cw_seq ?_
                refine cw_region ?_
                refine ow1 (op1_l rfl (lo_assign (v := .bool _) rfl) ?_)
                refine ow_nil ?_
                refine seqK_n ?_
                refine cw_ret ?_
                refine blkK_r ?_
                refine blkK_r ?_
                refine loopK_r ?_
                refine blkK_r ?_
                refine seqK_r ?_
                refine fnK_r (res1 rfl (rv_t (v := .bool _) rfl)) ((((HLe.refl _).trans hl4).trans hl9).trans hl12) ?_
                have hbad : ∀ w, (wordsOf pattern)[i]? = some w → w ≠ [35] ∧ w ≠ [42] ∧ w ≠ c32 := by
                  intro w hw
                  rw [hc18] at hw; cases hw
                  exact ⟨by assumption, by assumption, by assumption⟩
                exact congrArg Value.bool (MI.none hmi hc33 (by omega) hbad).symm
      · have p43 := df h15
        refine ow1 (op1_gs rfl h15 rfl ?_)
        refine ow1 (op1_gs rfl h15 rfl ?_)
        refine ow1 (op1_gs rfl h15 rfl ?_)
        refine ow1 (op1_gs rfl h15 rfl ?_)
        refine ow1 (op1_gs rfl h15 rfl ?_)
        refine ow1 (op1_l rfl (lo_pick_f (v := .bool _) rfl h15 rfl) ?_)
        refine ow1 (op1_l rfl (lo_assign (v := .bool _) rfl) ?_)
        refine ow_nil ?_
        refine seqK_n ?_
        refine cw_cond_f rfl rfl ?_
        refine cw_seq ?_
        refine cw_anyL mixd ?_
        refine vw_q 0 rfl (by kernel_rfl) (by repeat (first | exact lle_l0 | exact LLe.refl _ | exact lle_none | refine lle_up ?_ rfl)) (fun _ _ hh hl => lo_move (v := .int _ _) rfl) ?_
        refine vw_q 1 rfl (by kernel_rfl) (by repeat (first | exact lle_l0 | exact LLe.refl _ | exact lle_none | refine lle_up ?_ rfl)) (fun _ _ hh hl => lo_move (v := .slice _ _ _) rfl) ?_
        refine vw_q 2 rfl (by kernel_rfl) (by repeat (first | exact lle_l0 | exact LLe.refl _ | exact lle_none | refine lle_up ?_ rfl)) (fun _ _ hh hl => lo_len_slh rfl (hs3.mono ((((HLe.refl _).trans hl9).trans hl12).trans hh) (fun _ _ h => h)) Tryd.underlying108) ?_
        refine vw_q 3 rfl (by kernel_rfl) (by repeat (first | exact lle_l0 | exact LLe.refl _ | exact lle_none | refine lle_up ?_ rfl)) (fun _ _ hh hl => lo_lss rfl rfl) ?_
        refine vw_q 4 rfl (by kernel_rfl) (by repeat (first | exact lle_l0 | exact LLe.refl _ | exact lle_none | refine lle_up ?_ rfl)) (fun _ _ hh hl => lo_move (v := .bool _) rfl) ?_
        refine vw_qgs 5 rfl (by kernel_rfl) (by repeat (first | exact lle_l0 | exact LLe.refl _ | exact lle_none | refine lle_up ?_ rfl)) rfl h15 ?_
        refine vw_qgs 6 rfl (by kernel_rfl) (by repeat (first | exact lle_l0 | exact LLe.refl _ | exact lle_none | refine lle_up ?_ rfl)) rfl h15 ?_
        refine vw_qgs 7 rfl (by kernel_rfl) (by repeat (first | exact lle_l0 | exact LLe.refl _ | exact lle_none | refine lle_up ?_ rfl)) rfl h15 ?_
        refine vw_qgs 8 rfl (by kernel_rfl) (by repeat (first | exact lle_l0 | exact LLe.refl _ | exact lle_none | refine lle_up ?_ rfl)) rfl h15 ?_
        refine vw_qgs 9 rfl (by kernel_rfl) (by repeat (first | exact lle_l0 | exact LLe.refl _ | exact lle_none | refine lle_up ?_ rfl)) rfl h15 ?_
        refine vw_qgs 10 rfl (by kernel_rfl) (by repeat (first | exact lle_l0 | exact LLe.refl _ | exact lle_none | refine lle_up ?_ rfl)) rfl h15 ?_
        refine vw_qgx (j := 10) 11 rfl (by kernel_rfl) (by repeat (first | exact lle_l0 | exact LLe.refl _ | exact lle_none | refine lle_up ?_ rfl)) rfl ?_
        refine vw_qgx (j := 10) 12 rfl (by kernel_rfl) (by repeat (first | exact lle_l0 | exact LLe.refl _ | exact lle_none | refine lle_up ?_ rfl)) rfl ?_
        refine vw_qgx (j := 10) 13 rfl (by kernel_rfl) (by repeat (first | exact lle_l0 | exact LLe.refl _ | exact lle_none | refine lle_up ?_ rfl)) rfl ?_
        refine vw_qgx (j := 10) 14 rfl (by kernel_rfl) (by repeat (first | exact lle_l0 | exact LLe.refl _ | exact lle_none | refine lle_up ?_ rfl)) rfl ?_
        refine vw_qgx (j := 10) 15 rfl (by kernel_rfl) (by repeat (first | exact lle_l0 | exact LLe.refl _ | exact lle_none | refine lle_up ?_ rfl)) rfl ?_
        refine vw_qgx (j := 10) 16 rfl (by kernel_rfl) (by repeat (first | exact lle_l0 | exact LLe.refl _ | exact lle_none | refine lle_up ?_ rfl)) rfl ?_
        refine vw_qgx (j := 10) 17 rfl (by kernel_rfl) (by repeat (first | exact lle_l0 | exact LLe.refl _ | exact lle_none | refine lle_up ?_ rfl)) rfl ?_
        refine vw_qgx (j := 10) 18 rfl (by kernel_rfl) (by repeat (first | exact lle_l0 | exact LLe.refl _ | exact lle_none | refine lle_up ?_ rfl)) rfl ?_
        refine vw_qgx (j := 10) 19 rfl (by kernel_rfl) (by repeat (first | exact lle_l0 | exact LLe.refl _ | exact lle_none | refine lle_up ?_ rfl)) rfl ?_
        refine vw_qgs 20 rfl (by kernel_rfl) (by repeat (first | exact lle_l0 | exact LLe.refl _ | exact lle_none | refine lle_up ?_ rfl)) rfl h15 ?_
        refine vw_q 21 rfl (by kernel_rfl) (by repeat (first | exact lle_l0 | exact LLe.refl _ | exact lle_none | refine lle_up ?_ rfl)) (fun _ _ hh hl => lo_pick_f (v := .bool _) rfl h15 rfl) ?_
        refine vw_q 22 rfl (by kernel_rfl) (by repeat (first | exact lle_l0 | exact LLe.refl _ | exact lle_none | refine lle_up ?_ rfl)) (fun _ _ hh hl => lo_assign (v := .bool _) rfl) ?_
        refine vw_done (by kernel_rfl) ?_
        refine seqK_n ?_
        refine cw_cond_f rfl rfl ?_
        refine cw_seq ?_
        refine cw_region ?_
        refine ow1 (op1_l rfl (lo_move (v := .int _ _) rfl) ?_)
        refine ow1 (op1_l rfl (lo_geq rfl rfl) ?_)
        refine ow1 (op1_l rfl (lo_assign (v := .bool _) rfl) ?_)
        refine ow_nil ?_
        refine seqK_n ?_
        refine cw_cond rfl (fun h44 => ?_) (fun h44 => ?_)
        · have p45 := dt h44
          refine cw_seq ?_
          refine cw_region ?_
          refine ow1 (op1_l rfl (lo_move (v := .int _ _) rfl) ?_)
          refine ow1 (op1_l rfl (lo_add rfl rfl (rg_i64 (by omega))) ?_)
          refine ow1 (op1_l rfl (lo_assign (v := .int _ _) rfl) ?_)
          refine ow_nil ?_
          refine seqK_n ?_
          refine cw_region ?_
          refine ow1 (op1_l rfl (lo_move (v := .int _ _) rfl) ?_)
          refine ow1 (op1_l rfl (lo_move (v := .int _ _) rfl) ?_)
          refine ow1 (op1_l rfl (lo_assign (v := .int _ _) rfl) ?_)
          refine ow1 (op1_l rfl (lo_assign (v := .int _ _) rfl) ?_)
          refine ow_nil ?_
          refine blkK_n ?_
          refine blkK_n ?_
          obtain ⟨c46, hc47⟩ := getE (xs := wordsOf key) (m := j) (by omega)
          have hbad : ∀ w, (wordsOf pattern)[i]? = some w → w ≠ [35] ∧ w ≠ [42] ∧ w ≠ c46 := by
            intro w hw
            rw [List.getElem?_eq_none (by omega)] at hw; cases hw
          refine next4 b.toNat (f + 1) b (f + 1) (upd_intro (upd_intro (upd_intro (upd_intro (mask_intro (by first | exact off_refl | (repeat (first | exact off_mask | refine off_upd rfl ?_ | refine off_mask2 rfl ?_)))) (congrArg (Value.int .i64) (by omega))) rfl) rfl) rfl) (lmask_intro (by first | exact offl_refl | (repeat (first | exact offl_mask | refine offl_upd rfl ?_ | refine offl_mask2 rfl ?_)))) hl12 ?_ ?_
          · exact MI.back hmi hc47 (by omega) hbad
          · exact mmu_back hmi.hf (by omega)
        · have p48 := df h44
          refine cw_seq ?_
          refine cw_region ?_
          refine ow1 (op1_l rfl (lo_assign (v := .bool _) rfl) ?_)
          refine ow_nil ?_
          refine seqK_n ?_
          refine cw_ret ?_
          refine blkK_r ?_
          refine blkK_r ?_
          refine loopK_r ?_
          refine blkK_r ?_
          refine seqK_r ?_
          refine fnK_r (res1 rfl (rv_t (v := .bool _) rfl)) ((((HLe.refl _).trans hl4).trans hl9).trans hl12) ?_
          obtain ⟨cz, hcz⟩ := getE (xs := wordsOf key) (m := j) (by omega)
          have hbad : ∀ w, (wordsOf pattern)[i]? = some w → w ≠ [35] ∧ w ≠ [42] ∧ w ≠ cz := by
            intro w hw
            rw [List.getElem?_eq_none (by omega)] at hw; cases hw
          exact congrArg Value.bool (MI.none hmi hcz (by omega) hbad).symm
    · have p49 := df h13
      refine cw_exit ?_
      refine seqK_e ?_
      refine loopK_e ?_
      refine blkK_hit ?_
      refine seqK_n ?_
      refine cw_seq ?_
      refine cw_block ?_
      refine cw_loop1 [7, 69, 70, 71, 72, 73, 74, 75, 76, 77, 78, 79, 80, 81] [] (fun (q : Nat) G => upd (G) 7 (.int .i64 (q : Int))) (fun (q : Nat) G => G) (fun (q : Nat) H' => q ≤ (wordsOf pattern).length ∧ mt (wordsOf pattern) (wordsOf key) = mt ((wordsOf pattern).drop q) []) (fun (q : Nat) => (wordsOf pattern).length - q) i (upd_intro (mask_intro (by first | exact off_refl | (repeat (first | exact off_mask | refine off_upd rfl ?_ | refine off_mask2 rfl ?_)))) rfl) (lmask_intro offl_refl) ?_ ?_
      · exact ⟨by omega, hmi.fin (by omega)⟩
      · intro q J51 JL51 H51 hp50 hl51
        obtain ⟨hq1, hq2⟩ := hp50
        refine cw_seq ?_
        refine cw_seq ?_
        refine cw_region ?_
        refine ow1 (op1_l rfl (lo_move (v := .int _ _) rfl) ?_)
        refine ow1 (op1_l rfl (lo_move (v := .slice _ _ _) rfl) ?_)
        refine ow1 (op1_l rfl (lo_len_slh rfl (hs3.mono ((((HLe.refl _).trans hl9).trans hl12).trans hl51) (fun _ _ h => h)) Tryd.underlying108) ?_)
        refine ow1 (op1_l rfl (lo_lss rfl rfl) ?_)
        refine ow1 (op1_l rfl (lo_move (v := .bool _) rfl) ?_)
        refine ow_sp (j := 4) rfl (fun h52 => ?_) (fun h52 => ?_)
        · have p53 := dt h52
          refine ow1 (op1_g rfl h52 rfl (lo_move (v := .slice _ _ _) rfl) ?_)
          refine ow1 (op1_g rfl h52 rfl (lo_move (v := .int _ _) rfl) ?_)
          obtain ⟨c54, hc55⟩ := getE (xs := wordsOf pattern) (m := q) (by omega)
          obtain ⟨cs56, hE57, at58⟩ := (hs3.mono ((((HLe.refl _).trans hl9).trans hl12).trans hl51) (fun _ _ h => h)).get hc55
          obtain ⟨rfl, c54_w⟩ := hE57
          have c54_w : c54.length ≤ 9223372036854775807 := c54_w
          refine ow1 (op1_g rfl h52 rfl (lo_indexAddr rfl rfl (hs3.mono ((((HLe.refl _).trans hl9).trans hl12).trans hl51) (fun _ _ h => h)).1 at58 Tryd.underlying108 sz9 (by omega) (by omega)) ?_)
          refine ow1 (op1_g rfl h52 rfl (lo_loadE1 rfl ag9 at58) ?_)
          refine ow1 (op1_g rfl h52 rfl (lo_seql rfl rfl) ?_)
          refine ow1 (op1_l rfl (lo_pick_t (v := .bool _) rfl h52 rfl) ?_)
          refine ow_nil ?_
          refine seqK_n ?_
          refine cw_cond rfl (fun h59 => ?_) (fun h59 => ?_)
          · have p60 := dt h59
            refine cw_skip ?_
            refine seqK_n ?_
            refine cw_block ?_
            refine cw_region ?_
            refine ow1 (op1_l rfl (lo_move (v := .int _ _) rfl) ?_)
            refine ow1 (op1_l rfl (lo_add rfl rfl (rg_i64 (by omega))) ?_)
            refine ow1 (op1_l rfl (lo_assign (v := .int _ _) rfl) ?_)
            refine ow_nil ?_
            refine blkK_n ?_
            refine next1 (q + 1) (upd_intro (mask_intro (by first | exact off_refl | (repeat (first | exact off_mask | refine off_upd rfl ?_ | refine off_mask2 rfl ?_)))) rfl) (lmask_intro (by first | exact offl_refl | (repeat (first | exact offl_mask | refine offl_upd rfl ?_ | refine offl_mask2 rfl ?_)))) hl51 ?_ ?_
            · exact ⟨by omega, mt_end hq2 (by rw [hc55]; simp [*])⟩
            · omega
          · have p61 := df h59
            refine cw_exit ?_
            refine seqK_e ?_
            refine loopK_e ?_
            refine blkK_hit ?_
            refine seqK_n ?_
            refine cw_seq ?_
            refine cw_region ?_
            refine ow1 (op1_l rfl (lo_move (v := .int _ _) rfl) ?_)
            refine ow1 (op1_l rfl (lo_move (v := .slice _ _ _) rfl) ?_)
            refine ow1 (op1_l rfl (lo_len_slh rfl (hs3.mono ((((HLe.refl _).trans hl9).trans hl12).trans hl51) (fun _ _ h => h)) Tryd.underlying108) ?_)
            refine ow1 (op1_l rfl (lo_eql rfl rfl) ?_)
            refine ow1 (op1_l rfl (lo_assign (v := .bool _) rfl) ?_)
            refine ow_nil ?_
            refine seqK_n ?_
            refine cw_ret ?_
            refine fnK_r (res1 rfl (rv_t (v := .bool _) rfl)) (((((HLe.refl _).trans hl4).trans hl9).trans hl12).trans hl51) ?_
            refine congrArg Value.bool ?_
            rw [hq2]
            rw [mt_endN hc55 (by assumption)]
            rw [decide_eq_false_iff_not]; omega
        · have p62 := df h52
          refine ow1 (op1_gs rfl h52 rfl ?_)
          refine ow1 (op1_gs rfl h52 rfl ?_)
          refine ow1 (op1_gs rfl h52 rfl ?_)
          refine ow1 (op1_gs rfl h52 rfl ?_)
          refine ow1 (op1_gs rfl h52 rfl ?_)
          refine ow1 (op1_l rfl (lo_pick_f (v := .bool _) rfl h52 rfl) ?_)
          refine ow_nil ?_
          refine seqK_n ?_
          refine cw_cond_f rfl rfl ?_
          refine cw_exit ?_
          refine seqK_e ?_
          refine loopK_e ?_
          refine blkK_hit ?_
          refine seqK_n ?_
          refine cw_seq ?_
          refine cw_region ?_
          refine ow1 (op1_l rfl (lo_move (v := .int _ _) rfl) ?_)
          refine ow1 (op1_l rfl (lo_move (v := .slice _ _ _) rfl) ?_)
          refine ow1 (op1_l rfl (lo_len_slh rfl (hs3.mono ((((HLe.refl _).trans hl9).trans hl12).trans hl51) (fun _ _ h => h)) Tryd.underlying108) ?_)
          refine ow1 (op1_l rfl (lo_eql rfl rfl) ?_)
          refine ow1 (op1_l rfl (lo_assign (v := .bool _) rfl) ?_)
          refine ow_nil ?_
          refine seqK_n ?_
          refine cw_ret ?_
          refine fnK_r (res1 rfl (rv_t (v := .bool _) rfl)) (((((HLe.refl _).trans hl4).trans hl9).trans hl12).trans hl51) ?_
          refine congrArg Value.bool ?_
          rw [hq2]
          have hqe : q = (wordsOf pattern).length := by omega
          subst hqe
          rw [List.drop_length]; simp [mt]

theorem l04_awake (H : Hp)  (hML : GInt H 2) : Pr Tryd.prog 110 #[] H (.bool true) := by
  refine pr_cw Tryd.func110 rfl Tryd.ntmps110 rfl (fun N => ?_)
  refine cw_seq ?_
  refine cw_region ?_
  refine ow1 (op1_l rfl (lo_assign (v := .bool _) rfl) ?_)
  refine ow_nil ?_
  refine seqK_n ?_
  refine cw_seq ?_
  refine cw_region ?_
  refine ow1 (op1_pr (words_Matches _ [97, 46, 42, 46, 35] [97, 46, 98] hML (by first | omega | (simp; done) | decide) (by first | omega | (simp; done) | decide)) (en_f cb117 rfl) rfl ?_)
  refine ow1 (op1_l rfl (lo_move (v := .bool _) rfl) ?_)
  refine ow1 (op1_prg rfl (by decide +kernel) (words_Matches _ [97, 46, 42, 46, 35] [97, 46, 98, 46, 99, 46, 100] hML (by first | omega | (simp; done) | decide) (by first | omega | (simp; done) | decide)) (en_f cb117 rfl) rfl ?_)
  refine ow1 (op1_l rfl (lo_pick_t (v := .bool _) rfl (by decide +kernel) rfl) ?_)
  refine ow1 (op1_l rfl (lo_move (v := .bool _) rfl) ?_)
  refine ow1 (op1_prg rfl (by decide +kernel) (words_Matches _ [97, 46, 42, 46, 35] [97] hML (by first | omega | (simp; done) | decide) (by first | omega | (simp; done) | decide)) (en_f cb117 rfl) rfl ?_)
  refine ow1 (op1_g rfl (by decide +kernel) rfl (lo_not rfl) ?_)
  refine ow1 (op1_l rfl (lo_pick_t (v := .bool _) rfl (by decide +kernel) rfl) ?_)
  refine ow1 (op1_l rfl (lo_move (v := .bool _) rfl) ?_)
  refine ow1 (op1_prg rfl (by decide +kernel) (words_Name _ [97, 45, 49] (by first | omega | decide | (simp; done))) (en_f cb54 rfl) rfl ?_)
  refine ow1 (op1_g rfl (by decide +kernel) rfl (lo_eql rfl rfl) ?_)
  refine ow1 (op1_l rfl (lo_pick_t (v := .bool _) rfl (by decide +kernel) rfl) ?_)
  refine ow1 (op1_l rfl (lo_assign (v := .bool _) rfl) ?_)
  refine ow_nil ?_
  refine seqK_n ?_
  refine cw_ret ?_
  refine fnK_r (res1 rfl (rv_t (v := .bool _) rfl)) (.refl _) ?_
  exact congrArg Value.bool (by decide +kernel)

theorem l04_Awake (H : Hp)  (hML : GInt H 2) : Pr Tryd.prog 93 #[] H (.bool true) := by
  refine pr_cw Tryd.func93 rfl Tryd.ntmps93 rfl (fun N => ?_)
  refine cw_seq ?_
  refine cw_region ?_
  refine ow1 (op1_l rfl (lo_assign (v := .bool _) rfl) ?_)
  refine ow_nil ?_
  refine seqK_n ?_
  refine cw_seq ?_
  refine cw_region ?_
  refine ow1 (op1_pr (l04_awake _ hML) (en_f cb110 rfl) rfl ?_)
  refine ow1 (op1_l rfl (lo_assign (v := .bool _) rfl) ?_)
  refine ow_nil ?_
  refine seqK_n ?_
  refine cw_ret ?_
  refine fnK_r (res1 rfl (rv_t (v := .bool _) rfl)) (.refl _) ?_
  rfl

theorem l09_awake (H : Hp)  (hML : GInt H 2) : Pr Tryd.prog 67 #[] H (.bool true) := by
  refine pr_cw Tryd.func67 rfl Tryd.ntmps67 rfl (fun N => ?_)
  refine cw_seq ?_
  refine cw_region ?_
  refine ow1 (op1_l rfl (lo_assign (v := .bool _) rfl) ?_)
  refine ow_nil ?_
  refine seqK_n ?_
  refine cw_seq ?_
  refine cw_region ?_
  refine ow1 (op1_pr (head_Bytes _ none 0 0 [] slh_nil (by first | omega | (simp <;> omega))) (en_f cb47 rfl) rfl ?_)
  have := headBytes_len []
  refine ow1 (op1_l rfl (lo_move (v := .tuple #[_, _]) rfl) ?_)
  refine ow1 (op1_l rfl (lo_extract (v := str _) rfl rfl) ?_)
  refine ow1 (op1_l rfl (lo_extract (v := .int _ _) rfl rfl) ?_)
  refine ow1 (op1_l rfl (lo_assign (v := str _) rfl) ?_)
  refine ow1 (op1_l rfl (lo_assign (v := .int _ _) rfl) ?_)
  refine ow_nil ?_
  refine seqK_n ?_
  refine cw_seq ?_
  refine cw_region ?_
  refine ow1 (op1_pr (l01_Awake _ ) (en_f cb92 rfl) rfl ?_)
  refine ow1 (op1_l rfl (lo_move (v := .bool _) rfl) ?_)
  refine ow1 (op1_prg rfl rfl (l04_Awake _ hML) (en_f cb93 rfl) rfl ?_)
  refine ow1 (op1_l rfl (lo_pick_t (v := .bool _) rfl rfl rfl) ?_)
  refine ow1 (op1_l rfl (lo_move (v := .bool _) rfl) ?_)
  refine ow1 (op1_g rfl rfl rfl (lo_move (v := .int _ _) rfl) ?_)
  refine ow1 (op1_g rfl rfl rfl (lo_eql rfl rfl) ?_)
  refine ow1 (op1_l rfl (lo_pick_t (v := .bool _) rfl rfl rfl) ?_)
  refine ow1 (op1_l rfl (lo_move (v := .bool _) rfl) ?_)
  refine ow1 (op1_g rfl (by decide +kernel) rfl (lo_move (v := str _) rfl) ?_)
  refine ow1 (op1_g rfl (by decide +kernel) rfl (lo_seql rfl rfl) ?_)
  refine ow1 (op1_l rfl (lo_pick_t (v := .bool _) rfl (by decide +kernel) rfl) ?_)
  refine ow1 (op1_l rfl (lo_assign (v := .bool _) rfl) ?_)
  refine ow_nil ?_
  refine seqK_n ?_
  refine cw_ret ?_
  refine fnK_r (res1 rfl (rv_t (v := .bool _) rfl)) (.refl _) ?_
  exact congrArg Value.bool (by decide +kernel)

theorem l09_Awake (H : Hp)  (hML : GInt H 2) : Pr Tryd.prog 31 #[] H (.bool true) := by
  refine pr_cw Tryd.func31 rfl Tryd.ntmps31 rfl (fun N => ?_)
  refine cw_seq ?_
  refine cw_region ?_
  refine ow1 (op1_l rfl (lo_assign (v := .bool _) rfl) ?_)
  refine ow_nil ?_
  refine seqK_n ?_
  refine cw_seq ?_
  refine cw_region ?_
  refine ow1 (op1_pr (l09_awake _ hML) (en_f cb67 rfl) rfl ?_)
  refine ow1 (op1_l rfl (lo_assign (v := .bool _) rfl) ?_)
  refine ow_nil ?_
  refine seqK_n ?_
  refine cw_ret ?_
  refine fnK_r (res1 rfl (rv_t (v := .bool _) rfl)) (.refl _) ?_
  rfl

theorem l12_awake (H : Hp)  (hML : GInt H 2) (hCrc : GTab H 1 laidT) : Pr Tryd.prog 8 #[] H (.bool true) := by
  refine pr_cw Tryd.func8 rfl Tryd.ntmps8 rfl (fun N => ?_)
  refine cw_seq ?_
  refine cw_region ?_
  refine ow1 (op1_l rfl (lo_assign (v := .bool _) rfl) ?_)
  refine ow_nil ?_
  refine seqK_n ?_
  refine cw_seq ?_
  refine cw_region ?_
  refine ow1 (op1_l rfl (lo_build (v := .agg #[_, _, _, _, _, _, _, _, _, _, _, _, _]) rfl (bd27_0u8_1u8 _ _)) ?_)
  refine ow1 (op1_pr (reply_Frame _ (⟨1, 1, 0, 0, false, [], (⟨0, [], [], [], [], 0, 0⟩ : Mail)⟩ : Reply) none 0 slh_nil (by simp only [Reply.wf, Mail.wf]; first | omega | (simp; done) | (simp; omega)) hML) (en_f cb15 rfl) rfl ?_)
  refine ow1 (op1_l rfl (lo_move (v := .tuple #[_, _]) rfl) ?_)
  refine ow1 (op1_l rfl (lo_extract (v := .agg #[_, _, _]) rfl rfl) ?_)
  refine ow1 (op1_l rfl (lo_extract (v := .int _ _) rfl rfl) ?_)
  refine ow1 (op1_alloc 0 rfl zr35 (fun b1 => ?_))
  refine ow1 (op1_storeA (i := 0) (vs := [_, _, _]) rfl rfl rfl sz35 rfl rfl rfl ?_)
  refine ow1 (op1_l rfl (lo_assign (v := .int _ _) rfl) ?_)
  refine ow_nil ?_
  refine seqK_n ?_
  refine cw_seq ?_
  refine cw_region ?_
  refine ow1 (op1_pr (l08_Awake _ hCrc) (en_f cb30 rfl) rfl ?_)
  refine ow1 (op1_l rfl (lo_move (v := .bool _) rfl) ?_)
  refine ow1 (op1_prg rfl rfl (l09_Awake _ hML) (en_f cb31 rfl) rfl ?_)
  refine ow1 (op1_l rfl (lo_pick_t (v := .bool _) rfl rfl rfl) ?_)
  refine ow1 (op1_l rfl (lo_move (v := .bool _) rfl) ?_)
  refine ow1 (op1_g rfl rfl rfl (lo_move (v := .int _ _) rfl) ?_)
  refine ow1 (op1_g rfl rfl rfl (lo_eql rfl rfl) ?_)
  refine ow1 (op1_l rfl (lo_pick_t (v := .bool _) rfl rfl rfl) ?_)
  refine ow1 (op1_l rfl (lo_move (v := .bool _) rfl) ?_)
  refine ow1 (op1_g rfl (by decide +kernel) rfl (lo_fieldAddr rfl fl35_1) ?_)
  refine ow1 (op1_g rfl (by decide +kernel) rfl (lo_load1 (i := 0) (v := .int _ _) rfl ag5 rfl rfl) ?_)
  refine ow1 (op1_g rfl (by decide +kernel) rfl (lo_eql rfl rfl) ?_)
  refine ow1 (op1_l rfl (lo_pick_t (v := .bool _) rfl (by decide +kernel) rfl) ?_)
  refine ow1 (op1_l rfl (lo_move (v := .bool _) rfl) ?_)
  refine ow1 (op1_g rfl (by decide +kernel) rfl (lo_fieldAddr rfl fl35_2) ?_)
  refine ow1 (op1_g rfl (by decide +kernel) rfl (lo_load1 (i := 0) (v := str _) rfl ag9 rfl rfl) ?_)
  refine ow1 (op1_g rfl (by decide +kernel) rfl (lo_seql rfl rfl) ?_)
  refine ow1 (op1_l rfl (lo_pick_t (v := .bool _) rfl (by decide +kernel) rfl) ?_)
  refine ow1 (op1_l rfl (lo_assign (v := .bool _) rfl) ?_)
  refine ow_nil ?_
  refine seqK_n ?_
  refine cw_ret ?_
  refine fnK_r (res1 rfl (rv_t (v := .bool _) rfl)) (.refl _) ?_
  exact congrArg Value.bool (by decide +kernel)

end Go.SW
