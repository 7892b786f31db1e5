/-
  A part of the proof of ReplyFrames: The walks of this seat, printed by program: reply.Of, stairwellref12.Parse. The walks of this seat, printed by program: stairwelllaw12.ReplyReads.
-/
import Derived.Test.YtfchllcmfnhlbaaDoorProg
import Derived.KernelRfl
import Derived.Test.YtfchllcmfnhlbaaDoorReplyFramesP6
set_option linter.unusedVariables false
set_option linter.unusedSimpArgs false

set_option linter.unusedVariables false
set_option maxRecDepth 100000
set_option maxHeartbeats 4000000
namespace Go.SW
open Go.Proofs
theorem bd27  (w : World) : (Instr.build 27 #[]).run Tryd.prog w = .ok (.agg #[.int .u8 0, .int .u8 0, .int .u64 0, .int .u64 0, .bool false, str [], .int .u64 0, str [], str [], .slice none 0 0, str [], .int .u64 0, .int .u8 0]) w := by kernel_rfl
theorem bd32  (w : World) : (Instr.build 32 #[]).run Tryd.prog w = .ok (.agg #[.int .u8 0, .int .u8 0, .int .u64 0, .int .u64 0, .bool false, str [], .int .u64 0, str [], str [], .slice none 0 0, str [], .int .u64 0, .int .u8 0]) w := by kernel_rfl
theorem bd32_0u8_1u8 (a1 : Int) (a2 : Int) (w : World) : (Instr.build 32 #[(0, .int .u8 a1), (1, .int .u8 a2)]).run Tryd.prog w = .ok (.agg #[.int .u8 a1, .int .u8 a2, .int .u64 0, .int .u64 0, .bool false, str [], .int .u64 0, str [], str [], .slice none 0 0, str [], .int .u64 0, .int .u8 0]) w := by kernel_rfl
theorem bd70_0s (a1 : Bs) (w : World) : (Instr.build 70 #[(0, str a1)]).run Tryd.prog w = .ok (.agg #[str a1, .int .i64 0, .int .i64 0]) w := by kernel_rfl
theorem cb17 : Callable Tryd.prog 17 := callable_of Tryd.func17 (by kernel_rfl) (by kernel_rfl)
theorem cb36 : Callable Tryd.prog 36 := callable_of Tryd.func36 (by kernel_rfl) (by kernel_rfl)
theorem cb37 : Callable Tryd.prog 37 := callable_of Tryd.func37 (by kernel_rfl) (by kernel_rfl)
theorem cb43 : Callable Tryd.prog 43 := callable_of Tryd.func43 (by kernel_rfl) (by kernel_rfl)
theorem cb44 : Callable Tryd.prog 44 := callable_of Tryd.func44 (by kernel_rfl) (by kernel_rfl)
theorem cb71 : Callable Tryd.prog 71 := callable_of Tryd.func71 (by kernel_rfl) (by kernel_rfl)
theorem fl41_0 : Fld Tryd.prog 41 0 0 := fun b o w => by kernel_rfl
theorem fl41_1 : Fld Tryd.prog 41 1 1 := fun b o w => by kernel_rfl
theorem fl41_2 : Fld Tryd.prog 41 2 2 := fun b o w => by kernel_rfl
theorem sz22 : Sz Tryd.prog 22 1 := fun w => by kernel_rfl
theorem sz4 : Sz Tryd.prog 4 1 := fun w => by kernel_rfl
theorem zr27 : Zr Tryd.prog 27 [.int .u8 0, .int .u8 0, .int .u64 0, .int .u64 0, .bool false, str [], .int .u64 0, str [], str [], .slice none 0 0, str [], .int .u64 0, .int .u8 0] := fun w => ⟨.agg #[.int .u8 0, .int .u8 0, .int .u64 0, .int .u64 0, .bool false, str [], .int .u64 0, str [], str [], .slice none 0 0, str [], .int .u64 0, .int .u8 0], by kernel_rfl, rfl⟩

theorem reply_Of (H : Hp) (f : Frame) (f_w : Frame.wf f) (hML : GInt H 2) : Ph Tryd.prog 13 #[.agg (Frame.cells f).toArray] H (fun v H' => ∃ (a1 : Option Addr) (c1 : Nat), v = .tuple #[.agg (Reply.cells ((replyOf f).1) a1 c1).toArray, .int .i64 ((replyOf f).2)] ∧ SlH pairE 4 H' (.slice a1 (((replyOf f).1).mail.head).length c1) (((replyOf f).1).mail.head)) := by
  refine ph_cw Tryd.func13 rfl Tryd.ntmps13 rfl (fun N => ?_)
  have f_w' := f_w
  simp only [Frame.wf] at f_w'
  refine cw_seq ?_
  refine cw_region ?_
  refine ow1 (op1_box (cs := [_, _, _]) 0 rfl rfl (fun b1 => ?_))
  refine ow1 (op1_alloc 1 rfl zr27 (fun b2 => ?_))
  refine ow1 (op1_l rfl (lo_assign (v := .int _ _) rfl) ?_)
  refine ow_nil ?_
  refine seqK_n ?_
  refine cw_seq ?_
  refine cw_seq ?_
  refine cw_region ?_
  refine ow1 (op1_l rfl (lo_fieldAddr rfl fl35_1) ?_)
  refine ow1 (op1_l rfl (lo_load1 (i := 0) (v := .int _ _) rfl ag5 rfl rfl) ?_)
  refine ow1 (op1_l rfl (lo_lss rfl rfl) ?_)
  refine ow1 (op1_l rfl (lo_move (v := .bool _) rfl) ?_)
  refine ow_sp (j := 3) rfl (fun h3 => ?_) (fun h3 => ?_)
  · have p4 := dt h3
    refine ow1 (op1_gs rfl h3 rfl ?_)
    refine ow1 (op1_gs rfl h3 rfl ?_)
    refine ow1 (op1_gs rfl h3 rfl ?_)
    refine ow1 (op1_l rfl (lo_pick_t (v := .bool _) rfl h3 rfl) ?_)
    refine ow_nil ?_
    refine seqK_n ?_
    refine cw_cond_t rfl rfl ?_
    refine cw_seq ?_
    refine cw_region ?_
    refine ow1 (op1_l rfl (lo_build (v := .agg #[_, _, _, _, _, _, _, _, _, _, _, _, _]) rfl (bd27)) ?_)
    refine ow1 (op1_storeAn (i := 1) (vs := [_, _, _, _, _, _, _, _, _, _, _, _, _]) [_, _, _, _, _, _, _, _, _, _, _, _, _] rfl rfl rfl sz27 rfl rfl rfl rfl ?_)
    refine ow1 (op1_l rfl (lo_assign (v := .int _ _) rfl) ?_)
    refine ow_nil ?_
    refine seqK_n ?_
    refine cw_ret ?_
    refine seqK_r ?_
    refine fnK_r (res2 rfl (rv_c (i := 1) (vs := [_, _, _, _, _, _, _, _, _, _, _, _, _]) rfl ag27 sz27 rfl rfl rfl) (rv_t (v := .int _ _) rfl)) (.refl _) ?_
    have e : replyOf f = (Reply.zero, 8) := by unfold replyOf; rw [if_pos (by omega)]
    rw [e]
    exact ⟨none, 0, rfl, slh_nil⟩
  · have p5 := df h3
    refine ow1 (op1_g rfl h3 rfl (lo_fieldAddr rfl fl35_1) ?_)
    refine ow1 (op1_g rfl h3 rfl (lo_load1 (i := 0) (v := .int _ _) rfl ag5 rfl rfl) ?_)
    refine ow1 (op1_g rfl h3 rfl (lo_gtr rfl rfl) ?_)
    refine ow1 (op1_l rfl (lo_pick_f (v := .bool _) rfl h3 rfl) ?_)
    refine ow_nil ?_
    refine seqK_n ?_
    refine cw_cond rfl (fun h6 => ?_) (fun h6 => ?_)
    · have p7 := dt h6
      refine cw_seq ?_
      refine cw_region ?_
      refine ow1 (op1_l rfl (lo_build (v := .agg #[_, _, _, _, _, _, _, _, _, _, _, _, _]) rfl (bd27)) ?_)
      refine ow1 (op1_storeAn (i := 1) (vs := [_, _, _, _, _, _, _, _, _, _, _, _, _]) [_, _, _, _, _, _, _, _, _, _, _, _, _] rfl rfl rfl sz27 rfl rfl rfl rfl ?_)
      refine ow1 (op1_l rfl (lo_assign (v := .int _ _) rfl) ?_)
      refine ow_nil ?_
      refine seqK_n ?_
      refine cw_ret ?_
      refine seqK_r ?_
      refine fnK_r (res2 rfl (rv_c (i := 1) (vs := [_, _, _, _, _, _, _, _, _, _, _, _, _]) rfl ag27 sz27 rfl rfl rfl) (rv_t (v := .int _ _) rfl)) (.refl _) ?_
      have e : replyOf f = (Reply.zero, 8) := by unfold replyOf; rw [if_pos (by omega)]
      rw [e]
      exact ⟨none, 0, rfl, slh_nil⟩
    · have p8 := df h6
      refine cw_skip ?_
      refine seqK_n ?_
      refine cw_seq ?_
      refine cw_region ?_
      refine ow1 (op1_l rfl (lo_fieldAddr rfl fl35_0) ?_)
      refine ow1 (op1_l rfl (lo_load1 (i := 0) (v := .int _ _) rfl ag5 rfl rfl) ?_)
      refine ow1 (op1_l rfl (lo_fieldAddr rfl fl35_1) ?_)
      refine ow1 (op1_l rfl (lo_load1 (i := 0) (v := .int _ _) rfl ag5 rfl rfl) ?_)
      refine ow1 (op1_l rfl (lo_sub rfl rfl (rg_u8 (by omega))) ?_)
      refine ow1 (op1_l rfl (lo_build (v := .agg #[_, _, _, _, _, _, _, _, _, _, _, _, _]) rfl (bd27_0u8_1u8 _ _)) ?_)
      refine ow1 (op1_alloc 2 rfl zr27 (fun b9 => ?_))
      refine ow1 (op1_storeAn (i := 2) (vs := [_, _, _, _, _, _, _, _, _, _, _, _, _]) [_, _, _, _, _, _, _, _, _, _, _, _, _] rfl rfl rfl sz27 rfl rfl rfl rfl ?_)
      refine ow_nil ?_
      refine seqK_n ?_
      refine cw_seq ?_
      refine cw_region ?_
      refine ow1 (op1_l rfl (lo_fieldAddr rfl fl35_2) ?_)
      refine ow1 (op1_l rfl (lo_load1 (i := 0) (v := str _) rfl ag9 rfl rfl) ?_)
      refine ow1 (op1_pn 3 (octet_New _ f.body) (en_f cb35 rfl) rfl ?_)
      rintro _ _ b12 _ ⟨rfl, rfl, rfl⟩ _
      refine ow1 (op1_l rfl (lo_assign (v := .pointer (some ⟨_, _, none⟩)) rfl) ?_)
      refine ow_nil ?_
      refine seqK_n ?_
      refine cw_seq ?_
      refine cw_region ?_
      refine ow1 (op1_l rfl (lo_move (v := .pointer (some ⟨_, _, none⟩)) rfl) ?_)
      refine ow1 (op1_in (en_f cb36 rfl) Tryd.func36 rfl Tryd.ntmps36 rfl rfl ?_)
      refine cw_seq ?_
      refine cw_seq ?_
      refine cw_region ?_
      refine ow1 (op1_l rfl (lo_move (v := .pointer (some ⟨_, _, none⟩)) rfl) ?_)
      refine ow1 (op1_l rfl (lo_nilCheck rfl) ?_)
      refine ow1 (op1_l rfl (lo_fieldAddr rfl fl27_1) ?_)
      refine ow1 (op1_l rfl (lo_load1 (i := 2) (v := .int _ _) rfl ag5 rfl rfl) ?_)
      refine ow_nil ?_
      refine seqK_n ?_
      refine cw_block ?_
      refine cw_seq ?_
      refine cw_region ?_
      refine ow1 (op1_l rfl (lo_eql rfl rfl) ?_)
      refine ow1 (op1_l rfl (lo_assign (v := .bool _) rfl) ?_)
      refine ow_nil ?_
      refine seqK_n ?_
      refine cw_cond rfl (fun h13 => ?_) (fun h13 => ?_)
      · have p14 := dt h13
        refine cw_region ?_
        refine ow1 (op1_l rfl (lo_move (v := .pointer (some ⟨_, _, none⟩)) rfl) ?_)
        refine ow1 (op1_l rfl (lo_move (v := .pointer (some ⟨_, _, none⟩)) rfl) ?_)
        refine ow1 (op1_pm 3 rfl (in_Text _ b12 (⟨f.body, 0⟩) 16 (by omega)) (en_f cb68 rfl) rfl ?_)
        rintro _ _ _ ⟨rfl, rfl, rfl⟩ _
        generalize hq18 : inText (⟨f.body, 0⟩) 16 = q15
        have hf19 := inText_len (⟨f.body, 0⟩) 16
        simp only [hq18] at hf19
        refine ow1 (op1_l rfl (lo_nilCheck rfl) ?_)
        refine ow1 (op1_l rfl (lo_fieldAddr rfl fl27_5) ?_)
        refine ow1 (op1_store1n (i := 2) (v := str _) [_, _, _, _, _, _, _, _, _, _, _, _, _] rfl rfl rfl sz9 rfl rfl rfl ?_)
        refine ow_nil ?_
        refine blkK_n ?_
        refine seqK_n ?_
        refine cw_seq ?_
        refine cw_seq ?_
        refine cw_region ?_
        refine ow1 (op1_l rfl (lo_move (v := .pointer (some ⟨_, _, none⟩)) rfl) ?_)
        refine ow1 (op1_l rfl (lo_nilCheck rfl) ?_)
        refine ow1 (op1_l rfl (lo_fieldAddr rfl fl27_1) ?_)
        refine ow1 (op1_l rfl (lo_load1 (i := 2) (v := .int _ _) rfl ag5 rfl rfl) ?_)
        refine ow1 (op1_l rfl (lo_neq rfl rfl) ?_)
        refine ow_nil ?_
        refine seqK_n ?_
        refine cw_cond_t rfl (by rw [(fd (by omega))] <;> rfl) ?_
        refine cw_ret ?_
        refine seqK_r ?_
        refine fnK_r (res0 rfl) (.refl _) ?_
        refine ow_nil ?_
        refine seqK_n ?_
        refine cw_seq ?_
        refine cw_region ?_
        refine ow1 (op1_l rfl (lo_move (v := .pointer (some ⟨_, _, none⟩)) rfl) ?_)
        refine ow1 (op1_pm 3 rfl (in_End _ b12 q15.2) (en_f cb37 rfl) rfl ?_)
        rintro _ _ _ ⟨rfl, rfl, rfl⟩ _
        refine ow1 (op1_l rfl (lo_assign (v := .int _ _) rfl) ?_)
        refine ow_nil ?_
        refine seqK_n ?_
        refine cw_seq ?_
        refine cw_seq ?_
        refine cw_region ?_
        refine ow1 (op1_l rfl (lo_move (v := .int _ _) rfl) ?_)
        refine ow1 (op1_l rfl (lo_eql rfl rfl) ?_)
        refine ow_nil ?_
        refine seqK_n ?_
        refine cw_cond rfl (fun h22 => ?_) (fun h22 => ?_)
        · have p23 := dt h22
          refine cw_region ?_
          refine ow1 (op1_l rfl (lo_loadA (i := 2) (vs := [_, _, _, _, _, _, _, _, _, _, _, _, _]) rfl ag27 sz27 rfl rfl rfl) ?_)
          refine ow1 (op1_pr (reply_Check _ (⟨f.channel, (f.kind - 64), 0, 0, false, q15.1, (⟨0, [], [], [], [], 0, 0⟩ : Mail)⟩ : Reply) none 0 slh_nil (by simp only [Reply.wf, Mail.wf]; first | omega | (simp; done) | (simp; omega)) hML) (en_f cb18 rfl) rfl ?_)
          have hrl := replyE_len (⟨f.channel, (f.kind - 64), 0, 0, false, q15.1, (⟨0, [], [], [], [], 0, 0⟩ : Mail)⟩ : Reply)
          refine ow1 (op1_l rfl (lo_assign (v := .int _ _) rfl) ?_)
          refine ow_nil ?_
          refine seqK_n ?_
          refine cw_seq ?_
          refine cw_seq ?_
          refine cw_region ?_
          refine ow1 (op1_l rfl (lo_move (v := .int _ _) rfl) ?_)
          refine ow1 (op1_l rfl (lo_neq rfl rfl) ?_)
          refine ow_nil ?_
          refine seqK_n ?_
          refine cw_cond rfl (fun h24 => ?_) (fun h24 => ?_)
          · have h25 := not_t h24
            have p26 := df h25
            refine cw_seq ?_
            refine cw_region ?_
            refine ow1 (op1_l rfl (lo_build (v := .agg #[_, _, _, _, _, _, _, _, _, _, _, _, _]) rfl (bd27)) ?_)
            refine ow1 (op1_l rfl (lo_move (v := .int _ _) rfl) ?_)
            refine ow1 (op1_storeAn (i := 1) (vs := [_, _, _, _, _, _, _, _, _, _, _, _, _]) [_, _, _, _, _, _, _, _, _, _, _, _, _] rfl rfl rfl sz27 rfl rfl rfl rfl ?_)
            refine ow1 (op1_l rfl (lo_assign (v := .int _ _) rfl) ?_)
            refine ow_nil ?_
            refine seqK_n ?_
            refine cw_ret ?_
            refine seqK_r ?_
            refine fnK_r (res2 rfl (rv_c (i := 1) (vs := [_, _, _, _, _, _, _, _, _, _, _, _, _]) rfl ag27 sz27 rfl rfl rfl) (rv_t (v := .int _ _) rfl)) (.refl _) ?_
            have hk : ¬ (f.kind < 64 ∨ 71 < f.kind) := by omega
            have hr : replyRead f.channel (f.kind - 64) ⟨f.body, 0⟩ = ((⟨f.channel, (f.kind - 64), 0, 0, false, q15.1, (⟨0, [], [], [], [], 0, 0⟩ : Mail)⟩ : Reply), q15.2) := by unfold replyRead; (repeat first | simp only [hq18] | rw [if_pos (by omega)] | rw [if_neg (by omega)]); all_goals first | rfl | (unfold sentRead; (repeat first | simp only [hq18] | rw [if_pos (by omega)] | rw [if_neg (by omega)]); all_goals rfl)
            have e : replyOf f = ((⟨0, 0, 0, 0, false, [], (⟨0, [], [], [], [], 0, 0⟩ : Mail)⟩ : Reply), replyE (⟨f.channel, (f.kind - 64), 0, 0, false, q15.1, (⟨0, [], [], [], [], 0, 0⟩ : Mail)⟩ : Reply)) := by
              unfold replyOf
              rw [if_neg hk]
              simp only
              rw [hr]
              simp only
              (repeat first | rw [if_pos (by omega)] | rw [if_neg (by omega)])
              all_goals first | rfl | (simp [*]; done)
            rw [e]
            exact ⟨none, 0, rfl, slh_nil⟩
          · have h27 := not_f h24
            have p28 := dt h27
            refine cw_skip ?_
            refine seqK_n ?_
            refine cw_seq ?_
            refine cw_region ?_
            refine ow1 (op1_l rfl (lo_loadA (i := 2) (vs := [_, _, _, _, _, _, _, _, _, _, _, _, _]) rfl ag27 sz27 rfl rfl rfl) ?_)
            refine ow1 (op1_storeAn (i := 1) (vs := [_, _, _, _, _, _, _, _, _, _, _, _, _]) [_, _, _, _, _, _, _, _, _, _, _, _, _] rfl rfl rfl sz27 rfl rfl rfl rfl ?_)
            refine ow1 (op1_l rfl (lo_assign (v := .int _ _) rfl) ?_)
            refine ow_nil ?_
            refine seqK_n ?_
            refine cw_ret ?_
            refine fnK_r (res2 rfl (rv_c (i := 1) (vs := [_, _, _, _, _, _, _, _, _, _, _, _, _]) rfl ag27 sz27 rfl rfl rfl) (rv_t (v := .int _ _) rfl)) (.refl _) ?_
            have hk : ¬ (f.kind < 64 ∨ 71 < f.kind) := by omega
            have hr : replyRead f.channel (f.kind - 64) ⟨f.body, 0⟩ = ((⟨f.channel, (f.kind - 64), 0, 0, false, q15.1, (⟨0, [], [], [], [], 0, 0⟩ : Mail)⟩ : Reply), q15.2) := by unfold replyRead; (repeat first | simp only [hq18] | rw [if_pos (by omega)] | rw [if_neg (by omega)]); all_goals first | rfl | (unfold sentRead; (repeat first | simp only [hq18] | rw [if_pos (by omega)] | rw [if_neg (by omega)]); all_goals rfl)
            have e : replyOf f = ((⟨f.channel, (f.kind - 64), 0, 0, false, q15.1, (⟨0, [], [], [], [], 0, 0⟩ : Mail)⟩ : Reply), 0) := by
              unfold replyOf
              rw [if_neg hk]
              simp only
              rw [hr]
              simp only
              (repeat first | rw [if_pos (by omega)] | rw [if_neg (by omega)])
              all_goals first | rfl | (simp [*]; done)
            rw [e]
            exact ⟨none, 0, rfl, slh_nil⟩
        · have p29 := df h22
          refine cw_skip ?_
          refine seqK_n ?_
          refine cw_seq ?_
          refine cw_seq ?_
          refine cw_region ?_
          refine ow1 (op1_l rfl (lo_move (v := .int _ _) rfl) ?_)
          refine ow1 (op1_l rfl (lo_neq rfl rfl) ?_)
          refine ow_nil ?_
          refine seqK_n ?_
          refine cw_cond_t rfl (by rw [h22] <;> rfl) ?_
          refine cw_seq ?_
          refine cw_region ?_
          refine ow1 (op1_l rfl (lo_build (v := .agg #[_, _, _, _, _, _, _, _, _, _, _, _, _]) rfl (bd27)) ?_)
          refine ow1 (op1_l rfl (lo_move (v := .int _ _) rfl) ?_)
          refine ow1 (op1_storeAn (i := 1) (vs := [_, _, _, _, _, _, _, _, _, _, _, _, _]) [_, _, _, _, _, _, _, _, _, _, _, _, _] rfl rfl rfl sz27 rfl rfl rfl rfl ?_)
          refine ow1 (op1_l rfl (lo_assign (v := .int _ _) rfl) ?_)
          refine ow_nil ?_
          refine seqK_n ?_
          refine cw_ret ?_
          refine seqK_r ?_
          refine fnK_r (res2 rfl (rv_c (i := 1) (vs := [_, _, _, _, _, _, _, _, _, _, _, _, _]) rfl ag27 sz27 rfl rfl rfl) (rv_t (v := .int _ _) rfl)) (.refl _) ?_
          have hk : ¬ (f.kind < 64 ∨ 71 < f.kind) := by omega
          have hr : replyRead f.channel (f.kind - 64) ⟨f.body, 0⟩ = ((⟨f.channel, (f.kind - 64), 0, 0, false, q15.1, (⟨0, [], [], [], [], 0, 0⟩ : Mail)⟩ : Reply), q15.2) := by unfold replyRead; (repeat first | simp only [hq18] | rw [if_pos (by omega)] | rw [if_neg (by omega)]); all_goals first | rfl | (unfold sentRead; (repeat first | simp only [hq18] | rw [if_pos (by omega)] | rw [if_neg (by omega)]); all_goals rfl)
          have e : replyOf f = ((⟨0, 0, 0, 0, false, [], (⟨0, [], [], [], [], 0, 0⟩ : Mail)⟩ : Reply), inEnd q15.2) := by
            unfold replyOf
            rw [if_neg hk]
            simp only
            rw [hr]
            simp only
            (repeat first | rw [if_pos (by omega)] | rw [if_neg (by omega)])
            all_goals first | rfl | (simp [*]; done)
          rw [e]
          exact ⟨none, 0, rfl, slh_nil⟩
      · have p30 := df h13
        refine cw_seq ?_
        refine cw_seq ?_
        refine cw_region ?_
        refine ow1 (op1_l rfl (lo_eql rfl rfl) ?_)
        refine ow1 (op1_l rfl (lo_assign (v := .bool _) rfl) ?_)
        refine ow_nil ?_
        refine seqK_n ?_
        refine cw_cond rfl (fun h31 => ?_) (fun h31 => ?_)
        · have p32 := dt h31
          refine cw_skip ?_
          refine seqK_n ?_
          refine cw_cond_t rfl h31 ?_
          refine cw_region ?_
          refine ow1 (op1_l rfl (lo_move (v := .pointer (some ⟨_, _, none⟩)) rfl) ?_)
          refine ow1 (op1_l rfl (lo_move (v := .pointer (some ⟨_, _, none⟩)) rfl) ?_)
          refine ow1 (op1_pm 3 rfl (in_Num _ b12 (⟨f.body, 0⟩) 8 (by omega)) (en_f cb69 rfl) rfl ?_)
          rintro _ _ _ ⟨rfl, rfl, rfl⟩ _
          generalize hq36 : inNum (⟨f.body, 0⟩) 8 = q33
          have hf37 := inNum_r (⟨f.body, 0⟩) 8
          simp only [hq36] at hf37
          refine ow1 (op1_l rfl (lo_nilCheck rfl) ?_)
          refine ow1 (op1_l rfl (lo_fieldAddr rfl fl27_2) ?_)
          refine ow1 (op1_store1n (i := 2) (v := .int _ _) [_, _, _, _, _, _, _, _, _, _, _, _, _] rfl rfl rfl sz22 rfl rfl rfl ?_)
          refine ow_nil ?_
          refine blkK_n ?_
          refine seqK_n ?_
          refine cw_seq ?_
          refine cw_seq ?_
          refine cw_region ?_
          refine ow1 (op1_l rfl (lo_move (v := .pointer (some ⟨_, _, none⟩)) rfl) ?_)
          refine ow1 (op1_l rfl (lo_nilCheck rfl) ?_)
          refine ow1 (op1_l rfl (lo_fieldAddr rfl fl27_1) ?_)
          refine ow1 (op1_l rfl (lo_load1 (i := 2) (v := .int _ _) rfl ag5 rfl rfl) ?_)
          refine ow1 (op1_l rfl (lo_neq rfl rfl) ?_)
          refine ow_nil ?_
          refine seqK_n ?_
          refine cw_cond_t rfl (by rw [(fd (by omega))] <;> rfl) ?_
          refine cw_ret ?_
          refine seqK_r ?_
          refine fnK_r (res0 rfl) (.refl _) ?_
          refine ow_nil ?_
          refine seqK_n ?_
          refine cw_seq ?_
          refine cw_region ?_
          refine ow1 (op1_l rfl (lo_move (v := .pointer (some ⟨_, _, none⟩)) rfl) ?_)
          refine ow1 (op1_pm 3 rfl (in_End _ b12 q33.2) (en_f cb37 rfl) rfl ?_)
          rintro _ _ _ ⟨rfl, rfl, rfl⟩ _
          refine ow1 (op1_l rfl (lo_assign (v := .int _ _) rfl) ?_)
          refine ow_nil ?_
          refine seqK_n ?_
          refine cw_seq ?_
          refine cw_seq ?_
          refine cw_region ?_
          refine ow1 (op1_l rfl (lo_move (v := .int _ _) rfl) ?_)
          refine ow1 (op1_l rfl (lo_eql rfl rfl) ?_)
          refine ow_nil ?_
          refine seqK_n ?_
          refine cw_cond rfl (fun h40 => ?_) (fun h40 => ?_)
          · have p41 := dt h40
            refine cw_region ?_
            refine ow1 (op1_l rfl (lo_loadA (i := 2) (vs := [_, _, _, _, _, _, _, _, _, _, _, _, _]) rfl ag27 sz27 rfl rfl rfl) ?_)
            refine ow1 (op1_pr (reply_Check _ (⟨f.channel, (f.kind - 64), q33.1, 0, false, [], (⟨0, [], [], [], [], 0, 0⟩ : Mail)⟩ : Reply) none 0 slh_nil (by simp only [Reply.wf, Mail.wf]; first | omega | (simp; done) | (simp; omega)) hML) (en_f cb18 rfl) rfl ?_)
            have hrl := replyE_len (⟨f.channel, (f.kind - 64), q33.1, 0, false, [], (⟨0, [], [], [], [], 0, 0⟩ : Mail)⟩ : Reply)
            refine ow1 (op1_l rfl (lo_assign (v := .int _ _) rfl) ?_)
            refine ow_nil ?_
            refine seqK_n ?_
            refine cw_seq ?_
            refine cw_seq ?_
            refine cw_region ?_
            refine ow1 (op1_l rfl (lo_move (v := .int _ _) rfl) ?_)
            refine ow1 (op1_l rfl (lo_neq rfl rfl) ?_)
            refine ow_nil ?_
            refine seqK_n ?_
            refine cw_cond rfl (fun h42 => ?_) (fun h42 => ?_)
            · have h43 := not_t h42
              have p44 := df h43
              refine cw_seq ?_
              refine cw_region ?_
              refine ow1 (op1_l rfl (lo_build (v := .agg #[_, _, _, _, _, _, _, _, _, _, _, _, _]) rfl (bd27)) ?_)
              refine ow1 (op1_l rfl (lo_move (v := .int _ _) rfl) ?_)
              refine ow1 (op1_storeAn (i := 1) (vs := [_, _, _, _, _, _, _, _, _, _, _, _, _]) [_, _, _, _, _, _, _, _, _, _, _, _, _] rfl rfl rfl sz27 rfl rfl rfl rfl ?_)
              refine ow1 (op1_l rfl (lo_assign (v := .int _ _) rfl) ?_)
              refine ow_nil ?_
              refine seqK_n ?_
              refine cw_ret ?_
              refine seqK_r ?_
              refine fnK_r (res2 rfl (rv_c (i := 1) (vs := [_, _, _, _, _, _, _, _, _, _, _, _, _]) rfl ag27 sz27 rfl rfl rfl) (rv_t (v := .int _ _) rfl)) (.refl _) ?_
              have hk : ¬ (f.kind < 64 ∨ 71 < f.kind) := by omega
              have hr : replyRead f.channel (f.kind - 64) ⟨f.body, 0⟩ = ((⟨f.channel, (f.kind - 64), q33.1, 0, false, [], (⟨0, [], [], [], [], 0, 0⟩ : Mail)⟩ : Reply), q33.2) := by unfold replyRead; (repeat first | simp only [hq36] | rw [if_pos (by omega)] | rw [if_neg (by omega)]); all_goals first | rfl | (unfold sentRead; (repeat first | simp only [hq36] | rw [if_pos (by omega)] | rw [if_neg (by omega)]); all_goals rfl)
              have e : replyOf f = ((⟨0, 0, 0, 0, false, [], (⟨0, [], [], [], [], 0, 0⟩ : Mail)⟩ : Reply), replyE (⟨f.channel, (f.kind - 64), q33.1, 0, false, [], (⟨0, [], [], [], [], 0, 0⟩ : Mail)⟩ : Reply)) := by
                unfold replyOf
                rw [if_neg hk]
                simp only
                rw [hr]
                simp only
                (repeat first | rw [if_pos (by omega)] | rw [if_neg (by omega)])
                all_goals first | rfl | (simp [*]; done)
              rw [e]
              exact ⟨none, 0, rfl, slh_nil⟩
            · have h45 := not_f h42
              have p46 := dt h45
              refine cw_skip ?_
              refine seqK_n ?_
              refine cw_seq ?_
              refine cw_region ?_
              refine ow1 (op1_l rfl (lo_loadA (i := 2) (vs := [_, _, _, _, _, _, _, _, _, _, _, _, _]) rfl ag27 sz27 rfl rfl rfl) ?_)
              refine ow1 (op1_storeAn (i := 1) (vs := [_, _, _, _, _, _, _, _, _, _, _, _, _]) [_, _, _, _, _, _, _, _, _, _, _, _, _] rfl rfl rfl sz27 rfl rfl rfl rfl ?_)
              refine ow1 (op1_l rfl (lo_assign (v := .int _ _) rfl) ?_)
              refine ow_nil ?_
              refine seqK_n ?_
              refine cw_ret ?_
              refine fnK_r (res2 rfl (rv_c (i := 1) (vs := [_, _, _, _, _, _, _, _, _, _, _, _, _]) rfl ag27 sz27 rfl rfl rfl) (rv_t (v := .int _ _) rfl)) (.refl _) ?_
              have hk : ¬ (f.kind < 64 ∨ 71 < f.kind) := by omega
              have hr : replyRead f.channel (f.kind - 64) ⟨f.body, 0⟩ = ((⟨f.channel, (f.kind - 64), q33.1, 0, false, [], (⟨0, [], [], [], [], 0, 0⟩ : Mail)⟩ : Reply), q33.2) := by unfold replyRead; (repeat first | simp only [hq36] | rw [if_pos (by omega)] | rw [if_neg (by omega)]); all_goals first | rfl | (unfold sentRead; (repeat first | simp only [hq36] | rw [if_pos (by omega)] | rw [if_neg (by omega)]); all_goals rfl)
              have e : replyOf f = ((⟨f.channel, (f.kind - 64), q33.1, 0, false, [], (⟨0, [], [], [], [], 0, 0⟩ : Mail)⟩ : Reply), 0) := by
                unfold replyOf
                rw [if_neg hk]
                simp only
                rw [hr]
                simp only
                (repeat first | rw [if_pos (by omega)] | rw [if_neg (by omega)])
                all_goals first | rfl | (simp [*]; done)
              rw [e]
              exact ⟨none, 0, rfl, slh_nil⟩
          · have p47 := df h40
            refine cw_skip ?_
            refine seqK_n ?_
            refine cw_seq ?_
            refine cw_seq ?_
            refine cw_region ?_
            refine ow1 (op1_l rfl (lo_move (v := .int _ _) rfl) ?_)
            refine ow1 (op1_l rfl (lo_neq rfl rfl) ?_)
            refine ow_nil ?_
            refine seqK_n ?_
            refine cw_cond_t rfl (by rw [h40] <;> rfl) ?_
            refine cw_seq ?_
            refine cw_region ?_
            refine ow1 (op1_l rfl (lo_build (v := .agg #[_, _, _, _, _, _, _, _, _, _, _, _, _]) rfl (bd27)) ?_)
            refine ow1 (op1_l rfl (lo_move (v := .int _ _) rfl) ?_)
            refine ow1 (op1_storeAn (i := 1) (vs := [_, _, _, _, _, _, _, _, _, _, _, _, _]) [_, _, _, _, _, _, _, _, _, _, _, _, _] rfl rfl rfl sz27 rfl rfl rfl rfl ?_)
            refine ow1 (op1_l rfl (lo_assign (v := .int _ _) rfl) ?_)
            refine ow_nil ?_
            refine seqK_n ?_
            refine cw_ret ?_
            refine seqK_r ?_
            refine fnK_r (res2 rfl (rv_c (i := 1) (vs := [_, _, _, _, _, _, _, _, _, _, _, _, _]) rfl ag27 sz27 rfl rfl rfl) (rv_t (v := .int _ _) rfl)) (.refl _) ?_
            have hk : ¬ (f.kind < 64 ∨ 71 < f.kind) := by omega
            have hr : replyRead f.channel (f.kind - 64) ⟨f.body, 0⟩ = ((⟨f.channel, (f.kind - 64), q33.1, 0, false, [], (⟨0, [], [], [], [], 0, 0⟩ : Mail)⟩ : Reply), q33.2) := by unfold replyRead; (repeat first | simp only [hq36] | rw [if_pos (by omega)] | rw [if_neg (by omega)]); all_goals first | rfl | (unfold sentRead; (repeat first | simp only [hq36] | rw [if_pos (by omega)] | rw [if_neg (by omega)]); all_goals rfl)
            have e : replyOf f = ((⟨0, 0, 0, 0, false, [], (⟨0, [], [], [], [], 0, 0⟩ : Mail)⟩ : Reply), inEnd q33.2) := by
              unfold replyOf
              rw [if_neg hk]
              simp only
              rw [hr]
              simp only
              (repeat first | rw [if_pos (by omega)] | rw [if_neg (by omega)])
              all_goals first | rfl | (simp [*]; done)
            rw [e]
            exact ⟨none, 0, rfl, slh_nil⟩
        · have p48 := df h31
          refine cw_seq ?_
          refine cw_region ?_
          refine ow1 (op1_l rfl (lo_eql rfl rfl) ?_)
          refine ow1 (op1_l rfl (lo_assign (v := .bool _) rfl) ?_)
          refine ow_nil ?_
          refine seqK_n ?_
          refine cw_cond rfl (fun h49 => ?_) (fun h49 => ?_)
          · have p50 := dt h49
            refine cw_skip ?_
            refine seqK_n ?_
            refine cw_cond_t rfl h49 ?_
            refine cw_region ?_
            refine ow1 (op1_l rfl (lo_move (v := .pointer (some ⟨_, _, none⟩)) rfl) ?_)
            refine ow1 (op1_l rfl (lo_move (v := .pointer (some ⟨_, _, none⟩)) rfl) ?_)
            refine ow1 (op1_pm 3 rfl (in_Num _ b12 (⟨f.body, 0⟩) 8 (by omega)) (en_f cb69 rfl) rfl ?_)
            rintro _ _ _ ⟨rfl, rfl, rfl⟩ _
            generalize hq54 : inNum (⟨f.body, 0⟩) 8 = q51
            have hf55 := inNum_r (⟨f.body, 0⟩) 8
            simp only [hq54] at hf55
            refine ow1 (op1_l rfl (lo_nilCheck rfl) ?_)
            refine ow1 (op1_l rfl (lo_fieldAddr rfl fl27_2) ?_)
            refine ow1 (op1_store1n (i := 2) (v := .int _ _) [_, _, _, _, _, _, _, _, _, _, _, _, _] rfl rfl rfl sz22 rfl rfl rfl ?_)
            refine ow_nil ?_
            refine blkK_n ?_
            refine seqK_n ?_
            refine cw_seq ?_
            refine cw_seq ?_
            refine cw_region ?_
            refine ow1 (op1_l rfl (lo_move (v := .pointer (some ⟨_, _, none⟩)) rfl) ?_)
            refine ow1 (op1_l rfl (lo_nilCheck rfl) ?_)
            refine ow1 (op1_l rfl (lo_fieldAddr rfl fl27_1) ?_)
            refine ow1 (op1_l rfl (lo_load1 (i := 2) (v := .int _ _) rfl ag5 rfl rfl) ?_)
            refine ow1 (op1_l rfl (lo_neq rfl rfl) ?_)
            refine ow_nil ?_
            refine seqK_n ?_
            refine cw_cond_t rfl (by rw [(fd (by omega))] <;> rfl) ?_
            refine cw_ret ?_
            refine seqK_r ?_
            refine fnK_r (res0 rfl) (.refl _) ?_
            refine ow_nil ?_
            refine seqK_n ?_
            refine cw_seq ?_
            refine cw_region ?_
            refine ow1 (op1_l rfl (lo_move (v := .pointer (some ⟨_, _, none⟩)) rfl) ?_)
            refine ow1 (op1_pm 3 rfl (in_End _ b12 q51.2) (en_f cb37 rfl) rfl ?_)
            rintro _ _ _ ⟨rfl, rfl, rfl⟩ _
            refine ow1 (op1_l rfl (lo_assign (v := .int _ _) rfl) ?_)
            refine ow_nil ?_
            refine seqK_n ?_
            refine cw_seq ?_
            refine cw_seq ?_
            refine cw_region ?_
            refine ow1 (op1_l rfl (lo_move (v := .int _ _) rfl) ?_)
            refine ow1 (op1_l rfl (lo_eql rfl rfl) ?_)
            refine ow_nil ?_
            refine seqK_n ?_
            refine cw_cond rfl (fun h58 => ?_) (fun h58 => ?_)
            · have p59 := dt h58
              refine cw_region ?_
              refine ow1 (op1_l rfl (lo_loadA (i := 2) (vs := [_, _, _, _, _, _, _, _, _, _, _, _, _]) rfl ag27 sz27 rfl rfl rfl) ?_)
              refine ow1 (op1_pr (reply_Check _ (⟨f.channel, (f.kind - 64), q51.1, 0, false, [], (⟨0, [], [], [], [], 0, 0⟩ : Mail)⟩ : Reply) none 0 slh_nil (by simp only [Reply.wf, Mail.wf]; first | omega | (simp; done) | (simp; omega)) hML) (en_f cb18 rfl) rfl ?_)
              have hrl := replyE_len (⟨f.channel, (f.kind - 64), q51.1, 0, false, [], (⟨0, [], [], [], [], 0, 0⟩ : Mail)⟩ : Reply)
              refine ow1 (op1_l rfl (lo_assign (v := .int _ _) rfl) ?_)
              refine ow_nil ?_
              refine seqK_n ?_
              refine cw_seq ?_
              refine cw_seq ?_
              refine cw_region ?_
              refine ow1 (op1_l rfl (lo_move (v := .int _ _) rfl) ?_)
              refine ow1 (op1_l rfl (lo_neq rfl rfl) ?_)
              refine ow_nil ?_
              refine seqK_n ?_
              refine cw_cond rfl (fun h60 => ?_) (fun h60 => ?_)
              · have h61 := not_t h60
                have p62 := df h61
                refine cw_seq ?_
                refine cw_region ?_
                refine ow1 (op1_l rfl (lo_build (v := .agg #[_, _, _, _, _, _, _, _, _, _, _, _, _]) rfl (bd27)) ?_)
                refine ow1 (op1_l rfl (lo_move (v := .int _ _) rfl) ?_)
                refine ow1 (op1_storeAn (i := 1) (vs := [_, _, _, _, _, _, _, _, _, _, _, _, _]) [_, _, _, _, _, _, _, _, _, _, _, _, _] rfl rfl rfl sz27 rfl rfl rfl rfl ?_)
                refine ow1 (op1_l rfl (lo_assign (v := .int _ _) rfl) ?_)
                refine ow_nil ?_
                refine seqK_n ?_
                refine cw_ret ?_
                refine seqK_r ?_
                refine fnK_r (res2 rfl (rv_c (i := 1) (vs := [_, _, _, _, _, _, _, _, _, _, _, _, _]) rfl ag27 sz27 rfl rfl rfl) (rv_t (v := .int _ _) rfl)) (.refl _) ?_
                have hk : ¬ (f.kind < 64 ∨ 71 < f.kind) := by omega
                have hr : replyRead f.channel (f.kind - 64) ⟨f.body, 0⟩ = ((⟨f.channel, (f.kind - 64), q51.1, 0, false, [], (⟨0, [], [], [], [], 0, 0⟩ : Mail)⟩ : Reply), q51.2) := by unfold replyRead; (repeat first | simp only [hq54] | rw [if_pos (by omega)] | rw [if_neg (by omega)]); all_goals first | rfl | (unfold sentRead; (repeat first | simp only [hq54] | rw [if_pos (by omega)] | rw [if_neg (by omega)]); all_goals rfl)
                have e : replyOf f = ((⟨0, 0, 0, 0, false, [], (⟨0, [], [], [], [], 0, 0⟩ : Mail)⟩ : Reply), replyE (⟨f.channel, (f.kind - 64), q51.1, 0, false, [], (⟨0, [], [], [], [], 0, 0⟩ : Mail)⟩ : Reply)) := by
                  unfold replyOf
                  rw [if_neg hk]
                  simp only
                  rw [hr]
                  simp only
                  (repeat first | rw [if_pos (by omega)] | rw [if_neg (by omega)])
                  all_goals first | rfl | (simp [*]; done)
                rw [e]
                exact ⟨none, 0, rfl, slh_nil⟩
              · have h63 := not_f h60
                have p64 := dt h63
                refine cw_skip ?_
                refine seqK_n ?_
                refine cw_seq ?_
                refine cw_region ?_
                refine ow1 (op1_l rfl (lo_loadA (i := 2) (vs := [_, _, _, _, _, _, _, _, _, _, _, _, _]) rfl ag27 sz27 rfl rfl rfl) ?_)
                refine ow1 (op1_storeAn (i := 1) (vs := [_, _, _, _, _, _, _, _, _, _, _, _, _]) [_, _, _, _, _, _, _, _, _, _, _, _, _] rfl rfl rfl sz27 rfl rfl rfl rfl ?_)
                refine ow1 (op1_l rfl (lo_assign (v := .int _ _) rfl) ?_)
                refine ow_nil ?_
                refine seqK_n ?_
                refine cw_ret ?_
                refine fnK_r (res2 rfl (rv_c (i := 1) (vs := [_, _, _, _, _, _, _, _, _, _, _, _, _]) rfl ag27 sz27 rfl rfl rfl) (rv_t (v := .int _ _) rfl)) (.refl _) ?_
                have hk : ¬ (f.kind < 64 ∨ 71 < f.kind) := by omega
                have hr : replyRead f.channel (f.kind - 64) ⟨f.body, 0⟩ = ((⟨f.channel, (f.kind - 64), q51.1, 0, false, [], (⟨0, [], [], [], [], 0, 0⟩ : Mail)⟩ : Reply), q51.2) := by unfold replyRead; (repeat first | simp only [hq54] | rw [if_pos (by omega)] | rw [if_neg (by omega)]); all_goals first | rfl | (unfold sentRead; (repeat first | simp only [hq54] | rw [if_pos (by omega)] | rw [if_neg (by omega)]); all_goals rfl)
                have e : replyOf f = ((⟨f.channel, (f.kind - 64), q51.1, 0, false, [], (⟨0, [], [], [], [], 0, 0⟩ : Mail)⟩ : Reply), 0) := by
                  unfold replyOf
                  rw [if_neg hk]
                  simp only
                  rw [hr]
                  simp only
                  (repeat first | rw [if_pos (by omega)] | rw [if_neg (by omega)])
                  all_goals first | rfl | (simp [*]; done)
                rw [e]
                exact ⟨none, 0, rfl, slh_nil⟩
            · have p65 := df h58
              refine cw_skip ?_
              refine seqK_n ?_
              refine cw_seq ?_
              refine cw_seq ?_
              refine cw_region ?_
              refine ow1 (op1_l rfl (lo_move (v := .int _ _) rfl) ?_)
              refine ow1 (op1_l rfl (lo_neq rfl rfl) ?_)
              refine ow_nil ?_
              refine seqK_n ?_
              refine cw_cond_t rfl (by rw [h58] <;> rfl) ?_
              refine cw_seq ?_
              refine cw_region ?_
              refine ow1 (op1_l rfl (lo_build (v := .agg #[_, _, _, _, _, _, _, _, _, _, _, _, _]) rfl (bd27)) ?_)
              refine ow1 (op1_l rfl (lo_move (v := .int _ _) rfl) ?_)
              refine ow1 (op1_storeAn (i := 1) (vs := [_, _, _, _, _, _, _, _, _, _, _, _, _]) [_, _, _, _, _, _, _, _, _, _, _, _, _] rfl rfl rfl sz27 rfl rfl rfl rfl ?_)
              refine ow1 (op1_l rfl (lo_assign (v := .int _ _) rfl) ?_)
              refine ow_nil ?_
              refine seqK_n ?_
              refine cw_ret ?_
              refine seqK_r ?_
              refine fnK_r (res2 rfl (rv_c (i := 1) (vs := [_, _, _, _, _, _, _, _, _, _, _, _, _]) rfl ag27 sz27 rfl rfl rfl) (rv_t (v := .int _ _) rfl)) (.refl _) ?_
              have hk : ¬ (f.kind < 64 ∨ 71 < f.kind) := by omega
              have hr : replyRead f.channel (f.kind - 64) ⟨f.body, 0⟩ = ((⟨f.channel, (f.kind - 64), q51.1, 0, false, [], (⟨0, [], [], [], [], 0, 0⟩ : Mail)⟩ : Reply), q51.2) := by unfold replyRead; (repeat first | simp only [hq54] | rw [if_pos (by omega)] | rw [if_neg (by omega)]); all_goals first | rfl | (unfold sentRead; (repeat first | simp only [hq54] | rw [if_pos (by omega)] | rw [if_neg (by omega)]); all_goals rfl)
              have e : replyOf f = ((⟨0, 0, 0, 0, false, [], (⟨0, [], [], [], [], 0, 0⟩ : Mail)⟩ : Reply), inEnd q51.2) := by
                unfold replyOf
                rw [if_neg hk]
                simp only
                rw [hr]
                simp only
                (repeat first | rw [if_pos (by omega)] | rw [if_neg (by omega)])
                all_goals first | rfl | (simp [*]; done)
              rw [e]
              exact ⟨none, 0, rfl, slh_nil⟩
          · have p66 := df h49
            refine cw_region ?_
            refine ow1 (op1_l rfl (lo_eql rfl rfl) ?_)
            refine ow1 (op1_l rfl (lo_assign (v := .bool _) rfl) ?_)
            refine ow_nil ?_
            refine seqK_n ?_
            refine cw_cond rfl (fun h67 => ?_) (fun h67 => ?_)
            · have p68 := dt h67
              refine cw_region ?_
              refine ow1 (op1_l rfl (lo_move (v := .pointer (some ⟨_, _, none⟩)) rfl) ?_)
              refine ow1 (op1_l rfl (lo_move (v := .pointer (some ⟨_, _, none⟩)) rfl) ?_)
              refine ow1 (op1_pm 3 rfl (in_Num _ b12 (⟨f.body, 0⟩) 8 (by omega)) (en_f cb69 rfl) rfl ?_)
              rintro _ _ _ ⟨rfl, rfl, rfl⟩ _
              generalize hq72 : inNum (⟨f.body, 0⟩) 8 = q69
              have hf73 := inNum_r (⟨f.body, 0⟩) 8
              simp only [hq72] at hf73
              refine ow1 (op1_l rfl (lo_nilCheck rfl) ?_)
              refine ow1 (op1_l rfl (lo_fieldAddr rfl fl27_2) ?_)
              refine ow1 (op1_store1n (i := 2) (v := .int _ _) [_, _, _, _, _, _, _, _, _, _, _, _, _] rfl rfl rfl sz22 rfl rfl rfl ?_)
              refine ow_nil ?_
              refine blkK_n ?_
              refine seqK_n ?_
              refine cw_seq ?_
              refine cw_seq ?_
              refine cw_region ?_
              refine ow1 (op1_l rfl (lo_move (v := .pointer (some ⟨_, _, none⟩)) rfl) ?_)
              refine ow1 (op1_l rfl (lo_nilCheck rfl) ?_)
              refine ow1 (op1_l rfl (lo_fieldAddr rfl fl27_1) ?_)
              refine ow1 (op1_l rfl (lo_load1 (i := 2) (v := .int _ _) rfl ag5 rfl rfl) ?_)
              refine ow1 (op1_l rfl (lo_neq rfl rfl) ?_)
              refine ow_nil ?_
              refine seqK_n ?_
              refine cw_cond_t rfl (by rw [(fd (by omega))] <;> rfl) ?_
              refine cw_ret ?_
              refine seqK_r ?_
              refine fnK_r (res0 rfl) (.refl _) ?_
              refine ow_nil ?_
              refine seqK_n ?_
              refine cw_seq ?_
              refine cw_region ?_
              refine ow1 (op1_l rfl (lo_move (v := .pointer (some ⟨_, _, none⟩)) rfl) ?_)
              refine ow1 (op1_pm 3 rfl (in_End _ b12 q69.2) (en_f cb37 rfl) rfl ?_)
              rintro _ _ _ ⟨rfl, rfl, rfl⟩ _
              refine ow1 (op1_l rfl (lo_assign (v := .int _ _) rfl) ?_)
              refine ow_nil ?_
              refine seqK_n ?_
              refine cw_seq ?_
              refine cw_seq ?_
              refine cw_region ?_
              refine ow1 (op1_l rfl (lo_move (v := .int _ _) rfl) ?_)
              refine ow1 (op1_l rfl (lo_eql rfl rfl) ?_)
              refine ow_nil ?_
              refine seqK_n ?_
              refine cw_cond rfl (fun h76 => ?_) (fun h76 => ?_)
              · have p77 := dt h76
                refine cw_region ?_
                refine ow1 (op1_l rfl (lo_loadA (i := 2) (vs := [_, _, _, _, _, _, _, _, _, _, _, _, _]) rfl ag27 sz27 rfl rfl rfl) ?_)
                refine ow1 (op1_pr (reply_Check _ (⟨f.channel, (f.kind - 64), q69.1, 0, false, [], (⟨0, [], [], [], [], 0, 0⟩ : Mail)⟩ : Reply) none 0 slh_nil (by simp only [Reply.wf, Mail.wf]; first | omega | (simp; done) | (simp; omega)) hML) (en_f cb18 rfl) rfl ?_)
                have hrl := replyE_len (⟨f.channel, (f.kind - 64), q69.1, 0, false, [], (⟨0, [], [], [], [], 0, 0⟩ : Mail)⟩ : Reply)
                refine ow1 (op1_l rfl (lo_assign (v := .int _ _) rfl) ?_)
                refine ow_nil ?_
                refine seqK_n ?_
                refine cw_seq ?_
                refine cw_seq ?_
                refine cw_region ?_
                refine ow1 (op1_l rfl (lo_move (v := .int _ _) rfl) ?_)
                refine ow1 (op1_l rfl (lo_neq rfl rfl) ?_)
                refine ow_nil ?_
                refine seqK_n ?_
                refine cw_cond rfl (fun h78 => ?_) (fun h78 => ?_)
                · have h79 := not_t h78
                  have p80 := df h79
                  refine cw_seq ?_
                  refine cw_region ?_
                  refine ow1 (op1_l rfl (lo_build (v := .agg #[_, _, _, _, _, _, _, _, _, _, _, _, _]) rfl (bd27)) ?_)
                  refine ow1 (op1_l rfl (lo_move (v := .int _ _) rfl) ?_)
                  refine ow1 (op1_storeAn (i := 1) (vs := [_, _, _, _, _, _, _, _, _, _, _, _, _]) [_, _, _, _, _, _, _, _, _, _, _, _, _] rfl rfl rfl sz27 rfl rfl rfl rfl ?_)
                  refine ow1 (op1_l rfl (lo_assign (v := .int _ _) rfl) ?_)
                  refine ow_nil ?_
                  refine seqK_n ?_
                  refine cw_ret ?_
                  refine seqK_r ?_
                  refine fnK_r (res2 rfl (rv_c (i := 1) (vs := [_, _, _, _, _, _, _, _, _, _, _, _, _]) rfl ag27 sz27 rfl rfl rfl) (rv_t (v := .int _ _) rfl)) (.refl _) ?_
                  have hk : ¬ (f.kind < 64 ∨ 71 < f.kind) := by omega
                  have hr : replyRead f.channel (f.kind - 64) ⟨f.body, 0⟩ = ((⟨f.channel, (f.kind - 64), q69.1, 0, false, [], (⟨0, [], [], [], [], 0, 0⟩ : Mail)⟩ : Reply), q69.2) := by unfold replyRead; (repeat first | simp only [hq72] | rw [if_pos (by omega)] | rw [if_neg (by omega)]); all_goals first | rfl | (unfold sentRead; (repeat first | simp only [hq72] | rw [if_pos (by omega)] | rw [if_neg (by omega)]); all_goals rfl)
                  have e : replyOf f = ((⟨0, 0, 0, 0, false, [], (⟨0, [], [], [], [], 0, 0⟩ : Mail)⟩ : Reply), replyE (⟨f.channel, (f.kind - 64), q69.1, 0, false, [], (⟨0, [], [], [], [], 0, 0⟩ : Mail)⟩ : Reply)) := by
                    unfold replyOf
                    rw [if_neg hk]
                    simp only
                    rw [hr]
                    simp only
                    (repeat first | rw [if_pos (by omega)] | rw [if_neg (by omega)])
                    all_goals first | rfl | (simp [*]; done)
                  rw [e]
                  exact ⟨none, 0, rfl, slh_nil⟩
                · have h81 := not_f h78
                  have p82 := dt h81
                  refine cw_skip ?_
                  refine seqK_n ?_
                  refine cw_seq ?_
                  refine cw_region ?_
                  refine ow1 (op1_l rfl (lo_loadA (i := 2) (vs := [_, _, _, _, _, _, _, _, _, _, _, _, _]) rfl ag27 sz27 rfl rfl rfl) ?_)
                  refine ow1 (op1_storeAn (i := 1) (vs := [_, _, _, _, _, _, _, _, _, _, _, _, _]) [_, _, _, _, _, _, _, _, _, _, _, _, _] rfl rfl rfl sz27 rfl rfl rfl rfl ?_)
                  refine ow1 (op1_l rfl (lo_assign (v := .int _ _) rfl) ?_)
                  refine ow_nil ?_
                  refine seqK_n ?_
                  refine cw_ret ?_
                  refine fnK_r (res2 rfl (rv_c (i := 1) (vs := [_, _, _, _, _, _, _, _, _, _, _, _, _]) rfl ag27 sz27 rfl rfl rfl) (rv_t (v := .int _ _) rfl)) (.refl _) ?_
                  have hk : ¬ (f.kind < 64 ∨ 71 < f.kind) := by omega
                  have hr : replyRead f.channel (f.kind - 64) ⟨f.body, 0⟩ = ((⟨f.channel, (f.kind - 64), q69.1, 0, false, [], (⟨0, [], [], [], [], 0, 0⟩ : Mail)⟩ : Reply), q69.2) := by unfold replyRead; (repeat first | simp only [hq72] | rw [if_pos (by omega)] | rw [if_neg (by omega)]); all_goals first | rfl | (unfold sentRead; (repeat first | simp only [hq72] | rw [if_pos (by omega)] | rw [if_neg (by omega)]); all_goals rfl)
                  have e : replyOf f = ((⟨f.channel, (f.kind - 64), q69.1, 0, false, [], (⟨0, [], [], [], [], 0, 0⟩ : Mail)⟩ : Reply), 0) := by
                    unfold replyOf
                    rw [if_neg hk]
                    simp only
                    rw [hr]
                    simp only
                    (repeat first | rw [if_pos (by omega)] | rw [if_neg (by omega)])
                    all_goals first | rfl | (simp [*]; done)
                  rw [e]
                  exact ⟨none, 0, rfl, slh_nil⟩
              · have p83 := df h76
                refine cw_skip ?_
                refine seqK_n ?_
                refine cw_seq ?_
                refine cw_seq ?_
                refine cw_region ?_
                refine ow1 (op1_l rfl (lo_move (v := .int _ _) rfl) ?_)
                refine ow1 (op1_l rfl (lo_neq rfl rfl) ?_)
                refine ow_nil ?_
                refine seqK_n ?_
                refine cw_cond_t rfl (by rw [h76] <;> rfl) ?_
                refine cw_seq ?_
                refine cw_region ?_
                refine ow1 (op1_l rfl (lo_build (v := .agg #[_, _, _, _, _, _, _, _, _, _, _, _, _]) rfl (bd27)) ?_)
                refine ow1 (op1_l rfl (lo_move (v := .int _ _) rfl) ?_)
                refine ow1 (op1_storeAn (i := 1) (vs := [_, _, _, _, _, _, _, _, _, _, _, _, _]) [_, _, _, _, _, _, _, _, _, _, _, _, _] rfl rfl rfl sz27 rfl rfl rfl rfl ?_)
                refine ow1 (op1_l rfl (lo_assign (v := .int _ _) rfl) ?_)
                refine ow_nil ?_
                refine seqK_n ?_
                refine cw_ret ?_
                refine seqK_r ?_
                refine fnK_r (res2 rfl (rv_c (i := 1) (vs := [_, _, _, _, _, _, _, _, _, _, _, _, _]) rfl ag27 sz27 rfl rfl rfl) (rv_t (v := .int _ _) rfl)) (.refl _) ?_
                have hk : ¬ (f.kind < 64 ∨ 71 < f.kind) := by omega
                have hr : replyRead f.channel (f.kind - 64) ⟨f.body, 0⟩ = ((⟨f.channel, (f.kind - 64), q69.1, 0, false, [], (⟨0, [], [], [], [], 0, 0⟩ : Mail)⟩ : Reply), q69.2) := by unfold replyRead; (repeat first | simp only [hq72] | rw [if_pos (by omega)] | rw [if_neg (by omega)]); all_goals first | rfl | (unfold sentRead; (repeat first | simp only [hq72] | rw [if_pos (by omega)] | rw [if_neg (by omega)]); all_goals rfl)
                have e : replyOf f = ((⟨0, 0, 0, 0, false, [], (⟨0, [], [], [], [], 0, 0⟩ : Mail)⟩ : Reply), inEnd q69.2) := by
                  unfold replyOf
                  rw [if_neg hk]
                  simp only
                  rw [hr]
                  simp only
                  (repeat first | rw [if_pos (by omega)] | rw [if_neg (by omega)])
                  all_goals first | rfl | (simp [*]; done)
                rw [e]
                exact ⟨none, 0, rfl, slh_nil⟩
            · have p84 := df h67
              refine cw_seq ?_
              refine cw_seq ?_
              refine cw_region ?_
              refine ow1 (op1_l rfl (lo_eql rfl rfl) ?_)
              refine ow1 (op1_l rfl (lo_assign (v := .bool _) rfl) ?_)
              refine ow_nil ?_
              refine seqK_n ?_
              refine cw_cond rfl (fun h85 => ?_) (fun h85 => ?_)
              · have p86 := dt h85
                refine cw_skip ?_
                refine seqK_n ?_
                refine cw_cond_t rfl h85 ?_
                refine cw_region ?_
                refine ow1 (op1_l rfl (lo_move (v := .pointer (some ⟨_, _, none⟩)) rfl) ?_)
                refine ow1 (op1_l rfl (lo_move (v := .pointer (some ⟨_, _, none⟩)) rfl) ?_)
                refine ow1 (op1_l rfl (lo_move (v := .pointer (some ⟨_, _, none⟩)) rfl) ?_)
                refine ow1 (op1_pm 3 rfl (in_Num _ b12 (⟨f.body, 0⟩) 8 (by omega)) (en_f cb69 rfl) rfl ?_)
                rintro _ _ _ ⟨rfl, rfl, rfl⟩ _
                generalize hq90 : inNum (⟨f.body, 0⟩) 8 = q87
                have hf91 := inNum_r (⟨f.body, 0⟩) 8
                simp only [hq90] at hf91
                refine ow1 (op1_l rfl (lo_move (v := .pointer (some ⟨_, _, none⟩)) rfl) ?_)
                refine ow1 (op1_pm 3 rfl (in_Num _ b12 q87.2 8 (by omega)) (en_f cb69 rfl) rfl ?_)
                rintro _ _ _ ⟨rfl, rfl, rfl⟩ _
                generalize hq95 : inNum q87.2 8 = q92
                have hf96 := inNum_r q87.2 8
                simp only [hq95] at hf96
                refine ow1 (op1_l rfl (lo_nilCheck rfl) ?_)
                refine ow1 (op1_l rfl (lo_fieldAddr rfl fl27_2) ?_)
                refine ow1 (op1_store1n (i := 2) (v := .int _ _) [_, _, _, _, _, _, _, _, _, _, _, _, _] rfl rfl rfl sz22 rfl rfl rfl ?_)
                refine ow1 (op1_l rfl (lo_nilCheck rfl) ?_)
                refine ow1 (op1_l rfl (lo_fieldAddr rfl fl27_3) ?_)
                refine ow1 (op1_store1n (i := 2) (v := .int _ _) [_, _, _, _, _, _, _, _, _, _, _, _, _] rfl rfl rfl sz22 rfl rfl rfl ?_)
                refine ow_nil ?_
                refine blkK_n ?_
                refine seqK_n ?_
                refine cw_seq ?_
                refine cw_seq ?_
                refine cw_region ?_
                refine ow1 (op1_l rfl (lo_move (v := .pointer (some ⟨_, _, none⟩)) rfl) ?_)
                refine ow1 (op1_l rfl (lo_nilCheck rfl) ?_)
                refine ow1 (op1_l rfl (lo_fieldAddr rfl fl27_1) ?_)
                refine ow1 (op1_l rfl (lo_load1 (i := 2) (v := .int _ _) rfl ag5 rfl rfl) ?_)
                refine ow1 (op1_l rfl (lo_neq rfl rfl) ?_)
                refine ow_nil ?_
                refine seqK_n ?_
                refine cw_cond_f rfl (by rw [h85] <;> rfl) ?_
                refine cw_skip ?_
                refine seqK_n ?_
                refine cw_seq ?_
                refine cw_region ?_
                refine ow1 (op1_l rfl (lo_move (v := .pointer (some ⟨_, _, none⟩)) rfl) ?_)
                refine ow1 (op1_pm 3 rfl (in_Num _ b12 q92.2 1 (by omega)) (en_f cb69 rfl) rfl ?_)
                rintro _ _ _ ⟨rfl, rfl, rfl⟩ _
                generalize hq100 : inNum q92.2 1 = q97
                have hf101 := inNum_r q92.2 1
                simp only [hq100] at hf101
                refine ow1 (op1_l rfl (lo_assign (v := .int _ _) rfl) ?_)
                refine ow_nil ?_
                refine seqK_n ?_
                refine cw_seq ?_
                refine cw_seq ?_
                refine cw_region ?_
                refine ow1 (op1_l rfl (lo_move (v := .pointer (some ⟨_, _, none⟩)) rfl) ?_)
                refine ow1 (op1_l rfl (lo_move (v := .int _ _) rfl) ?_)
                refine ow1 (op1_l rfl (lo_eql rfl rfl) ?_)
                refine ow1 (op1_l rfl (lo_nilCheck rfl) ?_)
                refine ow1 (op1_l rfl (lo_fieldAddr rfl fl27_4) ?_)
                refine ow1 (op1_store1n (i := 2) (v := .bool _) [_, _, _, _, _, _, _, _, _, _, _, _, _] rfl rfl rfl sz4 rfl rfl rfl ?_)
                refine ow_nil ?_
                refine seqK_n ?_
                refine cw_seq ?_
                refine cw_region ?_
                refine ow1 (op1_l rfl (lo_move (v := .int _ _) rfl) ?_)
                refine ow1 (op1_l rfl (lo_gtr rfl rfl) ?_)
                refine ow_nil ?_
                refine seqK_n ?_
                refine cw_cond rfl (fun h102 => ?_) (fun h102 => ?_)
                · have p103 := dt h102
                  refine cw_region ?_
                  refine ow1 (op1_l rfl (lo_move (v := .pointer (some ⟨_, _, none⟩)) rfl) ?_)
                  refine ow1 (op1_pm 3 rfl (in_Fail _ b12 q97.2 4 (by omega)) (en_f cb70 rfl) rfl ?_)
                  rintro _ _ _ ⟨rfl, rfl, rfl⟩ _
                  generalize hq107 : inFail q97.2 4 = q104
                  refine ow_nil ?_
                  refine seqK_n ?_
                  refine cw_seq ?_
                  refine cw_region ?_
                  refine ow1 (op1_l rfl (lo_move (v := .pointer (some ⟨_, _, none⟩)) rfl) ?_)
                  refine ow1 (op1_l rfl (lo_move (v := .pointer (some ⟨_, _, none⟩)) rfl) ?_)
                  refine ow1 (op1_pm 3 rfl (in_Text _ b12 q104 16 (by omega)) (en_f cb68 rfl) rfl ?_)
                  rintro _ _ _ ⟨rfl, rfl, rfl⟩ _
                  generalize hq111 : inText q104 16 = q108
                  have hf112 := inText_len q104 16
                  simp only [hq111] at hf112
                  refine ow1 (op1_l rfl (lo_nilCheck rfl) ?_)
                  refine ow1 (op1_l rfl (lo_fieldAddr rfl fl27_6) ?_)
                  refine ow1 (op1_l rfl (lo_fieldAddr rfl fl25_1) ?_)
                  refine ow1 (op1_store1n (i := 2) (v := str _) [_, _, _, _, _, _, _, _, _, _, _, _, _] rfl rfl rfl sz9 rfl rfl rfl ?_)
                  refine ow_nil ?_
                  refine seqK_n ?_
                  refine cw_seq ?_
                  refine cw_region ?_
                  refine ow1 (op1_l rfl (lo_move (v := .pointer (some ⟨_, _, none⟩)) rfl) ?_)
                  refine ow1 (op1_l rfl (lo_move (v := .pointer (some ⟨_, _, none⟩)) rfl) ?_)
                  refine ow1 (op1_pm 3 rfl (in_Text _ b12 q108.2 64 (by omega)) (en_f cb68 rfl) rfl ?_)
                  rintro _ _ _ ⟨rfl, rfl, rfl⟩ _
                  generalize hq116 : inText q108.2 64 = q113
                  have hf117 := inText_len q108.2 64
                  simp only [hq116] at hf117
                  refine ow1 (op1_l rfl (lo_nilCheck rfl) ?_)
                  refine ow1 (op1_l rfl (lo_fieldAddr rfl fl27_6) ?_)
                  refine ow1 (op1_l rfl (lo_fieldAddr rfl fl25_2) ?_)
                  refine ow1 (op1_store1n (i := 2) (v := str _) [_, _, _, _, _, _, _, _, _, _, _, _, _] rfl rfl rfl sz9 rfl rfl rfl ?_)
                  refine ow_nil ?_
                  refine seqK_n ?_
                  refine cw_seq ?_
                  refine cw_region ?_
                  refine ow1 (op1_l rfl (lo_move (v := .pointer (some ⟨_, _, none⟩)) rfl) ?_)
                  refine ow1 (op1_l rfl (lo_move (v := .pointer (some ⟨_, _, none⟩)) rfl) ?_)
                  refine ow1 (op1_pm 3 rfl (head_Read _ b12 q113.2) (en_f cb71 rfl) rfl ?_)
                  rintro _ H123 _ ⟨a119, c120, rfl, rfl, hs121⟩ hl122
                  generalize hq124 : headRead q113.2 = q118
                  simp only [hq124] at hs121
                  have hf125 := headRead_len q113.2
                  simp only [hq124] at hf125
                  refine ow1 (op1_l rfl (lo_nilCheck rfl) ?_)
                  refine ow1 (op1_l rfl (lo_fieldAddr rfl fl27_6) ?_)
                  refine ow1 (op1_l rfl (lo_fieldAddr rfl fl25_3) ?_)
                  refine ow1 (op1_store1n (i := 2) (v := .slice _ _ _) [_, _, _, _, _, _, _, _, _, _, _, _, _] rfl rfl rfl sz23 rfl rfl rfl ?_)
                  refine ow_nil ?_
                  refine seqK_n ?_
                  refine cw_region ?_
                  refine ow1 (op1_l rfl (lo_move (v := .pointer (some ⟨_, _, none⟩)) rfl) ?_)
                  refine ow1 (op1_l rfl (lo_move (v := .pointer (some ⟨_, _, none⟩)) rfl) ?_)
                  refine ow1 (op1_pm 3 rfl (in_Text _ b12 q118.2 256 (by omega)) (en_f cb68 rfl) rfl ?_)
                  rintro _ _ _ ⟨rfl, rfl, rfl⟩ _
                  generalize hq129 : inText q118.2 256 = q126
                  have hf130 := inText_len q118.2 256
                  simp only [hq129] at hf130
                  refine ow1 (op1_l rfl (lo_nilCheck rfl) ?_)
                  refine ow1 (op1_l rfl (lo_fieldAddr rfl fl27_6) ?_)
                  refine ow1 (op1_l rfl (lo_fieldAddr rfl fl25_4) ?_)
                  refine ow1 (op1_store1n (i := 2) (v := str _) [_, _, _, _, _, _, _, _, _, _, _, _, _] rfl rfl rfl sz9 rfl rfl rfl ?_)
                  refine ow_nil ?_
                  refine fnK_n (res0 rfl) ((HLe.refl _).trans hl122) ?_
                  refine ow_nil ?_
                  refine seqK_n ?_
                  refine cw_seq ?_
                  refine cw_region ?_
                  refine ow1 (op1_l rfl (lo_move (v := .pointer (some ⟨_, _, none⟩)) rfl) ?_)
                  refine ow1 (op1_pm 3 rfl (in_End _ b12 q126.2) (en_f cb37 rfl) rfl ?_)
                  rintro _ _ _ ⟨rfl, rfl, rfl⟩ _
                  refine ow1 (op1_l rfl (lo_assign (v := .int _ _) rfl) ?_)
                  refine ow_nil ?_
                  refine seqK_n ?_
                  refine cw_seq ?_
                  refine cw_seq ?_
                  refine cw_region ?_
                  refine ow1 (op1_l rfl (lo_move (v := .int _ _) rfl) ?_)
                  refine ow1 (op1_l rfl (lo_eql rfl rfl) ?_)
                  refine ow_nil ?_
                  refine seqK_n ?_
                  refine cw_cond rfl (fun h133 => ?_) (fun h133 => ?_)
                  · have p134 := dt h133
                    refine cw_region ?_
                    refine ow1 (op1_l rfl (lo_loadA (i := 2) (vs := [_, _, _, _, _, _, _, _, _, _, _, _, _]) rfl ag27 sz27 rfl rfl rfl) ?_)
                    refine ow1 (op1_pr (reply_Check _ (⟨f.channel, (f.kind - 64), q87.1, q92.1, decide (q97.1 = 1), [], (⟨0, q108.1, q113.1, q118.1, q126.1, 0, 0⟩ : Mail)⟩ : Reply) a119 c120 hs121 (by simp only [Reply.wf, Mail.wf]; first | omega | (simp; done) | (simp; omega)) (hML.mono ((HLe.refl _).trans hl122))) (en_f cb18 rfl) rfl ?_)
                    have hrl := replyE_len (⟨f.channel, (f.kind - 64), q87.1, q92.1, decide (q97.1 = 1), [], (⟨0, q108.1, q113.1, q118.1, q126.1, 0, 0⟩ : Mail)⟩ : Reply)
                    refine ow1 (op1_l rfl (lo_assign (v := .int _ _) rfl) ?_)
                    refine ow_nil ?_
                    refine seqK_n ?_
                    refine cw_seq ?_
                    refine cw_seq ?_
                    refine cw_region ?_
                    refine ow1 (op1_l rfl (lo_move (v := .int _ _) rfl) ?_)
                    refine ow1 (op1_l rfl (lo_neq rfl rfl) ?_)
                    refine ow_nil ?_
                    refine seqK_n ?_
                    refine cw_cond rfl (fun h135 => ?_) (fun h135 => ?_)
                    · have h136 := not_t h135
                      have p137 := df h136
                      refine cw_seq ?_
                      refine cw_region ?_
                      refine ow1 (op1_l rfl (lo_build (v := .agg #[_, _, _, _, _, _, _, _, _, _, _, _, _]) rfl (bd27)) ?_)
                      refine ow1 (op1_l rfl (lo_move (v := .int _ _) rfl) ?_)
                      refine ow1 (op1_storeAn (i := 1) (vs := [_, _, _, _, _, _, _, _, _, _, _, _, _]) [_, _, _, _, _, _, _, _, _, _, _, _, _] rfl rfl rfl sz27 rfl rfl rfl rfl ?_)
                      refine ow1 (op1_l rfl (lo_assign (v := .int _ _) rfl) ?_)
                      refine ow_nil ?_
                      refine seqK_n ?_
                      refine cw_ret ?_
                      refine seqK_r ?_
                      refine fnK_r (res2 rfl (rv_c (i := 1) (vs := [_, _, _, _, _, _, _, _, _, _, _, _, _]) rfl ag27 sz27 rfl rfl rfl) (rv_t (v := .int _ _) rfl)) ((HLe.refl _).trans hl122) ?_
                      have hk : ¬ (f.kind < 64 ∨ 71 < f.kind) := by omega
                      have hr : replyRead f.channel (f.kind - 64) ⟨f.body, 0⟩ = ((⟨f.channel, (f.kind - 64), q87.1, q92.1, decide (q97.1 = 1), [], (⟨0, q108.1, q113.1, q118.1, q126.1, 0, 0⟩ : Mail)⟩ : Reply), q126.2) := by unfold replyRead; (repeat first | simp only [hq90, hq95, hq100, hq107, hq111, hq116, hq124, hq129] | rw [if_pos (by omega)] | rw [if_neg (by omega)]); all_goals first | rfl | (unfold sentRead; (repeat first | simp only [hq90, hq95, hq100, hq107, hq111, hq116, hq124, hq129] | rw [if_pos (by omega)] | rw [if_neg (by omega)]); all_goals rfl)
                      have e : replyOf f = ((⟨0, 0, 0, 0, false, [], (⟨0, [], [], [], [], 0, 0⟩ : Mail)⟩ : Reply), replyE (⟨f.channel, (f.kind - 64), q87.1, q92.1, decide (q97.1 = 1), [], (⟨0, q108.1, q113.1, q118.1, q126.1, 0, 0⟩ : Mail)⟩ : Reply)) := by
                        unfold replyOf
                        rw [if_neg hk]
                        simp only
                        rw [hr]
                        simp only
                        (repeat first | rw [if_pos (by omega)] | rw [if_neg (by omega)])
                        all_goals first | rfl | (simp [*]; done)
                      rw [e]
                      exact ⟨none, 0, rfl, slh_nil⟩
                    · have h138 := not_f h135
                      have p139 := dt h138
                      refine cw_skip ?_
                      refine seqK_n ?_
                      refine cw_seq ?_
                      refine cw_region ?_
                      refine ow1 (op1_l rfl (lo_loadA (i := 2) (vs := [_, _, _, _, _, _, _, _, _, _, _, _, _]) rfl ag27 sz27 rfl rfl rfl) ?_)
                      refine ow1 (op1_storeAn (i := 1) (vs := [_, _, _, _, _, _, _, _, _, _, _, _, _]) [_, _, _, _, _, _, _, _, _, _, _, _, _] rfl rfl rfl sz27 rfl rfl rfl rfl ?_)
                      refine ow1 (op1_l rfl (lo_assign (v := .int _ _) rfl) ?_)
                      refine ow_nil ?_
                      refine seqK_n ?_
                      refine cw_ret ?_
                      refine fnK_r (res2 rfl (rv_c (i := 1) (vs := [_, _, _, _, _, _, _, _, _, _, _, _, _]) rfl ag27 sz27 rfl rfl rfl) (rv_t (v := .int _ _) rfl)) ((HLe.refl _).trans hl122) ?_
                      have hk : ¬ (f.kind < 64 ∨ 71 < f.kind) := by omega
                      have hr : replyRead f.channel (f.kind - 64) ⟨f.body, 0⟩ = ((⟨f.channel, (f.kind - 64), q87.1, q92.1, decide (q97.1 = 1), [], (⟨0, q108.1, q113.1, q118.1, q126.1, 0, 0⟩ : Mail)⟩ : Reply), q126.2) := by unfold replyRead; (repeat first | simp only [hq90, hq95, hq100, hq107, hq111, hq116, hq124, hq129] | rw [if_pos (by omega)] | rw [if_neg (by omega)]); all_goals first | rfl | (unfold sentRead; (repeat first | simp only [hq90, hq95, hq100, hq107, hq111, hq116, hq124, hq129] | rw [if_pos (by omega)] | rw [if_neg (by omega)]); all_goals rfl)
                      have e : replyOf f = ((⟨f.channel, (f.kind - 64), q87.1, q92.1, decide (q97.1 = 1), [], (⟨0, q108.1, q113.1, q118.1, q126.1, 0, 0⟩ : Mail)⟩ : Reply), 0) := by
                        unfold replyOf
                        rw [if_neg hk]
                        simp only
                        rw [hr]
                        simp only
                        (repeat first | rw [if_pos (by omega)] | rw [if_neg (by omega)])
                        all_goals first | rfl | (simp [*]; done)
                      rw [e]
                      exact ⟨a119, c120, rfl, hs121⟩
                  · have p140 := df h133
                    refine cw_skip ?_
                    refine seqK_n ?_
                    refine cw_seq ?_
                    refine cw_seq ?_
                    refine cw_region ?_
                    refine ow1 (op1_l rfl (lo_move (v := .int _ _) rfl) ?_)
                    refine ow1 (op1_l rfl (lo_neq rfl rfl) ?_)
                    refine ow_nil ?_
                    refine seqK_n ?_
                    refine cw_cond_t rfl (by rw [h133] <;> rfl) ?_
                    refine cw_seq ?_
                    refine cw_region ?_
                    refine ow1 (op1_l rfl (lo_build (v := .agg #[_, _, _, _, _, _, _, _, _, _, _, _, _]) rfl (bd27)) ?_)
                    refine ow1 (op1_l rfl (lo_move (v := .int _ _) rfl) ?_)
                    refine ow1 (op1_storeAn (i := 1) (vs := [_, _, _, _, _, _, _, _, _, _, _, _, _]) [_, _, _, _, _, _, _, _, _, _, _, _, _] rfl rfl rfl sz27 rfl rfl rfl rfl ?_)
                    refine ow1 (op1_l rfl (lo_assign (v := .int _ _) rfl) ?_)
                    refine ow_nil ?_
                    refine seqK_n ?_
                    refine cw_ret ?_
                    refine seqK_r ?_
                    refine fnK_r (res2 rfl (rv_c (i := 1) (vs := [_, _, _, _, _, _, _, _, _, _, _, _, _]) rfl ag27 sz27 rfl rfl rfl) (rv_t (v := .int _ _) rfl)) ((HLe.refl _).trans hl122) ?_
                    have hk : ¬ (f.kind < 64 ∨ 71 < f.kind) := by omega
                    have hr : replyRead f.channel (f.kind - 64) ⟨f.body, 0⟩ = ((⟨f.channel, (f.kind - 64), q87.1, q92.1, decide (q97.1 = 1), [], (⟨0, q108.1, q113.1, q118.1, q126.1, 0, 0⟩ : Mail)⟩ : Reply), q126.2) := by unfold replyRead; (repeat first | simp only [hq90, hq95, hq100, hq107, hq111, hq116, hq124, hq129] | rw [if_pos (by omega)] | rw [if_neg (by omega)]); all_goals first | rfl | (unfold sentRead; (repeat first | simp only [hq90, hq95, hq100, hq107, hq111, hq116, hq124, hq129] | rw [if_pos (by omega)] | rw [if_neg (by omega)]); all_goals rfl)
                    have e : replyOf f = ((⟨0, 0, 0, 0, false, [], (⟨0, [], [], [], [], 0, 0⟩ : Mail)⟩ : Reply), inEnd q126.2) := by
                      unfold replyOf
                      rw [if_neg hk]
                      simp only
                      rw [hr]
                      simp only
                      (repeat first | rw [if_pos (by omega)] | rw [if_neg (by omega)])
                      all_goals first | rfl | (simp [*]; done)
                    rw [e]
                    exact ⟨none, 0, rfl, slh_nil⟩
                · have p141 := df h102
                  refine cw_skip ?_
                  refine seqK_n ?_
                  refine cw_seq ?_
                  refine cw_region ?_
                  refine ow1 (op1_l rfl (lo_move (v := .pointer (some ⟨_, _, none⟩)) rfl) ?_)
                  refine ow1 (op1_l rfl (lo_move (v := .pointer (some ⟨_, _, none⟩)) rfl) ?_)
                  refine ow1 (op1_pm 3 rfl (in_Text _ b12 q97.2 16 (by omega)) (en_f cb68 rfl) rfl ?_)
                  rintro _ _ _ ⟨rfl, rfl, rfl⟩ _
                  generalize hq145 : inText q97.2 16 = q142
                  have hf146 := inText_len q97.2 16
                  simp only [hq145] at hf146
                  refine ow1 (op1_l rfl (lo_nilCheck rfl) ?_)
                  refine ow1 (op1_l rfl (lo_fieldAddr rfl fl27_6) ?_)
                  refine ow1 (op1_l rfl (lo_fieldAddr rfl fl25_1) ?_)
                  refine ow1 (op1_store1n (i := 2) (v := str _) [_, _, _, _, _, _, _, _, _, _, _, _, _] rfl rfl rfl sz9 rfl rfl rfl ?_)
                  refine ow_nil ?_
                  refine seqK_n ?_
                  refine cw_seq ?_
                  refine cw_region ?_
                  refine ow1 (op1_l rfl (lo_move (v := .pointer (some ⟨_, _, none⟩)) rfl) ?_)
                  refine ow1 (op1_l rfl (lo_move (v := .pointer (some ⟨_, _, none⟩)) rfl) ?_)
                  refine ow1 (op1_pm 3 rfl (in_Text _ b12 q142.2 64 (by omega)) (en_f cb68 rfl) rfl ?_)
                  rintro _ _ _ ⟨rfl, rfl, rfl⟩ _
                  generalize hq150 : inText q142.2 64 = q147
                  have hf151 := inText_len q142.2 64
                  simp only [hq150] at hf151
                  refine ow1 (op1_l rfl (lo_nilCheck rfl) ?_)
                  refine ow1 (op1_l rfl (lo_fieldAddr rfl fl27_6) ?_)
                  refine ow1 (op1_l rfl (lo_fieldAddr rfl fl25_2) ?_)
                  refine ow1 (op1_store1n (i := 2) (v := str _) [_, _, _, _, _, _, _, _, _, _, _, _, _] rfl rfl rfl sz9 rfl rfl rfl ?_)
                  refine ow_nil ?_
                  refine seqK_n ?_
                  refine cw_seq ?_
                  refine cw_region ?_
                  refine ow1 (op1_l rfl (lo_move (v := .pointer (some ⟨_, _, none⟩)) rfl) ?_)
                  refine ow1 (op1_l rfl (lo_move (v := .pointer (some ⟨_, _, none⟩)) rfl) ?_)
                  refine ow1 (op1_pm 3 rfl (head_Read _ b12 q147.2) (en_f cb71 rfl) rfl ?_)
                  rintro _ H157 _ ⟨a153, c154, rfl, rfl, hs155⟩ hl156
                  generalize hq158 : headRead q147.2 = q152
                  simp only [hq158] at hs155
                  have hf159 := headRead_len q147.2
                  simp only [hq158] at hf159
                  refine ow1 (op1_l rfl (lo_nilCheck rfl) ?_)
                  refine ow1 (op1_l rfl (lo_fieldAddr rfl fl27_6) ?_)
                  refine ow1 (op1_l rfl (lo_fieldAddr rfl fl25_3) ?_)
                  refine ow1 (op1_store1n (i := 2) (v := .slice _ _ _) [_, _, _, _, _, _, _, _, _, _, _, _, _] rfl rfl rfl sz23 rfl rfl rfl ?_)
                  refine ow_nil ?_
                  refine seqK_n ?_
                  refine cw_region ?_
                  refine ow1 (op1_l rfl (lo_move (v := .pointer (some ⟨_, _, none⟩)) rfl) ?_)
                  refine ow1 (op1_l rfl (lo_move (v := .pointer (some ⟨_, _, none⟩)) rfl) ?_)
                  refine ow1 (op1_pm 3 rfl (in_Text _ b12 q152.2 256 (by omega)) (en_f cb68 rfl) rfl ?_)
                  rintro _ _ _ ⟨rfl, rfl, rfl⟩ _
                  generalize hq163 : inText q152.2 256 = q160
                  have hf164 := inText_len q152.2 256
                  simp only [hq163] at hf164
                  refine ow1 (op1_l rfl (lo_nilCheck rfl) ?_)
                  refine ow1 (op1_l rfl (lo_fieldAddr rfl fl27_6) ?_)
                  refine ow1 (op1_l rfl (lo_fieldAddr rfl fl25_4) ?_)
                  refine ow1 (op1_store1n (i := 2) (v := str _) [_, _, _, _, _, _, _, _, _, _, _, _, _] rfl rfl rfl sz9 rfl rfl rfl ?_)
                  refine ow_nil ?_
                  refine fnK_n (res0 rfl) ((HLe.refl _).trans hl156) ?_
                  refine ow_nil ?_
                  refine seqK_n ?_
                  refine cw_seq ?_
                  refine cw_region ?_
                  refine ow1 (op1_l rfl (lo_move (v := .pointer (some ⟨_, _, none⟩)) rfl) ?_)
                  refine ow1 (op1_pm 3 rfl (in_End _ b12 q160.2) (en_f cb37 rfl) rfl ?_)
                  rintro _ _ _ ⟨rfl, rfl, rfl⟩ _
                  refine ow1 (op1_l rfl (lo_assign (v := .int _ _) rfl) ?_)
                  refine ow_nil ?_
                  refine seqK_n ?_
                  refine cw_seq ?_
                  refine cw_seq ?_
                  refine cw_region ?_
                  refine ow1 (op1_l rfl (lo_move (v := .int _ _) rfl) ?_)
                  refine ow1 (op1_l rfl (lo_eql rfl rfl) ?_)
                  refine ow_nil ?_
                  refine seqK_n ?_
                  refine cw_cond rfl (fun h167 => ?_) (fun h167 => ?_)
                  · have p168 := dt h167
                    refine cw_region ?_
                    refine ow1 (op1_l rfl (lo_loadA (i := 2) (vs := [_, _, _, _, _, _, _, _, _, _, _, _, _]) rfl ag27 sz27 rfl rfl rfl) ?_)
                    refine ow1 (op1_pr (reply_Check _ (⟨f.channel, (f.kind - 64), q87.1, q92.1, decide (q97.1 = 1), [], (⟨0, q142.1, q147.1, q152.1, q160.1, 0, 0⟩ : Mail)⟩ : Reply) a153 c154 hs155 (by simp only [Reply.wf, Mail.wf]; first | omega | (simp; done) | (simp; omega)) (hML.mono ((HLe.refl _).trans hl156))) (en_f cb18 rfl) rfl ?_)
                    have hrl := replyE_len (⟨f.channel, (f.kind - 64), q87.1, q92.1, decide (q97.1 = 1), [], (⟨0, q142.1, q147.1, q152.1, q160.1, 0, 0⟩ : Mail)⟩ : Reply)
                    refine ow1 (op1_l rfl (lo_assign (v := .int _ _) rfl) ?_)
                    refine ow_nil ?_
                    refine seqK_n ?_
                    refine cw_seq ?_
                    refine cw_seq ?_
                    refine cw_region ?_
                    refine ow1 (op1_l rfl (lo_move (v := .int _ _) rfl) ?_)
                    refine ow1 (op1_l rfl (lo_neq rfl rfl) ?_)
                    refine ow_nil ?_
                    refine seqK_n ?_
                    refine cw_cond rfl (fun h169 => ?_) (fun h169 => ?_)
                    · have h170 := not_t h169
                      have p171 := df h170
                      refine cw_seq ?_
                      refine cw_region ?_
                      refine ow1 (op1_l rfl (lo_build (v := .agg #[_, _, _, _, _, _, _, _, _, _, _, _, _]) rfl (bd27)) ?_)
                      refine ow1 (op1_l rfl (lo_move (v := .int _ _) rfl) ?_)
                      refine ow1 (op1_storeAn (i := 1) (vs := [_, _, _, _, _, _, _, _, _, _, _, _, _]) [_, _, _, _, _, _, _, _, _, _, _, _, _] rfl rfl rfl sz27 rfl rfl rfl rfl ?_)
                      refine ow1 (op1_l rfl (lo_assign (v := .int _ _) rfl) ?_)
                      refine ow_nil ?_
                      refine seqK_n ?_
                      refine cw_ret ?_
                      refine seqK_r ?_
                      refine fnK_r (res2 rfl (rv_c (i := 1) (vs := [_, _, _, _, _, _, _, _, _, _, _, _, _]) rfl ag27 sz27 rfl rfl rfl) (rv_t (v := .int _ _) rfl)) ((HLe.refl _).trans hl156) ?_
                      have hk : ¬ (f.kind < 64 ∨ 71 < f.kind) := by omega
                      have hr : replyRead f.channel (f.kind - 64) ⟨f.body, 0⟩ = ((⟨f.channel, (f.kind - 64), q87.1, q92.1, decide (q97.1 = 1), [], (⟨0, q142.1, q147.1, q152.1, q160.1, 0, 0⟩ : Mail)⟩ : Reply), q160.2) := by unfold replyRead; (repeat first | simp only [hq90, hq95, hq100, hq145, hq150, hq158, hq163] | rw [if_pos (by omega)] | rw [if_neg (by omega)]); all_goals first | rfl | (unfold sentRead; (repeat first | simp only [hq90, hq95, hq100, hq145, hq150, hq158, hq163] | rw [if_pos (by omega)] | rw [if_neg (by omega)]); all_goals rfl)
                      have e : replyOf f = ((⟨0, 0, 0, 0, false, [], (⟨0, [], [], [], [], 0, 0⟩ : Mail)⟩ : Reply), replyE (⟨f.channel, (f.kind - 64), q87.1, q92.1, decide (q97.1 = 1), [], (⟨0, q142.1, q147.1, q152.1, q160.1, 0, 0⟩ : Mail)⟩ : Reply)) := by
                        unfold replyOf
                        rw [if_neg hk]
                        simp only
                        rw [hr]
                        simp only
                        (repeat first | rw [if_pos (by omega)] | rw [if_neg (by omega)])
                        all_goals first | rfl | (simp [*]; done)
                      rw [e]
                      exact ⟨none, 0, rfl, slh_nil⟩
                    · have h172 := not_f h169
                      have p173 := dt h172
                      refine cw_skip ?_
                      refine seqK_n ?_
                      refine cw_seq ?_
                      refine cw_region ?_
                      refine ow1 (op1_l rfl (lo_loadA (i := 2) (vs := [_, _, _, _, _, _, _, _, _, _, _, _, _]) rfl ag27 sz27 rfl rfl rfl) ?_)
                      refine ow1 (op1_storeAn (i := 1) (vs := [_, _, _, _, _, _, _, _, _, _, _, _, _]) [_, _, _, _, _, _, _, _, _, _, _, _, _] rfl rfl rfl sz27 rfl rfl rfl rfl ?_)
                      refine ow1 (op1_l rfl (lo_assign (v := .int _ _) rfl) ?_)
                      refine ow_nil ?_
                      refine seqK_n ?_
                      refine cw_ret ?_
                      refine fnK_r (res2 rfl (rv_c (i := 1) (vs := [_, _, _, _, _, _, _, _, _, _, _, _, _]) rfl ag27 sz27 rfl rfl rfl) (rv_t (v := .int _ _) rfl)) ((HLe.refl _).trans hl156) ?_
                      have hk : ¬ (f.kind < 64 ∨ 71 < f.kind) := by omega
                      have hr : replyRead f.channel (f.kind - 64) ⟨f.body, 0⟩ = ((⟨f.channel, (f.kind - 64), q87.1, q92.1, decide (q97.1 = 1), [], (⟨0, q142.1, q147.1, q152.1, q160.1, 0, 0⟩ : Mail)⟩ : Reply), q160.2) := by unfold replyRead; (repeat first | simp only [hq90, hq95, hq100, hq145, hq150, hq158, hq163] | rw [if_pos (by omega)] | rw [if_neg (by omega)]); all_goals first | rfl | (unfold sentRead; (repeat first | simp only [hq90, hq95, hq100, hq145, hq150, hq158, hq163] | rw [if_pos (by omega)] | rw [if_neg (by omega)]); all_goals rfl)
                      have e : replyOf f = ((⟨f.channel, (f.kind - 64), q87.1, q92.1, decide (q97.1 = 1), [], (⟨0, q142.1, q147.1, q152.1, q160.1, 0, 0⟩ : Mail)⟩ : Reply), 0) := by
                        unfold replyOf
                        rw [if_neg hk]
                        simp only
                        rw [hr]
                        simp only
                        (repeat first | rw [if_pos (by omega)] | rw [if_neg (by omega)])
                        all_goals first | rfl | (simp [*]; done)
                      rw [e]
                      exact ⟨a153, c154, rfl, hs155⟩
                  · have p174 := df h167
                    refine cw_skip ?_
                    refine seqK_n ?_
                    refine cw_seq ?_
                    refine cw_seq ?_
                    refine cw_region ?_
                    refine ow1 (op1_l rfl (lo_move (v := .int _ _) rfl) ?_)
                    refine ow1 (op1_l rfl (lo_neq rfl rfl) ?_)
                    refine ow_nil ?_
                    refine seqK_n ?_
                    refine cw_cond_t rfl (by rw [h167] <;> rfl) ?_
                    refine cw_seq ?_
                    refine cw_region ?_
                    refine ow1 (op1_l rfl (lo_build (v := .agg #[_, _, _, _, _, _, _, _, _, _, _, _, _]) rfl (bd27)) ?_)
                    refine ow1 (op1_l rfl (lo_move (v := .int _ _) rfl) ?_)
                    refine ow1 (op1_storeAn (i := 1) (vs := [_, _, _, _, _, _, _, _, _, _, _, _, _]) [_, _, _, _, _, _, _, _, _, _, _, _, _] rfl rfl rfl sz27 rfl rfl rfl rfl ?_)
                    refine ow1 (op1_l rfl (lo_assign (v := .int _ _) rfl) ?_)
                    refine ow_nil ?_
                    refine seqK_n ?_
                    refine cw_ret ?_
                    refine seqK_r ?_
                    refine fnK_r (res2 rfl (rv_c (i := 1) (vs := [_, _, _, _, _, _, _, _, _, _, _, _, _]) rfl ag27 sz27 rfl rfl rfl) (rv_t (v := .int _ _) rfl)) ((HLe.refl _).trans hl156) ?_
                    have hk : ¬ (f.kind < 64 ∨ 71 < f.kind) := by omega
                    have hr : replyRead f.channel (f.kind - 64) ⟨f.body, 0⟩ = ((⟨f.channel, (f.kind - 64), q87.1, q92.1, decide (q97.1 = 1), [], (⟨0, q142.1, q147.1, q152.1, q160.1, 0, 0⟩ : Mail)⟩ : Reply), q160.2) := by unfold replyRead; (repeat first | simp only [hq90, hq95, hq100, hq145, hq150, hq158, hq163] | rw [if_pos (by omega)] | rw [if_neg (by omega)]); all_goals first | rfl | (unfold sentRead; (repeat first | simp only [hq90, hq95, hq100, hq145, hq150, hq158, hq163] | rw [if_pos (by omega)] | rw [if_neg (by omega)]); all_goals rfl)
                    have e : replyOf f = ((⟨0, 0, 0, 0, false, [], (⟨0, [], [], [], [], 0, 0⟩ : Mail)⟩ : Reply), inEnd q160.2) := by
                      unfold replyOf
                      rw [if_neg hk]
                      simp only
                      rw [hr]
                      simp only
                      (repeat first | rw [if_pos (by omega)] | rw [if_neg (by omega)])
                      all_goals first | rfl | (simp [*]; done)
                    rw [e]
                    exact ⟨none, 0, rfl, slh_nil⟩
              · have p175 := df h85
                refine cw_region ?_
                refine ow1 (op1_l rfl (lo_eql rfl rfl) ?_)
                refine ow1 (op1_l rfl (lo_assign (v := .bool _) rfl) ?_)
                refine ow_nil ?_
                refine seqK_n ?_
                refine cw_cond rfl (fun h176 => ?_) (fun h176 => ?_)
                · have p177 := dt h176
                  refine cw_region ?_
                  refine ow1 (op1_l rfl (lo_move (v := .pointer (some ⟨_, _, none⟩)) rfl) ?_)
                  refine ow1 (op1_l rfl (lo_move (v := .pointer (some ⟨_, _, none⟩)) rfl) ?_)
                  refine ow1 (op1_l rfl (lo_move (v := .pointer (some ⟨_, _, none⟩)) rfl) ?_)
                  refine ow1 (op1_pm 3 rfl (in_Num _ b12 (⟨f.body, 0⟩) 8 (by omega)) (en_f cb69 rfl) rfl ?_)
                  rintro _ _ _ ⟨rfl, rfl, rfl⟩ _
                  generalize hq181 : inNum (⟨f.body, 0⟩) 8 = q178
                  have hf182 := inNum_r (⟨f.body, 0⟩) 8
                  simp only [hq181] at hf182
                  refine ow1 (op1_l rfl (lo_move (v := .pointer (some ⟨_, _, none⟩)) rfl) ?_)
                  refine ow1 (op1_pm 3 rfl (in_Num _ b12 q178.2 8 (by omega)) (en_f cb69 rfl) rfl ?_)
                  rintro _ _ _ ⟨rfl, rfl, rfl⟩ _
                  generalize hq186 : inNum q178.2 8 = q183
                  have hf187 := inNum_r q178.2 8
                  simp only [hq186] at hf187
                  refine ow1 (op1_l rfl (lo_nilCheck rfl) ?_)
                  refine ow1 (op1_l rfl (lo_fieldAddr rfl fl27_2) ?_)
                  refine ow1 (op1_store1n (i := 2) (v := .int _ _) [_, _, _, _, _, _, _, _, _, _, _, _, _] rfl rfl rfl sz22 rfl rfl rfl ?_)
                  refine ow1 (op1_l rfl (lo_nilCheck rfl) ?_)
                  refine ow1 (op1_l rfl (lo_fieldAddr rfl fl27_3) ?_)
                  refine ow1 (op1_store1n (i := 2) (v := .int _ _) [_, _, _, _, _, _, _, _, _, _, _, _, _] rfl rfl rfl sz22 rfl rfl rfl ?_)
                  refine ow_nil ?_
                  refine blkK_n ?_
                  refine seqK_n ?_
                  refine cw_seq ?_
                  refine cw_seq ?_
                  refine cw_region ?_
                  refine ow1 (op1_l rfl (lo_move (v := .pointer (some ⟨_, _, none⟩)) rfl) ?_)
                  refine ow1 (op1_l rfl (lo_nilCheck rfl) ?_)
                  refine ow1 (op1_l rfl (lo_fieldAddr rfl fl27_1) ?_)
                  refine ow1 (op1_l rfl (lo_load1 (i := 2) (v := .int _ _) rfl ag5 rfl rfl) ?_)
                  refine ow1 (op1_l rfl (lo_neq rfl rfl) ?_)
                  refine ow_nil ?_
                  refine seqK_n ?_
                  refine cw_cond_t rfl (by rw [h85] <;> rfl) ?_
                  refine cw_ret ?_
                  refine seqK_r ?_
                  refine fnK_r (res0 rfl) (.refl _) ?_
                  refine ow_nil ?_
                  refine seqK_n ?_
                  refine cw_seq ?_
                  refine cw_region ?_
                  refine ow1 (op1_l rfl (lo_move (v := .pointer (some ⟨_, _, none⟩)) rfl) ?_)
                  refine ow1 (op1_pm 3 rfl (in_End _ b12 q183.2) (en_f cb37 rfl) rfl ?_)
                  rintro _ _ _ ⟨rfl, rfl, rfl⟩ _
                  refine ow1 (op1_l rfl (lo_assign (v := .int _ _) rfl) ?_)
                  refine ow_nil ?_
                  refine seqK_n ?_
                  refine cw_seq ?_
                  refine cw_seq ?_
                  refine cw_region ?_
                  refine ow1 (op1_l rfl (lo_move (v := .int _ _) rfl) ?_)
                  refine ow1 (op1_l rfl (lo_eql rfl rfl) ?_)
                  refine ow_nil ?_
                  refine seqK_n ?_
                  refine cw_cond rfl (fun h190 => ?_) (fun h190 => ?_)
                  · have p191 := dt h190
                    refine cw_region ?_
                    refine ow1 (op1_l rfl (lo_loadA (i := 2) (vs := [_, _, _, _, _, _, _, _, _, _, _, _, _]) rfl ag27 sz27 rfl rfl rfl) ?_)
                    refine ow1 (op1_pr (reply_Check _ (⟨f.channel, (f.kind - 64), q178.1, q183.1, false, [], (⟨0, [], [], [], [], 0, 0⟩ : Mail)⟩ : Reply) none 0 slh_nil (by simp only [Reply.wf, Mail.wf]; first | omega | (simp; done) | (simp; omega)) hML) (en_f cb18 rfl) rfl ?_)
                    have hrl := replyE_len (⟨f.channel, (f.kind - 64), q178.1, q183.1, false, [], (⟨0, [], [], [], [], 0, 0⟩ : Mail)⟩ : Reply)
                    refine ow1 (op1_l rfl (lo_assign (v := .int _ _) rfl) ?_)
                    refine ow_nil ?_
                    refine seqK_n ?_
                    refine cw_seq ?_
                    refine cw_seq ?_
                    refine cw_region ?_
                    refine ow1 (op1_l rfl (lo_move (v := .int _ _) rfl) ?_)
                    refine ow1 (op1_l rfl (lo_neq rfl rfl) ?_)
                    refine ow_nil ?_
                    refine seqK_n ?_
                    refine cw_cond rfl (fun h192 => ?_) (fun h192 => ?_)
                    · have h193 := not_t h192
                      have p194 := df h193
                      refine cw_seq ?_
                      refine cw_region ?_
                      refine ow1 (op1_l rfl (lo_build (v := .agg #[_, _, _, _, _, _, _, _, _, _, _, _, _]) rfl (bd27)) ?_)
                      refine ow1 (op1_l rfl (lo_move (v := .int _ _) rfl) ?_)
                      refine ow1 (op1_storeAn (i := 1) (vs := [_, _, _, _, _, _, _, _, _, _, _, _, _]) [_, _, _, _, _, _, _, _, _, _, _, _, _] rfl rfl rfl sz27 rfl rfl rfl rfl ?_)
                      refine ow1 (op1_l rfl (lo_assign (v := .int _ _) rfl) ?_)
                      refine ow_nil ?_
                      refine seqK_n ?_
                      refine cw_ret ?_
                      refine seqK_r ?_
                      refine fnK_r (res2 rfl (rv_c (i := 1) (vs := [_, _, _, _, _, _, _, _, _, _, _, _, _]) rfl ag27 sz27 rfl rfl rfl) (rv_t (v := .int _ _) rfl)) (.refl _) ?_
                      have hk : ¬ (f.kind < 64 ∨ 71 < f.kind) := by omega
                      have hr : replyRead f.channel (f.kind - 64) ⟨f.body, 0⟩ = ((⟨f.channel, (f.kind - 64), q178.1, q183.1, false, [], (⟨0, [], [], [], [], 0, 0⟩ : Mail)⟩ : Reply), q183.2) := by unfold replyRead; (repeat first | simp only [hq181, hq186] | rw [if_pos (by omega)] | rw [if_neg (by omega)]); all_goals first | rfl | (unfold sentRead; (repeat first | simp only [hq181, hq186] | rw [if_pos (by omega)] | rw [if_neg (by omega)]); all_goals rfl)
                      have e : replyOf f = ((⟨0, 0, 0, 0, false, [], (⟨0, [], [], [], [], 0, 0⟩ : Mail)⟩ : Reply), replyE (⟨f.channel, (f.kind - 64), q178.1, q183.1, false, [], (⟨0, [], [], [], [], 0, 0⟩ : Mail)⟩ : Reply)) := by
                        unfold replyOf
                        rw [if_neg hk]
                        simp only
                        rw [hr]
                        simp only
                        (repeat first | rw [if_pos (by omega)] | rw [if_neg (by omega)])
                        all_goals first | rfl | (simp [*]; done)
                      rw [e]
                      exact ⟨none, 0, rfl, slh_nil⟩
                    · have h195 := not_f h192
                      have p196 := dt h195
                      refine cw_skip ?_
                      refine seqK_n ?_
                      refine cw_seq ?_
                      refine cw_region ?_
                      refine ow1 (op1_l rfl (lo_loadA (i := 2) (vs := [_, _, _, _, _, _, _, _, _, _, _, _, _]) rfl ag27 sz27 rfl rfl rfl) ?_)
                      refine ow1 (op1_storeAn (i := 1) (vs := [_, _, _, _, _, _, _, _, _, _, _, _, _]) [_, _, _, _, _, _, _, _, _, _, _, _, _] rfl rfl rfl sz27 rfl rfl rfl rfl ?_)
                      refine ow1 (op1_l rfl (lo_assign (v := .int _ _) rfl) ?_)
                      refine ow_nil ?_
                      refine seqK_n ?_
                      refine cw_ret ?_
                      refine fnK_r (res2 rfl (rv_c (i := 1) (vs := [_, _, _, _, _, _, _, _, _, _, _, _, _]) rfl ag27 sz27 rfl rfl rfl) (rv_t (v := .int _ _) rfl)) (.refl _) ?_
                      have hk : ¬ (f.kind < 64 ∨ 71 < f.kind) := by omega
                      have hr : replyRead f.channel (f.kind - 64) ⟨f.body, 0⟩ = ((⟨f.channel, (f.kind - 64), q178.1, q183.1, false, [], (⟨0, [], [], [], [], 0, 0⟩ : Mail)⟩ : Reply), q183.2) := by unfold replyRead; (repeat first | simp only [hq181, hq186] | rw [if_pos (by omega)] | rw [if_neg (by omega)]); all_goals first | rfl | (unfold sentRead; (repeat first | simp only [hq181, hq186] | rw [if_pos (by omega)] | rw [if_neg (by omega)]); all_goals rfl)
                      have e : replyOf f = ((⟨f.channel, (f.kind - 64), q178.1, q183.1, false, [], (⟨0, [], [], [], [], 0, 0⟩ : Mail)⟩ : Reply), 0) := by
                        unfold replyOf
                        rw [if_neg hk]
                        simp only
                        rw [hr]
                        simp only
                        (repeat first | rw [if_pos (by omega)] | rw [if_neg (by omega)])
                        all_goals first | rfl | (simp [*]; done)
                      rw [e]
                      exact ⟨none, 0, rfl, slh_nil⟩
                  · have p197 := df h190
                    refine cw_skip ?_
                    refine seqK_n ?_
                    refine cw_seq ?_
                    refine cw_seq ?_
                    refine cw_region ?_
                    refine ow1 (op1_l rfl (lo_move (v := .int _ _) rfl) ?_)
                    refine ow1 (op1_l rfl (lo_neq rfl rfl) ?_)
                    refine ow_nil ?_
                    refine seqK_n ?_
                    refine cw_cond_t rfl (by rw [h190] <;> rfl) ?_
                    refine cw_seq ?_
                    refine cw_region ?_
                    refine ow1 (op1_l rfl (lo_build (v := .agg #[_, _, _, _, _, _, _, _, _, _, _, _, _]) rfl (bd27)) ?_)
                    refine ow1 (op1_l rfl (lo_move (v := .int _ _) rfl) ?_)
                    refine ow1 (op1_storeAn (i := 1) (vs := [_, _, _, _, _, _, _, _, _, _, _, _, _]) [_, _, _, _, _, _, _, _, _, _, _, _, _] rfl rfl rfl sz27 rfl rfl rfl rfl ?_)
                    refine ow1 (op1_l rfl (lo_assign (v := .int _ _) rfl) ?_)
                    refine ow_nil ?_
                    refine seqK_n ?_
                    refine cw_ret ?_
                    refine seqK_r ?_
                    refine fnK_r (res2 rfl (rv_c (i := 1) (vs := [_, _, _, _, _, _, _, _, _, _, _, _, _]) rfl ag27 sz27 rfl rfl rfl) (rv_t (v := .int _ _) rfl)) (.refl _) ?_
                    have hk : ¬ (f.kind < 64 ∨ 71 < f.kind) := by omega
                    have hr : replyRead f.channel (f.kind - 64) ⟨f.body, 0⟩ = ((⟨f.channel, (f.kind - 64), q178.1, q183.1, false, [], (⟨0, [], [], [], [], 0, 0⟩ : Mail)⟩ : Reply), q183.2) := by unfold replyRead; (repeat first | simp only [hq181, hq186] | rw [if_pos (by omega)] | rw [if_neg (by omega)]); all_goals first | rfl | (unfold sentRead; (repeat first | simp only [hq181, hq186] | rw [if_pos (by omega)] | rw [if_neg (by omega)]); all_goals rfl)
                    have e : replyOf f = ((⟨0, 0, 0, 0, false, [], (⟨0, [], [], [], [], 0, 0⟩ : Mail)⟩ : Reply), inEnd q183.2) := by
                      unfold replyOf
                      rw [if_neg hk]
                      simp only
                      rw [hr]
                      simp only
                      (repeat first | rw [if_pos (by omega)] | rw [if_neg (by omega)])
                      all_goals first | rfl | (simp [*]; done)
                    rw [e]
                    exact ⟨none, 0, rfl, slh_nil⟩
                · have p198 := df h176
                  refine cw_skip ?_
                  refine blkK_n ?_
                  refine seqK_n ?_
                  refine cw_seq ?_
                  refine cw_seq ?_
                  refine cw_region ?_
                  refine ow1 (op1_l rfl (lo_move (v := .pointer (some ⟨_, _, none⟩)) rfl) ?_)
                  refine ow1 (op1_l rfl (lo_nilCheck rfl) ?_)
                  refine ow1 (op1_l rfl (lo_fieldAddr rfl fl27_1) ?_)
                  refine ow1 (op1_l rfl (lo_load1 (i := 2) (v := .int _ _) rfl ag5 rfl rfl) ?_)
                  refine ow1 (op1_l rfl (lo_neq rfl rfl) ?_)
                  refine ow_nil ?_
                  refine seqK_n ?_
                  refine cw_cond_t rfl (by rw [h85] <;> rfl) ?_
                  refine cw_ret ?_
                  refine seqK_r ?_
                  refine fnK_r (res0 rfl) (.refl _) ?_
                  refine ow_nil ?_
                  refine seqK_n ?_
                  refine cw_seq ?_
                  refine cw_region ?_
                  refine ow1 (op1_l rfl (lo_move (v := .pointer (some ⟨_, _, none⟩)) rfl) ?_)
                  refine ow1 (op1_pm 3 rfl (in_End _ b12 (⟨f.body, 0⟩)) (en_f cb37 rfl) rfl ?_)
                  rintro _ _ _ ⟨rfl, rfl, rfl⟩ _
                  refine ow1 (op1_l rfl (lo_assign (v := .int _ _) rfl) ?_)
                  refine ow_nil ?_
                  refine seqK_n ?_
                  refine cw_seq ?_
                  refine cw_seq ?_
                  refine cw_region ?_
                  refine ow1 (op1_l rfl (lo_move (v := .int _ _) rfl) ?_)
                  refine ow1 (op1_l rfl (lo_eql rfl rfl) ?_)
                  refine ow_nil ?_
                  refine seqK_n ?_
                  refine cw_cond rfl (fun h201 => ?_) (fun h201 => ?_)
                  · have p202 := dt h201
                    refine cw_region ?_
                    refine ow1 (op1_l rfl (lo_loadA (i := 2) (vs := [_, _, _, _, _, _, _, _, _, _, _, _, _]) rfl ag27 sz27 rfl rfl rfl) ?_)
                    refine ow1 (op1_pr (reply_Check _ (⟨f.channel, (f.kind - 64), 0, 0, false, [], (⟨0, [], [], [], [], 0, 0⟩ : Mail)⟩ : Reply) none 0 slh_nil (by simp only [Reply.wf, Mail.wf]; first | omega | (simp; done) | (simp; omega)) hML) (en_f cb18 rfl) rfl ?_)
                    have hrl := replyE_len (⟨f.channel, (f.kind - 64), 0, 0, false, [], (⟨0, [], [], [], [], 0, 0⟩ : Mail)⟩ : Reply)
                    refine ow1 (op1_l rfl (lo_assign (v := .int _ _) rfl) ?_)
                    refine ow_nil ?_
                    refine seqK_n ?_
                    refine cw_seq ?_
                    refine cw_seq ?_
                    refine cw_region ?_
                    refine ow1 (op1_l rfl (lo_move (v := .int _ _) rfl) ?_)
                    refine ow1 (op1_l rfl (lo_neq rfl rfl) ?_)
                    refine ow_nil ?_
                    refine seqK_n ?_
                    refine cw_cond rfl (fun h203 => ?_) (fun h203 => ?_)
                    · have h204 := not_t h203
                      have p205 := df h204
                      refine cw_seq ?_
                      refine cw_region ?_
                      refine ow1 (op1_l rfl (lo_build (v := .agg #[_, _, _, _, _, _, _, _, _, _, _, _, _]) rfl (bd27)) ?_)
                      refine ow1 (op1_l rfl (lo_move (v := .int _ _) rfl) ?_)
                      refine ow1 (op1_storeAn (i := 1) (vs := [_, _, _, _, _, _, _, _, _, _, _, _, _]) [_, _, _, _, _, _, _, _, _, _, _, _, _] rfl rfl rfl sz27 rfl rfl rfl rfl ?_)
                      refine ow1 (op1_l rfl (lo_assign (v := .int _ _) rfl) ?_)
                      refine ow_nil ?_
                      refine seqK_n ?_
                      refine cw_ret ?_
                      refine seqK_r ?_
                      refine fnK_r (res2 rfl (rv_c (i := 1) (vs := [_, _, _, _, _, _, _, _, _, _, _, _, _]) rfl ag27 sz27 rfl rfl rfl) (rv_t (v := .int _ _) rfl)) (.refl _) ?_
                      have hk : ¬ (f.kind < 64 ∨ 71 < f.kind) := by omega
                      have hr : replyRead f.channel (f.kind - 64) ⟨f.body, 0⟩ = ((⟨f.channel, (f.kind - 64), 0, 0, false, [], (⟨0, [], [], [], [], 0, 0⟩ : Mail)⟩ : Reply), (⟨f.body, 0⟩)) := by unfold replyRead; (repeat first | rw [if_pos (by omega)] | rw [if_neg (by omega)]); all_goals first | rfl | (unfold sentRead; (repeat first | rw [if_pos (by omega)] | rw [if_neg (by omega)]); all_goals rfl)
                      have e : replyOf f = ((⟨0, 0, 0, 0, false, [], (⟨0, [], [], [], [], 0, 0⟩ : Mail)⟩ : Reply), replyE (⟨f.channel, (f.kind - 64), 0, 0, false, [], (⟨0, [], [], [], [], 0, 0⟩ : Mail)⟩ : Reply)) := by
                        unfold replyOf
                        rw [if_neg hk]
                        simp only
                        rw [hr]
                        simp only
                        (repeat first | rw [if_pos (by omega)] | rw [if_neg (by omega)])
                        all_goals first | rfl | (simp [*]; done)
                      rw [e]
                      exact ⟨none, 0, rfl, slh_nil⟩
                    · have h206 := not_f h203
                      have p207 := dt h206
                      refine cw_skip ?_
                      refine seqK_n ?_
                      refine cw_seq ?_
                      refine cw_region ?_
                      refine ow1 (op1_l rfl (lo_loadA (i := 2) (vs := [_, _, _, _, _, _, _, _, _, _, _, _, _]) rfl ag27 sz27 rfl rfl rfl) ?_)
                      refine ow1 (op1_storeAn (i := 1) (vs := [_, _, _, _, _, _, _, _, _, _, _, _, _]) [_, _, _, _, _, _, _, _, _, _, _, _, _] rfl rfl rfl sz27 rfl rfl rfl rfl ?_)
                      refine ow1 (op1_l rfl (lo_assign (v := .int _ _) rfl) ?_)
                      refine ow_nil ?_
                      refine seqK_n ?_
                      refine cw_ret ?_
                      refine fnK_r (res2 rfl (rv_c (i := 1) (vs := [_, _, _, _, _, _, _, _, _, _, _, _, _]) rfl ag27 sz27 rfl rfl rfl) (rv_t (v := .int _ _) rfl)) (.refl _) ?_
                      have hk : ¬ (f.kind < 64 ∨ 71 < f.kind) := by omega
                      have hr : replyRead f.channel (f.kind - 64) ⟨f.body, 0⟩ = ((⟨f.channel, (f.kind - 64), 0, 0, false, [], (⟨0, [], [], [], [], 0, 0⟩ : Mail)⟩ : Reply), (⟨f.body, 0⟩)) := by unfold replyRead; (repeat first | rw [if_pos (by omega)] | rw [if_neg (by omega)]); all_goals first | rfl | (unfold sentRead; (repeat first | rw [if_pos (by omega)] | rw [if_neg (by omega)]); all_goals rfl)
                      have e : replyOf f = ((⟨f.channel, (f.kind - 64), 0, 0, false, [], (⟨0, [], [], [], [], 0, 0⟩ : Mail)⟩ : Reply), 0) := by
                        unfold replyOf
                        rw [if_neg hk]
                        simp only
                        rw [hr]
                        simp only
                        (repeat first | rw [if_pos (by omega)] | rw [if_neg (by omega)])
                        all_goals first | rfl | (simp [*]; done)
                      rw [e]
                      exact ⟨none, 0, rfl, slh_nil⟩
                  · have p208 := df h201
                    refine cw_skip ?_
                    refine seqK_n ?_
                    refine cw_seq ?_
                    refine cw_seq ?_
                    refine cw_region ?_
                    refine ow1 (op1_l rfl (lo_move (v := .int _ _) rfl) ?_)
                    refine ow1 (op1_l rfl (lo_neq rfl rfl) ?_)
                    refine ow_nil ?_
                    refine seqK_n ?_
                    refine cw_cond_t rfl (by rw [h201] <;> rfl) ?_
                    refine cw_seq ?_
                    refine cw_region ?_
                    refine ow1 (op1_l rfl (lo_build (v := .agg #[_, _, _, _, _, _, _, _, _, _, _, _, _]) rfl (bd27)) ?_)
                    refine ow1 (op1_l rfl (lo_move (v := .int _ _) rfl) ?_)
                    refine ow1 (op1_storeAn (i := 1) (vs := [_, _, _, _, _, _, _, _, _, _, _, _, _]) [_, _, _, _, _, _, _, _, _, _, _, _, _] rfl rfl rfl sz27 rfl rfl rfl rfl ?_)
                    refine ow1 (op1_l rfl (lo_assign (v := .int _ _) rfl) ?_)
                    refine ow_nil ?_
                    refine seqK_n ?_
                    refine cw_ret ?_
                    refine seqK_r ?_
                    refine fnK_r (res2 rfl (rv_c (i := 1) (vs := [_, _, _, _, _, _, _, _, _, _, _, _, _]) rfl ag27 sz27 rfl rfl rfl) (rv_t (v := .int _ _) rfl)) (.refl _) ?_
                    have hk : ¬ (f.kind < 64 ∨ 71 < f.kind) := by omega
                    have hr : replyRead f.channel (f.kind - 64) ⟨f.body, 0⟩ = ((⟨f.channel, (f.kind - 64), 0, 0, false, [], (⟨0, [], [], [], [], 0, 0⟩ : Mail)⟩ : Reply), (⟨f.body, 0⟩)) := by unfold replyRead; (repeat first | rw [if_pos (by omega)] | rw [if_neg (by omega)]); all_goals first | rfl | (unfold sentRead; (repeat first | rw [if_pos (by omega)] | rw [if_neg (by omega)]); all_goals rfl)
                    have e : replyOf f = ((⟨0, 0, 0, 0, false, [], (⟨0, [], [], [], [], 0, 0⟩ : Mail)⟩ : Reply), inEnd (⟨f.body, 0⟩)) := by
                      unfold replyOf
                      rw [if_neg hk]
                      simp only
                      rw [hr]
                      simp only
                      (repeat first | rw [if_pos (by omega)] | rw [if_neg (by omega)])
                      all_goals first | rfl | (simp [*]; done)
                    rw [e]
                    exact ⟨none, 0, rfl, slh_nil⟩

theorem r12_Parse (H : Hp) (f : Frame) (f_w : Frame.wf f) : Ph Tryd.prog 14 #[.agg (Frame.cells f).toArray] H (fun v H' => ∃ (a1 : Option Addr) (c1 : Nat), v = .tuple #[.agg (Reply.cells ((replyOf f).1) a1 c1).toArray, .int .i64 ((replyOf f).2)] ∧ SlH pairE 4 H' (.slice a1 (((replyOf f).1).mail.head).length c1) (((replyOf f).1).mail.head)) := by
  refine ph_cw Tryd.func14 rfl Tryd.ntmps14 rfl (fun N => ?_)
  have f_w' := f_w
  simp only [Frame.wf] at f_w'
  refine cw_seq ?_
  refine cw_region ?_
  refine ow1 (op1_box (cs := [_, _, _]) 0 rfl rfl (fun b1 => ?_))
  refine ow1 (op1_alloc 1 rfl zr32 (fun b2 => ?_))
  refine ow1 (op1_l rfl (lo_assign (v := .int _ _) rfl) ?_)
  refine ow_nil ?_
  refine seqK_n ?_
  refine cw_seq ?_
  refine cw_seq ?_
  refine cw_region ?_
  refine ow1 (op1_l rfl (lo_fieldAddr rfl fl41_1) ?_)
  refine ow1 (op1_l rfl (lo_load1 (i := 0) (v := .int _ _) rfl ag5 rfl rfl) ?_)
  refine ow1 (op1_l rfl (lo_lss rfl rfl) ?_)
  refine ow1 (op1_l rfl (lo_move (v := .bool _) rfl) ?_)
  refine ow_sp (j := 3) rfl (fun h3 => ?_) (fun h3 => ?_)
  · have p4 := dt h3
    refine ow1 (op1_gs rfl h3 rfl ?_)
    refine ow1 (op1_gs rfl h3 rfl ?_)
    refine ow1 (op1_gs rfl h3 rfl ?_)
    refine ow1 (op1_l rfl (lo_pick_t (v := .bool _) rfl h3 rfl) ?_)
    refine ow_nil ?_
    refine seqK_n ?_
    refine cw_cond_t rfl rfl ?_
    refine cw_seq ?_
    refine cw_region ?_
    refine ow1 (op1_l rfl (lo_build (v := .agg #[_, _, _, _, _, _, _, _, _, _, _, _, _]) rfl (bd32)) ?_)
    refine ow1 (op1_storeAn (i := 1) (vs := [_, _, _, _, _, _, _, _, _, _, _, _, _]) [_, _, _, _, _, _, _, _, _, _, _, _, _] rfl rfl rfl sz32 rfl rfl rfl rfl ?_)
    refine ow1 (op1_l rfl (lo_assign (v := .int _ _) rfl) ?_)
    refine ow_nil ?_
    refine seqK_n ?_
    refine cw_ret ?_
    refine seqK_r ?_
    refine fnK_r (res2 rfl (rv_c (i := 1) (vs := [_, _, _, _, _, _, _, _, _, _, _, _, _]) rfl ag32 sz32 rfl rfl rfl) (rv_t (v := .int _ _) rfl)) (.refl _) ?_
    have e : replyOf f = (Reply.zero, 8) := by unfold replyOf; rw [if_pos (by omega)]
    rw [e]
    exact ⟨none, 0, rfl, slh_nil⟩
  · have p5 := df h3
    refine ow1 (op1_g rfl h3 rfl (lo_fieldAddr rfl fl41_1) ?_)
    refine ow1 (op1_g rfl h3 rfl (lo_load1 (i := 0) (v := .int _ _) rfl ag5 rfl rfl) ?_)
    refine ow1 (op1_g rfl h3 rfl (lo_gtr rfl rfl) ?_)
    refine ow1 (op1_l rfl (lo_pick_f (v := .bool _) rfl h3 rfl) ?_)
    refine ow_nil ?_
    refine seqK_n ?_
    refine cw_cond rfl (fun h6 => ?_) (fun h6 => ?_)
    · have p7 := dt h6
      refine cw_seq ?_
      refine cw_region ?_
      refine ow1 (op1_l rfl (lo_build (v := .agg #[_, _, _, _, _, _, _, _, _, _, _, _, _]) rfl (bd32)) ?_)
      refine ow1 (op1_storeAn (i := 1) (vs := [_, _, _, _, _, _, _, _, _, _, _, _, _]) [_, _, _, _, _, _, _, _, _, _, _, _, _] rfl rfl rfl sz32 rfl rfl rfl rfl ?_)
      refine ow1 (op1_l rfl (lo_assign (v := .int _ _) rfl) ?_)
      refine ow_nil ?_
      refine seqK_n ?_
      refine cw_ret ?_
      refine seqK_r ?_
      refine fnK_r (res2 rfl (rv_c (i := 1) (vs := [_, _, _, _, _, _, _, _, _, _, _, _, _]) rfl ag32 sz32 rfl rfl rfl) (rv_t (v := .int _ _) rfl)) (.refl _) ?_
      have e : replyOf f = (Reply.zero, 8) := by unfold replyOf; rw [if_pos (by omega)]
      rw [e]
      exact ⟨none, 0, rfl, slh_nil⟩
    · have p8 := df h6
      refine cw_skip ?_
      refine seqK_n ?_
      refine cw_seq ?_
      refine cw_region ?_
      refine ow1 (op1_l rfl (lo_fieldAddr rfl fl41_0) ?_)
      refine ow1 (op1_l rfl (lo_load1 (i := 0) (v := .int _ _) rfl ag5 rfl rfl) ?_)
      refine ow1 (op1_l rfl (lo_fieldAddr rfl fl41_1) ?_)
      refine ow1 (op1_l rfl (lo_load1 (i := 0) (v := .int _ _) rfl ag5 rfl rfl) ?_)
      refine ow1 (op1_l rfl (lo_sub rfl rfl (rg_u8 (by omega))) ?_)
      refine ow1 (op1_l rfl (lo_build (v := .agg #[_, _, _, _, _, _, _, _, _, _, _, _, _]) rfl (bd32_0u8_1u8 _ _)) ?_)
      refine ow1 (op1_alloc 2 rfl zr32 (fun b9 => ?_))
      refine ow1 (op1_storeAn (i := 2) (vs := [_, _, _, _, _, _, _, _, _, _, _, _, _]) [_, _, _, _, _, _, _, _, _, _, _, _, _] rfl rfl rfl sz32 rfl rfl rfl rfl ?_)
      refine ow_nil ?_
      refine seqK_n ?_
      refine cw_seq ?_
      refine cw_region ?_
      refine ow1 (op1_l rfl (lo_fieldAddr rfl fl41_2) ?_)
      refine ow1 (op1_l rfl (lo_load1 (i := 0) (v := str _) rfl ag9 rfl rfl) ?_)
      refine ow1 (op1_l rfl (lo_build (v := .agg #[_, _, _]) rfl (bd70_0s _)) ?_)
      refine ow1 (op1_box (cs := [_, _, _]) 3 rfl rfl (fun b10 => ?_))
      refine ow1 (op1_l rfl (lo_assign (v := .pointer (some ⟨_, _, none⟩)) rfl) ?_)
      refine ow_nil ?_
      refine seqK_n ?_
      refine cw_seq ?_
      refine cw_seq ?_
      refine cw_region ?_
      refine ow1 (op1_l rfl (lo_fieldAddr rfl fl32_1) ?_)
      refine ow1 (op1_l rfl (lo_load1 (i := 2) (v := .int _ _) rfl ag5 rfl rfl) ?_)
      refine ow1 (op1_l rfl (lo_eql rfl rfl) ?_)
      refine ow_nil ?_
      refine seqK_n ?_
      refine cw_cond rfl (fun h11 => ?_) (fun h11 => ?_)
      · have p12 := dt h11
        refine cw_region ?_
        refine ow1 (op1_l rfl (lo_move (v := .pointer (some ⟨_, _, none⟩)) rfl) ?_)
        refine ow1 (op1_pm 3 rfl (rin_Text _ b10 (⟨f.body, 0, 0⟩ : RIn) (⟨f.body, 0⟩ : In) (RSt.new _ (by omega)) 16 (by omega)) (en_f cb38 rfl) rfl ?_)
        rintro _ _ _ ⟨j16, rfl, rfl, rfl, hj17⟩ _
        generalize hq18 : inText (⟨f.body, 0⟩ : In) 16 = q13 at hj17 ⊢
        have := hj17.err
        have := hj17.lo
        have := hj17.hi
        have := hj17.len
        have hf19 := inText_len (⟨f.body, 0⟩ : In) 16
        simp only [hq18] at hf19
        refine ow1 (op1_l rfl (lo_fieldAddr rfl fl32_5) ?_)
        refine ow1 (op1_store1n (i := 2) (v := str _) [_, _, _, _, _, _, _, _, _, _, _, _, _] rfl rfl rfl sz9 rfl rfl rfl ?_)
        refine ow_nil ?_
        refine seqK_n ?_
        refine cw_seq ?_
        refine cw_seq ?_
        refine cw_region ?_
        refine ow1 (op1_l rfl (lo_fieldAddr rfl fl32_1) ?_)
        refine ow1 (op1_l rfl (lo_load1 (i := 2) (v := .int _ _) rfl ag5 rfl rfl) ?_)
        refine ow1 (op1_pr (r12_tellsN _ (f.kind - 64) (by omega)) (en_f cb39 rfl) rfl ?_)
        refine ow_nil ?_
        refine seqK_n ?_
        refine cw_cond_f rfl (fd (by omega)) ?_
        refine cw_skip ?_
        refine seqK_n ?_
        refine cw_seq ?_
        refine cw_seq ?_
        refine cw_region ?_
        refine ow1 (op1_l rfl (lo_fieldAddr rfl fl32_1) ?_)
        refine ow1 (op1_l rfl (lo_load1 (i := 2) (v := .int _ _) rfl ag5 rfl rfl) ?_)
        refine ow1 (op1_pr (r12_tellsM _ (f.kind - 64) (by omega)) (en_f cb41 rfl) rfl ?_)
        refine ow_nil ?_
        refine seqK_n ?_
        refine cw_cond_f rfl (fd (by omega)) ?_
        refine cw_skip ?_
        refine seqK_n ?_
        refine cw_seq ?_
        refine cw_seq ?_
        refine cw_region ?_
        refine ow1 (op1_l rfl (lo_fieldAddr rfl fl32_1) ?_)
        refine ow1 (op1_l rfl (lo_load1 (i := 2) (v := .int _ _) rfl ag5 rfl rfl) ?_)
        refine ow1 (op1_l rfl (lo_eql rfl rfl) ?_)
        refine ow_nil ?_
        refine seqK_n ?_
        refine cw_cond_f rfl (fd (by omega)) ?_
        refine cw_skip ?_
        refine seqK_n ?_
        refine cw_seq ?_
        refine cw_region ?_
        refine ow1 (op1_l rfl (lo_move (v := .pointer (some ⟨_, _, none⟩)) rfl) ?_)
        refine ow1 (op1_pm 3 rfl (rin_End _ b10 j16 q13.2 hj17) (en_f cb44 rfl) rfl ?_)
        rintro _ _ _ ⟨j22, rfl, rfl, rfl, hj23⟩ _
        have := hj23.err
        have := hj23.lo
        have := hj23.hi
        have := hj23.len
        refine ow1 (op1_l rfl (lo_assign (v := .int _ _) rfl) ?_)
        refine ow_nil ?_
        refine seqK_n ?_
        refine cw_seq ?_
        refine cw_seq ?_
        refine cw_region ?_
        refine ow1 (op1_l rfl (lo_move (v := .int _ _) rfl) ?_)
        refine ow1 (op1_l rfl (lo_eql rfl rfl) ?_)
        refine ow_nil ?_
        refine seqK_n ?_
        refine cw_cond rfl (fun h24 => ?_) (fun h24 => ?_)
        · have p25 := dt h24
          refine cw_region ?_
          refine ow1 (op1_l rfl (lo_loadA (i := 2) (vs := [_, _, _, _, _, _, _, _, _, _, _, _, _]) rfl ag32 sz32 rfl rfl rfl) ?_)
          refine ow1 (op1_pr (r12_Check _ (⟨f.channel, (f.kind - 64), 0, 0, false, q13.1, (⟨0, [], [], [], [], 0, 0⟩ : Mail)⟩ : Reply) none 0 slh_nil (by simp only [Reply.wf, Mail.wf]; first | omega | (simp; done) | (simp; omega))) (en_f cb17 rfl) rfl ?_)
          have hrl := replyE_len (⟨f.channel, (f.kind - 64), 0, 0, false, q13.1, (⟨0, [], [], [], [], 0, 0⟩ : Mail)⟩ : Reply)
          refine ow1 (op1_l rfl (lo_assign (v := .int _ _) rfl) ?_)
          refine ow_nil ?_
          refine seqK_n ?_
          refine cw_seq ?_
          refine cw_seq ?_
          refine cw_region ?_
          refine ow1 (op1_l rfl (lo_move (v := .int _ _) rfl) ?_)
          refine ow1 (op1_l rfl (lo_neq rfl rfl) ?_)
          refine ow_nil ?_
          refine seqK_n ?_
          refine cw_cond rfl (fun h26 => ?_) (fun h26 => ?_)
          · have h27 := not_t h26
            have p28 := df h27
            refine cw_seq ?_
            refine cw_region ?_
            refine ow1 (op1_l rfl (lo_build (v := .agg #[_, _, _, _, _, _, _, _, _, _, _, _, _]) rfl (bd32)) ?_)
            refine ow1 (op1_l rfl (lo_move (v := .int _ _) rfl) ?_)
            refine ow1 (op1_storeAn (i := 1) (vs := [_, _, _, _, _, _, _, _, _, _, _, _, _]) [_, _, _, _, _, _, _, _, _, _, _, _, _] rfl rfl rfl sz32 rfl rfl rfl rfl ?_)
            refine ow1 (op1_l rfl (lo_assign (v := .int _ _) rfl) ?_)
            refine ow_nil ?_
            refine seqK_n ?_
            refine cw_ret ?_
            refine seqK_r ?_
            refine fnK_r (res2 rfl (rv_c (i := 1) (vs := [_, _, _, _, _, _, _, _, _, _, _, _, _]) rfl ag32 sz32 rfl rfl rfl) (rv_t (v := .int _ _) rfl)) (.refl _) ?_
            have hk : ¬ (f.kind < 64 ∨ 71 < f.kind) := by omega
            have hr : replyRead f.channel (f.kind - 64) ⟨f.body, 0⟩ = ((⟨f.channel, (f.kind - 64), 0, 0, false, q13.1, (⟨0, [], [], [], [], 0, 0⟩ : Mail)⟩ : Reply), q13.2) := by unfold replyRead; (repeat first | simp only [hq18] | rw [if_pos (by omega)] | rw [if_neg (by omega)]); all_goals first | rfl | (unfold sentRead; (repeat first | simp only [hq18] | rw [if_pos (by omega)] | rw [if_neg (by omega)]); all_goals rfl)
            have e : replyOf f = ((⟨0, 0, 0, 0, false, [], (⟨0, [], [], [], [], 0, 0⟩ : Mail)⟩ : Reply), replyE (⟨f.channel, (f.kind - 64), 0, 0, false, q13.1, (⟨0, [], [], [], [], 0, 0⟩ : Mail)⟩ : Reply)) := by
              unfold replyOf
              rw [if_neg hk]
              simp only
              rw [hr]
              simp only
              (repeat first | rw [if_pos (by omega)] | rw [if_neg (by omega)])
              all_goals first | rfl | (simp [*]; done)
            rw [e]
            exact ⟨none, 0, rfl, slh_nil⟩
          · have h29 := not_f h26
            have p30 := dt h29
            refine cw_skip ?_
            refine seqK_n ?_
            refine cw_seq ?_
            refine cw_region ?_
            refine ow1 (op1_l rfl (lo_loadA (i := 2) (vs := [_, _, _, _, _, _, _, _, _, _, _, _, _]) rfl ag32 sz32 rfl rfl rfl) ?_)
            refine ow1 (op1_storeAn (i := 1) (vs := [_, _, _, _, _, _, _, _, _, _, _, _, _]) [_, _, _, _, _, _, _, _, _, _, _, _, _] rfl rfl rfl sz32 rfl rfl rfl rfl ?_)
            refine ow1 (op1_l rfl (lo_assign (v := .int _ _) rfl) ?_)
            refine ow_nil ?_
            refine seqK_n ?_
            refine cw_ret ?_
            refine fnK_r (res2 rfl (rv_c (i := 1) (vs := [_, _, _, _, _, _, _, _, _, _, _, _, _]) rfl ag32 sz32 rfl rfl rfl) (rv_t (v := .int _ _) rfl)) (.refl _) ?_
            have hk : ¬ (f.kind < 64 ∨ 71 < f.kind) := by omega
            have hr : replyRead f.channel (f.kind - 64) ⟨f.body, 0⟩ = ((⟨f.channel, (f.kind - 64), 0, 0, false, q13.1, (⟨0, [], [], [], [], 0, 0⟩ : Mail)⟩ : Reply), q13.2) := by unfold replyRead; (repeat first | simp only [hq18] | rw [if_pos (by omega)] | rw [if_neg (by omega)]); all_goals first | rfl | (unfold sentRead; (repeat first | simp only [hq18] | rw [if_pos (by omega)] | rw [if_neg (by omega)]); all_goals rfl)
            have e : replyOf f = ((⟨f.channel, (f.kind - 64), 0, 0, false, q13.1, (⟨0, [], [], [], [], 0, 0⟩ : Mail)⟩ : Reply), 0) := by
              unfold replyOf
              rw [if_neg hk]
              simp only
              rw [hr]
              simp only
              (repeat first | rw [if_pos (by omega)] | rw [if_neg (by omega)])
              all_goals first | rfl | (simp [*]; done)
            rw [e]
            exact ⟨none, 0, rfl, slh_nil⟩
        · have p31 := df h24
          refine cw_skip ?_
          refine seqK_n ?_
          refine cw_seq ?_
          refine cw_seq ?_
          refine cw_region ?_
          refine ow1 (op1_l rfl (lo_move (v := .int _ _) rfl) ?_)
          refine ow1 (op1_l rfl (lo_neq rfl rfl) ?_)
          refine ow_nil ?_
          refine seqK_n ?_
          refine cw_cond_t rfl (by rw [h24] <;> rfl) ?_
          refine cw_seq ?_
          refine cw_region ?_
          refine ow1 (op1_l rfl (lo_build (v := .agg #[_, _, _, _, _, _, _, _, _, _, _, _, _]) rfl (bd32)) ?_)
          refine ow1 (op1_l rfl (lo_move (v := .int _ _) rfl) ?_)
          refine ow1 (op1_storeAn (i := 1) (vs := [_, _, _, _, _, _, _, _, _, _, _, _, _]) [_, _, _, _, _, _, _, _, _, _, _, _, _] rfl rfl rfl sz32 rfl rfl rfl rfl ?_)
          refine ow1 (op1_l rfl (lo_assign (v := .int _ _) rfl) ?_)
          refine ow_nil ?_
          refine seqK_n ?_
          refine cw_ret ?_
          refine seqK_r ?_
          refine fnK_r (res2 rfl (rv_c (i := 1) (vs := [_, _, _, _, _, _, _, _, _, _, _, _, _]) rfl ag32 sz32 rfl rfl rfl) (rv_t (v := .int _ _) rfl)) (.refl _) ?_
          have hk : ¬ (f.kind < 64 ∨ 71 < f.kind) := by omega
          have hr : replyRead f.channel (f.kind - 64) ⟨f.body, 0⟩ = ((⟨f.channel, (f.kind - 64), 0, 0, false, q13.1, (⟨0, [], [], [], [], 0, 0⟩ : Mail)⟩ : Reply), q13.2) := by unfold replyRead; (repeat first | simp only [hq18] | rw [if_pos (by omega)] | rw [if_neg (by omega)]); all_goals first | rfl | (unfold sentRead; (repeat first | simp only [hq18] | rw [if_pos (by omega)] | rw [if_neg (by omega)]); all_goals rfl)
          have e : replyOf f = ((⟨0, 0, 0, 0, false, [], (⟨0, [], [], [], [], 0, 0⟩ : Mail)⟩ : Reply), inEnd q13.2) := by
            unfold replyOf
            rw [if_neg hk]
            simp only
            rw [hr]
            simp only
            (repeat first | rw [if_pos (by omega)] | rw [if_neg (by omega)])
            all_goals first | rfl | (simp [*]; done)
          rw [e]
          exact ⟨none, 0, rfl, slh_nil⟩
      · have p32 := df h11
        refine cw_skip ?_
        refine seqK_n ?_
        refine cw_seq ?_
        refine cw_seq ?_
        refine cw_region ?_
        refine ow1 (op1_l rfl (lo_fieldAddr rfl fl32_1) ?_)
        refine ow1 (op1_l rfl (lo_load1 (i := 2) (v := .int _ _) rfl ag5 rfl rfl) ?_)
        refine ow1 (op1_pr (r12_tellsN _ (f.kind - 64) (by omega)) (en_f cb39 rfl) rfl ?_)
        refine ow_nil ?_
        refine seqK_n ?_
        refine cw_cond rfl (fun h33 => ?_) (fun h33 => ?_)
        · have p34 := dt h33
          refine cw_region ?_
          refine ow1 (op1_l rfl (lo_move (v := .pointer (some ⟨_, _, none⟩)) rfl) ?_)
          refine ow1 (op1_pm 3 rfl (rin_Num _ b10 (⟨f.body, 0, 0⟩ : RIn) (⟨f.body, 0⟩ : In) (RSt.new _ (by omega)) 8 (by omega)) (en_f cb40 rfl) rfl ?_)
          rintro _ _ _ ⟨j38, rfl, rfl, rfl, hj39⟩ _
          generalize hq40 : inNum (⟨f.body, 0⟩ : In) 8 = q35 at hj39 ⊢
          have := hj39.err
          have := hj39.lo
          have := hj39.hi
          have := hj39.len
          have hf41 := inNum_r (⟨f.body, 0⟩ : In) 8
          simp only [hq40] at hf41
          refine ow1 (op1_l rfl (lo_fieldAddr rfl fl32_2) ?_)
          refine ow1 (op1_store1n (i := 2) (v := .int _ _) [_, _, _, _, _, _, _, _, _, _, _, _, _] rfl rfl rfl sz22 rfl rfl rfl ?_)
          refine ow_nil ?_
          refine seqK_n ?_
          refine cw_seq ?_
          refine cw_seq ?_
          refine cw_region ?_
          refine ow1 (op1_l rfl (lo_fieldAddr rfl fl32_1) ?_)
          refine ow1 (op1_l rfl (lo_load1 (i := 2) (v := .int _ _) rfl ag5 rfl rfl) ?_)
          refine ow1 (op1_pr (r12_tellsM _ (f.kind - 64) (by omega)) (en_f cb41 rfl) rfl ?_)
          refine ow_nil ?_
          refine seqK_n ?_
          refine cw_cond rfl (fun h42 => ?_) (fun h42 => ?_)
          · have p43 := dt h42
            refine cw_region ?_
            refine ow1 (op1_l rfl (lo_move (v := .pointer (some ⟨_, _, none⟩)) rfl) ?_)
            refine ow1 (op1_pm 3 rfl (rin_Num _ b10 j38 q35.2 hj39 8 (by omega)) (en_f cb40 rfl) rfl ?_)
            rintro _ _ _ ⟨j47, rfl, rfl, rfl, hj48⟩ _
            generalize hq49 : inNum q35.2 8 = q44 at hj48 ⊢
            have := hj48.err
            have := hj48.lo
            have := hj48.hi
            have := hj48.len
            have hf50 := inNum_r q35.2 8
            simp only [hq49] at hf50
            refine ow1 (op1_l rfl (lo_fieldAddr rfl fl32_3) ?_)
            refine ow1 (op1_store1n (i := 2) (v := .int _ _) [_, _, _, _, _, _, _, _, _, _, _, _, _] rfl rfl rfl sz22 rfl rfl rfl ?_)
            refine ow_nil ?_
            refine seqK_n ?_
            refine cw_seq ?_
            refine cw_seq ?_
            refine cw_region ?_
            refine ow1 (op1_l rfl (lo_fieldAddr rfl fl32_1) ?_)
            refine ow1 (op1_l rfl (lo_load1 (i := 2) (v := .int _ _) rfl ag5 rfl rfl) ?_)
            refine ow1 (op1_l rfl (lo_eql rfl rfl) ?_)
            refine ow_nil ?_
            refine seqK_n ?_
            refine cw_cond rfl (fun h51 => ?_) (fun h51 => ?_)
            · have p52 := dt h51
              refine cw_seq ?_
              refine cw_region ?_
              refine ow1 (op1_l rfl (lo_move (v := .pointer (some ⟨_, _, none⟩)) rfl) ?_)
              refine ow1 (op1_pm 3 rfl (rin_Num _ b10 j47 q44.2 hj48 1 (by omega)) (en_f cb40 rfl) rfl ?_)
              rintro _ _ _ ⟨j56, rfl, rfl, rfl, hj57⟩ _
              generalize hq58 : inNum q44.2 1 = q53 at hj57 ⊢
              have := hj57.err
              have := hj57.lo
              have := hj57.hi
              have := hj57.len
              have hf59 := inNum_r q44.2 1
              simp only [hq58] at hf59
              refine ow1 (op1_l rfl (lo_assign (v := .int _ _) rfl) ?_)
              refine ow_nil ?_
              refine seqK_n ?_
              refine cw_seq ?_
              refine cw_region ?_
              refine ow1 (op1_l rfl (lo_move (v := .int _ _) rfl) ?_)
              refine ow1 (op1_l rfl (lo_eql rfl rfl) ?_)
              refine ow1 (op1_l rfl (lo_fieldAddr rfl fl32_4) ?_)
              refine ow1 (op1_store1n (i := 2) (v := .bool _) [_, _, _, _, _, _, _, _, _, _, _, _, _] rfl rfl rfl sz4 rfl rfl rfl ?_)
              refine ow_nil ?_
              refine seqK_n ?_
              refine cw_seq ?_
              refine cw_seq ?_
              refine cw_region ?_
              refine ow1 (op1_l rfl (lo_move (v := .int _ _) rfl) ?_)
              refine ow1 (op1_l rfl (lo_gtr rfl rfl) ?_)
              refine ow_nil ?_
              refine seqK_n ?_
              refine cw_cond rfl (fun h60 => ?_) (fun h60 => ?_)
              · have p61 := dt h60
                refine cw_region ?_
                refine ow1 (op1_l rfl (lo_move (v := .pointer (some ⟨_, _, none⟩)) rfl) ?_)
                refine ow1 (op1_pm 3 rfl (rin_Fail _ b10 j56 q53.2 hj57 4 (by omega)) (en_f cb42 rfl) rfl ?_)
                rintro _ _ _ ⟨j65, rfl, rfl, rfl, hj66⟩ _
                generalize hq67 : inFail q53.2 4 = q62 at hj66 ⊢
                have := hj66.err
                have := hj66.lo
                have := hj66.hi
                have := hj66.len
                refine ow_nil ?_
                refine seqK_n ?_
                refine cw_seq ?_
                refine cw_region ?_
                refine ow1 (op1_l rfl (lo_move (v := .pointer (some ⟨_, _, none⟩)) rfl) ?_)
                refine ow1 (op1_pm 3 rfl (rin_Text _ b10 j65 q62 hj66 16 (by omega)) (en_f cb38 rfl) rfl ?_)
                rintro _ _ _ ⟨j71, rfl, rfl, rfl, hj72⟩ _
                generalize hq73 : inText q62 16 = q68 at hj72 ⊢
                have := hj72.err
                have := hj72.lo
                have := hj72.hi
                have := hj72.len
                have hf74 := inText_len q62 16
                simp only [hq73] at hf74
                refine ow1 (op1_l rfl (lo_fieldAddr rfl fl32_6) ?_)
                refine ow1 (op1_l rfl (lo_fieldAddr rfl fl25_1) ?_)
                refine ow1 (op1_store1n (i := 2) (v := str _) [_, _, _, _, _, _, _, _, _, _, _, _, _] rfl rfl rfl sz9 rfl rfl rfl ?_)
                refine ow_nil ?_
                refine seqK_n ?_
                refine cw_seq ?_
                refine cw_region ?_
                refine ow1 (op1_l rfl (lo_move (v := .pointer (some ⟨_, _, none⟩)) rfl) ?_)
                refine ow1 (op1_pm 3 rfl (rin_Text _ b10 j71 q68.2 hj72 64 (by omega)) (en_f cb38 rfl) rfl ?_)
                rintro _ _ _ ⟨j78, rfl, rfl, rfl, hj79⟩ _
                generalize hq80 : inText q68.2 64 = q75 at hj79 ⊢
                have := hj79.err
                have := hj79.lo
                have := hj79.hi
                have := hj79.len
                have hf81 := inText_len q68.2 64
                simp only [hq80] at hf81
                refine ow1 (op1_l rfl (lo_fieldAddr rfl fl32_6) ?_)
                refine ow1 (op1_l rfl (lo_fieldAddr rfl fl25_2) ?_)
                refine ow1 (op1_store1n (i := 2) (v := str _) [_, _, _, _, _, _, _, _, _, _, _, _, _] rfl rfl rfl sz9 rfl rfl rfl ?_)
                refine ow_nil ?_
                refine seqK_n ?_
                refine cw_seq ?_
                refine cw_region ?_
                refine ow1 (op1_l rfl (lo_move (v := .pointer (some ⟨_, _, none⟩)) rfl) ?_)
                refine ow1 (op1_pm 3 rfl (r9_Read _ b10 j78 q75.2 hj79) (en_f cb43 rfl) rfl ?_)
                rintro _ H87 _ ⟨a83, c84, j88, rfl, rfl, hs85, hj89⟩ hl86
                generalize hq90 : headRead q75.2 = q82 at hj89 hs85 ⊢
                have := hj89.err
                have := hj89.lo
                have := hj89.hi
                have := hj89.len
                have hf91 := headRead_len q75.2
                simp only [hq90] at hf91
                refine ow1 (op1_l rfl (lo_fieldAddr rfl fl32_6) ?_)
                refine ow1 (op1_l rfl (lo_fieldAddr rfl fl25_3) ?_)
                refine ow1 (op1_store1n (i := 2) (v := .slice _ _ _) [_, _, _, _, _, _, _, _, _, _, _, _, _] rfl rfl rfl sz23 rfl rfl rfl ?_)
                refine ow_nil ?_
                refine seqK_n ?_
                refine cw_region ?_
                refine ow1 (op1_l rfl (lo_move (v := .pointer (some ⟨_, _, none⟩)) rfl) ?_)
                refine ow1 (op1_pm 3 rfl (rin_Text _ b10 j88 q82.2 hj89 256 (by omega)) (en_f cb38 rfl) rfl ?_)
                rintro _ _ _ ⟨j95, rfl, rfl, rfl, hj96⟩ _
                generalize hq97 : inText q82.2 256 = q92 at hj96 ⊢
                have := hj96.err
                have := hj96.lo
                have := hj96.hi
                have := hj96.len
                have hf98 := inText_len q82.2 256
                simp only [hq97] at hf98
                refine ow1 (op1_l rfl (lo_fieldAddr rfl fl32_6) ?_)
                refine ow1 (op1_l rfl (lo_fieldAddr rfl fl25_4) ?_)
                refine ow1 (op1_store1n (i := 2) (v := str _) [_, _, _, _, _, _, _, _, _, _, _, _, _] rfl rfl rfl sz9 rfl rfl rfl ?_)
                refine ow_nil ?_
                refine seqK_n ?_
                refine cw_seq ?_
                refine cw_region ?_
                refine ow1 (op1_l rfl (lo_move (v := .pointer (some ⟨_, _, none⟩)) rfl) ?_)
                refine ow1 (op1_pm 3 rfl (rin_End _ b10 j95 q92.2 hj96) (en_f cb44 rfl) rfl ?_)
                rintro _ _ _ ⟨j101, rfl, rfl, rfl, hj102⟩ _
                have := hj102.err
                have := hj102.lo
                have := hj102.hi
                have := hj102.len
                refine ow1 (op1_l rfl (lo_assign (v := .int _ _) rfl) ?_)
                refine ow_nil ?_
                refine seqK_n ?_
                refine cw_seq ?_
                refine cw_seq ?_
                refine cw_region ?_
                refine ow1 (op1_l rfl (lo_move (v := .int _ _) rfl) ?_)
                refine ow1 (op1_l rfl (lo_eql rfl rfl) ?_)
                refine ow_nil ?_
                refine seqK_n ?_
                refine cw_cond rfl (fun h103 => ?_) (fun h103 => ?_)
                · have p104 := dt h103
                  refine cw_region ?_
                  refine ow1 (op1_l rfl (lo_loadA (i := 2) (vs := [_, _, _, _, _, _, _, _, _, _, _, _, _]) rfl ag32 sz32 rfl rfl rfl) ?_)
                  refine ow1 (op1_pr (r12_Check _ (⟨f.channel, (f.kind - 64), q35.1, q44.1, decide (q53.1 = 1), [], (⟨0, q68.1, q75.1, q82.1, q92.1, 0, 0⟩ : Mail)⟩ : Reply) a83 c84 hs85 (by simp only [Reply.wf, Mail.wf]; first | omega | (simp; done) | (simp; omega))) (en_f cb17 rfl) rfl ?_)
                  have hrl := replyE_len (⟨f.channel, (f.kind - 64), q35.1, q44.1, decide (q53.1 = 1), [], (⟨0, q68.1, q75.1, q82.1, q92.1, 0, 0⟩ : Mail)⟩ : Reply)
                  refine ow1 (op1_l rfl (lo_assign (v := .int _ _) rfl) ?_)
                  refine ow_nil ?_
                  refine seqK_n ?_
                  refine cw_seq ?_
                  refine cw_seq ?_
                  refine cw_region ?_
                  refine ow1 (op1_l rfl (lo_move (v := .int _ _) rfl) ?_)
                  refine ow1 (op1_l rfl (lo_neq rfl rfl) ?_)
                  refine ow_nil ?_
                  refine seqK_n ?_
                  refine cw_cond rfl (fun h105 => ?_) (fun h105 => ?_)
                  · have h106 := not_t h105
                    have p107 := df h106
                    refine cw_seq ?_
                    refine cw_region ?_
                    refine ow1 (op1_l rfl (lo_build (v := .agg #[_, _, _, _, _, _, _, _, _, _, _, _, _]) rfl (bd32)) ?_)
                    refine ow1 (op1_l rfl (lo_move (v := .int _ _) rfl) ?_)
                    refine ow1 (op1_storeAn (i := 1) (vs := [_, _, _, _, _, _, _, _, _, _, _, _, _]) [_, _, _, _, _, _, _, _, _, _, _, _, _] rfl rfl rfl sz32 rfl rfl rfl rfl ?_)
                    refine ow1 (op1_l rfl (lo_assign (v := .int _ _) rfl) ?_)
                    refine ow_nil ?_
                    refine seqK_n ?_
                    refine cw_ret ?_
                    refine seqK_r ?_
                    refine fnK_r (res2 rfl (rv_c (i := 1) (vs := [_, _, _, _, _, _, _, _, _, _, _, _, _]) rfl ag32 sz32 rfl rfl rfl) (rv_t (v := .int _ _) rfl)) ((HLe.refl _).trans hl86) ?_
                    have hk : ¬ (f.kind < 64 ∨ 71 < f.kind) := by omega
                    have hr : replyRead f.channel (f.kind - 64) ⟨f.body, 0⟩ = ((⟨f.channel, (f.kind - 64), q35.1, q44.1, decide (q53.1 = 1), [], (⟨0, q68.1, q75.1, q82.1, q92.1, 0, 0⟩ : Mail)⟩ : Reply), q92.2) := by unfold replyRead; (repeat first | simp only [hq40, hq49, hq58, hq67, hq73, hq80, hq90, hq97] | rw [if_pos (by omega)] | rw [if_neg (by omega)]); all_goals first | rfl | (unfold sentRead; (repeat first | simp only [hq40, hq49, hq58, hq67, hq73, hq80, hq90, hq97] | rw [if_pos (by omega)] | rw [if_neg (by omega)]); all_goals rfl)
                    have e : replyOf f = ((⟨0, 0, 0, 0, false, [], (⟨0, [], [], [], [], 0, 0⟩ : Mail)⟩ : Reply), replyE (⟨f.channel, (f.kind - 64), q35.1, q44.1, decide (q53.1 = 1), [], (⟨0, q68.1, q75.1, q82.1, q92.1, 0, 0⟩ : Mail)⟩ : Reply)) := by
                      unfold replyOf
                      rw [if_neg hk]
                      simp only
                      rw [hr]
                      simp only
                      (repeat first | rw [if_pos (by omega)] | rw [if_neg (by omega)])
                      all_goals first | rfl | (simp [*]; done)
                    rw [e]
                    exact ⟨none, 0, rfl, slh_nil⟩
                  · have h108 := not_f h105
                    have p109 := dt h108
                    refine cw_skip ?_
                    refine seqK_n ?_
                    refine cw_seq ?_
                    refine cw_region ?_
                    refine ow1 (op1_l rfl (lo_loadA (i := 2) (vs := [_, _, _, _, _, _, _, _, _, _, _, _, _]) rfl ag32 sz32 rfl rfl rfl) ?_)
                    refine ow1 (op1_storeAn (i := 1) (vs := [_, _, _, _, _, _, _, _, _, _, _, _, _]) [_, _, _, _, _, _, _, _, _, _, _, _, _] rfl rfl rfl sz32 rfl rfl rfl rfl ?_)
                    refine ow1 (op1_l rfl (lo_assign (v := .int _ _) rfl) ?_)
                    refine ow_nil ?_
                    refine seqK_n ?_
                    refine cw_ret ?_
                    refine fnK_r (res2 rfl (rv_c (i := 1) (vs := [_, _, _, _, _, _, _, _, _, _, _, _, _]) rfl ag32 sz32 rfl rfl rfl) (rv_t (v := .int _ _) rfl)) ((HLe.refl _).trans hl86) ?_
                    have hk : ¬ (f.kind < 64 ∨ 71 < f.kind) := by omega
                    have hr : replyRead f.channel (f.kind - 64) ⟨f.body, 0⟩ = ((⟨f.channel, (f.kind - 64), q35.1, q44.1, decide (q53.1 = 1), [], (⟨0, q68.1, q75.1, q82.1, q92.1, 0, 0⟩ : Mail)⟩ : Reply), q92.2) := by unfold replyRead; (repeat first | simp only [hq40, hq49, hq58, hq67, hq73, hq80, hq90, hq97] | rw [if_pos (by omega)] | rw [if_neg (by omega)]); all_goals first | rfl | (unfold sentRead; (repeat first | simp only [hq40, hq49, hq58, hq67, hq73, hq80, hq90, hq97] | rw [if_pos (by omega)] | rw [if_neg (by omega)]); all_goals rfl)
                    have e : replyOf f = ((⟨f.channel, (f.kind - 64), q35.1, q44.1, decide (q53.1 = 1), [], (⟨0, q68.1, q75.1, q82.1, q92.1, 0, 0⟩ : Mail)⟩ : Reply), 0) := by
                      unfold replyOf
                      rw [if_neg hk]
                      simp only
                      rw [hr]
                      simp only
                      (repeat first | rw [if_pos (by omega)] | rw [if_neg (by omega)])
                      all_goals first | rfl | (simp [*]; done)
                    rw [e]
                    exact ⟨a83, c84, rfl, hs85⟩
                · have p110 := df h103
                  refine cw_skip ?_
                  refine seqK_n ?_
                  refine cw_seq ?_
                  refine cw_seq ?_
                  refine cw_region ?_
                  refine ow1 (op1_l rfl (lo_move (v := .int _ _) rfl) ?_)
                  refine ow1 (op1_l rfl (lo_neq rfl rfl) ?_)
                  refine ow_nil ?_
                  refine seqK_n ?_
                  refine cw_cond_t rfl (by rw [h103] <;> rfl) ?_
                  refine cw_seq ?_
                  refine cw_region ?_
                  refine ow1 (op1_l rfl (lo_build (v := .agg #[_, _, _, _, _, _, _, _, _, _, _, _, _]) rfl (bd32)) ?_)
                  refine ow1 (op1_l rfl (lo_move (v := .int _ _) rfl) ?_)
                  refine ow1 (op1_storeAn (i := 1) (vs := [_, _, _, _, _, _, _, _, _, _, _, _, _]) [_, _, _, _, _, _, _, _, _, _, _, _, _] rfl rfl rfl sz32 rfl rfl rfl rfl ?_)
                  refine ow1 (op1_l rfl (lo_assign (v := .int _ _) rfl) ?_)
                  refine ow_nil ?_
                  refine seqK_n ?_
                  refine cw_ret ?_
                  refine seqK_r ?_
                  refine fnK_r (res2 rfl (rv_c (i := 1) (vs := [_, _, _, _, _, _, _, _, _, _, _, _, _]) rfl ag32 sz32 rfl rfl rfl) (rv_t (v := .int _ _) rfl)) ((HLe.refl _).trans hl86) ?_
                  have hk : ¬ (f.kind < 64 ∨ 71 < f.kind) := by omega
                  have hr : replyRead f.channel (f.kind - 64) ⟨f.body, 0⟩ = ((⟨f.channel, (f.kind - 64), q35.1, q44.1, decide (q53.1 = 1), [], (⟨0, q68.1, q75.1, q82.1, q92.1, 0, 0⟩ : Mail)⟩ : Reply), q92.2) := by unfold replyRead; (repeat first | simp only [hq40, hq49, hq58, hq67, hq73, hq80, hq90, hq97] | rw [if_pos (by omega)] | rw [if_neg (by omega)]); all_goals first | rfl | (unfold sentRead; (repeat first | simp only [hq40, hq49, hq58, hq67, hq73, hq80, hq90, hq97] | rw [if_pos (by omega)] | rw [if_neg (by omega)]); all_goals rfl)
                  have e : replyOf f = ((⟨0, 0, 0, 0, false, [], (⟨0, [], [], [], [], 0, 0⟩ : Mail)⟩ : Reply), inEnd q92.2) := by
                    unfold replyOf
                    rw [if_neg hk]
                    simp only
                    rw [hr]
                    simp only
                    (repeat first | rw [if_pos (by omega)] | rw [if_neg (by omega)])
                    all_goals first | rfl | (simp [*]; done)
                  rw [e]
                  exact ⟨none, 0, rfl, slh_nil⟩
              · have p111 := df h60
                refine cw_skip ?_
                refine seqK_n ?_
                refine cw_seq ?_
                refine cw_region ?_
                refine ow1 (op1_l rfl (lo_move (v := .pointer (some ⟨_, _, none⟩)) rfl) ?_)
                refine ow1 (op1_pm 3 rfl (rin_Text _ b10 j56 q53.2 hj57 16 (by omega)) (en_f cb38 rfl) rfl ?_)
                rintro _ _ _ ⟨j115, rfl, rfl, rfl, hj116⟩ _
                generalize hq117 : inText q53.2 16 = q112 at hj116 ⊢
                have := hj116.err
                have := hj116.lo
                have := hj116.hi
                have := hj116.len
                have hf118 := inText_len q53.2 16
                simp only [hq117] at hf118
                refine ow1 (op1_l rfl (lo_fieldAddr rfl fl32_6) ?_)
                refine ow1 (op1_l rfl (lo_fieldAddr rfl fl25_1) ?_)
                refine ow1 (op1_store1n (i := 2) (v := str _) [_, _, _, _, _, _, _, _, _, _, _, _, _] rfl rfl rfl sz9 rfl rfl rfl ?_)
                refine ow_nil ?_
                refine seqK_n ?_
                refine cw_seq ?_
                refine cw_region ?_
                refine ow1 (op1_l rfl (lo_move (v := .pointer (some ⟨_, _, none⟩)) rfl) ?_)
                refine ow1 (op1_pm 3 rfl (rin_Text _ b10 j115 q112.2 hj116 64 (by omega)) (en_f cb38 rfl) rfl ?_)
                rintro _ _ _ ⟨j122, rfl, rfl, rfl, hj123⟩ _
                generalize hq124 : inText q112.2 64 = q119 at hj123 ⊢
                have := hj123.err
                have := hj123.lo
                have := hj123.hi
                have := hj123.len
                have hf125 := inText_len q112.2 64
                simp only [hq124] at hf125
                refine ow1 (op1_l rfl (lo_fieldAddr rfl fl32_6) ?_)
                refine ow1 (op1_l rfl (lo_fieldAddr rfl fl25_2) ?_)
                refine ow1 (op1_store1n (i := 2) (v := str _) [_, _, _, _, _, _, _, _, _, _, _, _, _] rfl rfl rfl sz9 rfl rfl rfl ?_)
                refine ow_nil ?_
                refine seqK_n ?_
                refine cw_seq ?_
                refine cw_region ?_
                refine ow1 (op1_l rfl (lo_move (v := .pointer (some ⟨_, _, none⟩)) rfl) ?_)
                refine ow1 (op1_pm 3 rfl (r9_Read _ b10 j122 q119.2 hj123) (en_f cb43 rfl) rfl ?_)
                rintro _ H131 _ ⟨a127, c128, j132, rfl, rfl, hs129, hj133⟩ hl130
                generalize hq134 : headRead q119.2 = q126 at hj133 hs129 ⊢
                have := hj133.err
                have := hj133.lo
                have := hj133.hi
                have := hj133.len
                have hf135 := headRead_len q119.2
                simp only [hq134] at hf135
                refine ow1 (op1_l rfl (lo_fieldAddr rfl fl32_6) ?_)
                refine ow1 (op1_l rfl (lo_fieldAddr rfl fl25_3) ?_)
                refine ow1 (op1_store1n (i := 2) (v := .slice _ _ _) [_, _, _, _, _, _, _, _, _, _, _, _, _] rfl rfl rfl sz23 rfl rfl rfl ?_)
                refine ow_nil ?_
                refine seqK_n ?_
                refine cw_region ?_
                refine ow1 (op1_l rfl (lo_move (v := .pointer (some ⟨_, _, none⟩)) rfl) ?_)
                refine ow1 (op1_pm 3 rfl (rin_Text _ b10 j132 q126.2 hj133 256 (by omega)) (en_f cb38 rfl) rfl ?_)
                rintro _ _ _ ⟨j139, rfl, rfl, rfl, hj140⟩ _
                generalize hq141 : inText q126.2 256 = q136 at hj140 ⊢
                have := hj140.err
                have := hj140.lo
                have := hj140.hi
                have := hj140.len
                have hf142 := inText_len q126.2 256
                simp only [hq141] at hf142
                refine ow1 (op1_l rfl (lo_fieldAddr rfl fl32_6) ?_)
                refine ow1 (op1_l rfl (lo_fieldAddr rfl fl25_4) ?_)
                refine ow1 (op1_store1n (i := 2) (v := str _) [_, _, _, _, _, _, _, _, _, _, _, _, _] rfl rfl rfl sz9 rfl rfl rfl ?_)
                refine ow_nil ?_
                refine seqK_n ?_
                refine cw_seq ?_
                refine cw_region ?_
                refine ow1 (op1_l rfl (lo_move (v := .pointer (some ⟨_, _, none⟩)) rfl) ?_)
                refine ow1 (op1_pm 3 rfl (rin_End _ b10 j139 q136.2 hj140) (en_f cb44 rfl) rfl ?_)
                rintro _ _ _ ⟨j145, rfl, rfl, rfl, hj146⟩ _
                have := hj146.err
                have := hj146.lo
                have := hj146.hi
                have := hj146.len
                refine ow1 (op1_l rfl (lo_assign (v := .int _ _) rfl) ?_)
                refine ow_nil ?_
                refine seqK_n ?_
                refine cw_seq ?_
                refine cw_seq ?_
                refine cw_region ?_
                refine ow1 (op1_l rfl (lo_move (v := .int _ _) rfl) ?_)
                refine ow1 (op1_l rfl (lo_eql rfl rfl) ?_)
                refine ow_nil ?_
                refine seqK_n ?_
                refine cw_cond rfl (fun h147 => ?_) (fun h147 => ?_)
                · have p148 := dt h147
                  refine cw_region ?_
                  refine ow1 (op1_l rfl (lo_loadA (i := 2) (vs := [_, _, _, _, _, _, _, _, _, _, _, _, _]) rfl ag32 sz32 rfl rfl rfl) ?_)
                  refine ow1 (op1_pr (r12_Check _ (⟨f.channel, (f.kind - 64), q35.1, q44.1, decide (q53.1 = 1), [], (⟨0, q112.1, q119.1, q126.1, q136.1, 0, 0⟩ : Mail)⟩ : Reply) a127 c128 hs129 (by simp only [Reply.wf, Mail.wf]; first | omega | (simp; done) | (simp; omega))) (en_f cb17 rfl) rfl ?_)
                  have hrl := replyE_len (⟨f.channel, (f.kind - 64), q35.1, q44.1, decide (q53.1 = 1), [], (⟨0, q112.1, q119.1, q126.1, q136.1, 0, 0⟩ : Mail)⟩ : Reply)
                  refine ow1 (op1_l rfl (lo_assign (v := .int _ _) rfl) ?_)
                  refine ow_nil ?_
                  refine seqK_n ?_
                  refine cw_seq ?_
                  refine cw_seq ?_
                  refine cw_region ?_
                  refine ow1 (op1_l rfl (lo_move (v := .int _ _) rfl) ?_)
                  refine ow1 (op1_l rfl (lo_neq rfl rfl) ?_)
                  refine ow_nil ?_
                  refine seqK_n ?_
                  refine cw_cond rfl (fun h149 => ?_) (fun h149 => ?_)
                  · have h150 := not_t h149
                    have p151 := df h150
                    refine cw_seq ?_
                    refine cw_region ?_
                    refine ow1 (op1_l rfl (lo_build (v := .agg #[_, _, _, _, _, _, _, _, _, _, _, _, _]) rfl (bd32)) ?_)
                    refine ow1 (op1_l rfl (lo_move (v := .int _ _) rfl) ?_)
                    refine ow1 (op1_storeAn (i := 1) (vs := [_, _, _, _, _, _, _, _, _, _, _, _, _]) [_, _, _, _, _, _, _, _, _, _, _, _, _] rfl rfl rfl sz32 rfl rfl rfl rfl ?_)
                    refine ow1 (op1_l rfl (lo_assign (v := .int _ _) rfl) ?_)
                    refine ow_nil ?_
                    refine seqK_n ?_
                    refine cw_ret ?_
                    refine seqK_r ?_
                    refine fnK_r (res2 rfl (rv_c (i := 1) (vs := [_, _, _, _, _, _, _, _, _, _, _, _, _]) rfl ag32 sz32 rfl rfl rfl) (rv_t (v := .int _ _) rfl)) ((HLe.refl _).trans hl130) ?_
                    have hk : ¬ (f.kind < 64 ∨ 71 < f.kind) := by omega
                    have hr : replyRead f.channel (f.kind - 64) ⟨f.body, 0⟩ = ((⟨f.channel, (f.kind - 64), q35.1, q44.1, decide (q53.1 = 1), [], (⟨0, q112.1, q119.1, q126.1, q136.1, 0, 0⟩ : Mail)⟩ : Reply), q136.2) := by unfold replyRead; (repeat first | simp only [hq40, hq49, hq58, hq117, hq124, hq134, hq141] | rw [if_pos (by omega)] | rw [if_neg (by omega)]); all_goals first | rfl | (unfold sentRead; (repeat first | simp only [hq40, hq49, hq58, hq117, hq124, hq134, hq141] | rw [if_pos (by omega)] | rw [if_neg (by omega)]); all_goals rfl)
                    have e : replyOf f = ((⟨0, 0, 0, 0, false, [], (⟨0, [], [], [], [], 0, 0⟩ : Mail)⟩ : Reply), replyE (⟨f.channel, (f.kind - 64), q35.1, q44.1, decide (q53.1 = 1), [], (⟨0, q112.1, q119.1, q126.1, q136.1, 0, 0⟩ : Mail)⟩ : Reply)) := by
                      unfold replyOf
                      rw [if_neg hk]
                      simp only
                      rw [hr]
                      simp only
                      (repeat first | rw [if_pos (by omega)] | rw [if_neg (by omega)])
                      all_goals first | rfl | (simp [*]; done)
                    rw [e]
                    exact ⟨none, 0, rfl, slh_nil⟩
                  · have h152 := not_f h149
                    have p153 := dt h152
                    refine cw_skip ?_
                    refine seqK_n ?_
                    refine cw_seq ?_
                    refine cw_region ?_
                    refine ow1 (op1_l rfl (lo_loadA (i := 2) (vs := [_, _, _, _, _, _, _, _, _, _, _, _, _]) rfl ag32 sz32 rfl rfl rfl) ?_)
                    refine ow1 (op1_storeAn (i := 1) (vs := [_, _, _, _, _, _, _, _, _, _, _, _, _]) [_, _, _, _, _, _, _, _, _, _, _, _, _] rfl rfl rfl sz32 rfl rfl rfl rfl ?_)
                    refine ow1 (op1_l rfl (lo_assign (v := .int _ _) rfl) ?_)
                    refine ow_nil ?_
                    refine seqK_n ?_
                    refine cw_ret ?_
                    refine fnK_r (res2 rfl (rv_c (i := 1) (vs := [_, _, _, _, _, _, _, _, _, _, _, _, _]) rfl ag32 sz32 rfl rfl rfl) (rv_t (v := .int _ _) rfl)) ((HLe.refl _).trans hl130) ?_
                    have hk : ¬ (f.kind < 64 ∨ 71 < f.kind) := by omega
                    have hr : replyRead f.channel (f.kind - 64) ⟨f.body, 0⟩ = ((⟨f.channel, (f.kind - 64), q35.1, q44.1, decide (q53.1 = 1), [], (⟨0, q112.1, q119.1, q126.1, q136.1, 0, 0⟩ : Mail)⟩ : Reply), q136.2) := by unfold replyRead; (repeat first | simp only [hq40, hq49, hq58, hq117, hq124, hq134, hq141] | rw [if_pos (by omega)] | rw [if_neg (by omega)]); all_goals first | rfl | (unfold sentRead; (repeat first | simp only [hq40, hq49, hq58, hq117, hq124, hq134, hq141] | rw [if_pos (by omega)] | rw [if_neg (by omega)]); all_goals rfl)
                    have e : replyOf f = ((⟨f.channel, (f.kind - 64), q35.1, q44.1, decide (q53.1 = 1), [], (⟨0, q112.1, q119.1, q126.1, q136.1, 0, 0⟩ : Mail)⟩ : Reply), 0) := by
                      unfold replyOf
                      rw [if_neg hk]
                      simp only
                      rw [hr]
                      simp only
                      (repeat first | rw [if_pos (by omega)] | rw [if_neg (by omega)])
                      all_goals first | rfl | (simp [*]; done)
                    rw [e]
                    exact ⟨a127, c128, rfl, hs129⟩
                · have p154 := df h147
                  refine cw_skip ?_
                  refine seqK_n ?_
                  refine cw_seq ?_
                  refine cw_seq ?_
                  refine cw_region ?_
                  refine ow1 (op1_l rfl (lo_move (v := .int _ _) rfl) ?_)
                  refine ow1 (op1_l rfl (lo_neq rfl rfl) ?_)
                  refine ow_nil ?_
                  refine seqK_n ?_
                  refine cw_cond_t rfl (by rw [h147] <;> rfl) ?_
                  refine cw_seq ?_
                  refine cw_region ?_
                  refine ow1 (op1_l rfl (lo_build (v := .agg #[_, _, _, _, _, _, _, _, _, _, _, _, _]) rfl (bd32)) ?_)
                  refine ow1 (op1_l rfl (lo_move (v := .int _ _) rfl) ?_)
                  refine ow1 (op1_storeAn (i := 1) (vs := [_, _, _, _, _, _, _, _, _, _, _, _, _]) [_, _, _, _, _, _, _, _, _, _, _, _, _] rfl rfl rfl sz32 rfl rfl rfl rfl ?_)
                  refine ow1 (op1_l rfl (lo_assign (v := .int _ _) rfl) ?_)
                  refine ow_nil ?_
                  refine seqK_n ?_
                  refine cw_ret ?_
                  refine seqK_r ?_
                  refine fnK_r (res2 rfl (rv_c (i := 1) (vs := [_, _, _, _, _, _, _, _, _, _, _, _, _]) rfl ag32 sz32 rfl rfl rfl) (rv_t (v := .int _ _) rfl)) ((HLe.refl _).trans hl130) ?_
                  have hk : ¬ (f.kind < 64 ∨ 71 < f.kind) := by omega
                  have hr : replyRead f.channel (f.kind - 64) ⟨f.body, 0⟩ = ((⟨f.channel, (f.kind - 64), q35.1, q44.1, decide (q53.1 = 1), [], (⟨0, q112.1, q119.1, q126.1, q136.1, 0, 0⟩ : Mail)⟩ : Reply), q136.2) := by unfold replyRead; (repeat first | simp only [hq40, hq49, hq58, hq117, hq124, hq134, hq141] | rw [if_pos (by omega)] | rw [if_neg (by omega)]); all_goals first | rfl | (unfold sentRead; (repeat first | simp only [hq40, hq49, hq58, hq117, hq124, hq134, hq141] | rw [if_pos (by omega)] | rw [if_neg (by omega)]); all_goals rfl)
                  have e : replyOf f = ((⟨0, 0, 0, 0, false, [], (⟨0, [], [], [], [], 0, 0⟩ : Mail)⟩ : Reply), inEnd q136.2) := by
                    unfold replyOf
                    rw [if_neg hk]
                    simp only
                    rw [hr]
                    simp only
                    (repeat first | rw [if_pos (by omega)] | rw [if_neg (by omega)])
                    all_goals first | rfl | (simp [*]; done)
                  rw [e]
                  exact ⟨none, 0, rfl, slh_nil⟩
            · have p155 := df h51
              refine cw_skip ?_
              refine seqK_n ?_
              refine cw_seq ?_
              refine cw_region ?_
              refine ow1 (op1_l rfl (lo_move (v := .pointer (some ⟨_, _, none⟩)) rfl) ?_)
              refine ow1 (op1_pm 3 rfl (rin_End _ b10 j47 q44.2 hj48) (en_f cb44 rfl) rfl ?_)
              rintro _ _ _ ⟨j158, rfl, rfl, rfl, hj159⟩ _
              have := hj159.err
              have := hj159.lo
              have := hj159.hi
              have := hj159.len
              refine ow1 (op1_l rfl (lo_assign (v := .int _ _) rfl) ?_)
              refine ow_nil ?_
              refine seqK_n ?_
              refine cw_seq ?_
              refine cw_seq ?_
              refine cw_region ?_
              refine ow1 (op1_l rfl (lo_move (v := .int _ _) rfl) ?_)
              refine ow1 (op1_l rfl (lo_eql rfl rfl) ?_)
              refine ow_nil ?_
              refine seqK_n ?_
              refine cw_cond rfl (fun h160 => ?_) (fun h160 => ?_)
              · have p161 := dt h160
                refine cw_region ?_
                refine ow1 (op1_l rfl (lo_loadA (i := 2) (vs := [_, _, _, _, _, _, _, _, _, _, _, _, _]) rfl ag32 sz32 rfl rfl rfl) ?_)
                refine ow1 (op1_pr (r12_Check _ (⟨f.channel, (f.kind - 64), q35.1, q44.1, false, [], (⟨0, [], [], [], [], 0, 0⟩ : Mail)⟩ : Reply) none 0 slh_nil (by simp only [Reply.wf, Mail.wf]; first | omega | (simp; done) | (simp; omega))) (en_f cb17 rfl) rfl ?_)
                have hrl := replyE_len (⟨f.channel, (f.kind - 64), q35.1, q44.1, false, [], (⟨0, [], [], [], [], 0, 0⟩ : Mail)⟩ : Reply)
                refine ow1 (op1_l rfl (lo_assign (v := .int _ _) rfl) ?_)
                refine ow_nil ?_
                refine seqK_n ?_
                refine cw_seq ?_
                refine cw_seq ?_
                refine cw_region ?_
                refine ow1 (op1_l rfl (lo_move (v := .int _ _) rfl) ?_)
                refine ow1 (op1_l rfl (lo_neq rfl rfl) ?_)
                refine ow_nil ?_
                refine seqK_n ?_
                refine cw_cond rfl (fun h162 => ?_) (fun h162 => ?_)
                · have h163 := not_t h162
                  have p164 := df h163
                  refine cw_seq ?_
                  refine cw_region ?_
                  refine ow1 (op1_l rfl (lo_build (v := .agg #[_, _, _, _, _, _, _, _, _, _, _, _, _]) rfl (bd32)) ?_)
                  refine ow1 (op1_l rfl (lo_move (v := .int _ _) rfl) ?_)
                  refine ow1 (op1_storeAn (i := 1) (vs := [_, _, _, _, _, _, _, _, _, _, _, _, _]) [_, _, _, _, _, _, _, _, _, _, _, _, _] rfl rfl rfl sz32 rfl rfl rfl rfl ?_)
                  refine ow1 (op1_l rfl (lo_assign (v := .int _ _) rfl) ?_)
                  refine ow_nil ?_
                  refine seqK_n ?_
                  refine cw_ret ?_
                  refine seqK_r ?_
                  refine fnK_r (res2 rfl (rv_c (i := 1) (vs := [_, _, _, _, _, _, _, _, _, _, _, _, _]) rfl ag32 sz32 rfl rfl rfl) (rv_t (v := .int _ _) rfl)) (.refl _) ?_
                  have hk : ¬ (f.kind < 64 ∨ 71 < f.kind) := by omega
                  have hr : replyRead f.channel (f.kind - 64) ⟨f.body, 0⟩ = ((⟨f.channel, (f.kind - 64), q35.1, q44.1, false, [], (⟨0, [], [], [], [], 0, 0⟩ : Mail)⟩ : Reply), q44.2) := by unfold replyRead; (repeat first | simp only [hq40, hq49] | rw [if_pos (by omega)] | rw [if_neg (by omega)]); all_goals first | rfl | (unfold sentRead; (repeat first | simp only [hq40, hq49] | rw [if_pos (by omega)] | rw [if_neg (by omega)]); all_goals rfl)
                  have e : replyOf f = ((⟨0, 0, 0, 0, false, [], (⟨0, [], [], [], [], 0, 0⟩ : Mail)⟩ : Reply), replyE (⟨f.channel, (f.kind - 64), q35.1, q44.1, false, [], (⟨0, [], [], [], [], 0, 0⟩ : Mail)⟩ : Reply)) := by
                    unfold replyOf
                    rw [if_neg hk]
                    simp only
                    rw [hr]
                    simp only
                    (repeat first | rw [if_pos (by omega)] | rw [if_neg (by omega)])
                    all_goals first | rfl | (simp [*]; done)
                  rw [e]
                  exact ⟨none, 0, rfl, slh_nil⟩
                · have h165 := not_f h162
                  have p166 := dt h165
                  refine cw_skip ?_
                  refine seqK_n ?_
                  refine cw_seq ?_
                  refine cw_region ?_
                  refine ow1 (op1_l rfl (lo_loadA (i := 2) (vs := [_, _, _, _, _, _, _, _, _, _, _, _, _]) rfl ag32 sz32 rfl rfl rfl) ?_)
                  refine ow1 (op1_storeAn (i := 1) (vs := [_, _, _, _, _, _, _, _, _, _, _, _, _]) [_, _, _, _, _, _, _, _, _, _, _, _, _] rfl rfl rfl sz32 rfl rfl rfl rfl ?_)
                  refine ow1 (op1_l rfl (lo_assign (v := .int _ _) rfl) ?_)
                  refine ow_nil ?_
                  refine seqK_n ?_
                  refine cw_ret ?_
                  refine fnK_r (res2 rfl (rv_c (i := 1) (vs := [_, _, _, _, _, _, _, _, _, _, _, _, _]) rfl ag32 sz32 rfl rfl rfl) (rv_t (v := .int _ _) rfl)) (.refl _) ?_
                  have hk : ¬ (f.kind < 64 ∨ 71 < f.kind) := by omega
                  have hr : replyRead f.channel (f.kind - 64) ⟨f.body, 0⟩ = ((⟨f.channel, (f.kind - 64), q35.1, q44.1, false, [], (⟨0, [], [], [], [], 0, 0⟩ : Mail)⟩ : Reply), q44.2) := by unfold replyRead; (repeat first | simp only [hq40, hq49] | rw [if_pos (by omega)] | rw [if_neg (by omega)]); all_goals first | rfl | (unfold sentRead; (repeat first | simp only [hq40, hq49] | rw [if_pos (by omega)] | rw [if_neg (by omega)]); all_goals rfl)
                  have e : replyOf f = ((⟨f.channel, (f.kind - 64), q35.1, q44.1, false, [], (⟨0, [], [], [], [], 0, 0⟩ : Mail)⟩ : Reply), 0) := by
                    unfold replyOf
                    rw [if_neg hk]
                    simp only
                    rw [hr]
                    simp only
                    (repeat first | rw [if_pos (by omega)] | rw [if_neg (by omega)])
                    all_goals first | rfl | (simp [*]; done)
                  rw [e]
                  exact ⟨none, 0, rfl, slh_nil⟩
              · have p167 := df h160
                refine cw_skip ?_
                refine seqK_n ?_
                refine cw_seq ?_
                refine cw_seq ?_
                refine cw_region ?_
                refine ow1 (op1_l rfl (lo_move (v := .int _ _) rfl) ?_)
                refine ow1 (op1_l rfl (lo_neq rfl rfl) ?_)
                refine ow_nil ?_
                refine seqK_n ?_
                refine cw_cond_t rfl (by rw [h160] <;> rfl) ?_
                refine cw_seq ?_
                refine cw_region ?_
                refine ow1 (op1_l rfl (lo_build (v := .agg #[_, _, _, _, _, _, _, _, _, _, _, _, _]) rfl (bd32)) ?_)
                refine ow1 (op1_l rfl (lo_move (v := .int _ _) rfl) ?_)
                refine ow1 (op1_storeAn (i := 1) (vs := [_, _, _, _, _, _, _, _, _, _, _, _, _]) [_, _, _, _, _, _, _, _, _, _, _, _, _] rfl rfl rfl sz32 rfl rfl rfl rfl ?_)
                refine ow1 (op1_l rfl (lo_assign (v := .int _ _) rfl) ?_)
                refine ow_nil ?_
                refine seqK_n ?_
                refine cw_ret ?_
                refine seqK_r ?_
                refine fnK_r (res2 rfl (rv_c (i := 1) (vs := [_, _, _, _, _, _, _, _, _, _, _, _, _]) rfl ag32 sz32 rfl rfl rfl) (rv_t (v := .int _ _) rfl)) (.refl _) ?_
                have hk : ¬ (f.kind < 64 ∨ 71 < f.kind) := by omega
                have hr : replyRead f.channel (f.kind - 64) ⟨f.body, 0⟩ = ((⟨f.channel, (f.kind - 64), q35.1, q44.1, false, [], (⟨0, [], [], [], [], 0, 0⟩ : Mail)⟩ : Reply), q44.2) := by unfold replyRead; (repeat first | simp only [hq40, hq49] | rw [if_pos (by omega)] | rw [if_neg (by omega)]); all_goals first | rfl | (unfold sentRead; (repeat first | simp only [hq40, hq49] | rw [if_pos (by omega)] | rw [if_neg (by omega)]); all_goals rfl)
                have e : replyOf f = ((⟨0, 0, 0, 0, false, [], (⟨0, [], [], [], [], 0, 0⟩ : Mail)⟩ : Reply), inEnd q44.2) := by
                  unfold replyOf
                  rw [if_neg hk]
                  simp only
                  rw [hr]
                  simp only
                  (repeat first | rw [if_pos (by omega)] | rw [if_neg (by omega)])
                  all_goals first | rfl | (simp [*]; done)
                rw [e]
                exact ⟨none, 0, rfl, slh_nil⟩
          · have p168 := df h42
            refine cw_skip ?_
            refine seqK_n ?_
            refine cw_seq ?_
            refine cw_seq ?_
            refine cw_region ?_
            refine ow1 (op1_l rfl (lo_fieldAddr rfl fl32_1) ?_)
            refine ow1 (op1_l rfl (lo_load1 (i := 2) (v := .int _ _) rfl ag5 rfl rfl) ?_)
            refine ow1 (op1_l rfl (lo_eql rfl rfl) ?_)
            refine ow_nil ?_
            refine seqK_n ?_
            refine cw_cond_f rfl (fd (by omega)) ?_
            refine cw_skip ?_
            refine seqK_n ?_
            refine cw_seq ?_
            refine cw_region ?_
            refine ow1 (op1_l rfl (lo_move (v := .pointer (some ⟨_, _, none⟩)) rfl) ?_)
            refine ow1 (op1_pm 3 rfl (rin_End _ b10 j38 q35.2 hj39) (en_f cb44 rfl) rfl ?_)
            rintro _ _ _ ⟨j171, rfl, rfl, rfl, hj172⟩ _
            have := hj172.err
            have := hj172.lo
            have := hj172.hi
            have := hj172.len
            refine ow1 (op1_l rfl (lo_assign (v := .int _ _) rfl) ?_)
            refine ow_nil ?_
            refine seqK_n ?_
            refine cw_seq ?_
            refine cw_seq ?_
            refine cw_region ?_
            refine ow1 (op1_l rfl (lo_move (v := .int _ _) rfl) ?_)
            refine ow1 (op1_l rfl (lo_eql rfl rfl) ?_)
            refine ow_nil ?_
            refine seqK_n ?_
            refine cw_cond rfl (fun h173 => ?_) (fun h173 => ?_)
            · have p174 := dt h173
              refine cw_region ?_
              refine ow1 (op1_l rfl (lo_loadA (i := 2) (vs := [_, _, _, _, _, _, _, _, _, _, _, _, _]) rfl ag32 sz32 rfl rfl rfl) ?_)
              refine ow1 (op1_pr (r12_Check _ (⟨f.channel, (f.kind - 64), q35.1, 0, false, [], (⟨0, [], [], [], [], 0, 0⟩ : Mail)⟩ : Reply) none 0 slh_nil (by simp only [Reply.wf, Mail.wf]; first | omega | (simp; done) | (simp; omega))) (en_f cb17 rfl) rfl ?_)
              have hrl := replyE_len (⟨f.channel, (f.kind - 64), q35.1, 0, false, [], (⟨0, [], [], [], [], 0, 0⟩ : Mail)⟩ : Reply)
              refine ow1 (op1_l rfl (lo_assign (v := .int _ _) rfl) ?_)
              refine ow_nil ?_
              refine seqK_n ?_
              refine cw_seq ?_
              refine cw_seq ?_
              refine cw_region ?_
              refine ow1 (op1_l rfl (lo_move (v := .int _ _) rfl) ?_)
              refine ow1 (op1_l rfl (lo_neq rfl rfl) ?_)
              refine ow_nil ?_
              refine seqK_n ?_
              refine cw_cond rfl (fun h175 => ?_) (fun h175 => ?_)
              · have h176 := not_t h175
                have p177 := df h176
                refine cw_seq ?_
                refine cw_region ?_
                refine ow1 (op1_l rfl (lo_build (v := .agg #[_, _, _, _, _, _, _, _, _, _, _, _, _]) rfl (bd32)) ?_)
                refine ow1 (op1_l rfl (lo_move (v := .int _ _) rfl) ?_)
                refine ow1 (op1_storeAn (i := 1) (vs := [_, _, _, _, _, _, _, _, _, _, _, _, _]) [_, _, _, _, _, _, _, _, _, _, _, _, _] rfl rfl rfl sz32 rfl rfl rfl rfl ?_)
                refine ow1 (op1_l rfl (lo_assign (v := .int _ _) rfl) ?_)
                refine ow_nil ?_
                refine seqK_n ?_
                refine cw_ret ?_
                refine seqK_r ?_
                refine fnK_r (res2 rfl (rv_c (i := 1) (vs := [_, _, _, _, _, _, _, _, _, _, _, _, _]) rfl ag32 sz32 rfl rfl rfl) (rv_t (v := .int _ _) rfl)) (.refl _) ?_
                have hk : ¬ (f.kind < 64 ∨ 71 < f.kind) := by omega
                have hr : replyRead f.channel (f.kind - 64) ⟨f.body, 0⟩ = ((⟨f.channel, (f.kind - 64), q35.1, 0, false, [], (⟨0, [], [], [], [], 0, 0⟩ : Mail)⟩ : Reply), q35.2) := by unfold replyRead; (repeat first | simp only [hq40] | rw [if_pos (by omega)] | rw [if_neg (by omega)]); all_goals first | rfl | (unfold sentRead; (repeat first | simp only [hq40] | rw [if_pos (by omega)] | rw [if_neg (by omega)]); all_goals rfl)
                have e : replyOf f = ((⟨0, 0, 0, 0, false, [], (⟨0, [], [], [], [], 0, 0⟩ : Mail)⟩ : Reply), replyE (⟨f.channel, (f.kind - 64), q35.1, 0, false, [], (⟨0, [], [], [], [], 0, 0⟩ : Mail)⟩ : Reply)) := by
                  unfold replyOf
                  rw [if_neg hk]
                  simp only
                  rw [hr]
                  simp only
                  (repeat first | rw [if_pos (by omega)] | rw [if_neg (by omega)])
                  all_goals first | rfl | (simp [*]; done)
                rw [e]
                exact ⟨none, 0, rfl, slh_nil⟩
              · have h178 := not_f h175
                have p179 := dt h178
                refine cw_skip ?_
                refine seqK_n ?_
                refine cw_seq ?_
                refine cw_region ?_
                refine ow1 (op1_l rfl (lo_loadA (i := 2) (vs := [_, _, _, _, _, _, _, _, _, _, _, _, _]) rfl ag32 sz32 rfl rfl rfl) ?_)
                refine ow1 (op1_storeAn (i := 1) (vs := [_, _, _, _, _, _, _, _, _, _, _, _, _]) [_, _, _, _, _, _, _, _, _, _, _, _, _] rfl rfl rfl sz32 rfl rfl rfl rfl ?_)
                refine ow1 (op1_l rfl (lo_assign (v := .int _ _) rfl) ?_)
                refine ow_nil ?_
                refine seqK_n ?_
                refine cw_ret ?_
                refine fnK_r (res2 rfl (rv_c (i := 1) (vs := [_, _, _, _, _, _, _, _, _, _, _, _, _]) rfl ag32 sz32 rfl rfl rfl) (rv_t (v := .int _ _) rfl)) (.refl _) ?_
                have hk : ¬ (f.kind < 64 ∨ 71 < f.kind) := by omega
                have hr : replyRead f.channel (f.kind - 64) ⟨f.body, 0⟩ = ((⟨f.channel, (f.kind - 64), q35.1, 0, false, [], (⟨0, [], [], [], [], 0, 0⟩ : Mail)⟩ : Reply), q35.2) := by unfold replyRead; (repeat first | simp only [hq40] | rw [if_pos (by omega)] | rw [if_neg (by omega)]); all_goals first | rfl | (unfold sentRead; (repeat first | simp only [hq40] | rw [if_pos (by omega)] | rw [if_neg (by omega)]); all_goals rfl)
                have e : replyOf f = ((⟨f.channel, (f.kind - 64), q35.1, 0, false, [], (⟨0, [], [], [], [], 0, 0⟩ : Mail)⟩ : Reply), 0) := by
                  unfold replyOf
                  rw [if_neg hk]
                  simp only
                  rw [hr]
                  simp only
                  (repeat first | rw [if_pos (by omega)] | rw [if_neg (by omega)])
                  all_goals first | rfl | (simp [*]; done)
                rw [e]
                exact ⟨none, 0, rfl, slh_nil⟩
            · have p180 := df h173
              refine cw_skip ?_
              refine seqK_n ?_
              refine cw_seq ?_
              refine cw_seq ?_
              refine cw_region ?_
              refine ow1 (op1_l rfl (lo_move (v := .int _ _) rfl) ?_)
              refine ow1 (op1_l rfl (lo_neq rfl rfl) ?_)
              refine ow_nil ?_
              refine seqK_n ?_
              refine cw_cond_t rfl (by rw [h173] <;> rfl) ?_
              refine cw_seq ?_
              refine cw_region ?_
              refine ow1 (op1_l rfl (lo_build (v := .agg #[_, _, _, _, _, _, _, _, _, _, _, _, _]) rfl (bd32)) ?_)
              refine ow1 (op1_l rfl (lo_move (v := .int _ _) rfl) ?_)
              refine ow1 (op1_storeAn (i := 1) (vs := [_, _, _, _, _, _, _, _, _, _, _, _, _]) [_, _, _, _, _, _, _, _, _, _, _, _, _] rfl rfl rfl sz32 rfl rfl rfl rfl ?_)
              refine ow1 (op1_l rfl (lo_assign (v := .int _ _) rfl) ?_)
              refine ow_nil ?_
              refine seqK_n ?_
              refine cw_ret ?_
              refine seqK_r ?_
              refine fnK_r (res2 rfl (rv_c (i := 1) (vs := [_, _, _, _, _, _, _, _, _, _, _, _, _]) rfl ag32 sz32 rfl rfl rfl) (rv_t (v := .int _ _) rfl)) (.refl _) ?_
              have hk : ¬ (f.kind < 64 ∨ 71 < f.kind) := by omega
              have hr : replyRead f.channel (f.kind - 64) ⟨f.body, 0⟩ = ((⟨f.channel, (f.kind - 64), q35.1, 0, false, [], (⟨0, [], [], [], [], 0, 0⟩ : Mail)⟩ : Reply), q35.2) := by unfold replyRead; (repeat first | simp only [hq40] | rw [if_pos (by omega)] | rw [if_neg (by omega)]); all_goals first | rfl | (unfold sentRead; (repeat first | simp only [hq40] | rw [if_pos (by omega)] | rw [if_neg (by omega)]); all_goals rfl)
              have e : replyOf f = ((⟨0, 0, 0, 0, false, [], (⟨0, [], [], [], [], 0, 0⟩ : Mail)⟩ : Reply), inEnd q35.2) := by
                unfold replyOf
                rw [if_neg hk]
                simp only
                rw [hr]
                simp only
                (repeat first | rw [if_pos (by omega)] | rw [if_neg (by omega)])
                all_goals first | rfl | (simp [*]; done)
              rw [e]
              exact ⟨none, 0, rfl, slh_nil⟩
        · have p181 := df h33
          refine cw_skip ?_
          refine seqK_n ?_
          refine cw_seq ?_
          refine cw_seq ?_
          refine cw_region ?_
          refine ow1 (op1_l rfl (lo_fieldAddr rfl fl32_1) ?_)
          refine ow1 (op1_l rfl (lo_load1 (i := 2) (v := .int _ _) rfl ag5 rfl rfl) ?_)
          refine ow1 (op1_pr (r12_tellsM _ (f.kind - 64) (by omega)) (en_f cb41 rfl) rfl ?_)
          refine ow_nil ?_
          refine seqK_n ?_
          refine cw_cond_f rfl (fd (by omega)) ?_
          refine cw_skip ?_
          refine seqK_n ?_
          refine cw_seq ?_
          refine cw_seq ?_
          refine cw_region ?_
          refine ow1 (op1_l rfl (lo_fieldAddr rfl fl32_1) ?_)
          refine ow1 (op1_l rfl (lo_load1 (i := 2) (v := .int _ _) rfl ag5 rfl rfl) ?_)
          refine ow1 (op1_l rfl (lo_eql rfl rfl) ?_)
          refine ow_nil ?_
          refine seqK_n ?_
          refine cw_cond_f rfl (fd (by omega)) ?_
          refine cw_skip ?_
          refine seqK_n ?_
          refine cw_seq ?_
          refine cw_region ?_
          refine ow1 (op1_l rfl (lo_move (v := .pointer (some ⟨_, _, none⟩)) rfl) ?_)
          refine ow1 (op1_pm 3 rfl (rin_End _ b10 (⟨f.body, 0, 0⟩ : RIn) (⟨f.body, 0⟩ : In) (RSt.new _ (by omega))) (en_f cb44 rfl) rfl ?_)
          rintro _ _ _ ⟨j184, rfl, rfl, rfl, hj185⟩ _
          have := hj185.err
          have := hj185.lo
          have := hj185.hi
          have := hj185.len
          refine ow1 (op1_l rfl (lo_assign (v := .int _ _) rfl) ?_)
          refine ow_nil ?_
          refine seqK_n ?_
          refine cw_seq ?_
          refine cw_seq ?_
          refine cw_region ?_
          refine ow1 (op1_l rfl (lo_move (v := .int _ _) rfl) ?_)
          refine ow1 (op1_l rfl (lo_eql rfl rfl) ?_)
          refine ow_nil ?_
          refine seqK_n ?_
          refine cw_cond rfl (fun h186 => ?_) (fun h186 => ?_)
          · have p187 := dt h186
            refine cw_region ?_
            refine ow1 (op1_l rfl (lo_loadA (i := 2) (vs := [_, _, _, _, _, _, _, _, _, _, _, _, _]) rfl ag32 sz32 rfl rfl rfl) ?_)
            refine ow1 (op1_pr (r12_Check _ (⟨f.channel, (f.kind - 64), 0, 0, false, [], (⟨0, [], [], [], [], 0, 0⟩ : Mail)⟩ : Reply) none 0 slh_nil (by simp only [Reply.wf, Mail.wf]; first | omega | (simp; done) | (simp; omega))) (en_f cb17 rfl) rfl ?_)
            have hrl := replyE_len (⟨f.channel, (f.kind - 64), 0, 0, false, [], (⟨0, [], [], [], [], 0, 0⟩ : Mail)⟩ : Reply)
            refine ow1 (op1_l rfl (lo_assign (v := .int _ _) rfl) ?_)
            refine ow_nil ?_
            refine seqK_n ?_
            refine cw_seq ?_
            refine cw_seq ?_
            refine cw_region ?_
            refine ow1 (op1_l rfl (lo_move (v := .int _ _) rfl) ?_)
            refine ow1 (op1_l rfl (lo_neq rfl rfl) ?_)
            refine ow_nil ?_
            refine seqK_n ?_
            refine cw_cond rfl (fun h188 => ?_) (fun h188 => ?_)
            · have h189 := not_t h188
              have p190 := df h189
              refine cw_seq ?_
              refine cw_region ?_
              refine ow1 (op1_l rfl (lo_build (v := .agg #[_, _, _, _, _, _, _, _, _, _, _, _, _]) rfl (bd32)) ?_)
              refine ow1 (op1_l rfl (lo_move (v := .int _ _) rfl) ?_)
              refine ow1 (op1_storeAn (i := 1) (vs := [_, _, _, _, _, _, _, _, _, _, _, _, _]) [_, _, _, _, _, _, _, _, _, _, _, _, _] rfl rfl rfl sz32 rfl rfl rfl rfl ?_)
              refine ow1 (op1_l rfl (lo_assign (v := .int _ _) rfl) ?_)
              refine ow_nil ?_
              refine seqK_n ?_
              refine cw_ret ?_
              refine seqK_r ?_
              refine fnK_r (res2 rfl (rv_c (i := 1) (vs := [_, _, _, _, _, _, _, _, _, _, _, _, _]) rfl ag32 sz32 rfl rfl rfl) (rv_t (v := .int _ _) rfl)) (.refl _) ?_
              have hk : ¬ (f.kind < 64 ∨ 71 < f.kind) := by omega
              have hr : replyRead f.channel (f.kind - 64) ⟨f.body, 0⟩ = ((⟨f.channel, (f.kind - 64), 0, 0, false, [], (⟨0, [], [], [], [], 0, 0⟩ : Mail)⟩ : Reply), (⟨f.body, 0⟩ : In)) := by unfold replyRead; (repeat first | rw [if_pos (by omega)] | rw [if_neg (by omega)]); all_goals first | rfl | (unfold sentRead; (repeat first | rw [if_pos (by omega)] | rw [if_neg (by omega)]); all_goals rfl)
              have e : replyOf f = ((⟨0, 0, 0, 0, false, [], (⟨0, [], [], [], [], 0, 0⟩ : Mail)⟩ : Reply), replyE (⟨f.channel, (f.kind - 64), 0, 0, false, [], (⟨0, [], [], [], [], 0, 0⟩ : Mail)⟩ : Reply)) := by
                unfold replyOf
                rw [if_neg hk]
                simp only
                rw [hr]
                simp only
                (repeat first | rw [if_pos (by omega)] | rw [if_neg (by omega)])
                all_goals first | rfl | (simp [*]; done)
              rw [e]
              exact ⟨none, 0, rfl, slh_nil⟩
            · have h191 := not_f h188
              have p192 := dt h191
              refine cw_skip ?_
              refine seqK_n ?_
              refine cw_seq ?_
              refine cw_region ?_
              refine ow1 (op1_l rfl (lo_loadA (i := 2) (vs := [_, _, _, _, _, _, _, _, _, _, _, _, _]) rfl ag32 sz32 rfl rfl rfl) ?_)
              refine ow1 (op1_storeAn (i := 1) (vs := [_, _, _, _, _, _, _, _, _, _, _, _, _]) [_, _, _, _, _, _, _, _, _, _, _, _, _] rfl rfl rfl sz32 rfl rfl rfl rfl ?_)
              refine ow1 (op1_l rfl (lo_assign (v := .int _ _) rfl) ?_)
              refine ow_nil ?_
              refine seqK_n ?_
              refine cw_ret ?_
              refine fnK_r (res2 rfl (rv_c (i := 1) (vs := [_, _, _, _, _, _, _, _, _, _, _, _, _]) rfl ag32 sz32 rfl rfl rfl) (rv_t (v := .int _ _) rfl)) (.refl _) ?_
              have hk : ¬ (f.kind < 64 ∨ 71 < f.kind) := by omega
              have hr : replyRead f.channel (f.kind - 64) ⟨f.body, 0⟩ = ((⟨f.channel, (f.kind - 64), 0, 0, false, [], (⟨0, [], [], [], [], 0, 0⟩ : Mail)⟩ : Reply), (⟨f.body, 0⟩ : In)) := by unfold replyRead; (repeat first | rw [if_pos (by omega)] | rw [if_neg (by omega)]); all_goals first | rfl | (unfold sentRead; (repeat first | rw [if_pos (by omega)] | rw [if_neg (by omega)]); all_goals rfl)
              have e : replyOf f = ((⟨f.channel, (f.kind - 64), 0, 0, false, [], (⟨0, [], [], [], [], 0, 0⟩ : Mail)⟩ : Reply), 0) := by
                unfold replyOf
                rw [if_neg hk]
                simp only
                rw [hr]
                simp only
                (repeat first | rw [if_pos (by omega)] | rw [if_neg (by omega)])
                all_goals first | rfl | (simp [*]; done)
              rw [e]
              exact ⟨none, 0, rfl, slh_nil⟩
          · have p193 := df h186
            refine cw_skip ?_
            refine seqK_n ?_
            refine cw_seq ?_
            refine cw_seq ?_
            refine cw_region ?_
            refine ow1 (op1_l rfl (lo_move (v := .int _ _) rfl) ?_)
            refine ow1 (op1_l rfl (lo_neq rfl rfl) ?_)
            refine ow_nil ?_
            refine seqK_n ?_
            refine cw_cond_t rfl (by rw [h186] <;> rfl) ?_
            refine cw_seq ?_
            refine cw_region ?_
            refine ow1 (op1_l rfl (lo_build (v := .agg #[_, _, _, _, _, _, _, _, _, _, _, _, _]) rfl (bd32)) ?_)
            refine ow1 (op1_l rfl (lo_move (v := .int _ _) rfl) ?_)
            refine ow1 (op1_storeAn (i := 1) (vs := [_, _, _, _, _, _, _, _, _, _, _, _, _]) [_, _, _, _, _, _, _, _, _, _, _, _, _] rfl rfl rfl sz32 rfl rfl rfl rfl ?_)
            refine ow1 (op1_l rfl (lo_assign (v := .int _ _) rfl) ?_)
            refine ow_nil ?_
            refine seqK_n ?_
            refine cw_ret ?_
            refine seqK_r ?_
            refine fnK_r (res2 rfl (rv_c (i := 1) (vs := [_, _, _, _, _, _, _, _, _, _, _, _, _]) rfl ag32 sz32 rfl rfl rfl) (rv_t (v := .int _ _) rfl)) (.refl _) ?_
            have hk : ¬ (f.kind < 64 ∨ 71 < f.kind) := by omega
            have hr : replyRead f.channel (f.kind - 64) ⟨f.body, 0⟩ = ((⟨f.channel, (f.kind - 64), 0, 0, false, [], (⟨0, [], [], [], [], 0, 0⟩ : Mail)⟩ : Reply), (⟨f.body, 0⟩ : In)) := by unfold replyRead; (repeat first | rw [if_pos (by omega)] | rw [if_neg (by omega)]); all_goals first | rfl | (unfold sentRead; (repeat first | rw [if_pos (by omega)] | rw [if_neg (by omega)]); all_goals rfl)
            have e : replyOf f = ((⟨0, 0, 0, 0, false, [], (⟨0, [], [], [], [], 0, 0⟩ : Mail)⟩ : Reply), inEnd (⟨f.body, 0⟩ : In)) := by
              unfold replyOf
              rw [if_neg hk]
              simp only
              rw [hr]
              simp only
              (repeat first | rw [if_pos (by omega)] | rw [if_neg (by omega)])
              all_goals first | rfl | (simp [*]; done)
            rw [e]
            exact ⟨none, 0, rfl, slh_nil⟩

end Go.SW


set_option linter.unusedVariables false
set_option maxRecDepth 100000
set_option maxHeartbeats 4000000
namespace Go.SW
open Go.Proofs
theorem cb13 : Callable Tryd.prog 13 := callable_of Tryd.func13 (by kernel_rfl) (by kernel_rfl)
theorem cb14 : Callable Tryd.prog 14 := callable_of Tryd.func14 (by kernel_rfl) (by kernel_rfl)
theorem cb16 : Callable Tryd.prog 16 := callable_of Tryd.func16 (by kernel_rfl) (by kernel_rfl)

theorem reply_law_Reads (H : Hp) (f : Frame) (f_w : Frame.wf f) (hML : GInt H 2) (hCrc : GTab H 1 laidT) : Pr Tryd.prog 4 #[.agg (Frame.cells f).toArray] H (.bool true) := by
  refine pr_cw Tryd.func4 rfl Tryd.ntmps4 rfl (fun N => ?_)
  have f_w' := f_w
  simp only [Frame.wf] at f_w'
  refine cw_seq ?_
  refine cw_region ?_
  refine ow1 (op1_box (cs := [_, _, _]) 0 rfl rfl (fun b1 => ?_))
  refine ow1 (op1_l rfl (lo_assign (v := .bool _) rfl) ?_)
  refine ow_nil ?_
  refine seqK_n ?_
  refine cw_seq ?_
  refine cw_seq ?_
  refine cw_region ?_
  refine ow1 (op1_pr (l12_awake _ hML hCrc) (en_f cb8 rfl) rfl ?_)
  refine ow1 (op1_l rfl (lo_not rfl) ?_)
  refine ow_nil ?_
  refine seqK_n ?_
  refine cw_cond_f rfl rfl ?_
  refine cw_skip ?_
  refine seqK_n ?_
  refine cw_seq ?_
  refine cw_seq ?_
  refine cw_region ?_
  refine ow1 (op1_l rfl (lo_fieldAddr rfl fl35_2) ?_)
  refine ow1 (op1_l rfl (lo_load1 (i := 0) (v := str _) rfl ag9 rfl rfl) ?_)
  refine ow1 (op1_l rfl (lo_len_str rfl Tryd.underlying9) ?_)
  refine ow1 (op1_l rfl (lo_gtr rfl rfl) ?_)
  refine ow_nil ?_
  refine seqK_n ?_
  refine cw_cond rfl (fun h2 => ?_) (fun h2 => ?_)
  · have p3 := dt h2
    refine cw_seq ?_
    refine cw_region ?_
    refine ow1 (op1_l rfl (lo_assign (v := .bool _) rfl) ?_)
    refine ow_nil ?_
    refine seqK_n ?_
    refine cw_ret ?_
    refine seqK_r ?_
    refine fnK_r (res1 rfl (rv_t (v := .bool _) rfl)) (.refl _) ?_
    first
      | rfl
      | (exfalso; simp at *; done)
      | (exfalso; omega)
      | (refine congrArg Value.bool ?_; simp; done)
      | (have hz : (replyOf f).2 = 0 := by omega
         obtain ⟨q1, q2⟩ := replyOf_back f_w hz
         first | (exfalso; omega) | (refine congrArg Value.bool ?_; rw [q2]; simp; done) | (exfalso; rw [q2] at *; simp at *; done))
  · have p4 := df h2
    refine cw_skip ?_
    refine seqK_n ?_
    refine cw_seq ?_
    refine cw_region ?_
    refine ow1 (op1_l rfl (lo_loadA (i := 0) (vs := [_, _, _]) rfl ag35 sz35 rfl rfl rfl) ?_)
    refine ow1 (op1_ph (reply_Of _ f f_w hML) (en_f cb13 rfl) rfl ?_)
    rintro _ H9 ⟨a5, c6, rfl, hs7⟩ hl8
    have := replyOf_len f
    have := replyOf_err f
    refine ow1 (op1_l rfl (lo_move (v := .tuple #[_, _]) rfl) ?_)
    refine ow1 (op1_l rfl (lo_extract (v := .agg #[_, _, _, _, _, _, _, _, _, _, _, _, _]) rfl rfl) ?_)
    refine ow1 (op1_l rfl (lo_extract (v := .int _ _) rfl rfl) ?_)
    refine ow1 (op1_alloc 1 rfl zr27 (fun b10 => ?_))
    refine ow1 (op1_storeAn (i := 1) (vs := [_, _, _, _, _, _, _, _, _, _, _, _, _]) [_, _, _, _, _, _, _, _, _, _, _, _, _] rfl rfl rfl sz27 rfl rfl rfl rfl ?_)
    refine ow1 (op1_l rfl (lo_assign (v := .int _ _) rfl) ?_)
    refine ow_nil ?_
    refine seqK_n ?_
    refine cw_seq ?_
    refine cw_region ?_
    refine ow1 (op1_l rfl (lo_loadA (i := 0) (vs := [_, _, _]) rfl ag35 sz35 rfl rfl rfl) ?_)
    refine ow1 (op1_ph (r12_Parse _ f f_w) (en_f cb14 rfl) rfl ?_)
    rintro _ H15 ⟨a11, c12, rfl, hs13⟩ hl14
    have := replyOf_len f
    have := replyOf_err f
    refine ow1 (op1_l rfl (lo_move (v := .tuple #[_, _]) rfl) ?_)
    refine ow1 (op1_l rfl (lo_extract (v := .agg #[_, _, _, _, _, _, _, _, _, _, _, _, _]) rfl rfl) ?_)
    refine ow1 (op1_l rfl (lo_extract (v := .int _ _) rfl rfl) ?_)
    refine ow1 (op1_alloc 2 rfl zr32 (fun b16 => ?_))
    refine ow1 (op1_storeAn (i := 2) (vs := [_, _, _, _, _, _, _, _, _, _, _, _, _]) [_, _, _, _, _, _, _, _, _, _, _, _, _] rfl rfl rfl sz32 rfl rfl rfl rfl ?_)
    refine ow1 (op1_l rfl (lo_assign (v := .int _ _) rfl) ?_)
    refine ow_nil ?_
    refine seqK_n ?_
    refine cw_seq ?_
    refine cw_seq ?_
    refine cw_anyL mixd ?_
    refine vw_q 0 rfl (by kernel_rfl) (by repeat (first | exact lle_l0 | exact LLe.refl _ | exact lle_none | refine lle_up ?_ rfl)) (fun _ _ hh hl => lo_loadA (i := 1) (vs := [_, _, _, _, _, _, _, _, _, _, _, _, _]) rfl ag27 sz27 (hl _ _ rfl) rfl rfl) ?_
    refine vw_q 2 rfl (by kernel_rfl) (by repeat (first | exact lle_l0 | exact LLe.refl _ | exact lle_none | refine lle_up ?_ rfl)) (fun _ _ hh hl => lo_loadA (i := 2) (vs := [_, _, _, _, _, _, _, _, _, _, _, _, _]) rfl ag32 sz32 (hl _ _ rfl) rfl rfl) ?_
    refine vw_e 1 rfl (by kernel_rfl) (op1_ph (l12_To _ ((replyOf f).1) a5 c6 (hs7.mono ((HLe.refl _).trans hl14) (fun _ _ h => h)) (replyOf_wf f_w) (by first | omega | (have := lightR_len ((replyOf f).1) (by assumption); omega))) (en_f cb12 rfl) rfl ?_)
    rintro _ H21 ⟨a17, c18, rfl, hs19⟩ hl20
    refine ⟨⟨((HLe.refl _).trans hl20), (by repeat (first | exact lle_l0 | exact LLe.refl _ | exact lle_none | refine lle_up ?_ rfl))⟩, ?_⟩
    refine vw_qc 3 rfl (by kernel_rfl) (by repeat (first | exact lle_l0 | exact LLe.refl _ | exact lle_none | refine lle_up ?_ rfl)) (r12_Same _ ((replyOf f).1) a17 c18 hs19 (replyOf_wf f_w) ((replyOf f).1) a11 c12 (hs13.mono ((HLe.refl _).trans hl20) (fun _ _ h => h)) (replyOf_wf f_w)) (en_f cb11 rfl) ?_
    refine vw_q 4 rfl (by kernel_rfl) (by repeat (first | exact lle_l0 | exact LLe.refl _ | exact lle_none | refine lle_up ?_ rfl)) (fun _ _ hh hl => lo_not rfl) ?_
    refine vw_q 5 rfl (by kernel_rfl) (by repeat (first | exact lle_l0 | exact LLe.refl _ | exact lle_none | refine lle_up ?_ rfl)) (fun _ _ hh hl => lo_move (v := .bool _) rfl) ?_
    refine vw_sp (j := 5) rfl (fun h22 => ?_) (fun h22 => ?_)
    · have h23 := not_t h22
      refine vw_qgs 6 rfl (by kernel_rfl) (by repeat (first | exact lle_l0 | exact LLe.refl _ | exact lle_none | refine lle_up ?_ rfl)) rfl h22 ?_
      refine vw_qgs 7 rfl (by kernel_rfl) (by repeat (first | exact lle_l0 | exact LLe.refl _ | exact lle_none | refine lle_up ?_ rfl)) rfl h22 ?_
      refine vw_qgs 8 rfl (by kernel_rfl) (by repeat (first | exact lle_l0 | exact LLe.refl _ | exact lle_none | refine lle_up ?_ rfl)) rfl h22 ?_
      refine vw_q 9 rfl (by kernel_rfl) (by repeat (first | exact lle_l0 | exact LLe.refl _ | exact lle_none | refine lle_up ?_ rfl)) (fun _ _ hh hl => lo_pick_t (v := .bool _) rfl h22 rfl) ?_
      refine vw_done (by kernel_rfl) ?_
      refine seqK_n ?_
      refine cw_cond_t rfl rfl ?_
      refine cw_seq ?_
      refine cw_region ?_
      refine ow1 (op1_l rfl (lo_assign (v := .bool _) rfl) ?_)
      refine ow_nil ?_
      refine seqK_n ?_
      refine cw_ret ?_
      refine seqK_r ?_
      refine fnK_r (res1 rfl (rv_t (v := .bool _) rfl)) ((((HLe.refl _).trans hl8).trans hl14).trans hl20) ?_
      first
        | rfl
        | (exfalso; simp at *; done)
        | (exfalso; omega)
        | (refine congrArg Value.bool ?_; simp; done)
        | (have hz : (replyOf f).2 = 0 := by omega
           obtain ⟨q1, q2⟩ := replyOf_back f_w hz
           first | (exfalso; omega) | (refine congrArg Value.bool ?_; rw [q2]; simp; done) | (exfalso; rw [q2] at *; simp at *; done))
    · have h24 := not_f h22
      refine vw_qg 6 rfl (by kernel_rfl) (by repeat (first | exact lle_l0 | exact LLe.refl _ | exact lle_none | refine lle_up ?_ rfl)) rfl h22 (fun _ _ hh hl => lo_move (v := .int _ _) rfl) ?_
      refine vw_qg 7 rfl (by kernel_rfl) (by repeat (first | exact lle_l0 | exact LLe.refl _ | exact lle_none | refine lle_up ?_ rfl)) rfl h22 (fun _ _ hh hl => lo_move (v := .int _ _) rfl) ?_
      refine vw_qg 8 rfl (by kernel_rfl) (by repeat (first | exact lle_l0 | exact LLe.refl _ | exact lle_none | refine lle_up ?_ rfl)) rfl h22 (fun _ _ hh hl => lo_neq rfl rfl) ?_
      refine vw_q 9 rfl (by kernel_rfl) (by repeat (first | exact lle_l0 | exact LLe.refl _ | exact lle_none | refine lle_up ?_ rfl)) (fun _ _ hh hl => lo_pick_f (v := .bool _) rfl h22 rfl) ?_
      refine vw_done (by kernel_rfl) ?_
      refine seqK_n ?_
      refine cw_cond rfl (fun h25 => ?_) (fun h25 => ?_)
      · have h26 := not_t h25
        have p27 := df h26
        refine cw_seq ?_
        refine cw_region ?_
        refine ow1 (op1_l rfl (lo_assign (v := .bool _) rfl) ?_)
        refine ow_nil ?_
        refine seqK_n ?_
        refine cw_ret ?_
        refine seqK_r ?_
        refine fnK_r (res1 rfl (rv_t (v := .bool _) rfl)) ((((HLe.refl _).trans hl8).trans hl14).trans hl20) ?_
        first
          | rfl
          | (exfalso; simp at *; done)
          | (exfalso; omega)
          | (refine congrArg Value.bool ?_; simp; done)
          | (have hz : (replyOf f).2 = 0 := by omega
             obtain ⟨q1, q2⟩ := replyOf_back f_w hz
             first | (exfalso; omega) | (refine congrArg Value.bool ?_; rw [q2]; simp; done) | (exfalso; rw [q2] at *; simp at *; done))
      · have h28 := not_f h25
        have p29 := dt h28
        refine cw_skip ?_
        refine seqK_n ?_
        refine cw_seq ?_
        refine cw_seq ?_
        refine cw_region ?_
        refine ow1 (op1_l rfl (lo_move (v := .int _ _) rfl) ?_)
        refine ow1 (op1_l rfl (lo_neq rfl rfl) ?_)
        refine ow_nil ?_
        refine seqK_n ?_
        refine cw_cond rfl (fun h30 => ?_) (fun h30 => ?_)
        · have h31 := not_t h30
          have p32 := df h31
          refine cw_seq ?_
          refine cw_region ?_
          refine ow1 (op1_l rfl (lo_assign (v := .bool _) rfl) ?_)
          refine ow_nil ?_
          refine seqK_n ?_
          refine cw_ret ?_
          refine seqK_r ?_
          refine fnK_r (res1 rfl (rv_t (v := .bool _) rfl)) ((((HLe.refl _).trans hl8).trans hl14).trans hl20) ?_
          first
            | rfl
            | (exfalso; simp at *; done)
            | (exfalso; omega)
            | (refine congrArg Value.bool ?_; simp; done)
            | (have hz : (replyOf f).2 = 0 := by omega
               obtain ⟨q1, q2⟩ := replyOf_back f_w hz
               first | (exfalso; omega) | (refine congrArg Value.bool ?_; rw [q2]; simp; done) | (exfalso; rw [q2] at *; simp at *; done))
        · have h33 := not_f h30
          have p34 := dt h33
          refine cw_skip ?_
          refine seqK_n ?_
          refine cw_seq ?_
          refine cw_region ?_
          refine ow1 (op1_l rfl (lo_loadA (i := 1) (vs := [_, _, _, _, _, _, _, _, _, _, _, _, _]) rfl ag27 sz27 rfl rfl rfl) ?_)
          refine ow1 (op1_pr (reply_Frame _ ((replyOf f).1) a5 c6 (hs7.mono (((HLe.refl _).trans hl14).trans hl20) (fun _ _ h => h)) (replyOf_wf f_w) (hML.mono ((((HLe.refl _).trans hl8).trans hl14).trans hl20))) (en_f cb15 rfl) rfl ?_)
          refine ow1 (op1_l rfl (lo_move (v := .tuple #[_, _]) rfl) ?_)
          refine ow1 (op1_l rfl (lo_extract (v := .agg #[_, _, _]) rfl rfl) ?_)
          refine ow1 (op1_l rfl (lo_extract (v := .int _ _) rfl rfl) ?_)
          refine ow1 (op1_alloc 3 rfl zr35 (fun b35 => ?_))
          refine ow1 (op1_storeAn (i := 3) (vs := [_, _, _]) [_, _, _] rfl rfl rfl sz35 rfl rfl rfl rfl ?_)
          refine ow1 (op1_l rfl (lo_assign (v := .int _ _) rfl) ?_)
          refine ow_nil ?_
          refine seqK_n ?_
          refine cw_seq ?_
          refine cw_region ?_
          refine ow1 (op1_l rfl (lo_move (v := .int _ _) rfl) ?_)
          refine ow1 (op1_l rfl (lo_eql rfl rfl) ?_)
          refine ow1 (op1_l rfl (lo_move (v := .bool _) rfl) ?_)
          refine ow_sp (j := 2) rfl (fun h36 => ?_) (fun h36 => ?_)
          · have p37 := dt h36
            refine ow1 (op1_g rfl h36 rfl (lo_loadA (i := 0) (vs := [_, _, _]) rfl ag35 sz35 rfl rfl rfl) ?_)
            refine ow1 (op1_g rfl h36 rfl (lo_loadA (i := 3) (vs := [_, _, _]) rfl ag35 sz35 rfl rfl rfl) ?_)
            refine ow1 (op1_prg rfl h36 (frame_Same _ f f_w (replyFrame ((replyOf f).1)) (replyFrame_wf (replyOf_wf f_w))) (en_f cb16 rfl) rfl ?_)
            refine ow1 (op1_l rfl (lo_pick_t (v := .bool _) rfl h36 rfl) ?_)
            refine ow1 (op1_l rfl (lo_assign (v := .bool _) rfl) ?_)
            refine ow_nil ?_
            refine seqK_n ?_
            refine cw_ret ?_
            refine fnK_r (res1 rfl (rv_t (v := .bool _) rfl)) ((((HLe.refl _).trans hl8).trans hl14).trans hl20) ?_
            first
              | rfl
              | (exfalso; simp at *; done)
              | (exfalso; omega)
              | (refine congrArg Value.bool ?_; simp; done)
              | (have hz : (replyOf f).2 = 0 := by omega
                 obtain ⟨q1, q2⟩ := replyOf_back f_w hz
                 first | (exfalso; omega) | (refine congrArg Value.bool ?_; rw [q2]; simp; done) | (exfalso; rw [q2] at *; simp at *; done))
          · have p38 := df h36
            refine ow1 (op1_gs rfl h36 rfl ?_)
            refine ow1 (op1_gs rfl h36 rfl ?_)
            refine ow1 (op1_gs rfl h36 rfl ?_)
            refine ow1 (op1_l rfl (lo_pick_f (v := .bool _) rfl h36 rfl) ?_)
            refine ow1 (op1_l rfl (lo_assign (v := .bool _) rfl) ?_)
            refine ow_nil ?_
            refine seqK_n ?_
            refine cw_ret ?_
            refine fnK_r (res1 rfl (rv_t (v := .bool _) rfl)) ((((HLe.refl _).trans hl8).trans hl14).trans hl20) ?_
            first
              | rfl
              | (exfalso; simp at *; done)
              | (exfalso; omega)
              | (refine congrArg Value.bool ?_; simp; done)
              | (have hz : (replyOf f).2 = 0 := by omega
                 obtain ⟨q1, q2⟩ := replyOf_back f_w hz
                 first | (exfalso; omega) | (refine congrArg Value.bool ?_; rw [q2]; simp; done) | (exfalso; rw [q2] at *; simp at *; done))

end Go.SW
