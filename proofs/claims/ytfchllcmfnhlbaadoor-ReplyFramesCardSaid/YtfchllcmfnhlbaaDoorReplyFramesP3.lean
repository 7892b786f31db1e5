/-
  A part of the proof of ReplyFrames: The walks of this seat, printed by program: head.Find, head.pair, head.Check. The walks of this seat, printed by program: head.Bytes. The walks of this seat, printed by program: reply.blank, reply.Reply.spare, reply.mail, reply.Reply.Check. The walks of this seat, printed by program: crc.Step, crc.Sum. The walks of this seat, printed by program: frame.Bytes. The walks of this seat, printed by program: reply.Reply.Frame. The walks of this seat, printed by program: frame.Parse. The walks of this seat, printed by program: feed.Feed.Take. The walks of this seat, printed by program: feed.Feed.Rest, feed.Feed.Err, stairwelllaw01.awake, stairwelllaw01.Awake, stairwelllaw02.awake, stairwelllaw02.Awake, stairwelllaw07.awake, stairwelllaw07.Awake. The walks of this seat, printed by program: stairwelllaw08.awake, stairwelllaw08.Awake.
-/
import Derived.Test.YtfchllcmfnhlbaaDoorProg
import Derived.Test.YtfchllcmfnhlbaaDoorReplyFramesP1
import Derived.KernelRfl
import Derived.Test.YtfchllcmfnhlbaaDoorReplyFramesP2
set_option linter.unusedVariables false
set_option linter.unusedSimpArgs false

set_option linter.unusedVariables false
set_option maxRecDepth 100000
set_option maxHeartbeats 4000000
namespace Go.SW
open Go.Proofs
theorem ag2 : Ag Tryd.prog 2 false := fun w => by kernel_rfl
theorem ag94 : Ag Tryd.prog 94 true := fun w => by kernel_rfl
theorem bd94  (w : World) : (Instr.build 94 #[]).run Tryd.prog w = .ok (.agg #[str [], .int .u8 0, .int .i64 0, str []]) w := by kernel_rfl
theorem cb111 : Callable Tryd.prog 111 := callable_of Tryd.func111 (by kernel_rfl) (by kernel_rfl)
theorem cb125 : Callable Tryd.prog 125 := callable_of Tryd.func125 (by kernel_rfl) (by kernel_rfl)
theorem cb126 : Callable Tryd.prog 126 := callable_of Tryd.func126 (by kernel_rfl) (by kernel_rfl)
theorem cb54 : Callable Tryd.prog 54 := callable_of Tryd.func54 (by kernel_rfl) (by kernel_rfl)
theorem cb96 : Callable Tryd.prog 96 := callable_of Tryd.func96 (by kernel_rfl) (by kernel_rfl)
theorem fl94_0 : Fld Tryd.prog 94 0 0 := fun b o w => by kernel_rfl
theorem fl94_1 : Fld Tryd.prog 94 1 1 := fun b o w => by kernel_rfl
theorem fl94_2 : Fld Tryd.prog 94 2 2 := fun b o w => by kernel_rfl
theorem fl94_3 : Fld Tryd.prog 94 3 3 := fun b o w => by kernel_rfl
theorem sz94 : Sz Tryd.prog 94 4 := fun w => by kernel_rfl
theorem zr94 : Zr Tryd.prog 94 [str [], .int .u8 0, .int .i64 0, str []] := fun w => ⟨.agg #[str [], .int .u8 0, .int .i64 0, str []], by kernel_rfl, rfl⟩

theorem head_Find (H : Hp) (h_a : Option Addr) (h_l h_c : Nat) (h : List Pair) (h_h : SlH pairE 4 H (.slice h_a h_l h_c) h) (key : Bs) (hl : h.length ≤ 9223372036854775807) : Pr Tryd.prog 111 #[.slice h_a h_l h_c, str key] H (.tuple #[.agg (Pair.cells ((findP h key).getD Pair.zero)).toArray, .bool ((findP h key).isSome)]) := by
  refine pr_cw Tryd.func111 rfl Tryd.ntmps111 rfl (fun N => ?_)
  refine cw_seq ?_
  refine cw_region ?_
  refine ow1 (op1_box1 (v := str _) 0 rfl rfl rfl (fun b1 => ?_))
  refine ow1 (op1_alloc 1 rfl zr94 (fun b2 => ?_))
  refine ow1 (op1_l rfl (lo_assign (v := .bool _) rfl) ?_)
  refine ow_nil ?_
  refine seqK_n ?_
  refine cw_seq ?_
  refine cw_region ?_
  refine ow1 (op1_l rfl (lo_move (v := .slice _ _ _) rfl) ?_)
  refine ow1 (op1_l rfl (lo_makeFunc (cap := [_]) rfl) ?_)
  refine ow1 (op1_in (en_f cb125 rfl) Tryd.func125 rfl Tryd.ntmps125 rfl rfl ?_)
  refine cw_seq ?_
  refine cw_region ?_
  refine ow1 (op1_l rfl (lo_assign (v := .int _ _) rfl) ?_)
  refine ow_nil ?_
  refine seqK_n ?_
  refine cw_seq ?_
  refine cw_seq ?_
  refine cw_region ?_
  refine ow1 (op1_l rfl (lo_move (v := .slice _ _ _) rfl) ?_)
  refine ow1 (op1_l rfl (lo_len_slh rfl h_h Tryd.underlying23) ?_)
  refine ow1 (op1_l rfl (lo_move (v := .int _ _) rfl) ?_)
  refine ow_nil ?_
  refine seqK_n ?_
  refine cw_block ?_
  refine cw_loop1 [4, 5, 8, 9, 10, 11, 12, 13, 14, 15, 16, 17, 18] [2] (fun (k : Nat) G => upd (G) 8 (.int .i64 (k : Int))) (fun (k : Nat) G => G) (fun (k : Nat) H' => k ≤ h.length ∧ findP h key = findP (h.drop k) key) (fun (k : Nat) => h.length - k) 0 (upd_intro (mask_intro (by first | exact off_refl | (repeat (first | exact off_mask | refine off_upd rfl ?_ | refine off_mask2 rfl ?_)))) rfl) (lmask_intro offl_refl) ?_ ?_
  · exact ⟨Nat.zero_le _, rfl⟩
  · intro k J4 JL4 H4 hp3 hl4
    obtain ⟨hk1, hk2⟩ := hp3
    refine cw_seq ?_
    refine cw_region ?_
    refine ow1 (op1_l rfl (lo_lss rfl rfl) ?_)
    refine ow_nil ?_
    refine seqK_n ?_
    refine cw_seq ?_
    refine cw_cond rfl (fun h5 => ?_) (fun h5 => ?_)
    · have p6 := dt h5
      refine cw_skip ?_
      refine seqK_n ?_
      refine cw_seq ?_
      refine cw_block ?_
      refine cw_seq ?_
      refine cw_region ?_
      refine ow1 (op1_l rfl (lo_move (v := .int _ _) rfl) ?_)
      refine ow1 (op1_l rfl (lo_assign (v := .int _ _) rfl) ?_)
      refine ow_nil ?_
      refine seqK_n ?_
      refine cw_seq ?_
      refine cw_region ?_
      refine ow1 (op1_l rfl (lo_move rfl) ?_)
      refine ow1 (op1_l rfl (lo_move (v := .slice _ _ _) rfl) ?_)
      refine ow1 (op1_l rfl (lo_move (v := .int _ _) rfl) ?_)
      obtain ⟨c7, hc8⟩ := getE (xs := h) (m := k) (by omega)
      obtain ⟨cs9, hE10, at11⟩ := (h_h.mono ((HLe.refl _).trans hl4) (fun _ _ h => h)).get hc8
      obtain ⟨rfl, c7_w⟩ := hE10
      have c7_w' := c7_w
      simp only [Pair.wf] at c7_w'
      refine ow1 (op1_l rfl (lo_indexAddr rfl rfl (h_h.mono ((HLe.refl _).trans hl4) (fun _ _ h => h)).1 at11 Tryd.underlying23 sz94 (by omega) (by omega)) ?_)
      refine ow1 (op1_l rfl (lo_loadEA rfl ag94 sz94 at11) ?_)
      refine ow1 (op1_in (en_v rfl cb126 rfl) Tryd.func126 rfl Tryd.ntmps126 rfl rfl ?_)
      refine cw_seq ?_
      refine cw_region ?_
      refine ow1 (op1_box (cs := [_, _, _, _]) 2 rfl rfl (fun b12 => ?_))
      refine ow1 (op1_l rfl (lo_assign (v := .bool _) rfl) ?_)
      refine ow_nil ?_
      refine seqK_n ?_
      refine cw_seq ?_
      refine cw_region ?_
      refine ow1 (op1_l rfl (lo_fieldAddr rfl fl94_0) ?_)
      refine ow1 (op1_l rfl (lo_load1 (i := 2) (v := str _) rfl ag9 rfl rfl) ?_)
      refine ow1 (op1_l rfl (lo_load1 (i := 0) (v := str _) rfl ag9 rfl rfl) ?_)
      refine ow1 (op1_l rfl (lo_seql rfl rfl) ?_)
      refine ow1 (op1_l rfl (lo_assign (v := .bool _) rfl) ?_)
      refine ow_nil ?_
      refine seqK_n ?_
      refine cw_ret ?_
      refine fnK_r (res1 rfl (rv_t (v := .bool _) rfl)) (.refl _) ?_
      refine ow_nil ?_
      refine seqK_n ?_
      refine cw_cond rfl (fun h13 => ?_) (fun h13 => ?_)
      · have p14 := dt h13
        refine cw_seq ?_
        refine cw_region ?_
        refine ow1 (op1_l rfl (lo_move (v := .int _ _) rfl) ?_)
        refine ow1 (op1_l rfl (lo_assign (v := .int _ _) rfl) ?_)
        refine ow_nil ?_
        refine seqK_n ?_
        refine cw_ret ?_
        refine blkK_r ?_
        refine seqK_r ?_
        refine loopK_r ?_
        refine blkK_r ?_
        refine seqK_r ?_
        refine fnK_r (res1 rfl (rv_t (v := .int _ _) rfl)) ((HLe.refl _).trans hl4) ?_
        refine ow1 (op1_l rfl (lo_assign (v := .int _ _) rfl) ?_)
        refine ow_nil ?_
        refine seqK_n ?_
        refine cw_seq ?_
        refine cw_seq ?_
        refine cw_region ?_
        refine ow1 (op1_l rfl (lo_move (v := .int _ _) rfl) ?_)
        refine ow1 (op1_l rfl (lo_lss rfl rfl) ?_)
        refine ow_nil ?_
        refine seqK_n ?_
        refine cw_cond rfl (fun h15 => ?_) (fun h15 => ?_)
        · have p16 := dt h15
          refine cw_seq ?_
          refine cw_region ?_
          refine ow1 (op1_l rfl (lo_build (v := .agg #[_, _, _, _]) rfl (bd94)) ?_)
          refine ow1 (op1_storeA (i := 1) (vs := [_, _, _, _]) rfl rfl rfl sz94 rfl rfl rfl ?_)
          refine ow1 (op1_l rfl (lo_assign (v := .bool _) rfl) ?_)
          refine ow_nil ?_
          refine seqK_n ?_
          refine cw_ret ?_
          refine seqK_r ?_
          refine fnK_r (res2 rfl (rv_c (i := 1) (vs := [_, _, _, _]) rfl ag94 sz94 rfl rfl rfl) (rv_t (v := .bool _) rfl)) ((HLe.refl _).trans hl4) ?_
          first
            | (exfalso; omega)
            | (rw [List.drop_of_length_le (by omega)] at hk2; rw [hk2]; rfl)
        · have p17 := df h15
          refine cw_skip ?_
          refine seqK_n ?_
          refine cw_seq ?_
          refine cw_region ?_
          refine ow1 (op1_l rfl (lo_move (v := .slice _ _ _) rfl) ?_)
          refine ow1 (op1_l rfl (lo_move (v := .int _ _) rfl) ?_)
          refine ow1 (op1_l rfl (lo_indexAddr rfl rfl (h_h.mono ((HLe.refl _).trans hl4) (fun _ _ h => h)).1 at11 Tryd.underlying23 sz94 (by omega) (by omega)) ?_)
          refine ow1 (op1_l rfl (lo_loadEA rfl ag94 sz94 at11) ?_)
          refine ow1 (op1_storeA (i := 1) (vs := [_, _, _, _]) rfl rfl rfl sz94 rfl rfl rfl ?_)
          refine ow1 (op1_l rfl (lo_assign (v := .bool _) rfl) ?_)
          refine ow_nil ?_
          refine seqK_n ?_
          refine cw_ret ?_
          refine fnK_r (res2 rfl (rv_c (i := 1) (vs := [_, _, _, _]) rfl ag94 sz94 rfl rfl rfl) (rv_t (v := .bool _) rfl)) ((HLe.refl _).trans hl4) ?_
          have e := findP_hit hk2 (dropE hc8) (by assumption)
          rw [e]
          rfl
      · have p18 := df h13
        refine cw_skip ?_
        refine blkK_n ?_
        refine seqK_n ?_
        refine cw_region ?_
        refine ow1 (op1_l rfl (lo_add rfl rfl (rg_i64 (by omega))) ?_)
        refine ow1 (op1_l rfl (lo_move (v := .int _ _) rfl) ?_)
        refine ow_nil ?_
        refine next1 (k + 1) (upd_intro (mask_intro (by first | exact off_refl | (repeat (first | exact off_mask | refine off_upd rfl ?_ | refine off_mask2 rfl ?_)))) rfl) (lmask_intro (by first | exact offl_refl | (repeat (first | exact offl_mask | refine offl_upd rfl ?_ | refine offl_mask2 rfl ?_)))) hl4 ?_ ?_
        · exact ⟨by omega, findP_miss hk2 (dropE hc8) (by assumption)⟩
        · omega
    · have p19 := df h5
      refine cw_exit ?_
      refine seqK_e ?_
      refine loopK_e ?_
      refine blkK_hit ?_
      refine seqK_n ?_
      refine cw_seq ?_
      refine cw_region ?_
      refine ow1 (op1_l rfl (lo_assign (v := .int _ _) rfl) ?_)
      refine ow_nil ?_
      refine seqK_n ?_
      refine cw_ret ?_
      refine fnK_r (res1 rfl (rv_t (v := .int _ _) rfl)) ((HLe.refl _).trans hl4) ?_
      refine ow1 (op1_l rfl (lo_assign (v := .int _ _) rfl) ?_)
      refine ow_nil ?_
      refine seqK_n ?_
      refine cw_seq ?_
      refine cw_seq ?_
      refine cw_region ?_
      refine ow1 (op1_l rfl (lo_move (v := .int _ _) rfl) ?_)
      refine ow1 (op1_l rfl (lo_lss rfl rfl) ?_)
      refine ow_nil ?_
      refine seqK_n ?_
      refine cw_cond_t rfl (by decide) ?_
      refine cw_seq ?_
      refine cw_region ?_
      refine ow1 (op1_l rfl (lo_build (v := .agg #[_, _, _, _]) rfl (bd94)) ?_)
      refine ow1 (op1_storeA (i := 1) (vs := [_, _, _, _]) rfl rfl rfl sz94 rfl rfl rfl ?_)
      refine ow1 (op1_l rfl (lo_assign (v := .bool _) rfl) ?_)
      refine ow_nil ?_
      refine seqK_n ?_
      refine cw_ret ?_
      refine seqK_r ?_
      refine fnK_r (res2 rfl (rv_c (i := 1) (vs := [_, _, _, _]) rfl ag94 sz94 rfl rfl rfl) (rv_t (v := .bool _) rfl)) ((HLe.refl _).trans hl4) ?_
      first
        | (exfalso; omega)
        | (rw [List.drop_of_length_le (by omega)] at hk2; rw [hk2]; rfl)

theorem head_pair (H : Hp) (p : Pair) (p_w : Pair.wf p) (ahead_a : Option Addr) (ahead_l ahead_c : Nat) (ahead : List Pair) (ahead_h : SlH pairE 4 H (.slice ahead_a ahead_l ahead_c) ahead) (hl : ahead.length ≤ 9223372036854775807) : Pr Tryd.prog 96 #[.agg (Pair.cells p).toArray, .slice ahead_a ahead_l ahead_c] H (.int .i64 (pairErr p ahead)) := by
  refine pr_cw Tryd.func96 rfl Tryd.ntmps96 rfl (fun N => ?_)
  have p_w' := p_w
  simp only [Pair.wf] at p_w'
  refine cw_seq ?_
  refine cw_region ?_
  refine ow1 (op1_box (cs := [_, _, _, _]) 0 rfl rfl (fun b1 => ?_))
  refine ow1 (op1_l rfl (lo_assign (v := .int _ _) rfl) ?_)
  refine ow_nil ?_
  refine seqK_n ?_
  refine cw_seq ?_
  refine cw_seq ?_
  refine cw_region ?_
  refine ow1 (op1_l rfl (lo_fieldAddr rfl fl94_0) ?_)
  refine ow1 (op1_l rfl (lo_load1 (i := 0) (v := str _) rfl ag9 rfl rfl) ?_)
  refine ow1 (op1_pr (words_Name _ p.key (by first | omega | decide | (simp; done))) (en_f cb54 rfl) rfl ?_)
  refine ow1 (op1_l rfl (lo_assign (v := .int _ _) rfl) ?_)
  refine ow_nil ?_
  refine seqK_n ?_
  refine cw_seq ?_
  refine cw_region ?_
  refine ow1 (op1_l rfl (lo_move (v := .int _ _) rfl) ?_)
  refine ow1 (op1_l rfl (lo_neq rfl rfl) ?_)
  refine ow_nil ?_
  refine seqK_n ?_
  refine cw_cond rfl (fun h2 => ?_) (fun h2 => ?_)
  · have h3 := not_t h2
    have p4 := df h3
    refine cw_seq ?_
    refine cw_region ?_
    refine ow1 (op1_l rfl (lo_move (v := .int _ _) rfl) ?_)
    refine ow1 (op1_l rfl (lo_assign (v := .int _ _) rfl) ?_)
    refine ow_nil ?_
    refine seqK_n ?_
    refine cw_ret ?_
    refine seqK_r ?_
    refine fnK_r (res1 rfl (rv_t (v := .int _ _) rfl)) (.refl _) ?_
    first | (simp [pairErr, *]; done) | (simp [pairErr, *]; omega)
  · have h5 := not_f h2
    have p6 := dt h5
    refine cw_skip ?_
    refine seqK_n ?_
    refine cw_seq ?_
    refine cw_region ?_
    refine ow1 (op1_l rfl (lo_move (v := .slice _ _ _) rfl) ?_)
    refine ow1 (op1_l rfl (lo_fieldAddr rfl fl94_0) ?_)
    refine ow1 (op1_l rfl (lo_load1 (i := 0) (v := str _) rfl ag9 rfl rfl) ?_)
    refine ow1 (op1_pr (head_Find _ ahead_a ahead_l ahead_c ahead ahead_h p.key (by first | omega | (simp <;> omega))) (en_f cb111 rfl) rfl ?_)
    refine ow1 (op1_l rfl (lo_move (v := .tuple #[_, _]) rfl) ?_)
    refine ow1 (op1_l rfl (lo_extract (v := .agg #[_, _, _, _]) rfl rfl) ?_)
    refine ow1 (op1_l rfl (lo_extract (v := .bool _) rfl rfl) ?_)
    refine ow1 (op1_alloc 1 rfl zr94 (fun b7 => ?_))
    refine ow1 (op1_storeA (i := 1) (vs := [_, _, _, _]) rfl rfl rfl sz94 rfl rfl rfl ?_)
    refine ow1 (op1_l rfl (lo_assign (v := .bool _) rfl) ?_)
    refine ow_nil ?_
    refine seqK_n ?_
    refine cw_seq ?_
    refine cw_block ?_
    refine cw_seq ?_
    refine cw_region ?_
    refine ow1 (op1_l rfl (lo_fieldAddr rfl fl94_1) ?_)
    refine ow1 (op1_l rfl (lo_load1 (i := 0) (v := .int _ _) rfl ag5 rfl rfl) ?_)
    refine ow1 (op1_l rfl (lo_gtr rfl rfl) ?_)
    refine ow1 (op1_l rfl (lo_assign (v := .bool _) rfl) ?_)
    refine ow_nil ?_
    refine seqK_n ?_
    refine cw_cond rfl (fun h8 => ?_) (fun h8 => ?_)
    · have p9 := dt h8
      refine cw_seq ?_
      refine cw_region ?_
      refine ow1 (op1_l rfl (lo_assign (v := .int _ _) rfl) ?_)
      refine ow_nil ?_
      refine seqK_n ?_
      refine cw_ret ?_
      refine blkK_r ?_
      refine seqK_r ?_
      refine fnK_r (res1 rfl (rv_t (v := .int _ _) rfl)) (.refl _) ?_
      first | (simp [pairErr, *]; done) | (simp [pairErr, *]; omega)
    · have p10 := df h8
      refine cw_seq ?_
      refine cw_region ?_
      refine ow1 (op1_l rfl (lo_fieldAddr rfl fl94_1) ?_)
      refine ow1 (op1_l rfl (lo_load1 (i := 0) (v := .int _ _) rfl ag5 rfl rfl) ?_)
      refine ow1 (op1_l rfl (lo_eql rfl rfl) ?_)
      refine ow1 (op1_l rfl (lo_move (v := .bool _) rfl) ?_)
      refine ow_sp (j := 3) rfl (fun h11 => ?_) (fun h11 => ?_)
      · have p12 := dt h11
        refine ow1 (op1_g rfl h11 rfl (lo_fieldAddr rfl fl94_3) ?_)
        refine ow1 (op1_g rfl h11 rfl (lo_load1 (i := 0) (v := str _) rfl ag9 rfl rfl) ?_)
        refine ow1 (op1_g rfl h11 rfl (lo_len_str rfl Tryd.underlying9) ?_)
        refine ow1 (op1_g rfl h11 rfl (lo_gtr rfl rfl) ?_)
        refine ow1 (op1_l rfl (lo_pick_t (v := .bool _) rfl h11 rfl) ?_)
        refine ow1 (op1_l rfl (lo_assign (v := .bool _) rfl) ?_)
        refine ow_nil ?_
        refine seqK_n ?_
        refine cw_cond rfl (fun h13 => ?_) (fun h13 => ?_)
        · have p14 := dt h13
          refine cw_seq ?_
          refine cw_region ?_
          refine ow1 (op1_l rfl (lo_assign (v := .int _ _) rfl) ?_)
          refine ow_nil ?_
          refine seqK_n ?_
          refine cw_ret ?_
          refine blkK_r ?_
          refine seqK_r ?_
          refine fnK_r (res1 rfl (rv_t (v := .int _ _) rfl)) (.refl _) ?_
          first | (simp [pairErr, *]; done) | (simp [pairErr, *]; omega)
        · have p15 := df h13
          refine cw_seq ?_
          refine cw_region ?_
          refine ow1 (op1_l rfl (lo_fieldAddr rfl fl94_1) ?_)
          refine ow1 (op1_l rfl (lo_load1 (i := 0) (v := .int _ _) rfl ag5 rfl rfl) ?_)
          refine ow1 (op1_l rfl (lo_eql rfl rfl) ?_)
          refine ow1 (op1_l rfl (lo_move (v := .bool _) rfl) ?_)
          refine ow1 (op1_gs rfl (fd (by omega)) rfl ?_)
          refine ow1 (op1_gs rfl (fd (by omega)) rfl ?_)
          refine ow1 (op1_gs rfl (fd (by omega)) rfl ?_)
          refine ow1 (op1_l rfl (lo_pick_f (v := .bool _) rfl (fd (by omega)) rfl) ?_)
          refine ow1 (op1_l rfl (lo_move (v := .bool _) rfl) ?_)
          refine ow1 (op1_gs rfl rfl rfl ?_)
          refine ow1 (op1_gs rfl rfl rfl ?_)
          refine ow1 (op1_gs rfl rfl rfl ?_)
          refine ow1 (op1_l rfl (lo_pick_f (v := .bool _) rfl rfl rfl) ?_)
          refine ow1 (op1_l rfl (lo_assign (v := .bool _) rfl) ?_)
          refine ow_nil ?_
          refine seqK_n ?_
          refine cw_cond_f rfl rfl ?_
          refine cw_seq ?_
          refine cw_seq ?_
          refine cw_region ?_
          refine ow1 (op1_l rfl (lo_fieldAddr rfl fl94_1) ?_)
          refine ow1 (op1_l rfl (lo_load1 (i := 0) (v := .int _ _) rfl ag5 rfl rfl) ?_)
          refine ow1 (op1_l rfl (lo_eql rfl rfl) ?_)
          refine ow1 (op1_l rfl (lo_move (v := .bool _) rfl) ?_)
          refine ow1 (op1_g rfl h11 rfl (lo_fieldAddr rfl fl94_2) ?_)
          refine ow1 (op1_g rfl h11 rfl (lo_load1 (i := 0) (v := .int _ _) rfl ag2 rfl rfl) ?_)
          refine ow1 (op1_g rfl h11 rfl (lo_neq rfl rfl) ?_)
          refine ow1 (op1_l rfl (lo_pick_t (v := .bool _) rfl h11 rfl) ?_)
          refine ow1 (op1_l rfl (lo_assign (v := .bool _) rfl) ?_)
          refine ow_nil ?_
          refine seqK_n ?_
          refine cw_cond rfl (fun h16 => ?_) (fun h16 => ?_)
          · have h17 := not_t h16
            have p18 := df h17
            refine cw_skip ?_
            refine seqK_n ?_
            refine cw_cond_t rfl h16 ?_
            refine cw_seq ?_
            refine cw_region ?_
            refine ow1 (op1_l rfl (lo_assign (v := .int _ _) rfl) ?_)
            refine ow_nil ?_
            refine seqK_n ?_
            refine cw_ret ?_
            refine blkK_r ?_
            refine seqK_r ?_
            refine fnK_r (res1 rfl (rv_t (v := .int _ _) rfl)) (.refl _) ?_
            first | (simp [pairErr, *]; done) | (simp [pairErr, *]; omega)
          · have h19 := not_f h16
            have p20 := dt h19
            refine cw_region ?_
            refine ow1 (op1_l rfl (lo_fieldAddr rfl fl94_1) ?_)
            refine ow1 (op1_l rfl (lo_load1 (i := 0) (v := .int _ _) rfl ag5 rfl rfl) ?_)
            refine ow1 (op1_l rfl (lo_neq rfl rfl) ?_)
            refine ow1 (op1_l rfl (lo_move (v := .bool _) rfl) ?_)
            refine ow1 (op1_gs rfl (by rw [h11] <;> rfl) rfl ?_)
            refine ow1 (op1_gs rfl (by rw [h11] <;> rfl) rfl ?_)
            refine ow1 (op1_gs rfl (by rw [h11] <;> rfl) rfl ?_)
            refine ow1 (op1_l rfl (lo_pick_f (v := .bool _) rfl (by rw [h11] <;> rfl) rfl) ?_)
            refine ow1 (op1_l rfl (lo_assign (v := .bool _) rfl) ?_)
            refine ow_nil ?_
            refine seqK_n ?_
            refine cw_cond_f rfl rfl ?_
            refine cw_seq ?_
            refine cw_region ?_
            refine ow1 (op1_l rfl (lo_move (v := .bool _) rfl) ?_)
            refine ow1 (op1_l rfl (lo_assign (v := .bool _) rfl) ?_)
            refine ow_nil ?_
            refine seqK_n ?_
            refine cw_cond rfl (fun h21 => ?_) (fun h21 => ?_)
            · refine cw_seq ?_
              refine cw_region ?_
              refine ow1 (op1_l rfl (lo_assign (v := .int _ _) rfl) ?_)
              refine ow_nil ?_
              refine seqK_n ?_
              refine cw_ret ?_
              refine blkK_r ?_
              refine seqK_r ?_
              refine fnK_r (res1 rfl (rv_t (v := .int _ _) rfl)) (.refl _) ?_
              first | (simp [pairErr, *]; done) | (simp [pairErr, *]; omega)
            · refine cw_skip ?_
              refine blkK_n ?_
              refine seqK_n ?_
              refine cw_seq ?_
              refine cw_region ?_
              refine ow1 (op1_l rfl (lo_assign (v := .int _ _) rfl) ?_)
              refine ow_nil ?_
              refine seqK_n ?_
              refine cw_ret ?_
              refine fnK_r (res1 rfl (rv_t (v := .int _ _) rfl)) (.refl _) ?_
              first | (simp [pairErr, *]; done) | (simp [pairErr, *]; omega)
      · have p22 := df h11
        refine ow1 (op1_gs rfl h11 rfl ?_)
        refine ow1 (op1_gs rfl h11 rfl ?_)
        refine ow1 (op1_gs rfl h11 rfl ?_)
        refine ow1 (op1_gs rfl h11 rfl ?_)
        refine ow1 (op1_l rfl (lo_pick_f (v := .bool _) rfl h11 rfl) ?_)
        refine ow1 (op1_l rfl (lo_assign (v := .bool _) rfl) ?_)
        refine ow_nil ?_
        refine seqK_n ?_
        refine cw_cond_f rfl rfl ?_
        refine cw_seq ?_
        refine cw_region ?_
        refine ow1 (op1_l rfl (lo_fieldAddr rfl fl94_1) ?_)
        refine ow1 (op1_l rfl (lo_load1 (i := 0) (v := .int _ _) rfl ag5 rfl rfl) ?_)
        refine ow1 (op1_l rfl (lo_eql rfl rfl) ?_)
        refine ow1 (op1_l rfl (lo_move (v := .bool _) rfl) ?_)
        refine ow_sp (j := 3) rfl (fun h23 => ?_) (fun h23 => ?_)
        · have p24 := dt h23
          refine ow1 (op1_g rfl h23 rfl (lo_fieldAddr rfl fl94_2) ?_)
          refine ow1 (op1_g rfl h23 rfl (lo_load1 (i := 0) (v := .int _ _) rfl ag2 rfl rfl) ?_)
          refine ow1 (op1_g rfl h23 rfl (lo_neq rfl rfl) ?_)
          refine ow1 (op1_l rfl (lo_pick_t (v := .bool _) rfl h23 rfl) ?_)
          refine ow1 (op1_l rfl (lo_move (v := .bool _) rfl) ?_)
          refine ow_sp (j := 8) rfl (fun h25 => ?_) (fun h25 => ?_)
          · have h26 := not_t h25
            have p27 := df h26
            refine ow1 (op1_g rfl h25 rfl (lo_fieldAddr rfl fl94_2) ?_)
            refine ow1 (op1_g rfl h25 rfl (lo_load1 (i := 0) (v := .int _ _) rfl ag2 rfl rfl) ?_)
            refine ow1 (op1_g rfl h25 rfl (lo_neq rfl rfl) ?_)
            refine ow1 (op1_l rfl (lo_pick_t (v := .bool _) rfl h25 rfl) ?_)
            refine ow1 (op1_l rfl (lo_assign (v := .bool _) rfl) ?_)
            refine ow_nil ?_
            refine seqK_n ?_
            refine cw_cond rfl (fun h28 => ?_) (fun h28 => ?_)
            · have h29 := not_t h28
              have p30 := df h29
              refine cw_seq ?_
              refine cw_region ?_
              refine ow1 (op1_l rfl (lo_assign (v := .int _ _) rfl) ?_)
              refine ow_nil ?_
              refine seqK_n ?_
              refine cw_ret ?_
              refine blkK_r ?_
              refine seqK_r ?_
              refine fnK_r (res1 rfl (rv_t (v := .int _ _) rfl)) (.refl _) ?_
              first | (simp [pairErr, *]; done) | (simp [pairErr, *]; omega)
            · have h31 := not_f h28
              have p32 := dt h31
              refine cw_seq ?_
              refine cw_seq ?_
              refine cw_region ?_
              refine ow1 (op1_l rfl (lo_fieldAddr rfl fl94_1) ?_)
              refine ow1 (op1_l rfl (lo_load1 (i := 0) (v := .int _ _) rfl ag5 rfl rfl) ?_)
              refine ow1 (op1_l rfl (lo_eql rfl rfl) ?_)
              refine ow1 (op1_l rfl (lo_move (v := .bool _) rfl) ?_)
              refine ow1 (op1_gs rfl h11 rfl ?_)
              refine ow1 (op1_gs rfl h11 rfl ?_)
              refine ow1 (op1_gs rfl h11 rfl ?_)
              refine ow1 (op1_l rfl (lo_pick_f (v := .bool _) rfl h11 rfl) ?_)
              refine ow1 (op1_l rfl (lo_assign (v := .bool _) rfl) ?_)
              refine ow_nil ?_
              refine seqK_n ?_
              refine cw_cond_f rfl rfl ?_
              refine cw_region ?_
              refine ow1 (op1_l rfl (lo_fieldAddr rfl fl94_1) ?_)
              refine ow1 (op1_l rfl (lo_load1 (i := 0) (v := .int _ _) rfl ag5 rfl rfl) ?_)
              refine ow1 (op1_l rfl (lo_neq rfl rfl) ?_)
              refine ow1 (op1_l rfl (lo_move (v := .bool _) rfl) ?_)
              refine ow1 (op1_g rfl (by rw [h11] <;> rfl) rfl (lo_fieldAddr rfl fl94_3) ?_)
              refine ow1 (op1_g rfl (by rw [h11] <;> rfl) rfl (lo_load1 (i := 0) (v := str _) rfl ag9 rfl rfl) ?_)
              refine ow1 (op1_g rfl (by rw [h11] <;> rfl) rfl (lo_sneq rfl rfl) ?_)
              refine ow1 (op1_l rfl (lo_pick_t (v := .bool _) rfl (by rw [h11] <;> rfl) rfl) ?_)
              refine ow1 (op1_l rfl (lo_assign (v := .bool _) rfl) ?_)
              refine ow_nil ?_
              refine seqK_n ?_
              refine cw_cond rfl (fun h33 => ?_) (fun h33 => ?_)
              · have h34 := not_t h33
                have p35 := df h34
                refine cw_seq ?_
                refine cw_region ?_
                refine ow1 (op1_l rfl (lo_assign (v := .int _ _) rfl) ?_)
                refine ow_nil ?_
                refine seqK_n ?_
                refine cw_ret ?_
                refine blkK_r ?_
                refine seqK_r ?_
                refine fnK_r (res1 rfl (rv_t (v := .int _ _) rfl)) (.refl _) ?_
                first | (simp [pairErr, *]; done) | (simp [pairErr, *]; omega)
              · have h36 := not_f h33
                have p37 := dt h36
                refine cw_seq ?_
                refine cw_region ?_
                refine ow1 (op1_l rfl (lo_move (v := .bool _) rfl) ?_)
                refine ow1 (op1_l rfl (lo_assign (v := .bool _) rfl) ?_)
                refine ow_nil ?_
                refine seqK_n ?_
                refine cw_cond rfl (fun h38 => ?_) (fun h38 => ?_)
                · refine cw_seq ?_
                  refine cw_region ?_
                  refine ow1 (op1_l rfl (lo_assign (v := .int _ _) rfl) ?_)
                  refine ow_nil ?_
                  refine seqK_n ?_
                  refine cw_ret ?_
                  refine blkK_r ?_
                  refine seqK_r ?_
                  refine fnK_r (res1 rfl (rv_t (v := .int _ _) rfl)) (.refl _) ?_
                  first | (simp [pairErr, *]; done) | (simp [pairErr, *]; omega)
                · refine cw_skip ?_
                  refine blkK_n ?_
                  refine seqK_n ?_
                  refine cw_seq ?_
                  refine cw_region ?_
                  refine ow1 (op1_l rfl (lo_assign (v := .int _ _) rfl) ?_)
                  refine ow_nil ?_
                  refine seqK_n ?_
                  refine cw_ret ?_
                  refine fnK_r (res1 rfl (rv_t (v := .int _ _) rfl)) (.refl _) ?_
                  first | (simp [pairErr, *]; done) | (simp [pairErr, *]; omega)
          · have h39 := not_f h25
            have p40 := dt h39
            refine ow1 (op1_gs rfl h25 rfl ?_)
            refine ow1 (op1_gs rfl h25 rfl ?_)
            refine ow1 (op1_gs rfl h25 rfl ?_)
            refine ow1 (op1_l rfl (lo_pick_f (v := .bool _) rfl h25 rfl) ?_)
            refine ow1 (op1_l rfl (lo_assign (v := .bool _) rfl) ?_)
            refine ow_nil ?_
            refine seqK_n ?_
            refine cw_cond_f rfl rfl ?_
            refine cw_seq ?_
            refine cw_seq ?_
            refine cw_region ?_
            refine ow1 (op1_l rfl (lo_fieldAddr rfl fl94_1) ?_)
            refine ow1 (op1_l rfl (lo_load1 (i := 0) (v := .int _ _) rfl ag5 rfl rfl) ?_)
            refine ow1 (op1_l rfl (lo_eql rfl rfl) ?_)
            refine ow1 (op1_l rfl (lo_move (v := .bool _) rfl) ?_)
            refine ow1 (op1_gs rfl h11 rfl ?_)
            refine ow1 (op1_gs rfl h11 rfl ?_)
            refine ow1 (op1_gs rfl h11 rfl ?_)
            refine ow1 (op1_l rfl (lo_pick_f (v := .bool _) rfl h11 rfl) ?_)
            refine ow1 (op1_l rfl (lo_assign (v := .bool _) rfl) ?_)
            refine ow_nil ?_
            refine seqK_n ?_
            refine cw_cond_f rfl rfl ?_
            refine cw_region ?_
            refine ow1 (op1_l rfl (lo_fieldAddr rfl fl94_1) ?_)
            refine ow1 (op1_l rfl (lo_load1 (i := 0) (v := .int _ _) rfl ag5 rfl rfl) ?_)
            refine ow1 (op1_l rfl (lo_neq rfl rfl) ?_)
            refine ow1 (op1_l rfl (lo_move (v := .bool _) rfl) ?_)
            refine ow1 (op1_g rfl (by rw [h11] <;> rfl) rfl (lo_fieldAddr rfl fl94_3) ?_)
            refine ow1 (op1_g rfl (by rw [h11] <;> rfl) rfl (lo_load1 (i := 0) (v := str _) rfl ag9 rfl rfl) ?_)
            refine ow1 (op1_g rfl (by rw [h11] <;> rfl) rfl (lo_sneq rfl rfl) ?_)
            refine ow1 (op1_l rfl (lo_pick_t (v := .bool _) rfl (by rw [h11] <;> rfl) rfl) ?_)
            refine ow1 (op1_l rfl (lo_assign (v := .bool _) rfl) ?_)
            refine ow_nil ?_
            refine seqK_n ?_
            refine cw_cond rfl (fun h41 => ?_) (fun h41 => ?_)
            · have h42 := not_t h41
              have p43 := df h42
              refine cw_seq ?_
              refine cw_region ?_
              refine ow1 (op1_l rfl (lo_assign (v := .int _ _) rfl) ?_)
              refine ow_nil ?_
              refine seqK_n ?_
              refine cw_ret ?_
              refine blkK_r ?_
              refine seqK_r ?_
              refine fnK_r (res1 rfl (rv_t (v := .int _ _) rfl)) (.refl _) ?_
              first | (simp [pairErr, *]; done) | (simp [pairErr, *]; omega)
            · have h44 := not_f h41
              have p45 := dt h44
              refine cw_seq ?_
              refine cw_region ?_
              refine ow1 (op1_l rfl (lo_move (v := .bool _) rfl) ?_)
              refine ow1 (op1_l rfl (lo_assign (v := .bool _) rfl) ?_)
              refine ow_nil ?_
              refine seqK_n ?_
              refine cw_cond rfl (fun h46 => ?_) (fun h46 => ?_)
              · refine cw_seq ?_
                refine cw_region ?_
                refine ow1 (op1_l rfl (lo_assign (v := .int _ _) rfl) ?_)
                refine ow_nil ?_
                refine seqK_n ?_
                refine cw_ret ?_
                refine blkK_r ?_
                refine seqK_r ?_
                refine fnK_r (res1 rfl (rv_t (v := .int _ _) rfl)) (.refl _) ?_
                first | (simp [pairErr, *]; done) | (simp [pairErr, *]; omega)
              · refine cw_skip ?_
                refine blkK_n ?_
                refine seqK_n ?_
                refine cw_seq ?_
                refine cw_region ?_
                refine ow1 (op1_l rfl (lo_assign (v := .int _ _) rfl) ?_)
                refine ow_nil ?_
                refine seqK_n ?_
                refine cw_ret ?_
                refine fnK_r (res1 rfl (rv_t (v := .int _ _) rfl)) (.refl _) ?_
                first | (simp [pairErr, *]; done) | (simp [pairErr, *]; omega)
        · have p47 := df h23
          refine ow1 (op1_gs rfl h23 rfl ?_)
          refine ow1 (op1_gs rfl h23 rfl ?_)
          refine ow1 (op1_gs rfl h23 rfl ?_)
          refine ow1 (op1_l rfl (lo_pick_f (v := .bool _) rfl h23 rfl) ?_)
          refine ow1 (op1_l rfl (lo_move (v := .bool _) rfl) ?_)
          refine ow1 (op1_gs rfl rfl rfl ?_)
          refine ow1 (op1_gs rfl rfl rfl ?_)
          refine ow1 (op1_gs rfl rfl rfl ?_)
          refine ow1 (op1_l rfl (lo_pick_f (v := .bool _) rfl rfl rfl) ?_)
          refine ow1 (op1_l rfl (lo_assign (v := .bool _) rfl) ?_)
          refine ow_nil ?_
          refine seqK_n ?_
          refine cw_cond_f rfl rfl ?_
          refine cw_seq ?_
          refine cw_seq ?_
          refine cw_region ?_
          refine ow1 (op1_l rfl (lo_fieldAddr rfl fl94_1) ?_)
          refine ow1 (op1_l rfl (lo_load1 (i := 0) (v := .int _ _) rfl ag5 rfl rfl) ?_)
          refine ow1 (op1_l rfl (lo_eql rfl rfl) ?_)
          refine ow1 (op1_l rfl (lo_move (v := .bool _) rfl) ?_)
          refine ow1 (op1_gs rfl h11 rfl ?_)
          refine ow1 (op1_gs rfl h11 rfl ?_)
          refine ow1 (op1_gs rfl h11 rfl ?_)
          refine ow1 (op1_l rfl (lo_pick_f (v := .bool _) rfl h11 rfl) ?_)
          refine ow1 (op1_l rfl (lo_assign (v := .bool _) rfl) ?_)
          refine ow_nil ?_
          refine seqK_n ?_
          refine cw_cond_f rfl rfl ?_
          refine cw_region ?_
          refine ow1 (op1_l rfl (lo_fieldAddr rfl fl94_1) ?_)
          refine ow1 (op1_l rfl (lo_load1 (i := 0) (v := .int _ _) rfl ag5 rfl rfl) ?_)
          refine ow1 (op1_l rfl (lo_neq rfl rfl) ?_)
          refine ow1 (op1_l rfl (lo_move (v := .bool _) rfl) ?_)
          refine ow1 (op1_g rfl (by rw [h11] <;> rfl) rfl (lo_fieldAddr rfl fl94_3) ?_)
          refine ow1 (op1_g rfl (by rw [h11] <;> rfl) rfl (lo_load1 (i := 0) (v := str _) rfl ag9 rfl rfl) ?_)
          refine ow1 (op1_g rfl (by rw [h11] <;> rfl) rfl (lo_sneq rfl rfl) ?_)
          refine ow1 (op1_l rfl (lo_pick_t (v := .bool _) rfl (by rw [h11] <;> rfl) rfl) ?_)
          refine ow1 (op1_l rfl (lo_assign (v := .bool _) rfl) ?_)
          refine ow_nil ?_
          refine seqK_n ?_
          refine cw_cond rfl (fun h48 => ?_) (fun h48 => ?_)
          · have h49 := not_t h48
            have p50 := df h49
            refine cw_seq ?_
            refine cw_region ?_
            refine ow1 (op1_l rfl (lo_assign (v := .int _ _) rfl) ?_)
            refine ow_nil ?_
            refine seqK_n ?_
            refine cw_ret ?_
            refine blkK_r ?_
            refine seqK_r ?_
            refine fnK_r (res1 rfl (rv_t (v := .int _ _) rfl)) (.refl _) ?_
            first | (simp [pairErr, *]; done) | (simp [pairErr, *]; omega)
          · have h51 := not_f h48
            have p52 := dt h51
            refine cw_seq ?_
            refine cw_region ?_
            refine ow1 (op1_l rfl (lo_move (v := .bool _) rfl) ?_)
            refine ow1 (op1_l rfl (lo_assign (v := .bool _) rfl) ?_)
            refine ow_nil ?_
            refine seqK_n ?_
            refine cw_cond rfl (fun h53 => ?_) (fun h53 => ?_)
            · refine cw_seq ?_
              refine cw_region ?_
              refine ow1 (op1_l rfl (lo_assign (v := .int _ _) rfl) ?_)
              refine ow_nil ?_
              refine seqK_n ?_
              refine cw_ret ?_
              refine blkK_r ?_
              refine seqK_r ?_
              refine fnK_r (res1 rfl (rv_t (v := .int _ _) rfl)) (.refl _) ?_
              first | (simp [pairErr, *]; done) | (simp [pairErr, *]; omega)
            · refine cw_skip ?_
              refine blkK_n ?_
              refine seqK_n ?_
              refine cw_seq ?_
              refine cw_region ?_
              refine ow1 (op1_l rfl (lo_assign (v := .int _ _) rfl) ?_)
              refine ow_nil ?_
              refine seqK_n ?_
              refine cw_ret ?_
              refine fnK_r (res1 rfl (rv_t (v := .int _ _) rfl)) (.refl _) ?_
              first | (simp [pairErr, *]; done) | (simp [pairErr, *]; omega)

theorem head_Check (H : Hp) (h_a : Option Addr) (h_l h_c : Nat) (h : List Pair) (h_h : SlH pairE 4 H (.slice h_a h_l h_c) h) (hl : h.length ≤ 9223372036854775807) : Pr Tryd.prog 78 #[.slice h_a h_l h_c] H (.int .i64 (headE h)) := by
  refine pr_cw Tryd.func78 rfl Tryd.ntmps78 rfl (fun N => ?_)
  refine cw_seq ?_
  refine cw_region ?_
  refine ow1 (op1_l rfl (lo_assign (v := .int _ _) rfl) ?_)
  refine ow_nil ?_
  refine seqK_n ?_
  refine cw_seq ?_
  refine cw_seq ?_
  refine cw_region ?_
  refine ow1 (op1_l rfl (lo_move (v := .slice _ _ _) rfl) ?_)
  refine ow1 (op1_l rfl (lo_len_slh rfl h_h Tryd.underlying23) ?_)
  refine ow1 (op1_l rfl (lo_gtr rfl rfl) ?_)
  refine ow_nil ?_
  refine seqK_n ?_
  refine cw_cond rfl (fun h1 => ?_) (fun h1 => ?_)
  · have p2 := dt h1
    refine cw_seq ?_
    refine cw_region ?_
    refine ow1 (op1_l rfl (lo_assign (v := .int _ _) rfl) ?_)
    refine ow_nil ?_
    refine seqK_n ?_
    refine cw_ret ?_
    refine seqK_r ?_
    refine fnK_r (res1 rfl (rv_t (v := .int _ _) rfl)) (.refl _) ?_
    simp [headE, *]
  · have p3 := df h1
    refine cw_skip ?_
    refine seqK_n ?_
    refine cw_seq ?_
    refine cw_seq ?_
    refine cw_region ?_
    refine ow1 (op1_l rfl (lo_move (v := .slice _ _ _) rfl) ?_)
    refine ow1 (op1_l rfl (lo_len_slh rfl h_h Tryd.underlying23) ?_)
    refine ow1 (op1_l rfl (lo_move (v := .int _ _) rfl) ?_)
    refine ow_nil ?_
    refine seqK_n ?_
    refine cw_block ?_
    refine cw_loop1 [2, 3, 4, 5, 11, 12, 13, 14, 15, 16, 17, 18, 19, 20, 21, 22, 23, 24] [0] (fun (k : Nat) G => upd (G) 11 (.int .i64 (k : Int))) (fun (k : Nat) G => G) (fun (k : Nat) H' => k ≤ h.length ∧ headGo [] h = headGo (h.take k) (h.drop k)) (fun (k : Nat) => h.length - k) 0 (upd_intro (mask_intro (by first | exact off_refl | (repeat (first | exact off_mask | refine off_upd rfl ?_ | refine off_mask2 rfl ?_)))) rfl) (lmask_intro offl_refl) ?_ ?_
    · exact ⟨Nat.zero_le _, rfl⟩
    · intro k J5 JL5 H5 hp4 hl5
      obtain ⟨hk1, hk2⟩ := hp4
      refine cw_seq ?_
      refine cw_region ?_
      refine ow1 (op1_l rfl (lo_lss rfl rfl) ?_)
      refine ow_nil ?_
      refine seqK_n ?_
      refine cw_seq ?_
      refine cw_cond rfl (fun h6 => ?_) (fun h6 => ?_)
      · have p7 := dt h6
        refine cw_skip ?_
        refine seqK_n ?_
        refine cw_seq ?_
        refine cw_block ?_
        refine cw_seq ?_
        refine cw_region ?_
        refine ow1 (op1_l rfl (lo_move (v := .int _ _) rfl) ?_)
        obtain ⟨c8, hc9⟩ := getE (xs := h) (m := k) (by omega)
        obtain ⟨cs10, hE11, at12⟩ := (h_h.mono ((HLe.refl _).trans hl5) (fun _ _ h => h)).get hc9
        obtain ⟨rfl, c8_w⟩ := hE11
        have c8_w' := c8_w
        simp only [Pair.wf] at c8_w'
        refine ow1 (op1_l rfl (lo_indexAddr rfl rfl (h_h.mono ((HLe.refl _).trans hl5) (fun _ _ h => h)).1 at12 Tryd.underlying23 sz94 (by omega) (by omega)) ?_)
        refine ow1 (op1_l rfl (lo_loadEA rfl ag94 sz94 at12) ?_)
        refine ow1 (op1_alloc 0 rfl zr94 (fun b13 => ?_))
        refine ow1 (op1_l rfl (lo_assign (v := .int _ _) rfl) ?_)
        refine ow1 (op1_storeA (i := 0) (vs := [_, _, _, _]) rfl rfl rfl sz94 rfl rfl rfl ?_)
        refine ow_nil ?_
        refine seqK_n ?_
        refine cw_seq ?_
        refine cw_anyL mixd ?_
        refine vw_q 0 rfl (by kernel_rfl) (by repeat (first | exact lle_l0 | exact LLe.refl _ | exact lle_none | refine lle_up ?_ rfl)) (fun _ _ hh hl => lo_loadA (i := 0) (vs := [_, _, _, _]) rfl ag94 sz94 (hl _ _ rfl) rfl rfl) ?_
        refine vw_q 1 rfl (by kernel_rfl) (by repeat (first | exact lle_l0 | exact LLe.refl _ | exact lle_none | refine lle_up ?_ rfl)) (fun _ _ hh hl => lo_move (v := .slice _ _ _) rfl) ?_
        refine vw_q 2 rfl (by kernel_rfl) (by repeat (first | exact lle_l0 | exact LLe.refl _ | exact lle_none | refine lle_up ?_ rfl)) (fun _ _ hh hl => lo_move (v := .int _ _) rfl) ?_
        refine vw_q 3 rfl (by kernel_rfl) (by repeat (first | exact lle_l0 | exact LLe.refl _ | exact lle_none | refine lle_up ?_ rfl)) (fun _ _ hh hl => lo_slice_slh_hi k rfl rfl Tryd.underlying23 sz94 (by omega) (Nat.le_trans (by omega) (slh_cap (h_h.mono ((HLe.refl _).trans hl5) (fun _ _ h => h))))) ?_
        have := pairErr_r c8 (h.take k)
        refine vw_qc 4 rfl (by kernel_rfl) (by repeat (first | exact lle_l0 | exact LLe.refl _ | exact lle_none | refine lle_up ?_ rfl)) (head_pair _ c8 c8_w (slA h_a h_c 0 4) k h_c (h.take k) (slh_take (q := k) (h_h.mono ((HLe.refl _).trans hl5) (fun _ _ h => h)) (by omega)) (by first | omega | (simp <;> omega))) (en_f cb96 rfl) ?_
        refine vw_q 5 rfl (by kernel_rfl) (by repeat (first | exact lle_l0 | exact LLe.refl _ | exact lle_none | refine lle_up ?_ rfl)) (fun _ _ hh hl => lo_assign (v := .int _ _) rfl) ?_
        refine vw_done (by kernel_rfl) ?_
        refine seqK_n ?_
        refine cw_seq ?_
        refine cw_region ?_
        refine ow1 (op1_l rfl (lo_move (v := .int _ _) rfl) ?_)
        refine ow1 (op1_l rfl (lo_neq rfl rfl) ?_)
        refine ow_nil ?_
        refine seqK_n ?_
        refine cw_cond rfl (fun h14 => ?_) (fun h14 => ?_)
        · have h15 := not_t h14
          have p16 := df h15
          refine cw_seq ?_
          refine cw_region ?_
          refine ow1 (op1_l rfl (lo_move (v := .int _ _) rfl) ?_)
          refine ow1 (op1_l rfl (lo_assign (v := .int _ _) rfl) ?_)
          refine ow_nil ?_
          refine seqK_n ?_
          refine cw_ret ?_
          refine blkK_r ?_
          refine seqK_r ?_
          refine loopK_r ?_
          refine blkK_r ?_
          refine seqK_r ?_
          refine fnK_r (res1 rfl (rv_t (v := .int _ _) rfl)) ((HLe.refl _).trans hl5) ?_
          unfold headE
          rw [if_neg (by omega), hk2, dropE hc9]
          simp only [headGo]
          rw [if_pos (by omega)]
        · have h17 := not_f h14
          have p18 := dt h17
          refine cw_skip ?_
          refine blkK_n ?_
          refine seqK_n ?_
          refine cw_region ?_
          refine ow1 (op1_l rfl (lo_add rfl rfl (rg_i64 (by omega))) ?_)
          refine ow1 (op1_l rfl (lo_move (v := .int _ _) rfl) ?_)
          refine ow_nil ?_
          refine next1 (k + 1) (upd_intro (mask_intro (by first | exact off_refl | (repeat (first | exact off_mask | refine off_upd rfl ?_ | refine off_mask2 rfl ?_)))) rfl) (lmask_intro (by first | exact offl_refl | (repeat (first | exact offl_mask | refine offl_upd rfl ?_ | refine offl_mask2 rfl ?_)))) hl5 ?_ ?_
          · refine ⟨by omega, ?_⟩
            rw [hk2, dropE hc9, takeE hc9]
            simp only [headGo]
            rw [if_neg (by omega)]
          · omega
      · have p19 := df h6
        refine cw_exit ?_
        refine seqK_e ?_
        refine loopK_e ?_
        refine blkK_hit ?_
        refine seqK_n ?_
        refine cw_seq ?_
        refine cw_region ?_
        refine ow1 (op1_l rfl (lo_assign (v := .int _ _) rfl) ?_)
        refine ow_nil ?_
        refine seqK_n ?_
        refine cw_ret ?_
        refine fnK_r (res1 rfl (rv_t (v := .int _ _) rfl)) ((HLe.refl _).trans hl5) ?_
        unfold headE
        rw [if_neg (by omega), hk2, List.drop_of_length_le (by omega)]
        rfl

end Go.SW


set_option linter.unusedVariables false
set_option maxRecDepth 100000
set_option maxHeartbeats 4000000
namespace Go.SW
open Go.Proofs
theorem bd78  (w : World) : (Instr.build 78 #[]).run Tryd.prog w = .ok (.agg #[str [], .int .i64 0]) w := by kernel_rfl
theorem cb45 : Callable Tryd.prog 45 := callable_of Tryd.func45 (by kernel_rfl) (by kernel_rfl)
theorem cb49 : Callable Tryd.prog 49 := callable_of Tryd.func49 (by kernel_rfl) (by kernel_rfl)
theorem cb78 : Callable Tryd.prog 78 := callable_of Tryd.func78 (by kernel_rfl) (by kernel_rfl)

theorem head_Bytes (H : Hp) (h_a : Option Addr) (h_l h_c : Nat) (h : List Pair) (h_h : SlH pairE 4 H (.slice h_a h_l h_c) h) (hl : h.length ≤ 9223372036854775807) : Pr Tryd.prog 47 #[.slice h_a h_l h_c] H (.tuple #[str (headBytes h), .int .i64 (headE h)]) := by
  refine pr_cw Tryd.func47 rfl Tryd.ntmps47 rfl (fun N => ?_)
  refine cw_seq ?_
  refine cw_region ?_
  refine ow1 (op1_l rfl (lo_assign (v := str _) rfl) ?_)
  refine ow1 (op1_l rfl (lo_assign (v := .int _ _) rfl) ?_)
  refine ow_nil ?_
  refine seqK_n ?_
  refine cw_seq ?_
  refine cw_seq ?_
  refine cw_region ?_
  refine ow1 (op1_l rfl (lo_move (v := .slice _ _ _) rfl) ?_)
  refine ow1 (op1_pr (head_Check _ h_a h_l h_c h h_h (by first | omega | (simp <;> omega))) (en_f cb78 rfl) rfl ?_)
  refine ow1 (op1_l rfl (lo_assign (v := .int _ _) rfl) ?_)
  refine ow_nil ?_
  refine seqK_n ?_
  refine cw_seq ?_
  refine cw_region ?_
  refine ow1 (op1_l rfl (lo_move (v := .int _ _) rfl) ?_)
  refine ow1 (op1_l rfl (lo_neq rfl rfl) ?_)
  refine ow_nil ?_
  refine seqK_n ?_
  refine cw_cond rfl (fun h1 => ?_) (fun h1 => ?_)
  · have h2 := not_t h1
    have p3 := df h2
    refine cw_seq ?_
    refine cw_region ?_
    refine ow1 (op1_l rfl (lo_move (v := .int _ _) rfl) ?_)
    refine ow1 (op1_l rfl (lo_assign (v := str _) rfl) ?_)
    refine ow1 (op1_l rfl (lo_assign (v := .int _ _) rfl) ?_)
    refine ow_nil ?_
    refine seqK_n ?_
    refine cw_ret ?_
    refine seqK_r ?_
    refine fnK_r (res2 rfl (rv_t (v := str _) rfl) (rv_t (v := .int _ _) rfl)) (.refl _) ?_
    unfold headBytes
    rw [if_neg (by omega)]
  · have h4 := not_f h1
    have p5 := dt h4
    refine cw_skip ?_
    refine seqK_n ?_
    refine cw_seq ?_
    refine cw_region ?_
    refine ow1 (op1_l rfl (lo_build (v := .agg #[_, _]) rfl (bd78)) ?_)
    refine ow1 (op1_l rfl (lo_move (v := .slice _ _ _) rfl) ?_)
    refine ow1 (op1_l rfl (lo_len_slh rfl h_h Tryd.underlying23) ?_)
    refine ow1 (op1_l rfl (lo_conv_in rfl (by rw [Tryd.underlying3]; rfl) Tryd.underlying22 (rg_u64 (by omega))) ?_)
    refine ow1 (op1_pr (out_Num _ (⟨[], 0⟩ : Out) (h.length : Int) (by omega) 1 (by omega) (by first | omega | (have := hrl (by assumption); omega) | (simp [outNum, outRaw, numB_len, numK] <;> omega) | (have := hrl (by assumption); simp [outNum, outRaw, numB_len, numK] <;> omega))) (en_f cb46 rfl) rfl ?_)
    have nl0 : (⟨[], 0⟩ : Out).s.length = 0 := rfl
    have := outNum_len (⟨[], 0⟩ : Out) (h.length : Int) 1
    refine ow1 (op1_alloc 0 rfl zr78 (fun b6 => ?_))
    refine ow1 (op1_storeA (i := 0) (vs := [_, _]) rfl rfl rfl sz78 rfl rfl rfl ?_)
    refine ow_nil ?_
    refine seqK_n ?_
    refine cw_seq ?_
    refine cw_seq ?_
    refine cw_region ?_
    refine ow1 (op1_l rfl (lo_move (v := .slice _ _ _) rfl) ?_)
    refine ow1 (op1_l rfl (lo_len_slh rfl h_h Tryd.underlying23) ?_)
    refine ow1 (op1_l rfl (lo_move (v := .int _ _) rfl) ?_)
    refine ow_nil ?_
    refine seqK_n ?_
    refine cw_block ?_
    refine cw_loop2 [7, 20, 21, 22, 23, 24, 25, 26, 27, 28, 29, 30, 31, 32, 33, 34, 35, 36, 37, 38, 39, 40, 41, 42, 43, 44, 45, 46, 47, 48, 49, 50, 51, 52, 53, 54] [0, 1] (fun (k : Nat) (o : Out) G => upd (G) 20 (.int .i64 (k : Int))) (fun (k : Nat) (o : Out) G => lupd (G) 0 (some (b6, bx 78 (Out.cells o)))) (fun (k : Nat) (o : Out) H' => k ≤ h.length ∧ h.foldl pairOut (outNum ⟨[], 0⟩ h.length 1) = (h.drop k).foldl pairOut o ∧ o.s.length ≤ 8 + 110 * k) (fun (k : Nat) (o : Out) => h.length - k) 0 (outNum ⟨[], 0⟩ h.length 1) (upd_intro (mask_intro (by first | exact off_refl | (repeat (first | exact off_mask | refine off_upd rfl ?_ | refine off_mask2 rfl ?_)))) rfl) (lupd_intro (lmask_intro offl_refl) rfl) ?_ ?_
    · exact ⟨Nat.zero_le _, rfl, by simp at *; omega⟩
    · intro k o J8 JL8 H8 hp7 hl8
      obtain ⟨hk1, hk2, hk3⟩ := hp7
      have hok := headE_ok (h := h) (by assumption)
      refine cw_seq ?_
      refine cw_region ?_
      refine ow1 (op1_l rfl (lo_lss rfl rfl) ?_)
      refine ow_nil ?_
      refine seqK_n ?_
      refine cw_seq ?_
      refine cw_cond rfl (fun h9 => ?_) (fun h9 => ?_)
      · have p10 := dt h9
        refine cw_skip ?_
        refine seqK_n ?_
        refine cw_seq ?_
        refine cw_block ?_
        refine cw_seq ?_
        refine cw_region ?_
        obtain ⟨c11, hc12⟩ := getE (xs := h) (m := k) (by omega)
        obtain ⟨cs13, hE14, at15⟩ := (h_h.mono ((HLe.refl _).trans hl8) (fun _ _ h => h)).get hc12
        obtain ⟨rfl, c11_w⟩ := hE14
        have c11_w' := c11_w
        simp only [Pair.wf] at c11_w'
        have hpk := hok.2 c11 (List.mem_of_getElem? hc12)
        refine ow1 (op1_l rfl (lo_indexAddr rfl rfl (h_h.mono ((HLe.refl _).trans hl8) (fun _ _ h => h)).1 at15 Tryd.underlying23 sz94 (by omega) (by omega)) ?_)
        refine ow1 (op1_l rfl (lo_loadEA rfl ag94 sz94 at15) ?_)
        refine ow1 (op1_alloc 1 rfl zr94 (fun b16 => ?_))
        refine ow1 (op1_storeA (i := 1) (vs := [_, _, _, _]) rfl rfl rfl sz94 rfl rfl rfl ?_)
        refine ow_nil ?_
        refine seqK_n ?_
        refine cw_seq ?_
        refine cw_anyL mixd ?_
        refine vw_q 0 rfl (by kernel_rfl) (by repeat (first | exact lle_l0 | exact LLe.refl _ | exact lle_none | refine lle_up ?_ rfl)) (fun _ _ hh hl => lo_loadA (i := 0) (vs := [_, _]) rfl ag78 sz78 (hl _ _ rfl) rfl rfl) ?_
        refine vw_q 1 rfl (by kernel_rfl) (by repeat (first | exact lle_l0 | exact LLe.refl _ | exact lle_none | refine lle_up ?_ rfl)) (fun _ _ hh hl => lo_fieldAddr rfl fl94_0) ?_
        refine vw_q 2 rfl (by kernel_rfl) (by repeat (first | exact lle_l0 | exact LLe.refl _ | exact lle_none | refine lle_up ?_ rfl)) (fun _ _ hh hl => lo_load1 (i := 1) (v := str _) rfl ag9 (hl _ _ rfl) rfl) ?_
        have := outText_len o c11.key
        refine vw_qc 3 rfl (by kernel_rfl) (by repeat (first | exact lle_l0 | exact LLe.refl _ | exact lle_none | refine lle_up ?_ rfl)) (out_Text _ o c11.key (by first | omega | (have := hrl (by assumption); omega) | (simp [outNum, outRaw, numB_len, numK] <;> omega) | (have := hrl (by assumption); simp [outNum, outRaw, numB_len, numK] <;> omega))) (en_f cb45 rfl) ?_
        refine vw_q 4 rfl (by kernel_rfl) (by repeat (first | exact lle_l0 | exact LLe.refl _ | exact lle_none | refine lle_up ?_ rfl)) (fun _ _ hh hl => lo_fieldAddr rfl fl94_1) ?_
        refine vw_q 5 rfl (by kernel_rfl) (by repeat (first | exact lle_l0 | exact LLe.refl _ | exact lle_none | refine lle_up ?_ rfl)) (fun _ _ hh hl => lo_load1 (i := 1) (v := .int _ _) rfl ag5 (hl _ _ rfl) rfl) ?_
        refine vw_q 6 rfl (by kernel_rfl) (by repeat (first | exact lle_l0 | exact LLe.refl _ | exact lle_none | refine lle_up ?_ rfl)) (fun _ _ hh hl => lo_conv_in rfl (by rw [Tryd.underlying5]; rfl) Tryd.underlying22 (rg_u64 (by omega))) ?_
        have := outNum_len (outText o c11.key) c11.kind 1
        refine vw_qc 7 rfl (by kernel_rfl) (by repeat (first | exact lle_l0 | exact LLe.refl _ | exact lle_none | refine lle_up ?_ rfl)) (out_Num _ (outText o c11.key) c11.kind (by omega) 1 (by omega) (by first | omega | (have := hrl (by assumption); omega) | (simp [outNum, outRaw, numB_len, numK] <;> omega) | (have := hrl (by assumption); simp [outNum, outRaw, numB_len, numK] <;> omega))) (en_f cb46 rfl) ?_
        refine vw_t 8 rfl (by kernel_rfl) (by kernel_rfl) (op1_storeA (i := 0) (vs := [_, _]) rfl rfl rfl sz78 rfl rfl rfl ?_)
        refine vw_done (by kernel_rfl) ?_
        refine seqK_n ?_
        refine cw_seq ?_
        refine cw_region ?_
        refine ow1 (op1_l rfl (lo_fieldAddr rfl fl94_1) ?_)
        refine ow1 (op1_l rfl (lo_load1 (i := 1) (v := .int _ _) rfl ag5 rfl rfl) ?_)
        refine ow_nil ?_
        refine seqK_n ?_
        refine cw_block ?_
        refine cw_seq ?_
        refine cw_region ?_
        refine ow1 (op1_l rfl (lo_eql rfl rfl) ?_)
        refine ow1 (op1_l rfl (lo_assign (v := .bool _) rfl) ?_)
        refine ow_nil ?_
        refine seqK_n ?_
        refine cw_cond rfl (fun h17 => ?_) (fun h17 => ?_)
        · have p18 := dt h17
          refine cw_region ?_
          refine ow1 (op1_l rfl (lo_loadA (i := 0) (vs := [_, _]) rfl ag78 sz78 rfl rfl rfl) ?_)
          refine ow1 (op1_l rfl (lo_fieldAddr rfl fl94_2) ?_)
          refine ow1 (op1_l rfl (lo_load1 (i := 1) (v := .int _ _) rfl ag2 rfl rfl) ?_)
          have := wr_u64 c11.num
          refine ow1 (op1_l rfl (lo_conv rfl (by rw [Tryd.underlying2]; rfl) Tryd.underlying22) ?_)
          refine ow1 (op1_pr (out_Num _ (outNum (outText o c11.key) c11.kind 1) (IntKind.wrap .u64 c11.num) (by omega) 8 (by omega) (by first | omega | (have := hrl (by assumption); omega) | (simp [outNum, outRaw, numB_len, numK] <;> omega) | (have := hrl (by assumption); simp [outNum, outRaw, numB_len, numK] <;> omega))) (en_f cb46 rfl) rfl ?_)
          have := outNum_len (outNum (outText o c11.key) c11.kind 1) (IntKind.wrap .u64 c11.num) 8
          refine ow1 (op1_storeA (i := 0) (vs := [_, _]) rfl rfl rfl sz78 rfl rfl rfl ?_)
          refine ow_nil ?_
          refine blkK_n ?_
          refine blkK_n ?_
          refine seqK_n ?_
          refine cw_region ?_
          refine ow1 (op1_l rfl (lo_add rfl rfl (rg_i64 (by omega))) ?_)
          refine ow1 (op1_l rfl (lo_move (v := .int _ _) rfl) ?_)
          refine ow_nil ?_
          refine next2 (k + 1) (outNum (outNum (outText o c11.key) c11.kind 1) (IntKind.wrap .u64 c11.num) 8) (upd_intro (mask_intro (by first | exact off_refl | (repeat (first | exact off_mask | refine off_upd rfl ?_ | refine off_mask2 rfl ?_)))) rfl) (lupd_intro (lmask_intro (by first | exact offl_refl | (repeat (first | exact offl_mask | refine offl_upd rfl ?_ | refine offl_mask2 rfl ?_)))) rfl) hl8 ?_ ?_
          · have e : (outNum (outNum (outText o c11.key) c11.kind 1) (IntKind.wrap .u64 c11.num) 8) = pairOut o c11 := by unfold pairOut; first | (rw [if_pos (by omega)]; done) | (rw [if_neg (by omega), if_pos (by omega)]; done) | (rw [if_neg (by omega), if_neg (by omega), if_pos (by omega)]; done) | (rw [if_neg (by omega), if_neg (by omega), if_neg (by omega)]; done)
            rw [e]
            have hlo := pairOut_len (o := o) (hok.2 c11 (List.mem_of_getElem? hc12))
            refine ⟨by omega, ?_, by omega⟩
            rw [hk2, dropE hc12, List.foldl_cons]
          · omega
        · have p19 := df h17
          refine cw_seq ?_
          refine cw_region ?_
          refine ow1 (op1_l rfl (lo_eql rfl rfl) ?_)
          refine ow1 (op1_l rfl (lo_assign (v := .bool _) rfl) ?_)
          refine ow_nil ?_
          refine seqK_n ?_
          refine cw_cond rfl (fun h20 => ?_) (fun h20 => ?_)
          · have p21 := dt h20
            refine cw_region ?_
            refine ow1 (op1_l rfl (lo_loadA (i := 0) (vs := [_, _]) rfl ag78 sz78 rfl rfl rfl) ?_)
            refine ow1 (op1_l rfl (lo_fieldAddr rfl fl94_3) ?_)
            refine ow1 (op1_l rfl (lo_load1 (i := 1) (v := str _) rfl ag9 rfl rfl) ?_)
            refine ow1 (op1_pr (out_Text _ (outNum (outText o c11.key) c11.kind 1) c11.text (by first | omega | (have := hrl (by assumption); omega) | (simp [outNum, outRaw, numB_len, numK] <;> omega) | (have := hrl (by assumption); simp [outNum, outRaw, numB_len, numK] <;> omega))) (en_f cb45 rfl) rfl ?_)
            have := outText_len (outNum (outText o c11.key) c11.kind 1) c11.text
            refine ow1 (op1_storeA (i := 0) (vs := [_, _]) rfl rfl rfl sz78 rfl rfl rfl ?_)
            refine ow_nil ?_
            refine blkK_n ?_
            refine blkK_n ?_
            refine seqK_n ?_
            refine cw_region ?_
            refine ow1 (op1_l rfl (lo_add rfl rfl (rg_i64 (by omega))) ?_)
            refine ow1 (op1_l rfl (lo_move (v := .int _ _) rfl) ?_)
            refine ow_nil ?_
            refine next2 (k + 1) (outText (outNum (outText o c11.key) c11.kind 1) c11.text) (upd_intro (mask_intro (by first | exact off_refl | (repeat (first | exact off_mask | refine off_upd rfl ?_ | refine off_mask2 rfl ?_)))) rfl) (lupd_intro (lmask_intro (by first | exact offl_refl | (repeat (first | exact offl_mask | refine offl_upd rfl ?_ | refine offl_mask2 rfl ?_)))) rfl) hl8 ?_ ?_
            · have e : (outText (outNum (outText o c11.key) c11.kind 1) c11.text) = pairOut o c11 := by unfold pairOut; first | (rw [if_pos (by omega)]; done) | (rw [if_neg (by omega), if_pos (by omega)]; done) | (rw [if_neg (by omega), if_neg (by omega), if_pos (by omega)]; done) | (rw [if_neg (by omega), if_neg (by omega), if_neg (by omega)]; done)
              rw [e]
              have hlo := pairOut_len (o := o) (hok.2 c11 (List.mem_of_getElem? hc12))
              refine ⟨by omega, ?_, by omega⟩
              rw [hk2, dropE hc12, List.foldl_cons]
            · omega
          · have p22 := df h20
            refine cw_seq ?_
            refine cw_region ?_
            refine ow1 (op1_l rfl (lo_eql rfl rfl) ?_)
            refine ow1 (op1_l rfl (lo_assign (v := .bool _) rfl) ?_)
            refine ow_nil ?_
            refine seqK_n ?_
            refine cw_cond rfl (fun h23 => ?_) (fun h23 => ?_)
            · have p24 := dt h23
              refine cw_region ?_
              refine ow1 (op1_l rfl (lo_loadA (i := 0) (vs := [_, _]) rfl ag78 sz78 rfl rfl rfl) ?_)
              refine ow1 (op1_l rfl (lo_fieldAddr rfl fl94_2) ?_)
              refine ow1 (op1_l rfl (lo_load1 (i := 1) (v := .int _ _) rfl ag2 rfl rfl) ?_)
              have := wr_u64 c11.num
              refine ow1 (op1_l rfl (lo_conv rfl (by rw [Tryd.underlying2]; rfl) Tryd.underlying22) ?_)
              refine ow1 (op1_pr (out_Num _ (outNum (outText o c11.key) c11.kind 1) (IntKind.wrap .u64 c11.num) (by omega) 1 (by omega) (by first | omega | (have := hrl (by assumption); omega) | (simp [outNum, outRaw, numB_len, numK] <;> omega) | (have := hrl (by assumption); simp [outNum, outRaw, numB_len, numK] <;> omega))) (en_f cb46 rfl) rfl ?_)
              have := outNum_len (outNum (outText o c11.key) c11.kind 1) (IntKind.wrap .u64 c11.num) 1
              refine ow1 (op1_storeA (i := 0) (vs := [_, _]) rfl rfl rfl sz78 rfl rfl rfl ?_)
              refine ow_nil ?_
              refine blkK_n ?_
              refine blkK_n ?_
              refine seqK_n ?_
              refine cw_region ?_
              refine ow1 (op1_l rfl (lo_add rfl rfl (rg_i64 (by omega))) ?_)
              refine ow1 (op1_l rfl (lo_move (v := .int _ _) rfl) ?_)
              refine ow_nil ?_
              refine next2 (k + 1) (outNum (outNum (outText o c11.key) c11.kind 1) (IntKind.wrap .u64 c11.num) 1) (upd_intro (mask_intro (by first | exact off_refl | (repeat (first | exact off_mask | refine off_upd rfl ?_ | refine off_mask2 rfl ?_)))) rfl) (lupd_intro (lmask_intro (by first | exact offl_refl | (repeat (first | exact offl_mask | refine offl_upd rfl ?_ | refine offl_mask2 rfl ?_)))) rfl) hl8 ?_ ?_
              · have e : (outNum (outNum (outText o c11.key) c11.kind 1) (IntKind.wrap .u64 c11.num) 1) = pairOut o c11 := by unfold pairOut; first | (rw [if_pos (by omega)]; done) | (rw [if_neg (by omega), if_pos (by omega)]; done) | (rw [if_neg (by omega), if_neg (by omega), if_pos (by omega)]; done) | (rw [if_neg (by omega), if_neg (by omega), if_neg (by omega)]; done)
                rw [e]
                have hlo := pairOut_len (o := o) (hok.2 c11 (List.mem_of_getElem? hc12))
                refine ⟨by omega, ?_, by omega⟩
                rw [hk2, dropE hc12, List.foldl_cons]
              · omega
            · have p25 := df h23
              refine cw_skip ?_
              refine blkK_n ?_
              refine blkK_n ?_
              refine seqK_n ?_
              refine cw_region ?_
              refine ow1 (op1_l rfl (lo_add rfl rfl (rg_i64 (by omega))) ?_)
              refine ow1 (op1_l rfl (lo_move (v := .int _ _) rfl) ?_)
              refine ow_nil ?_
              refine next2 (k + 1) (outNum (outText o c11.key) c11.kind 1) (upd_intro (mask_intro (by first | exact off_refl | (repeat (first | exact off_mask | refine off_upd rfl ?_ | refine off_mask2 rfl ?_)))) rfl) (lupd_intro (lmask_intro (by first | exact offl_refl | (repeat (first | exact offl_mask | refine offl_upd rfl ?_ | refine offl_mask2 rfl ?_)))) rfl) hl8 ?_ ?_
              · have e : (outNum (outText o c11.key) c11.kind 1) = pairOut o c11 := by unfold pairOut; first | (rw [if_pos (by omega)]; done) | (rw [if_neg (by omega), if_pos (by omega)]; done) | (rw [if_neg (by omega), if_neg (by omega), if_pos (by omega)]; done) | (rw [if_neg (by omega), if_neg (by omega), if_neg (by omega)]; done)
                rw [e]
                have hlo := pairOut_len (o := o) (hok.2 c11 (List.mem_of_getElem? hc12))
                refine ⟨by omega, ?_, by omega⟩
                rw [hk2, dropE hc12, List.foldl_cons]
              · omega
      · have p26 := df h9
        refine cw_exit ?_
        refine seqK_e ?_
        refine loopK_e ?_
        refine blkK_hit ?_
        refine seqK_n ?_
        refine cw_seq ?_
        refine cw_region ?_
        refine ow1 (op1_l rfl (lo_loadA (i := 0) (vs := [_, _]) rfl ag78 sz78 rfl rfl rfl) ?_)
        refine ow1 (op1_pr (out_String _ o) (en_f cb49 rfl) rfl ?_)
        refine ow1 (op1_l rfl (lo_assign (v := str _) rfl) ?_)
        refine ow1 (op1_l rfl (lo_assign (v := .int _ _) rfl) ?_)
        refine ow_nil ?_
        refine seqK_n ?_
        refine cw_ret ?_
        refine fnK_r (res2 rfl (rv_t (v := str _) rfl) (rv_t (v := .int _ _) rfl)) ((HLe.refl _).trans hl8) ?_
        unfold headBytes
        rw [if_pos (by assumption)]
        rw [List.drop_of_length_le (by omega), List.foldl_nil] at hk2
        rw [show headOut h = o from hk2]
        have e0 : headE h = 0 := by assumption
        rw [e0]

end Go.SW


set_option linter.unusedVariables false
set_option maxRecDepth 100000
set_option maxHeartbeats 4000000
namespace Go.SW
open Go.Proofs
theorem ag22 : Ag Tryd.prog 22 false := fun w => by kernel_rfl
theorem ag23 : Ag Tryd.prog 23 false := fun w => by kernel_rfl
theorem ag25 : Ag Tryd.prog 25 true := fun w => by kernel_rfl
theorem ag27 : Ag Tryd.prog 27 true := fun w => by kernel_rfl
theorem ag4 : Ag Tryd.prog 4 false := fun w => by kernel_rfl
theorem cb53 : Callable Tryd.prog 53 := callable_of Tryd.func53 (by kernel_rfl) (by kernel_rfl)
theorem cb55 : Callable Tryd.prog 55 := callable_of Tryd.func55 (by kernel_rfl) (by kernel_rfl)
theorem cb81 : Callable Tryd.prog 81 := callable_of Tryd.func81 (by kernel_rfl) (by kernel_rfl)
theorem cb83 : Callable Tryd.prog 83 := callable_of Tryd.func83 (by kernel_rfl) (by kernel_rfl)
theorem fl25_0 : Fld Tryd.prog 25 0 0 := fun b o w => by kernel_rfl
theorem fl25_1 : Fld Tryd.prog 25 1 1 := fun b o w => by kernel_rfl
theorem fl25_2 : Fld Tryd.prog 25 2 2 := fun b o w => by kernel_rfl
theorem fl25_3 : Fld Tryd.prog 25 3 3 := fun b o w => by kernel_rfl
theorem fl25_4 : Fld Tryd.prog 25 4 4 := fun b o w => by kernel_rfl
theorem fl25_5 : Fld Tryd.prog 25 5 5 := fun b o w => by kernel_rfl
theorem fl25_6 : Fld Tryd.prog 25 6 6 := fun b o w => by kernel_rfl
theorem fl27_1 : Fld Tryd.prog 27 1 1 := fun b o w => by kernel_rfl
theorem fl27_2 : Fld Tryd.prog 27 2 2 := fun b o w => by kernel_rfl
theorem fl27_3 : Fld Tryd.prog 27 3 3 := fun b o w => by kernel_rfl
theorem fl27_4 : Fld Tryd.prog 27 4 4 := fun b o w => by kernel_rfl
theorem fl27_5 : Fld Tryd.prog 27 5 5 := fun b o w => by kernel_rfl
theorem fl27_6 : Fld Tryd.prog 27 6 6 := fun b o w => by kernel_rfl
theorem sz25 : Sz Tryd.prog 25 7 := fun w => by kernel_rfl
theorem sz27 : Sz Tryd.prog 27 13 := fun w => by kernel_rfl

theorem reply_blank (H : Hp) (m : Mail) (m_head_a : Option Addr) (m_head_c : Nat) (m_head_h : SlH pairE 4 H (.slice m_head_a m.head.length m_head_c) m.head) (m_w : Mail.wf m) : Pr Tryd.prog 81 #[.agg (Mail.cells m m_head_a m_head_c).toArray] H (.bool (blankM m)) := by
  refine pr_cw Tryd.func81 rfl Tryd.ntmps81 rfl (fun N => ?_)
  have m_w' := m_w
  simp only [Mail.wf] at m_w'
  refine cw_seq ?_
  refine cw_region ?_
  refine ow1 (op1_box (cs := [_, _, _, _, _, _, _]) 0 rfl rfl (fun b1 => ?_))
  refine ow1 (op1_l rfl (lo_assign (v := .bool _) rfl) ?_)
  refine ow_nil ?_
  refine seqK_n ?_
  refine cw_seq ?_
  refine cw_region ?_
  refine ow1 (op1_l rfl (lo_fieldAddr rfl fl25_1) ?_)
  refine ow1 (op1_l rfl (lo_load1 (i := 0) (v := str _) rfl ag9 rfl rfl) ?_)
  refine ow1 (op1_l rfl (lo_seql rfl rfl) ?_)
  refine ow1 (op1_l rfl (lo_move (v := .bool _) rfl) ?_)
  refine ow_sp (j := 3) rfl (fun h2 => ?_) (fun h2 => ?_)
  · have p3 := dt h2
    refine ow1 (op1_g rfl h2 rfl (lo_fieldAddr rfl fl25_2) ?_)
    refine ow1 (op1_g rfl h2 rfl (lo_load1 (i := 0) (v := str _) rfl ag9 rfl rfl) ?_)
    refine ow1 (op1_g rfl h2 rfl (lo_seql rfl rfl) ?_)
    refine ow1 (op1_l rfl (lo_pick_t (v := .bool _) rfl h2 rfl) ?_)
    refine ow1 (op1_l rfl (lo_move (v := .bool _) rfl) ?_)
    refine ow_sp (j := 8) rfl (fun h4 => ?_) (fun h4 => ?_)
    · have p5 := dt h4
      refine ow1 (op1_g rfl h4 rfl (lo_fieldAddr rfl fl25_3) ?_)
      refine ow1 (op1_g rfl h4 rfl (lo_load1 (i := 0) (v := .slice _ _ _) rfl ag23 rfl rfl) ?_)
      refine ow1 (op1_g rfl h4 rfl (lo_len_slh rfl m_head_h Tryd.underlying23) ?_)
      refine ow1 (op1_g rfl h4 rfl (lo_eql rfl rfl) ?_)
      refine ow1 (op1_l rfl (lo_pick_t (v := .bool _) rfl h4 rfl) ?_)
      refine ow1 (op1_l rfl (lo_move (v := .bool _) rfl) ?_)
      refine ow_sp (j := 14) rfl (fun h6 => ?_) (fun h6 => ?_)
      · have p7 := dt h6
        refine ow1 (op1_g rfl h6 rfl (lo_fieldAddr rfl fl25_4) ?_)
        refine ow1 (op1_g rfl h6 rfl (lo_load1 (i := 0) (v := str _) rfl ag9 rfl rfl) ?_)
        refine ow1 (op1_g rfl h6 rfl (lo_seql rfl rfl) ?_)
        refine ow1 (op1_l rfl (lo_pick_t (v := .bool _) rfl h6 rfl) ?_)
        refine ow1 (op1_l rfl (lo_assign (v := .bool _) rfl) ?_)
        refine ow_nil ?_
        refine seqK_n ?_
        refine cw_ret ?_
        refine fnK_r (res1 rfl (rv_t (v := .bool _) rfl)) (.refl _) ?_
        first | (simp [blankM, *]; done) | (simp [blankM, *]; intro hh; simp [hh] at *)
      · have p8 := df h6
        refine ow1 (op1_gs rfl h6 rfl ?_)
        refine ow1 (op1_gs rfl h6 rfl ?_)
        refine ow1 (op1_gs rfl h6 rfl ?_)
        refine ow1 (op1_l rfl (lo_pick_f (v := .bool _) rfl h6 rfl) ?_)
        refine ow1 (op1_l rfl (lo_assign (v := .bool _) rfl) ?_)
        refine ow_nil ?_
        refine seqK_n ?_
        refine cw_ret ?_
        refine fnK_r (res1 rfl (rv_t (v := .bool _) rfl)) (.refl _) ?_
        first | (simp [blankM, *]; done) | (simp [blankM, *]; intro hh; simp [hh] at *)
    · have p9 := df h4
      refine ow1 (op1_gs rfl h4 rfl ?_)
      refine ow1 (op1_gs rfl h4 rfl ?_)
      refine ow1 (op1_gs rfl h4 rfl ?_)
      refine ow1 (op1_gs rfl h4 rfl ?_)
      refine ow1 (op1_l rfl (lo_pick_f (v := .bool _) rfl h4 rfl) ?_)
      refine ow1 (op1_l rfl (lo_move (v := .bool _) rfl) ?_)
      refine ow1 (op1_gs rfl rfl rfl ?_)
      refine ow1 (op1_gs rfl rfl rfl ?_)
      refine ow1 (op1_gs rfl rfl rfl ?_)
      refine ow1 (op1_l rfl (lo_pick_f (v := .bool _) rfl rfl rfl) ?_)
      refine ow1 (op1_l rfl (lo_assign (v := .bool _) rfl) ?_)
      refine ow_nil ?_
      refine seqK_n ?_
      refine cw_ret ?_
      refine fnK_r (res1 rfl (rv_t (v := .bool _) rfl)) (.refl _) ?_
      first | (simp [blankM, *]; done) | (simp [blankM, *]; intro hh; simp [hh] at *)
  · have p10 := df h2
    refine ow1 (op1_gs rfl h2 rfl ?_)
    refine ow1 (op1_gs rfl h2 rfl ?_)
    refine ow1 (op1_gs rfl h2 rfl ?_)
    refine ow1 (op1_l rfl (lo_pick_f (v := .bool _) rfl h2 rfl) ?_)
    refine ow1 (op1_l rfl (lo_move (v := .bool _) rfl) ?_)
    refine ow1 (op1_gs rfl rfl rfl ?_)
    refine ow1 (op1_gs rfl rfl rfl ?_)
    refine ow1 (op1_gs rfl rfl rfl ?_)
    refine ow1 (op1_gs rfl rfl rfl ?_)
    refine ow1 (op1_l rfl (lo_pick_f (v := .bool _) rfl rfl rfl) ?_)
    refine ow1 (op1_l rfl (lo_move (v := .bool _) rfl) ?_)
    refine ow1 (op1_gs rfl rfl rfl ?_)
    refine ow1 (op1_gs rfl rfl rfl ?_)
    refine ow1 (op1_gs rfl rfl rfl ?_)
    refine ow1 (op1_l rfl (lo_pick_f (v := .bool _) rfl rfl rfl) ?_)
    refine ow1 (op1_l rfl (lo_assign (v := .bool _) rfl) ?_)
    refine ow_nil ?_
    refine seqK_n ?_
    refine cw_ret ?_
    refine fnK_r (res1 rfl (rv_t (v := .bool _) rfl)) (.refl _) ?_
    first | (simp [blankM, *]; done) | (simp [blankM, *]; intro hh; simp [hh] at *)

theorem reply_spare (H : Hp) (r : Reply) (r_mail_head_a : Option Addr) (r_mail_head_c : Nat) (r_mail_head_h : SlH pairE 4 H (.slice r_mail_head_a r.mail.head.length r_mail_head_c) r.mail.head) (r_w : Reply.wf r) : Pr Tryd.prog 53 #[.agg (Reply.cells r r_mail_head_a r_mail_head_c).toArray] H (.bool (spareR r)) := by
  refine pr_cw Tryd.func53 rfl Tryd.ntmps53 rfl (fun N => ?_)
  have r_w' := r_w
  simp only [Reply.wf, Mail.wf] at r_w'
  refine cw_seq ?_
  refine cw_region ?_
  refine ow1 (op1_box (cs := [_, _, _, _, _, _, _, _, _, _, _, _, _]) 0 rfl rfl (fun b1 => ?_))
  refine ow1 (op1_l rfl (lo_assign (v := .bool _) rfl) ?_)
  refine ow_nil ?_
  refine seqK_n ?_
  refine cw_seq ?_
  refine cw_seq ?_
  refine cw_region ?_
  refine ow1 (op1_l rfl (lo_fieldAddr rfl fl27_6) ?_)
  refine ow1 (op1_l rfl (lo_fieldAddr rfl fl25_0) ?_)
  refine ow1 (op1_l rfl (lo_load1 (i := 0) (v := .int _ _) rfl ag22 rfl rfl) ?_)
  refine ow1 (op1_l rfl (lo_neq rfl rfl) ?_)
  refine ow1 (op1_l rfl (lo_move (v := .bool _) rfl) ?_)
  refine ow_sp (j := 4) rfl (fun h2 => ?_) (fun h2 => ?_)
  · have h3 := not_t h2
    have p4 := df h3
    refine ow1 (op1_gs rfl h2 rfl ?_)
    refine ow1 (op1_gs rfl h2 rfl ?_)
    refine ow1 (op1_gs rfl h2 rfl ?_)
    refine ow1 (op1_gs rfl h2 rfl ?_)
    refine ow1 (op1_l rfl (lo_pick_t (v := .bool _) rfl h2 rfl) ?_)
    refine ow1 (op1_l rfl (lo_move (v := .bool _) rfl) ?_)
    refine ow1 (op1_gs rfl rfl rfl ?_)
    refine ow1 (op1_gs rfl rfl rfl ?_)
    refine ow1 (op1_gs rfl rfl rfl ?_)
    refine ow1 (op1_gs rfl rfl rfl ?_)
    refine ow1 (op1_l rfl (lo_pick_t (v := .bool _) rfl rfl rfl) ?_)
    refine ow_nil ?_
    refine seqK_n ?_
    refine cw_cond_t rfl rfl ?_
    refine cw_seq ?_
    refine cw_region ?_
    refine ow1 (op1_l rfl (lo_assign (v := .bool _) rfl) ?_)
    refine ow_nil ?_
    refine seqK_n ?_
    refine cw_ret ?_
    refine seqK_r ?_
    refine fnK_r (res1 rfl (rv_t (v := .bool _) rfl)) (.refl _) ?_
    first | (simp [spareR, *]; done) | (simp [spareR, *]; omega) | (exfalso; omega)
  · have h5 := not_f h2
    have p6 := dt h5
    refine ow1 (op1_g rfl h2 rfl (lo_fieldAddr rfl fl27_6) ?_)
    refine ow1 (op1_g rfl h2 rfl (lo_fieldAddr rfl fl25_5) ?_)
    refine ow1 (op1_g rfl h2 rfl (lo_load1 (i := 0) (v := .int _ _) rfl ag22 rfl rfl) ?_)
    refine ow1 (op1_g rfl h2 rfl (lo_neq rfl rfl) ?_)
    refine ow1 (op1_l rfl (lo_pick_f (v := .bool _) rfl h2 rfl) ?_)
    refine ow1 (op1_l rfl (lo_move (v := .bool _) rfl) ?_)
    refine ow_sp (j := 10) rfl (fun h7 => ?_) (fun h7 => ?_)
    · have h8 := not_t h7
      have p9 := df h8
      refine ow1 (op1_gs rfl h7 rfl ?_)
      refine ow1 (op1_gs rfl h7 rfl ?_)
      refine ow1 (op1_gs rfl h7 rfl ?_)
      refine ow1 (op1_gs rfl h7 rfl ?_)
      refine ow1 (op1_l rfl (lo_pick_t (v := .bool _) rfl h7 rfl) ?_)
      refine ow_nil ?_
      refine seqK_n ?_
      refine cw_cond_t rfl rfl ?_
      refine cw_seq ?_
      refine cw_region ?_
      refine ow1 (op1_l rfl (lo_assign (v := .bool _) rfl) ?_)
      refine ow_nil ?_
      refine seqK_n ?_
      refine cw_ret ?_
      refine seqK_r ?_
      refine fnK_r (res1 rfl (rv_t (v := .bool _) rfl)) (.refl _) ?_
      first | (simp [spareR, *]; done) | (simp [spareR, *]; omega) | (exfalso; omega)
    · have h10 := not_f h7
      have p11 := dt h10
      refine ow1 (op1_g rfl h7 rfl (lo_fieldAddr rfl fl27_6) ?_)
      refine ow1 (op1_g rfl h7 rfl (lo_fieldAddr rfl fl25_6) ?_)
      refine ow1 (op1_g rfl h7 rfl (lo_load1 (i := 0) (v := .int _ _) rfl ag5 rfl rfl) ?_)
      refine ow1 (op1_g rfl h7 rfl (lo_neq rfl rfl) ?_)
      refine ow1 (op1_l rfl (lo_pick_f (v := .bool _) rfl h7 rfl) ?_)
      refine ow_nil ?_
      refine seqK_n ?_
      refine cw_cond rfl (fun h12 => ?_) (fun h12 => ?_)
      · have h13 := not_t h12
        have p14 := df h13
        refine cw_seq ?_
        refine cw_region ?_
        refine ow1 (op1_l rfl (lo_assign (v := .bool _) rfl) ?_)
        refine ow_nil ?_
        refine seqK_n ?_
        refine cw_ret ?_
        refine seqK_r ?_
        refine fnK_r (res1 rfl (rv_t (v := .bool _) rfl)) (.refl _) ?_
        first | (simp [spareR, *]; done) | (simp [spareR, *]; omega) | (exfalso; omega)
      · have h15 := not_f h12
        have p16 := dt h15
        refine cw_skip ?_
        refine seqK_n ?_
        refine cw_seq ?_
        refine cw_region ?_
        refine ow1 (op1_l rfl (lo_fieldAddr rfl fl27_1) ?_)
        refine ow1 (op1_l rfl (lo_load1 (i := 0) (v := .int _ _) rfl ag5 rfl rfl) ?_)
        refine ow1 (op1_l rfl (lo_eql rfl rfl) ?_)
        refine ow1 (op1_l rfl (lo_assign (v := .bool _) rfl) ?_)
        refine ow_nil ?_
        refine seqK_n ?_
        refine cw_seq ?_
        refine cw_seq ?_
        refine cw_region ?_
        refine ow1 (op1_l rfl (lo_fieldAddr rfl fl27_5) ?_)
        refine ow1 (op1_l rfl (lo_load1 (i := 0) (v := str _) rfl ag9 rfl rfl) ?_)
        refine ow1 (op1_l rfl (lo_sneq rfl rfl) ?_)
        refine ow1 (op1_l rfl (lo_move (v := .bool _) rfl) ?_)
        refine ow_sp (j := 3) rfl (fun h17 => ?_) (fun h17 => ?_)
        · have h18 := not_t h17
          have p19 := df h18
          refine ow1 (op1_g rfl h17 rfl (lo_fieldAddr rfl fl27_1) ?_)
          refine ow1 (op1_g rfl h17 rfl (lo_load1 (i := 0) (v := .int _ _) rfl ag5 rfl rfl) ?_)
          refine ow1 (op1_g rfl h17 rfl (lo_neq rfl rfl) ?_)
          refine ow1 (op1_l rfl (lo_pick_t (v := .bool _) rfl h17 rfl) ?_)
          refine ow1 (op1_l rfl (lo_move (v := .bool _) rfl) ?_)
          refine ow_sp (j := 8) rfl (fun h20 => ?_) (fun h20 => ?_)
          · have h21 := not_t h20
            have p22 := df h21
            refine ow1 (op1_gs rfl h20 rfl ?_)
            refine ow1 (op1_gs rfl h20 rfl ?_)
            refine ow1 (op1_gs rfl h20 rfl ?_)
            refine ow1 (op1_gx (j := 11) rfl rfl ?_)
            refine ow1 (op1_gx (j := 11) rfl rfl ?_)
            refine ow1 (op1_gx (j := 11) rfl rfl ?_)
            refine ow1 (op1_gx (j := 14) rfl rfl ?_)
            refine ow1 (op1_gx (j := 14) rfl rfl ?_)
            refine ow1 (op1_gx (j := 14) rfl rfl ?_)
            refine ow1 (op1_gx (j := 14) rfl rfl ?_)
            refine ow1 (op1_gx (j := 11) rfl rfl ?_)
            refine ow1 (op1_gs rfl h20 rfl ?_)
            refine ow1 (op1_l rfl (lo_pick_t (v := .bool _) rfl h20 rfl) ?_)
            refine ow_nil ?_
            refine seqK_n ?_
            refine cw_cond_t rfl rfl ?_
            refine cw_seq ?_
            refine cw_region ?_
            refine ow1 (op1_l rfl (lo_assign (v := .bool _) rfl) ?_)
            refine ow_nil ?_
            refine seqK_n ?_
            refine cw_ret ?_
            refine seqK_r ?_
            refine fnK_r (res1 rfl (rv_t (v := .bool _) rfl)) (.refl _) ?_
            first | (simp [spareR, *]; done) | (simp [spareR, *]; omega) | (exfalso; omega)
          · have h23 := not_f h20
            have p24 := dt h23
            refine ow1 (op1_g rfl h20 rfl (lo_move (v := .bool _) rfl) ?_)
            refine ow1 (op1_g rfl h20 rfl (lo_not rfl) ?_)
            refine ow1 (op1_g rfl h20 rfl (lo_move (v := .bool _) rfl) ?_)
            refine ow1 (op1_g rfl (by rw [(fd (by omega))] <;> rfl) rfl (lo_fieldAddr rfl fl27_4) ?_)
            refine ow1 (op1_g rfl (by rw [(fd (by omega))] <;> rfl) rfl (lo_load1 (i := 0) (v := .bool _) rfl ag4 rfl rfl) ?_)
            refine ow1 (op1_g rfl (by rw [(fd (by omega))] <;> rfl) rfl (lo_move (v := .bool _) rfl) ?_)
            refine ow_sp (j := 14) rfl (fun h25 => ?_) (fun h25 => ?_)
            · refine ow1 (op1_gs rfl h25 rfl ?_)
              refine ow1 (op1_gs rfl h25 rfl ?_)
              refine ow1 (op1_gs rfl h25 rfl ?_)
              refine ow1 (op1_gs rfl h25 rfl ?_)
              refine ow1 (op1_g rfl (by rw [(fd (by omega))] <;> rfl) rfl (lo_pick_t (v := .bool _) rfl h25 rfl) ?_)
              refine ow1 (op1_g rfl h20 rfl (lo_pick_t (v := .bool _) rfl (by rw [(fd (by omega))] <;> rfl) rfl) ?_)
              refine ow1 (op1_l rfl (lo_pick_f (v := .bool _) rfl h20 rfl) ?_)
              refine ow_nil ?_
              refine seqK_n ?_
              refine cw_cond_t rfl rfl ?_
              refine cw_seq ?_
              refine cw_region ?_
              refine ow1 (op1_l rfl (lo_assign (v := .bool _) rfl) ?_)
              refine ow_nil ?_
              refine seqK_n ?_
              refine cw_ret ?_
              refine seqK_r ?_
              refine fnK_r (res1 rfl (rv_t (v := .bool _) rfl)) (.refl _) ?_
              first | (simp [spareR, *]; done) | (simp [spareR, *]; omega) | (exfalso; omega)
            · refine ow1 (op1_g rfl h25 rfl (lo_fieldAddr rfl fl27_6) ?_)
              refine ow1 (op1_g rfl h25 rfl (lo_loadA (i := 0) (vs := [_, _, _, _, _, _, _]) rfl ag25 sz25 rfl rfl rfl) ?_)
              refine ow1 (op1_prg rfl h25 (reply_blank _ r.mail r_mail_head_a r_mail_head_c r_mail_head_h (by simp only [Mail.wf]; first | omega | (simp; done) | (simp; omega))) (en_f cb81 rfl) rfl ?_)
              refine ow1 (op1_g rfl h25 rfl (lo_not rfl) ?_)
              refine ow1 (op1_g rfl (by rw [(fd (by omega))] <;> rfl) rfl (lo_pick_f (v := .bool _) rfl h25 rfl) ?_)
              refine ow1 (op1_g rfl h20 rfl (lo_pick_t (v := .bool _) rfl (by rw [(fd (by omega))] <;> rfl) rfl) ?_)
              refine ow1 (op1_l rfl (lo_pick_f (v := .bool _) rfl h20 rfl) ?_)
              refine ow_nil ?_
              refine seqK_n ?_
              refine cw_cond rfl (fun h26 => ?_) (fun h26 => ?_)
              · have h27 := not_t h26
                refine cw_seq ?_
                refine cw_region ?_
                refine ow1 (op1_l rfl (lo_assign (v := .bool _) rfl) ?_)
                refine ow_nil ?_
                refine seqK_n ?_
                refine cw_ret ?_
                refine seqK_r ?_
                refine fnK_r (res1 rfl (rv_t (v := .bool _) rfl)) (.refl _) ?_
                first | (simp [spareR, *]; done) | (simp [spareR, *]; omega) | (exfalso; omega)
              · have h28 := not_f h26
                refine cw_skip ?_
                refine seqK_n ?_
                refine cw_seq ?_
                refine cw_seq ?_
                refine cw_region ?_
                refine ow1 (op1_l rfl (lo_fieldAddr rfl fl27_1) ?_)
                refine ow1 (op1_l rfl (lo_load1 (i := 0) (v := .int _ _) rfl ag5 rfl rfl) ?_)
                refine ow_nil ?_
                refine seqK_n ?_
                refine cw_block ?_
                refine cw_seq ?_
                refine cw_seq ?_
                refine cw_region ?_
                refine ow1 (op1_l rfl (lo_eql rfl rfl) ?_)
                refine ow1 (op1_l rfl (lo_assign (v := .bool _) rfl) ?_)
                refine ow_nil ?_
                refine seqK_n ?_
                refine cw_cond_f rfl (fd (by omega)) ?_
                refine cw_region ?_
                refine ow1 (op1_l rfl (lo_eql rfl rfl) ?_)
                refine ow1 (op1_l rfl (lo_assign (v := .bool _) rfl) ?_)
                refine ow_nil ?_
                refine seqK_n ?_
                refine cw_cond_f rfl (fd (by omega)) ?_
                refine cw_seq ?_
                refine cw_seq ?_
                refine cw_region ?_
                refine ow1 (op1_l rfl (lo_eql rfl rfl) ?_)
                refine ow1 (op1_l rfl (lo_assign (v := .bool _) rfl) ?_)
                refine ow_nil ?_
                refine seqK_n ?_
                refine cw_cond_f rfl (fd (by omega)) ?_
                refine cw_seq ?_
                refine cw_region ?_
                refine ow1 (op1_l rfl (lo_eql rfl rfl) ?_)
                refine ow1 (op1_l rfl (lo_assign (v := .bool _) rfl) ?_)
                refine ow_nil ?_
                refine seqK_n ?_
                refine cw_cond_f rfl (fd (by omega)) ?_
                refine cw_region ?_
                refine ow1 (op1_l rfl (lo_eql rfl rfl) ?_)
                refine ow1 (op1_l rfl (lo_assign (v := .bool _) rfl) ?_)
                refine ow_nil ?_
                refine seqK_n ?_
                refine cw_cond_f rfl (fd (by omega)) ?_
                refine cw_skip ?_
                refine blkK_n ?_
                refine seqK_n ?_
                refine cw_seq ?_
                refine cw_region ?_
                refine ow1 (op1_l rfl (lo_fieldAddr rfl fl27_2) ?_)
                refine ow1 (op1_l rfl (lo_load1 (i := 0) (v := .int _ _) rfl ag22 rfl rfl) ?_)
                refine ow1 (op1_l rfl (lo_neq rfl rfl) ?_)
                refine ow1 (op1_l rfl (lo_move (v := .bool _) rfl) ?_)
                refine ow_sp (j := 3) rfl (fun h29 => ?_) (fun h29 => ?_)
                · have h30 := not_t h29
                  have p31 := df h30
                  refine ow1 (op1_gs rfl h29 rfl ?_)
                  refine ow1 (op1_gs rfl h29 rfl ?_)
                  refine ow1 (op1_gs rfl h29 rfl ?_)
                  refine ow1 (op1_l rfl (lo_pick_t (v := .bool _) rfl h29 rfl) ?_)
                  refine ow1 (op1_l rfl (lo_assign (v := .bool _) rfl) ?_)
                  refine ow_nil ?_
                  refine seqK_n ?_
                  refine cw_ret ?_
                  refine fnK_r (res1 rfl (rv_t (v := .bool _) rfl)) (.refl _) ?_
                  first | (simp [spareR, *]; done) | (simp [spareR, *]; omega) | (exfalso; omega)
                · have h32 := not_f h29
                  have p33 := dt h32
                  refine ow1 (op1_g rfl h29 rfl (lo_fieldAddr rfl fl27_3) ?_)
                  refine ow1 (op1_g rfl h29 rfl (lo_load1 (i := 0) (v := .int _ _) rfl ag22 rfl rfl) ?_)
                  refine ow1 (op1_g rfl h29 rfl (lo_neq rfl rfl) ?_)
                  refine ow1 (op1_l rfl (lo_pick_f (v := .bool _) rfl h29 rfl) ?_)
                  refine ow1 (op1_l rfl (lo_assign (v := .bool _) rfl) ?_)
                  refine ow_nil ?_
                  refine seqK_n ?_
                  refine cw_ret ?_
                  refine fnK_r (res1 rfl (rv_t (v := .bool _) rfl)) (.refl _) ?_
                  first | (simp [spareR, *]; done) | (simp [spareR, *]; omega) | (exfalso; omega)
        · have h34 := not_f h17
          have p35 := dt h34
          refine ow1 (op1_gs rfl h17 rfl ?_)
          refine ow1 (op1_gs rfl h17 rfl ?_)
          refine ow1 (op1_gs rfl h17 rfl ?_)
          refine ow1 (op1_l rfl (lo_pick_f (v := .bool _) rfl h17 rfl) ?_)
          refine ow1 (op1_l rfl (lo_move (v := .bool _) rfl) ?_)
          refine ow1 (op1_g rfl rfl rfl (lo_move (v := .bool _) rfl) ?_)
          refine ow1 (op1_g rfl rfl rfl (lo_not rfl) ?_)
          refine ow1 (op1_g rfl rfl rfl (lo_move (v := .bool _) rfl) ?_)
          refine ow_sp (j := 11) rfl (fun h36 => ?_) (fun h36 => ?_)
          · have h37 := not_t h36
            have p38 := df h37
            refine ow1 (op1_g rfl h36 rfl (lo_fieldAddr rfl fl27_4) ?_)
            refine ow1 (op1_g rfl h36 rfl (lo_load1 (i := 0) (v := .bool _) rfl ag4 rfl rfl) ?_)
            refine ow1 (op1_g rfl h36 rfl (lo_move (v := .bool _) rfl) ?_)
            refine ow_sp (j := 14) rfl (fun h39 => ?_) (fun h39 => ?_)
            · refine ow1 (op1_gs rfl h39 rfl ?_)
              refine ow1 (op1_gs rfl h39 rfl ?_)
              refine ow1 (op1_gs rfl h39 rfl ?_)
              refine ow1 (op1_gs rfl h39 rfl ?_)
              refine ow1 (op1_g rfl h36 rfl (lo_pick_t (v := .bool _) rfl h39 rfl) ?_)
              refine ow1 (op1_g rfl rfl rfl (lo_pick_t (v := .bool _) rfl h36 rfl) ?_)
              refine ow1 (op1_l rfl (lo_pick_f (v := .bool _) rfl rfl rfl) ?_)
              refine ow_nil ?_
              refine seqK_n ?_
              refine cw_cond_t rfl rfl ?_
              refine cw_seq ?_
              refine cw_region ?_
              refine ow1 (op1_l rfl (lo_assign (v := .bool _) rfl) ?_)
              refine ow_nil ?_
              refine seqK_n ?_
              refine cw_ret ?_
              refine seqK_r ?_
              refine fnK_r (res1 rfl (rv_t (v := .bool _) rfl)) (.refl _) ?_
              first | (simp [spareR, *]; done) | (simp [spareR, *]; omega) | (exfalso; omega)
            · refine ow1 (op1_g rfl h39 rfl (lo_fieldAddr rfl fl27_6) ?_)
              refine ow1 (op1_g rfl h39 rfl (lo_loadA (i := 0) (vs := [_, _, _, _, _, _, _]) rfl ag25 sz25 rfl rfl rfl) ?_)
              refine ow1 (op1_prg rfl h39 (reply_blank _ r.mail r_mail_head_a r_mail_head_c r_mail_head_h (by simp only [Mail.wf]; first | omega | (simp; done) | (simp; omega))) (en_f cb81 rfl) rfl ?_)
              refine ow1 (op1_g rfl h39 rfl (lo_not rfl) ?_)
              refine ow1 (op1_g rfl h36 rfl (lo_pick_f (v := .bool _) rfl h39 rfl) ?_)
              refine ow1 (op1_g rfl rfl rfl (lo_pick_t (v := .bool _) rfl h36 rfl) ?_)
              refine ow1 (op1_l rfl (lo_pick_f (v := .bool _) rfl rfl rfl) ?_)
              refine ow_nil ?_
              refine seqK_n ?_
              refine cw_cond rfl (fun h40 => ?_) (fun h40 => ?_)
              · have h41 := not_t h40
                refine cw_seq ?_
                refine cw_region ?_
                refine ow1 (op1_l rfl (lo_assign (v := .bool _) rfl) ?_)
                refine ow_nil ?_
                refine seqK_n ?_
                refine cw_ret ?_
                refine seqK_r ?_
                refine fnK_r (res1 rfl (rv_t (v := .bool _) rfl)) (.refl _) ?_
                first | (simp [spareR, *]; done) | (simp [spareR, *]; omega) | (exfalso; omega)
              · have h42 := not_f h40
                refine cw_skip ?_
                refine seqK_n ?_
                refine cw_seq ?_
                refine cw_seq ?_
                refine cw_region ?_
                refine ow1 (op1_l rfl (lo_fieldAddr rfl fl27_1) ?_)
                refine ow1 (op1_l rfl (lo_load1 (i := 0) (v := .int _ _) rfl ag5 rfl rfl) ?_)
                refine ow_nil ?_
                refine seqK_n ?_
                refine cw_block ?_
                refine cw_seq ?_
                refine cw_seq ?_
                refine cw_region ?_
                refine ow1 (op1_l rfl (lo_eql rfl rfl) ?_)
                refine ow1 (op1_l rfl (lo_assign (v := .bool _) rfl) ?_)
                refine ow_nil ?_
                refine seqK_n ?_
                refine cw_cond_f rfl h37 ?_
                refine cw_region ?_
                refine ow1 (op1_l rfl (lo_eql rfl rfl) ?_)
                refine ow1 (op1_l rfl (lo_assign (v := .bool _) rfl) ?_)
                refine ow_nil ?_
                refine seqK_n ?_
                refine cw_cond rfl (fun h43 => ?_) (fun h43 => ?_)
                · have p44 := dt h43
                  refine cw_seq ?_
                  refine cw_region ?_
                  refine ow1 (op1_l rfl (lo_assign (v := .bool _) rfl) ?_)
                  refine ow_nil ?_
                  refine seqK_n ?_
                  refine cw_ret ?_
                  refine blkK_r ?_
                  refine seqK_r ?_
                  refine fnK_r (res1 rfl (rv_t (v := .bool _) rfl)) (.refl _) ?_
                  first | (simp [spareR, *]; done) | (simp [spareR, *]; omega) | (exfalso; omega)
                · have p45 := df h43
                  refine cw_seq ?_
                  refine cw_seq ?_
                  refine cw_region ?_
                  refine ow1 (op1_l rfl (lo_eql rfl rfl) ?_)
                  refine ow1 (op1_l rfl (lo_assign (v := .bool _) rfl) ?_)
                  refine ow_nil ?_
                  refine seqK_n ?_
                  refine cw_cond rfl (fun h46 => ?_) (fun h46 => ?_)
                  · have p47 := dt h46
                    refine cw_skip ?_
                    refine seqK_n ?_
                    refine cw_cond_t rfl h46 ?_
                    refine cw_seq ?_
                    refine cw_region ?_
                    refine ow1 (op1_l rfl (lo_fieldAddr rfl fl27_3) ?_)
                    refine ow1 (op1_l rfl (lo_load1 (i := 0) (v := .int _ _) rfl ag22 rfl rfl) ?_)
                    refine ow1 (op1_l rfl (lo_neq rfl rfl) ?_)
                    refine ow1 (op1_l rfl (lo_assign (v := .bool _) rfl) ?_)
                    refine ow_nil ?_
                    refine seqK_n ?_
                    refine cw_ret ?_
                    refine blkK_r ?_
                    refine seqK_r ?_
                    refine fnK_r (res1 rfl (rv_t (v := .bool _) rfl)) (.refl _) ?_
                    first | (simp [spareR, *]; done) | (simp [spareR, *]; omega) | (exfalso; omega)
                  · have p48 := df h46
                    refine cw_seq ?_
                    refine cw_region ?_
                    refine ow1 (op1_l rfl (lo_eql rfl rfl) ?_)
                    refine ow1 (op1_l rfl (lo_assign (v := .bool _) rfl) ?_)
                    refine ow_nil ?_
                    refine seqK_n ?_
                    refine cw_cond rfl (fun h49 => ?_) (fun h49 => ?_)
                    · have p50 := dt h49
                      refine cw_skip ?_
                      refine seqK_n ?_
                      refine cw_cond_t rfl h49 ?_
                      refine cw_seq ?_
                      refine cw_region ?_
                      refine ow1 (op1_l rfl (lo_fieldAddr rfl fl27_3) ?_)
                      refine ow1 (op1_l rfl (lo_load1 (i := 0) (v := .int _ _) rfl ag22 rfl rfl) ?_)
                      refine ow1 (op1_l rfl (lo_neq rfl rfl) ?_)
                      refine ow1 (op1_l rfl (lo_assign (v := .bool _) rfl) ?_)
                      refine ow_nil ?_
                      refine seqK_n ?_
                      refine cw_ret ?_
                      refine blkK_r ?_
                      refine seqK_r ?_
                      refine fnK_r (res1 rfl (rv_t (v := .bool _) rfl)) (.refl _) ?_
                      first | (simp [spareR, *]; done) | (simp [spareR, *]; omega) | (exfalso; omega)
                    · have p51 := df h49
                      refine cw_region ?_
                      refine ow1 (op1_l rfl (lo_eql rfl rfl) ?_)
                      refine ow1 (op1_l rfl (lo_assign (v := .bool _) rfl) ?_)
                      refine ow_nil ?_
                      refine seqK_n ?_
                      refine cw_cond rfl (fun h52 => ?_) (fun h52 => ?_)
                      · have p53 := dt h52
                        refine cw_seq ?_
                        refine cw_region ?_
                        refine ow1 (op1_l rfl (lo_fieldAddr rfl fl27_3) ?_)
                        refine ow1 (op1_l rfl (lo_load1 (i := 0) (v := .int _ _) rfl ag22 rfl rfl) ?_)
                        refine ow1 (op1_l rfl (lo_neq rfl rfl) ?_)
                        refine ow1 (op1_l rfl (lo_assign (v := .bool _) rfl) ?_)
                        refine ow_nil ?_
                        refine seqK_n ?_
                        refine cw_ret ?_
                        refine blkK_r ?_
                        refine seqK_r ?_
                        refine fnK_r (res1 rfl (rv_t (v := .bool _) rfl)) (.refl _) ?_
                        first | (simp [spareR, *]; done) | (simp [spareR, *]; omega) | (exfalso; omega)
                      · have p54 := df h52
                        refine cw_skip ?_
                        refine blkK_n ?_
                        refine seqK_n ?_
                        refine cw_seq ?_
                        refine cw_region ?_
                        refine ow1 (op1_l rfl (lo_fieldAddr rfl fl27_2) ?_)
                        refine ow1 (op1_l rfl (lo_load1 (i := 0) (v := .int _ _) rfl ag22 rfl rfl) ?_)
                        refine ow1 (op1_l rfl (lo_neq rfl rfl) ?_)
                        refine ow1 (op1_l rfl (lo_move (v := .bool _) rfl) ?_)
                        refine ow_sp (j := 3) rfl (fun h55 => ?_) (fun h55 => ?_)
                        · have h56 := not_t h55
                          have p57 := df h56
                          refine ow1 (op1_gs rfl h55 rfl ?_)
                          refine ow1 (op1_gs rfl h55 rfl ?_)
                          refine ow1 (op1_gs rfl h55 rfl ?_)
                          refine ow1 (op1_l rfl (lo_pick_t (v := .bool _) rfl h55 rfl) ?_)
                          refine ow1 (op1_l rfl (lo_assign (v := .bool _) rfl) ?_)
                          refine ow_nil ?_
                          refine seqK_n ?_
                          refine cw_ret ?_
                          refine fnK_r (res1 rfl (rv_t (v := .bool _) rfl)) (.refl _) ?_
                          first | (simp [spareR, *]; done) | (simp [spareR, *]; omega) | (exfalso; omega)
                        · have h58 := not_f h55
                          have p59 := dt h58
                          refine ow1 (op1_g rfl h55 rfl (lo_fieldAddr rfl fl27_3) ?_)
                          refine ow1 (op1_g rfl h55 rfl (lo_load1 (i := 0) (v := .int _ _) rfl ag22 rfl rfl) ?_)
                          refine ow1 (op1_g rfl h55 rfl (lo_neq rfl rfl) ?_)
                          refine ow1 (op1_l rfl (lo_pick_f (v := .bool _) rfl h55 rfl) ?_)
                          refine ow1 (op1_l rfl (lo_assign (v := .bool _) rfl) ?_)
                          refine ow_nil ?_
                          refine seqK_n ?_
                          refine cw_ret ?_
                          refine fnK_r (res1 rfl (rv_t (v := .bool _) rfl)) (.refl _) ?_
                          first | (simp [spareR, *]; done) | (simp [spareR, *]; omega) | (exfalso; omega)
          · have h60 := not_f h36
            have p61 := dt h60
            refine ow1 (op1_gs rfl h36 rfl ?_)
            refine ow1 (op1_gs rfl h36 rfl ?_)
            refine ow1 (op1_gs rfl h36 rfl ?_)
            refine ow1 (op1_gx (j := 14) rfl rfl ?_)
            refine ow1 (op1_gx (j := 14) rfl rfl ?_)
            refine ow1 (op1_gx (j := 14) rfl rfl ?_)
            refine ow1 (op1_gx (j := 14) rfl rfl ?_)
            refine ow1 (op1_gs rfl h36 rfl ?_)
            refine ow1 (op1_g rfl rfl rfl (lo_pick_f (v := .bool _) rfl h36 rfl) ?_)
            refine ow1 (op1_l rfl (lo_pick_f (v := .bool _) rfl rfl rfl) ?_)
            refine ow_nil ?_
            refine seqK_n ?_
            refine cw_cond_f rfl rfl ?_
            refine cw_skip ?_
            refine seqK_n ?_
            refine cw_seq ?_
            refine cw_seq ?_
            refine cw_region ?_
            refine ow1 (op1_l rfl (lo_fieldAddr rfl fl27_1) ?_)
            refine ow1 (op1_l rfl (lo_load1 (i := 0) (v := .int _ _) rfl ag5 rfl rfl) ?_)
            refine ow_nil ?_
            refine seqK_n ?_
            refine cw_block ?_
            refine cw_seq ?_
            refine cw_seq ?_
            refine cw_region ?_
            refine ow1 (op1_l rfl (lo_eql rfl rfl) ?_)
            refine ow1 (op1_l rfl (lo_assign (v := .bool _) rfl) ?_)
            refine ow_nil ?_
            refine seqK_n ?_
            refine cw_cond_t rfl h60 ?_
            refine cw_skip ?_
            refine seqK_n ?_
            refine cw_cond_t rfl h60 ?_
            refine cw_seq ?_
            refine cw_region ?_
            refine ow1 (op1_l rfl (lo_assign (v := .bool _) rfl) ?_)
            refine ow_nil ?_
            refine seqK_n ?_
            refine cw_ret ?_
            refine blkK_r ?_
            refine seqK_r ?_
            refine fnK_r (res1 rfl (rv_t (v := .bool _) rfl)) (.refl _) ?_
            first | (simp [spareR, *]; done) | (simp [spareR, *]; omega) | (exfalso; omega)

theorem reply_mail (H : Hp) (m : Mail) (m_head_a : Option Addr) (m_head_c : Nat) (m_head_h : SlH pairE 4 H (.slice m_head_a m.head.length m_head_c) m.head) (m_w : Mail.wf m) (hML : GInt H 2) : Pr Tryd.prog 55 #[.agg (Mail.cells m m_head_a m_head_c).toArray] H (.int .i64 (mailE m)) := by
  refine pr_cw Tryd.func55 rfl Tryd.ntmps55 rfl (fun N => ?_)
  have m_w' := m_w
  simp only [Mail.wf] at m_w'
  refine cw_seq ?_
  refine cw_region ?_
  refine ow1 (op1_box (cs := [_, _, _, _, _, _, _]) 0 rfl rfl (fun b1 => ?_))
  refine ow1 (op1_l rfl (lo_assign (v := .int _ _) rfl) ?_)
  refine ow_nil ?_
  refine seqK_n ?_
  refine cw_seq ?_
  refine cw_region ?_
  refine ow1 (op1_l rfl (lo_fieldAddr rfl fl25_1) ?_)
  refine ow1 (op1_l rfl (lo_load1 (i := 0) (v := str _) rfl ag9 rfl rfl) ?_)
  refine ow1 (op1_pr (words_Name _ m.shop (by first | omega | decide | (simp; done))) (en_f cb54 rfl) rfl ?_)
  refine ow1 (op1_l rfl (lo_assign (v := .int _ _) rfl) ?_)
  refine ow_nil ?_
  refine seqK_n ?_
  refine cw_seq ?_
  refine cw_seq ?_
  refine cw_region ?_
  refine ow1 (op1_l rfl (lo_move (v := .int _ _) rfl) ?_)
  refine ow1 (op1_l rfl (lo_eql rfl rfl) ?_)
  refine ow_nil ?_
  refine seqK_n ?_
  refine cw_cond rfl (fun h2 => ?_) (fun h2 => ?_)
  · have p3 := dt h2
    refine cw_region ?_
    refine ow1 (op1_l rfl (lo_fieldAddr rfl fl25_2) ?_)
    refine ow1 (op1_l rfl (lo_load1 (i := 0) (v := str _) rfl ag9 rfl rfl) ?_)
    refine ow1 (op1_pr (words_Key _ m.key hML) (en_f cb83 rfl) rfl ?_)
    refine ow1 (op1_l rfl (lo_assign (v := .int _ _) rfl) ?_)
    refine ow_nil ?_
    refine seqK_n ?_
    refine cw_seq ?_
    refine cw_seq ?_
    refine cw_region ?_
    refine ow1 (op1_l rfl (lo_move (v := .int _ _) rfl) ?_)
    refine ow1 (op1_l rfl (lo_eql rfl rfl) ?_)
    refine ow_nil ?_
    refine seqK_n ?_
    refine cw_cond rfl (fun h4 => ?_) (fun h4 => ?_)
    · have p5 := dt h4
      refine cw_region ?_
      refine ow1 (op1_l rfl (lo_fieldAddr rfl fl25_3) ?_)
      refine ow1 (op1_l rfl (lo_load1 (i := 0) (v := .slice _ _ _) rfl ag23 rfl rfl) ?_)
      refine ow1 (op1_pr (head_Check _ m_head_a m.head.length m_head_c m.head m_head_h (by first | omega | (simp <;> omega))) (en_f cb78 rfl) rfl ?_)
      refine ow1 (op1_l rfl (lo_assign (v := .int _ _) rfl) ?_)
      refine ow_nil ?_
      refine seqK_n ?_
      refine cw_seq ?_
      refine cw_seq ?_
      refine cw_region ?_
      refine ow1 (op1_l rfl (lo_move (v := .int _ _) rfl) ?_)
      refine ow1 (op1_l rfl (lo_eql rfl rfl) ?_)
      refine ow1 (op1_l rfl (lo_move (v := .bool _) rfl) ?_)
      refine ow_sp (j := 2) rfl (fun h6 => ?_) (fun h6 => ?_)
      · have p7 := dt h6
        refine ow1 (op1_g rfl h6 rfl (lo_fieldAddr rfl fl25_4) ?_)
        refine ow1 (op1_g rfl h6 rfl (lo_load1 (i := 0) (v := str _) rfl ag9 rfl rfl) ?_)
        refine ow1 (op1_g rfl h6 rfl (lo_len_str rfl Tryd.underlying9) ?_)
        refine ow1 (op1_g rfl h6 rfl (lo_gtr rfl rfl) ?_)
        refine ow1 (op1_l rfl (lo_pick_t (v := .bool _) rfl h6 rfl) ?_)
        refine ow_nil ?_
        refine seqK_n ?_
        refine cw_cond rfl (fun h8 => ?_) (fun h8 => ?_)
        · have p9 := dt h8
          refine cw_region ?_
          refine ow1 (op1_l rfl (lo_assign (v := .int _ _) rfl) ?_)
          refine ow_nil ?_
          refine seqK_n ?_
          refine cw_seq ?_
          refine cw_region ?_
          refine ow1 (op1_l rfl (lo_move (v := .int _ _) rfl) ?_)
          refine ow1 (op1_l rfl (lo_assign (v := .int _ _) rfl) ?_)
          refine ow_nil ?_
          refine seqK_n ?_
          refine cw_ret ?_
          refine fnK_r (res1 rfl (rv_t (v := .int _ _) rfl)) (.refl _) ?_
          first | (simp [mailE, *]; done) | (simp [mailE, *]; omega)
        · have p10 := df h8
          refine cw_skip ?_
          refine seqK_n ?_
          refine cw_seq ?_
          refine cw_region ?_
          refine ow1 (op1_l rfl (lo_move (v := .int _ _) rfl) ?_)
          refine ow1 (op1_l rfl (lo_assign (v := .int _ _) rfl) ?_)
          refine ow_nil ?_
          refine seqK_n ?_
          refine cw_ret ?_
          refine fnK_r (res1 rfl (rv_t (v := .int _ _) rfl)) (.refl _) ?_
          first | (simp [mailE, *]; done) | (simp [mailE, *]; omega)
      · have p11 := df h6
        refine ow1 (op1_gs rfl h6 rfl ?_)
        refine ow1 (op1_gs rfl h6 rfl ?_)
        refine ow1 (op1_gs rfl h6 rfl ?_)
        refine ow1 (op1_gs rfl h6 rfl ?_)
        refine ow1 (op1_l rfl (lo_pick_f (v := .bool _) rfl h6 rfl) ?_)
        refine ow_nil ?_
        refine seqK_n ?_
        refine cw_cond_f rfl rfl ?_
        refine cw_skip ?_
        refine seqK_n ?_
        refine cw_seq ?_
        refine cw_region ?_
        refine ow1 (op1_l rfl (lo_move (v := .int _ _) rfl) ?_)
        refine ow1 (op1_l rfl (lo_assign (v := .int _ _) rfl) ?_)
        refine ow_nil ?_
        refine seqK_n ?_
        refine cw_ret ?_
        refine fnK_r (res1 rfl (rv_t (v := .int _ _) rfl)) (.refl _) ?_
        first | (simp [mailE, *]; done) | (simp [mailE, *]; omega)
    · have p12 := df h4
      refine cw_skip ?_
      refine seqK_n ?_
      refine cw_seq ?_
      refine cw_seq ?_
      refine cw_region ?_
      refine ow1 (op1_l rfl (lo_move (v := .int _ _) rfl) ?_)
      refine ow1 (op1_l rfl (lo_eql rfl rfl) ?_)
      refine ow1 (op1_l rfl (lo_move (v := .bool _) rfl) ?_)
      refine ow1 (op1_gs rfl h4 rfl ?_)
      refine ow1 (op1_gs rfl h4 rfl ?_)
      refine ow1 (op1_gs rfl h4 rfl ?_)
      refine ow1 (op1_gs rfl h4 rfl ?_)
      refine ow1 (op1_l rfl (lo_pick_f (v := .bool _) rfl h4 rfl) ?_)
      refine ow_nil ?_
      refine seqK_n ?_
      refine cw_cond_f rfl rfl ?_
      refine cw_skip ?_
      refine seqK_n ?_
      refine cw_seq ?_
      refine cw_region ?_
      refine ow1 (op1_l rfl (lo_move (v := .int _ _) rfl) ?_)
      refine ow1 (op1_l rfl (lo_assign (v := .int _ _) rfl) ?_)
      refine ow_nil ?_
      refine seqK_n ?_
      refine cw_ret ?_
      refine fnK_r (res1 rfl (rv_t (v := .int _ _) rfl)) (.refl _) ?_
      first | (simp [mailE, *]; done) | (simp [mailE, *]; omega)
  · have p13 := df h2
    refine cw_skip ?_
    refine seqK_n ?_
    refine cw_seq ?_
    refine cw_seq ?_
    refine cw_region ?_
    refine ow1 (op1_l rfl (lo_move (v := .int _ _) rfl) ?_)
    refine ow1 (op1_l rfl (lo_eql rfl rfl) ?_)
    refine ow_nil ?_
    refine seqK_n ?_
    refine cw_cond_f rfl h2 ?_
    refine cw_skip ?_
    refine seqK_n ?_
    refine cw_seq ?_
    refine cw_seq ?_
    refine cw_region ?_
    refine ow1 (op1_l rfl (lo_move (v := .int _ _) rfl) ?_)
    refine ow1 (op1_l rfl (lo_eql rfl rfl) ?_)
    refine ow1 (op1_l rfl (lo_move (v := .bool _) rfl) ?_)
    refine ow1 (op1_gs rfl h2 rfl ?_)
    refine ow1 (op1_gs rfl h2 rfl ?_)
    refine ow1 (op1_gs rfl h2 rfl ?_)
    refine ow1 (op1_gs rfl h2 rfl ?_)
    refine ow1 (op1_l rfl (lo_pick_f (v := .bool _) rfl h2 rfl) ?_)
    refine ow_nil ?_
    refine seqK_n ?_
    refine cw_cond_f rfl rfl ?_
    refine cw_skip ?_
    refine seqK_n ?_
    refine cw_seq ?_
    refine cw_region ?_
    refine ow1 (op1_l rfl (lo_move (v := .int _ _) rfl) ?_)
    refine ow1 (op1_l rfl (lo_assign (v := .int _ _) rfl) ?_)
    refine ow_nil ?_
    refine seqK_n ?_
    refine cw_ret ?_
    refine fnK_r (res1 rfl (rv_t (v := .int _ _) rfl)) (.refl _) ?_
    first | (simp [mailE, *]; done) | (simp [mailE, *]; omega)

theorem reply_Check (H : Hp) (r : Reply) (r_mail_head_a : Option Addr) (r_mail_head_c : Nat) (r_mail_head_h : SlH pairE 4 H (.slice r_mail_head_a r.mail.head.length r_mail_head_c) r.mail.head) (r_w : Reply.wf r) (hML : GInt H 2) : Pr Tryd.prog 18 #[.agg (Reply.cells r r_mail_head_a r_mail_head_c).toArray] H (.int .i64 (replyE r)) := by
  refine pr_cw Tryd.func18 rfl Tryd.ntmps18 rfl (fun N => ?_)
  have r_w' := r_w
  simp only [Reply.wf, Mail.wf] at r_w'
  refine cw_seq ?_
  refine cw_region ?_
  refine ow1 (op1_box (cs := [_, _, _, _, _, _, _, _, _, _, _, _, _]) 0 rfl rfl (fun b1 => ?_))
  refine ow1 (op1_l rfl (lo_assign (v := .int _ _) rfl) ?_)
  refine ow_nil ?_
  refine seqK_n ?_
  refine cw_seq ?_
  refine cw_block ?_
  refine cw_seq ?_
  refine cw_region ?_
  refine ow1 (op1_l rfl (lo_fieldAddr rfl fl27_1) ?_)
  refine ow1 (op1_l rfl (lo_load1 (i := 0) (v := .int _ _) rfl ag5 rfl rfl) ?_)
  refine ow1 (op1_l rfl (lo_gtr rfl rfl) ?_)
  refine ow1 (op1_l rfl (lo_assign (v := .bool _) rfl) ?_)
  refine ow_nil ?_
  refine seqK_n ?_
  refine cw_cond rfl (fun h2 => ?_) (fun h2 => ?_)
  · have p3 := dt h2
    refine cw_seq ?_
    refine cw_region ?_
    refine ow1 (op1_l rfl (lo_assign (v := .int _ _) rfl) ?_)
    refine ow_nil ?_
    refine seqK_n ?_
    refine cw_ret ?_
    refine blkK_r ?_
    refine seqK_r ?_
    refine fnK_r (res1 rfl (rv_t (v := .int _ _) rfl)) (.refl _) ?_
    first | (simp [replyE, *]; done) | (simp [replyE, *]; omega)
  · have p4 := df h2
    refine cw_seq ?_
    refine cw_region ?_
    refine ow1 (op1_l rfl (lo_loadA (i := 0) (vs := [_, _, _, _, _, _, _, _, _, _, _, _, _]) rfl ag27 sz27 rfl rfl rfl) ?_)
    refine ow1 (op1_pr (reply_spare _ r r_mail_head_a r_mail_head_c r_mail_head_h r_w) (en_f cb53 rfl) rfl ?_)
    refine ow1 (op1_l rfl (lo_assign (v := .bool _) rfl) ?_)
    refine ow_nil ?_
    refine seqK_n ?_
    refine cw_cond rfl (fun h5 => ?_) (fun h5 => ?_)
    · refine cw_seq ?_
      refine cw_region ?_
      refine ow1 (op1_l rfl (lo_assign (v := .int _ _) rfl) ?_)
      refine ow_nil ?_
      refine seqK_n ?_
      refine cw_ret ?_
      refine blkK_r ?_
      refine seqK_r ?_
      refine fnK_r (res1 rfl (rv_t (v := .int _ _) rfl)) (.refl _) ?_
      first | (simp [replyE, *]; done) | (simp [replyE, *]; omega)
    · refine cw_seq ?_
      refine cw_region ?_
      refine ow1 (op1_l rfl (lo_fieldAddr rfl fl27_1) ?_)
      refine ow1 (op1_l rfl (lo_load1 (i := 0) (v := .int _ _) rfl ag5 rfl rfl) ?_)
      refine ow1 (op1_l rfl (lo_eql rfl rfl) ?_)
      refine ow1 (op1_l rfl (lo_assign (v := .bool _) rfl) ?_)
      refine ow_nil ?_
      refine seqK_n ?_
      refine cw_cond rfl (fun h6 => ?_) (fun h6 => ?_)
      · have p7 := dt h6
        refine cw_seq ?_
        refine cw_region ?_
        refine ow1 (op1_l rfl (lo_fieldAddr rfl fl27_5) ?_)
        refine ow1 (op1_l rfl (lo_load1 (i := 0) (v := str _) rfl ag9 rfl rfl) ?_)
        refine ow1 (op1_pr (words_Name _ r.name (by first | omega | decide | (simp; done))) (en_f cb54 rfl) rfl ?_)
        refine ow1 (op1_l rfl (lo_assign (v := .int _ _) rfl) ?_)
        refine ow_nil ?_
        refine seqK_n ?_
        refine cw_ret ?_
        refine blkK_r ?_
        refine seqK_r ?_
        refine fnK_r (res1 rfl (rv_t (v := .int _ _) rfl)) (.refl _) ?_
        first | (simp [replyE, *]; done) | (simp [replyE, *]; omega)
      · have p8 := df h6
        refine cw_seq ?_
        refine cw_region ?_
        refine ow1 (op1_l rfl (lo_fieldAddr rfl fl27_1) ?_)
        refine ow1 (op1_l rfl (lo_load1 (i := 0) (v := .int _ _) rfl ag5 rfl rfl) ?_)
        refine ow1 (op1_l rfl (lo_eql rfl rfl) ?_)
        refine ow1 (op1_l rfl (lo_assign (v := .bool _) rfl) ?_)
        refine ow_nil ?_
        refine seqK_n ?_
        refine cw_cond rfl (fun h9 => ?_) (fun h9 => ?_)
        · have p10 := dt h9
          refine cw_seq ?_
          refine cw_region ?_
          refine ow1 (op1_l rfl (lo_fieldAddr rfl fl27_6) ?_)
          refine ow1 (op1_l rfl (lo_loadA (i := 0) (vs := [_, _, _, _, _, _, _]) rfl ag25 sz25 rfl rfl rfl) ?_)
          refine ow1 (op1_pr (reply_mail _ r.mail r_mail_head_a r_mail_head_c r_mail_head_h (by simp only [Mail.wf]; first | omega | (simp; done) | (simp; omega)) hML) (en_f cb55 rfl) rfl ?_)
          refine ow1 (op1_l rfl (lo_assign (v := .int _ _) rfl) ?_)
          refine ow_nil ?_
          refine seqK_n ?_
          refine cw_ret ?_
          refine blkK_r ?_
          refine seqK_r ?_
          refine fnK_r (res1 rfl (rv_t (v := .int _ _) rfl)) (.refl _) ?_
          first | (simp [replyE, *]; done) | (simp [replyE, *]; omega)
        · have p11 := df h9
          refine cw_skip ?_
          refine blkK_n ?_
          refine seqK_n ?_
          refine cw_seq ?_
          refine cw_region ?_
          refine ow1 (op1_l rfl (lo_assign (v := .int _ _) rfl) ?_)
          refine ow_nil ?_
          refine seqK_n ?_
          refine cw_ret ?_
          refine fnK_r (res1 rfl (rv_t (v := .int _ _) rfl)) (.refl _) ?_
          first | (simp [replyE, *]; done) | (simp [replyE, *]; omega)

end Go.SW


set_option linter.unusedVariables false
set_option maxRecDepth 100000
set_option maxHeartbeats 4000000
namespace Go.SW
open Go.Proofs
theorem ag135 : Ag Tryd.prog 135 false := fun w => by kernel_rfl
theorem cb124 : Callable Tryd.prog 124 := callable_of Tryd.func124 (by kernel_rfl) (by kernel_rfl)
theorem sz135 : Sz Tryd.prog 135 1 := fun w => by kernel_rfl

theorem crc_Step (H : Hp) (r : Int) (r_r : 0 ≤ r ∧ r ≤ 4294967295) (b : Int) (b_r : 0 ≤ b ∧ b ≤ 255) (hCrc : GTab H 1 laidT) : Pr Tryd.prog 124 #[.int .u32 r, .int .u8 b] H (.int .u32 (crcStep r b)) := by
  refine pr_cw Tryd.func124 rfl Tryd.ntmps124 rfl (fun N => ?_)
  obtain ⟨T0, fr0, hT0⟩ := hCrc
  refine cw_seq ?_
  refine cw_region ?_
  refine ow1 (op1_l rfl (lo_assign (v := .int _ _) rfl) ?_)
  refine ow_nil ?_
  refine seqK_n ?_
  refine cw_seq ?_
  refine cw_region ?_
  refine ow1 (op1_l rfl (lo_move (v := .int _ _) rfl) ?_)
  refine ow1 (op1_l rfl (lo_move (v := .int _ _) rfl) ?_)
  refine ow1 (op1_l rfl (lo_conv_in rfl (by rw [Tryd.underlying5]; rfl) Tryd.underlying135 (rg_u32 (by omega))) ?_)
  have := wr_u32 ((BitVec.ofInt (IntKind.bits .u32) r ^^^ BitVec.ofInt (IntKind.bits .u32) b).toNat)
  refine ow1 (op1_l rfl (lo_xor rfl rfl) ?_)
  refine ow1 (op1_l rfl (lo_assign (v := .int _ _) rfl) ?_)
  refine ow_nil ?_
  refine seqK_n ?_
  refine cw_seq ?_
  refine cw_seq ?_
  refine cw_region ?_
  refine ow1 (op1_l rfl (lo_move (v := .int _ _) rfl) ?_)
  refine ow_nil ?_
  refine seqK_n ?_
  refine cw_block ?_
  refine cw_loop2 [0, 9, 10, 11, 12, 13, 14, 15, 16, 17, 18] [] (fun (k : Nat) (q : Int) G => upd (upd (G) 0 (.int .u32 q)) 9 (.int .i64 (k : Int))) (fun (k : Nat) (q : Int) G => G) (fun (k : Nat) (q : Int) H' => k ≤ 2 ∧ crcIt (2 - k) q = crcStep r b) (fun (k : Nat) (q : Int) => 2 - k) 0 (xor32 r b) (upd_intro (upd_intro (mask_intro (by first | exact off_refl | (repeat (first | exact off_mask | refine off_upd rfl ?_ | refine off_mask2 rfl ?_)))) rfl) rfl) (lmask_intro offl_refl) ?_ ?_
  · exact ⟨Nat.zero_le _, rfl⟩
  · intro k q J2 JL2 H2 hp1 hl2
    obtain ⟨hk1, hk2⟩ := hp1
    refine cw_seq ?_
    refine cw_region ?_
    refine ow1 (op1_l rfl (lo_lss rfl rfl) ?_)
    refine ow_nil ?_
    refine seqK_n ?_
    refine cw_seq ?_
    refine cw_cond rfl (fun h3 => ?_) (fun h3 => ?_)
    · have p4 := dt h3
      refine cw_skip ?_
      refine seqK_n ?_
      refine cw_seq ?_
      refine cw_block ?_
      refine cw_region ?_
      refine ow1 (op1_l rfl (lo_move (v := .int _ _) rfl) ?_)
      refine ow1 (op1_l rfl (lo_shr rfl rfl (by omega)) ?_)
      refine ow1 (op1_l rfl (lo_move (v := .int _ _) rfl) ?_)
      have := wr_u32 ((BitVec.ofInt (IntKind.bits .u32) q &&& BitVec.ofInt (IntKind.bits .u32) 15).toNat)
      refine ow1 (op1_l rfl (lo_and rfl rfl) ?_)
      refine ow1 (op1_l rfl (lo_gidx (m := ((IntKind.wrap .u32 ((BitVec.ofInt (IntKind.bits .u32) q &&& BitVec.ofInt (IntKind.bits .u32) 15).toNat))).toNat) rfl Tryd.underlying164 sz135 (by omega) (and15_lt _)) ?_)
      refine ow1 (op1_l rfl (lo_loadH rfl ag135 (((HLe.refl _).trans hl2) _ _ hT0) (tab_get (and15_lt _))) ?_)
      have := wr_u32 ((BitVec.ofInt (IntKind.bits .u32) (Int.fdiv q (2 ^ (min (4 : Int).toNat (IntKind.bits .u32)))) ^^^ BitVec.ofInt (IntKind.bits .u32) (laidT.getD ((IntKind.wrap .u32 ((BitVec.ofInt (IntKind.bits .u32) q &&& BitVec.ofInt (IntKind.bits .u32) 15).toNat))).toNat 0)).toNat)
      refine ow1 (op1_l rfl (lo_xor rfl rfl) ?_)
      refine ow1 (op1_l rfl (lo_assign (v := .int _ _) rfl) ?_)
      refine ow_nil ?_
      refine blkK_n ?_
      refine seqK_n ?_
      refine cw_region ?_
      refine ow1 (op1_l rfl (lo_add rfl rfl (rg_i64 (by omega))) ?_)
      refine ow1 (op1_l rfl (lo_move (v := .int _ _) rfl) ?_)
      refine ow_nil ?_
      refine next2 (k + 1) (crc1 q) (upd_intro (upd_intro (mask_intro (by first | exact off_refl | (repeat (first | exact off_mask | refine off_upd rfl ?_ | refine off_mask2 rfl ?_)))) rfl) rfl) (lmask_intro (by first | exact offl_refl | (repeat (first | exact offl_mask | refine offl_upd rfl ?_ | refine offl_mask2 rfl ?_)))) hl2 ?_ ?_
      · refine ⟨by omega, ?_⟩
        rw [← hk2, show 2 - k = (2 - (k + 1)) + 1 by omega]
        rfl
      · omega
    · have p5 := df h3
      refine cw_exit ?_
      refine seqK_e ?_
      refine loopK_e ?_
      refine blkK_hit ?_
      refine seqK_n ?_
      refine cw_seq ?_
      refine cw_region ?_
      refine ow1 (op1_l rfl (lo_move (v := .int _ _) rfl) ?_)
      refine ow1 (op1_l rfl (lo_assign (v := .int _ _) rfl) ?_)
      refine ow_nil ?_
      refine seqK_n ?_
      refine cw_ret ?_
      refine fnK_r (res1 rfl (rv_t (v := .int _ _) rfl)) ((HLe.refl _).trans hl2) ?_
      obtain rfl : k = 2 := by omega
      exact congrArg (Value.int .u32) hk2

theorem crc_Sum (H : Hp) (parts_a : Option Addr) (parts_l parts_c : Nat) (parts : List Bs) (parts_h : SlH strE 1 H (.slice parts_a parts_l parts_c) parts) (hCrc : GTab H 1 laidT) (hpl : parts.length ≤ 4611686018427387904) : Pr Tryd.prog 107 #[.slice parts_a parts_l parts_c] H (.int .u32 (crcSum parts)) := by
  refine pr_cw Tryd.func107 rfl Tryd.ntmps107 rfl (fun N => ?_)
  refine cw_seq ?_
  refine cw_region ?_
  refine ow1 (op1_l rfl (lo_assign (v := .int _ _) rfl) ?_)
  refine ow_nil ?_
  refine seqK_n ?_
  refine cw_seq ?_
  refine cw_region ?_
  refine ow1 (op1_l rfl (lo_assign (v := .int _ _) rfl) ?_)
  refine ow_nil ?_
  refine seqK_n ?_
  refine cw_seq ?_
  refine cw_seq ?_
  refine cw_region ?_
  refine ow1 (op1_l rfl (lo_move (v := .slice _ _ _) rfl) ?_)
  refine ow1 (op1_l rfl (lo_len_slh rfl parts_h Tryd.underlying108) ?_)
  refine ow1 (op1_l rfl (lo_move (v := .int _ _) rfl) ?_)
  refine ow_nil ?_
  refine seqK_n ?_
  refine cw_block ?_
  refine cw_loop2 [3, 5, 6, 9, 10, 11, 12, 13, 14, 15, 16, 17, 18, 19, 20, 21, 22, 23, 24] [] (fun (k : Nat) (r : Int) G => upd (upd (G) 3 (.int .u32 r)) 9 (.int .i64 (k : Int))) (fun (k : Nat) (r : Int) G => G) (fun (k : Nat) (r : Int) H' => k ≤ parts.length ∧ parts.foldl crcB 4294967295 = (parts.drop k).foldl crcB r ∧ 0 ≤ r ∧ r ≤ 4294967295) (fun (k : Nat) (r : Int) => parts.length - k) 0 4294967295 (upd_intro (upd_intro (mask_intro (by first | exact off_refl | (repeat (first | exact off_mask | refine off_upd rfl ?_ | refine off_mask2 rfl ?_)))) rfl) rfl) (lmask_intro offl_refl) ?_ ?_
  · exact ⟨Nat.zero_le _, rfl, by omega, by omega⟩
  · intro k r J2 JL2 H2 hp1 hl2
    obtain ⟨hk1, hk2, hk3, hk4⟩ := hp1
    refine cw_seq ?_
    refine cw_region ?_
    refine ow1 (op1_l rfl (lo_lss rfl rfl) ?_)
    refine ow_nil ?_
    refine seqK_n ?_
    refine cw_seq ?_
    refine cw_cond rfl (fun h3 => ?_) (fun h3 => ?_)
    · have p4 := dt h3
      refine cw_skip ?_
      refine seqK_n ?_
      refine cw_seq ?_
      refine cw_block ?_
      refine cw_seq ?_
      refine cw_region ?_
      obtain ⟨c5, hc6⟩ := getE (xs := parts) (m := k) (by omega)
      obtain ⟨cs7, hE8, at9⟩ := (parts_h.mono ((HLe.refl _).trans hl2) (fun _ _ h => h)).get hc6
      obtain ⟨rfl, c5_w⟩ := hE8
      have c5_w : c5.length ≤ 9223372036854775807 := c5_w
      refine ow1 (op1_l rfl (lo_indexAddr rfl rfl (parts_h.mono ((HLe.refl _).trans hl2) (fun _ _ h => h)).1 at9 Tryd.underlying108 sz9 (by omega) (by omega)) ?_)
      refine ow1 (op1_l rfl (lo_loadE1 rfl ag9 at9) ?_)
      refine ow1 (op1_l rfl (lo_assign (v := str _) rfl) ?_)
      refine ow_nil ?_
      refine seqK_n ?_
      refine cw_seq ?_
      refine cw_region ?_
      refine ow1 (op1_l rfl (lo_move (v := str _) rfl) ?_)
      refine ow1 (op1_l rfl (lo_len_str rfl Tryd.underlying9) ?_)
      refine ow1 (op1_l rfl (lo_move (v := .int _ _) rfl) ?_)
      refine ow_nil ?_
      refine seqK_n ?_
      refine cw_block ?_
      refine cw_loop2 [3, 6, 15, 16, 17, 18, 19, 20, 21, 22, 23] [] (fun (j : Nat) (q : Int) G => upd (upd (G) 3 (.int .u32 q)) 15 (.int .i64 (j : Int))) (fun (j : Nat) (q : Int) G => G) (fun (j : Nat) (q : Int) H' => j ≤ c5.length ∧ c5.foldl (fun q c => crcStep q c.toNat) r = (c5.drop j).foldl (fun q c => crcStep q c.toNat) q ∧ 0 ≤ q ∧ q ≤ 4294967295) (fun (j : Nat) (q : Int) => c5.length - j) 0 r (upd_intro (upd_intro (mask_intro (by first | exact off_refl | (repeat (first | exact off_mask | refine off_upd rfl ?_ | refine off_mask2 rfl ?_)))) rfl) rfl) (lmask_intro offl_refl) ?_ ?_
      · exact ⟨Nat.zero_le _, rfl, by omega, by omega⟩
      · intro j q J11 JL11 H11 hp10 hl11
        obtain ⟨hj1, hj2, hj3, hj4⟩ := hp10
        refine cw_seq ?_
        refine cw_region ?_
        refine ow1 (op1_l rfl (lo_lss rfl rfl) ?_)
        refine ow_nil ?_
        refine seqK_n ?_
        refine cw_seq ?_
        refine cw_cond rfl (fun h12 => ?_) (fun h12 => ?_)
        · have p13 := dt h12
          refine cw_skip ?_
          refine seqK_n ?_
          refine cw_seq ?_
          refine cw_block ?_
          refine cw_seq ?_
          refine cw_region ?_
          refine ow1 (op1_l rfl (lo_move (v := .int _ _) rfl) ?_)
          refine ow1 (op1_l rfl (lo_assign (v := .int _ _) rfl) ?_)
          refine ow_nil ?_
          refine seqK_n ?_
          refine cw_region ?_
          refine ow1 (op1_l rfl (lo_move (v := .int _ _) rfl) ?_)
          refine ow1 (op1_l rfl (lo_move (v := str _) rfl) ?_)
          refine ow1 (op1_l rfl (lo_move (v := .int _ _) rfl) ?_)
          have := u8r (c5.getD j 0)
          refine ow1 (op1_l rfl (lo_index_str j rfl rfl Tryd.underlying9 (by omega) (by omega)) ?_)
          refine ow1 (op1_pr (crc_Step _ q (by omega) ((c5.getD j 0).toNat : Int) (by omega) (hCrc.mono (((HLe.refl _).trans hl2).trans hl11))) (en_f cb124 rfl) rfl ?_)
          have := crcStep_r q ((c5.getD j 0).toNat : Int)
          refine ow1 (op1_l rfl (lo_assign (v := .int _ _) rfl) ?_)
          refine ow_nil ?_
          refine blkK_n ?_
          refine seqK_n ?_
          refine cw_region ?_
          refine ow1 (op1_l rfl (lo_add rfl rfl (rg_i64 (by omega))) ?_)
          refine ow1 (op1_l rfl (lo_move (v := .int _ _) rfl) ?_)
          refine ow_nil ?_
          refine next2 (j + 1) (crcStep q (c5.getD j 0).toNat) (upd_intro (upd_intro (mask_intro (by first | exact off_refl | (repeat (first | exact off_mask | refine off_upd rfl ?_ | refine off_mask2 rfl ?_)))) rfl) rfl) (lmask_intro (by first | exact offl_refl | (repeat (first | exact offl_mask | refine offl_upd rfl ?_ | refine offl_mask2 rfl ?_)))) hl11 ?_ ?_
          · refine ⟨by omega, ?_, by omega, by omega⟩
            rw [hj2, drop_getD (k := j) (by omega), List.foldl_cons]
          · omega
        · have p14 := df h12
          refine cw_exit ?_
          refine seqK_e ?_
          refine loopK_e ?_
          refine blkK_hit ?_
          refine blkK_n ?_
          refine seqK_n ?_
          refine cw_region ?_
          refine ow1 (op1_l rfl (lo_add rfl rfl (rg_i64 (by omega))) ?_)
          refine ow1 (op1_l rfl (lo_move (v := .int _ _) rfl) ?_)
          refine ow_nil ?_
          refine next2 (k + 1) q (upd_intro (upd_intro (mask_intro (by first | exact off_refl | (repeat (first | exact off_mask | refine off_upd rfl ?_ | refine off_mask2 rfl ?_)))) rfl) rfl) (lmask_intro (by first | exact offl_refl | (repeat (first | exact offl_mask | refine offl_upd rfl ?_ | refine offl_mask2 rfl ?_)))) (hl2.trans hl11) ?_ ?_
          · refine ⟨by omega, ?_, by omega, by omega⟩
            rw [hk2, dropE hc6, List.foldl_cons]
            rw [List.drop_of_length_le (by omega), List.foldl_nil] at hj2
            rw [show crcB r c5 = q from hj2]
          · omega
    · have p15 := df h3
      refine cw_exit ?_
      refine seqK_e ?_
      refine loopK_e ?_
      refine blkK_hit ?_
      refine seqK_n ?_
      refine cw_seq ?_
      refine cw_region ?_
      refine ow1 (op1_l rfl (lo_move (v := .int _ _) rfl) ?_)
      refine ow1 (op1_l rfl (lo_com rfl rfl) ?_)
      refine ow1 (op1_l rfl (lo_assign (v := .int _ _) rfl) ?_)
      refine ow_nil ?_
      refine seqK_n ?_
      refine cw_ret ?_
      refine fnK_r (res1 rfl (rv_t (v := .int _ _) rfl)) ((HLe.refl _).trans hl2) ?_
      rw [List.drop_of_length_le (by omega), List.foldl_nil] at hk2
      unfold crcSum
      rw [hk2]

end Go.SW


set_option linter.unusedVariables false
set_option maxRecDepth 100000
set_option maxHeartbeats 4000000
namespace Go.SW
open Go.Proofs
theorem cb107 : Callable Tryd.prog 107 := callable_of Tryd.func107 (by kernel_rfl) (by kernel_rfl)
theorem fl35_0 : Fld Tryd.prog 35 0 0 := fun b o w => by kernel_rfl
theorem fl35_1 : Fld Tryd.prog 35 1 1 := fun b o w => by kernel_rfl
theorem fl35_2 : Fld Tryd.prog 35 2 2 := fun b o w => by kernel_rfl
theorem zx9 : ∃ z, ∀ w, (zeroValue 9).run Tryd.prog w = .ok z w := ⟨str [], fun w => by kernel_rfl⟩

theorem frame_Bytes (H : Hp) (f : Frame) (f_w : Frame.wf f) (hCrc : GTab H 1 laidT) : Pr Tryd.prog 88 #[.agg (Frame.cells f).toArray] H (.tuple #[str (frameBytes f), .int .i64 (frameErr f)]) := by
  refine pr_cw Tryd.func88 rfl Tryd.ntmps88 rfl (fun N => ?_)
  have f_w' := f_w
  simp only [Frame.wf] at f_w'
  refine cw_seq ?_
  refine cw_region ?_
  refine ow1 (op1_box (cs := [_, _, _]) 0 rfl rfl (fun b1 => ?_))
  refine ow1 (op1_l rfl (lo_assign (v := str _) rfl) ?_)
  refine ow1 (op1_l rfl (lo_assign (v := .int _ _) rfl) ?_)
  refine ow_nil ?_
  refine seqK_n ?_
  refine cw_seq ?_
  refine cw_seq ?_
  refine cw_region ?_
  refine ow1 (op1_l rfl (lo_fieldAddr rfl fl35_2) ?_)
  refine ow1 (op1_l rfl (lo_load1 (i := 0) (v := str _) rfl ag9 rfl rfl) ?_)
  refine ow1 (op1_l rfl (lo_len_str rfl Tryd.underlying9) ?_)
  refine ow1 (op1_l rfl (lo_gtr rfl rfl) ?_)
  refine ow_nil ?_
  refine seqK_n ?_
  refine cw_cond rfl (fun h2 => ?_) (fun h2 => ?_)
  · have p3 := dt h2
    refine cw_seq ?_
    refine cw_region ?_
    refine ow1 (op1_l rfl (lo_assign (v := str _) rfl) ?_)
    refine ow1 (op1_l rfl (lo_assign (v := .int _ _) rfl) ?_)
    refine ow_nil ?_
    refine seqK_n ?_
    refine cw_ret ?_
    refine seqK_r ?_
    refine fnK_r (res2 rfl (rv_t (v := str _) rfl) (rv_t (v := .int _ _) rfl)) (.refl _) ?_
    simp [frameBytes, frameErr, frameOut, *]
  · have p4 := df h2
    refine cw_skip ?_
    refine seqK_n ?_
    refine cw_seq ?_
    refine cw_anyL mixd ?_
    refine vw_q 0 rfl (by kernel_rfl) (by repeat (first | exact lle_l0 | exact LLe.refl _ | exact lle_none | refine lle_up ?_ rfl)) (fun _ _ hh hl => lo_build (v := .agg #[_, _]) rfl (bd78)) ?_
    refine vw_q 1 rfl (by kernel_rfl) (by repeat (first | exact lle_l0 | exact LLe.refl _ | exact lle_none | refine lle_up ?_ rfl)) (fun _ _ hh hl => lo_fieldAddr rfl fl35_0) ?_
    refine vw_q 2 rfl (by kernel_rfl) (by repeat (first | exact lle_l0 | exact LLe.refl _ | exact lle_none | refine lle_up ?_ rfl)) (fun _ _ hh hl => lo_load1 (i := 0) (v := .int _ _) rfl ag5 (hl _ _ rfl) rfl) ?_
    refine vw_q 3 rfl (by kernel_rfl) (by repeat (first | exact lle_l0 | exact LLe.refl _ | exact lle_none | refine lle_up ?_ rfl)) (fun _ _ hh hl => lo_conv_in rfl (by rw [Tryd.underlying5]; rfl) Tryd.underlying22 (rg_u64 (by omega))) ?_
    have nl0 : (⟨[], 0⟩ : Out).s.length = 0 := rfl
    have := outNum_len (⟨[], 0⟩ : Out) f.channel 1
    refine vw_qc 4 rfl (by kernel_rfl) (by repeat (first | exact lle_l0 | exact LLe.refl _ | exact lle_none | refine lle_up ?_ rfl)) (out_Num _ (⟨[], 0⟩ : Out) f.channel (by omega) 1 (by omega) (by first | omega | (have := hrl (by assumption); omega) | (simp [outNum, outRaw, numB_len, numK] <;> omega) | (have := hrl (by assumption); simp [outNum, outRaw, numB_len, numK] <;> omega))) (en_f cb46 rfl) ?_
    refine vw_q 5 rfl (by kernel_rfl) (by repeat (first | exact lle_l0 | exact LLe.refl _ | exact lle_none | refine lle_up ?_ rfl)) (fun _ _ hh hl => lo_fieldAddr rfl fl35_1) ?_
    refine vw_q 6 rfl (by kernel_rfl) (by repeat (first | exact lle_l0 | exact LLe.refl _ | exact lle_none | refine lle_up ?_ rfl)) (fun _ _ hh hl => lo_load1 (i := 0) (v := .int _ _) rfl ag5 (hl _ _ rfl) rfl) ?_
    refine vw_q 7 rfl (by kernel_rfl) (by repeat (first | exact lle_l0 | exact LLe.refl _ | exact lle_none | refine lle_up ?_ rfl)) (fun _ _ hh hl => lo_conv_in rfl (by rw [Tryd.underlying5]; rfl) Tryd.underlying22 (rg_u64 (by omega))) ?_
    have := outNum_len (outNum (⟨[], 0⟩ : Out) f.channel 1) f.kind 1
    refine vw_qc 8 rfl (by kernel_rfl) (by repeat (first | exact lle_l0 | exact LLe.refl _ | exact lle_none | refine lle_up ?_ rfl)) (out_Num _ (outNum (⟨[], 0⟩ : Out) f.channel 1) f.kind (by omega) 1 (by omega) (by first | omega | (have := hrl (by assumption); omega) | (simp [outNum, outRaw, numB_len, numK] <;> omega) | (have := hrl (by assumption); simp [outNum, outRaw, numB_len, numK] <;> omega))) (en_f cb46 rfl) ?_
    refine vw_q 9 rfl (by kernel_rfl) (by repeat (first | exact lle_l0 | exact LLe.refl _ | exact lle_none | refine lle_up ?_ rfl)) (fun _ _ hh hl => lo_fieldAddr rfl fl35_2) ?_
    refine vw_q 10 rfl (by kernel_rfl) (by repeat (first | exact lle_l0 | exact LLe.refl _ | exact lle_none | refine lle_up ?_ rfl)) (fun _ _ hh hl => lo_load1 (i := 0) (v := str _) rfl ag9 (hl _ _ rfl) rfl) ?_
    have := outText_len (outNum (outNum (⟨[], 0⟩ : Out) f.channel 1) f.kind 1) f.body
    refine vw_qc 11 rfl (by kernel_rfl) (by repeat (first | exact lle_l0 | exact LLe.refl _ | exact lle_none | refine lle_up ?_ rfl)) (out_Text _ (outNum (outNum (⟨[], 0⟩ : Out) f.channel 1) f.kind 1) f.body (by first | omega | (have := hrl (by assumption); omega) | (simp [outNum, outRaw, numB_len, numK] <;> omega) | (have := hrl (by assumption); simp [outNum, outRaw, numB_len, numK] <;> omega))) (en_f cb45 rfl) ?_
    refine vw_e 12 rfl (by kernel_rfl) (op1_alloc 1 rfl zr78 (fun b5 => ?_))
    refine ⟨⟨(.refl _), (by repeat (first | exact lle_l0 | exact LLe.refl _ | exact lle_none | refine lle_up ?_ rfl))⟩, ?_⟩
    refine vw_t 13 rfl (by kernel_rfl) (by kernel_rfl) (op1_storeA (i := 1) (vs := [_, _]) rfl rfl rfl sz78 rfl rfl rfl ?_)
    refine vw_done (by kernel_rfl) ?_
    refine seqK_n ?_
    refine cw_seq ?_
    refine cw_anyL mixd ?_
    refine vw_q 0 rfl (by kernel_rfl) (by repeat (first | exact lle_l0 | exact LLe.refl _ | exact lle_none | refine lle_up ?_ rfl)) (fun _ _ hh hl => lo_loadA (i := 1) (vs := [_, _]) rfl ag78 sz78 (hl _ _ rfl) rfl rfl) ?_
    refine vw_q 1 rfl (by kernel_rfl) (by repeat (first | exact lle_l0 | exact LLe.refl _ | exact lle_none | refine lle_up ?_ rfl)) (fun _ _ hh hl => lo_loadA (i := 1) (vs := [_, _]) rfl ag78 sz78 (hl _ _ rfl) rfl rfl) ?_
    refine vw_qc 2 rfl (by kernel_rfl) (by repeat (first | exact lle_l0 | exact LLe.refl _ | exact lle_none | refine lle_up ?_ rfl)) (out_String _ (outText (outNum (outNum (⟨[], 0⟩ : Out) f.channel 1) f.kind 1) f.body)) (en_f cb49 rfl) ?_
    refine vw_e 3 rfl (by kernel_rfl) (op1_bslice (cs := [_]) 2 rfl Tryd.underlying108 sz9 zx9 rfl ⟨rfl, rfl, trivial⟩ rfl rfl (by decide) (fun b6 => ?_))
    refine ⟨⟨(.refl _), (by repeat (first | exact lle_l0 | exact LLe.refl _ | exact lle_none | refine lle_up ?_ rfl))⟩, ?_⟩
    refine vw_giveO 2 rfl (by repeat (first | exact lle_l0 | exact LLe.refl _ | exact lle_none | refine lle_up ?_ rfl)) (by kernel_rfl) (fun _ hl7 hg8 => ?_)
    have hs9 := slh_bx (H := _) (enc := (fun s => [str s])) (wf := (fun s => s.length ≤ 9223372036854775807)) [(outText (outNum (outNum (⟨[], 0⟩ : Out) f.channel 1) f.kind 1) f.body).s] (fun _ => rfl) (hg8 _ _ rfl) rfl rfl (Nat.le_refl _) (by first | (intro x hx; simp at hx; subst hx; first | omega | (simp; done) | (simp; omega)) | (simp; done) | (simp; omega))
    have := crcSum_r [(outText (outNum (outNum (⟨[], 0⟩ : Out) f.channel 1) f.kind 1) f.body).s]
    refine vw_qc 4 rfl (by kernel_rfl) (by repeat (first | exact lle_l0 | exact LLe.refl _ | exact lle_none | refine lle_up ?_ rfl)) (crc_Sum _ (some ⟨b6, 0, none⟩) 1 1 [(outText (outNum (outNum (⟨[], 0⟩ : Out) f.channel 1) f.kind 1) f.body).s] hs9 (hCrc.mono ((HLe.refl _).trans hl7)) (by first | omega | (simp; done) | (simp; omega))) (en_f cb107 rfl) ?_
    refine vw_q 5 rfl (by kernel_rfl) (by repeat (first | exact lle_l0 | exact LLe.refl _ | exact lle_none | refine lle_up ?_ rfl)) (fun _ _ hh hl => lo_conv_in rfl (by rw [Tryd.underlying135]; rfl) Tryd.underlying22 (rg_u64 (by omega))) ?_
    have := outNum_len (outText (outNum (outNum (⟨[], 0⟩ : Out) f.channel 1) f.kind 1) f.body) (crcSum [(outText (outNum (outNum (⟨[], 0⟩ : Out) f.channel 1) f.kind 1) f.body).s]) 4
    refine vw_qc 6 rfl (by kernel_rfl) (by repeat (first | exact lle_l0 | exact LLe.refl _ | exact lle_none | refine lle_up ?_ rfl)) (out_Num _ (outText (outNum (outNum (⟨[], 0⟩ : Out) f.channel 1) f.kind 1) f.body) (crcSum [(outText (outNum (outNum (⟨[], 0⟩ : Out) f.channel 1) f.kind 1) f.body).s]) (by omega) 4 (by omega) (by first | omega | (have := hrl (by assumption); omega) | (simp [outNum, outRaw, numB_len, numK] <;> omega) | (have := hrl (by assumption); simp [outNum, outRaw, numB_len, numK] <;> omega))) (en_f cb46 rfl) ?_
    have := outNum_len (outNum (outText (outNum (outNum (⟨[], 0⟩ : Out) f.channel 1) f.kind 1) f.body) (crcSum [(outText (outNum (outNum (⟨[], 0⟩ : Out) f.channel 1) f.kind 1) f.body).s]) 4) 206 1
    refine vw_qc 7 rfl (by kernel_rfl) (by repeat (first | exact lle_l0 | exact LLe.refl _ | exact lle_none | refine lle_up ?_ rfl)) (out_Num _ (outNum (outText (outNum (outNum (⟨[], 0⟩ : Out) f.channel 1) f.kind 1) f.body) (crcSum [(outText (outNum (outNum (⟨[], 0⟩ : Out) f.channel 1) f.kind 1) f.body).s]) 4) 206 (by omega) 1 (by omega) (by first | omega | (have := hrl (by assumption); omega) | (simp [outNum, outRaw, numB_len, numK] <;> omega) | (have := hrl (by assumption); simp [outNum, outRaw, numB_len, numK] <;> omega))) (en_f cb46 rfl) ?_
    refine vw_qc 8 rfl (by kernel_rfl) (by repeat (first | exact lle_l0 | exact LLe.refl _ | exact lle_none | refine lle_up ?_ rfl)) (out_String _ (outNum (outNum (outText (outNum (outNum (⟨[], 0⟩ : Out) f.channel 1) f.kind 1) f.body) (crcSum [(outText (outNum (outNum (⟨[], 0⟩ : Out) f.channel 1) f.kind 1) f.body).s]) 4) 206 1)) (en_f cb49 rfl) ?_
    refine vw_q 9 rfl (by kernel_rfl) (by repeat (first | exact lle_l0 | exact LLe.refl _ | exact lle_none | refine lle_up ?_ rfl)) (fun _ _ hh hl => lo_assign (v := str _) rfl) ?_
    refine vw_q 10 rfl (by kernel_rfl) (by repeat (first | exact lle_l0 | exact LLe.refl _ | exact lle_none | refine lle_up ?_ rfl)) (fun _ _ hh hl => lo_assign (v := .int _ _) rfl) ?_
    refine vw_done (by kernel_rfl) ?_
    refine seqK_n ?_
    refine cw_ret ?_
    refine fnK_r (res2 rfl (rv_t (v := str _) rfl) (rv_t (v := .int _ _) rfl)) ((HLe.refl _).trans hl7) ?_
    simp [frameBytes, frameErr, frameOut, *]

end Go.SW


set_option linter.unusedVariables false
set_option maxRecDepth 100000
set_option maxHeartbeats 4000000
namespace Go.SW
open Go.Proofs
theorem ag35 : Ag Tryd.prog 35 true := fun w => by kernel_rfl
theorem bd35  (w : World) : (Instr.build 35 #[]).run Tryd.prog w = .ok (.agg #[.int .u8 0, .int .u8 0, str []]) w := by kernel_rfl
theorem bd35_0u8_1u8_2s (a1 : Int) (a2 : Int) (a3 : Bs) (w : World) : (Instr.build 35 #[(0, .int .u8 a1), (1, .int .u8 a2), (2, str a3)]).run Tryd.prog w = .ok (.agg #[.int .u8 a1, .int .u8 a2, str a3]) w := by kernel_rfl
theorem cb18 : Callable Tryd.prog 18 := callable_of Tryd.func18 (by kernel_rfl) (by kernel_rfl)
theorem cb47 : Callable Tryd.prog 47 := callable_of Tryd.func47 (by kernel_rfl) (by kernel_rfl)
theorem fl27_0 : Fld Tryd.prog 27 0 0 := fun b o w => by kernel_rfl
theorem sz35 : Sz Tryd.prog 35 3 := fun w => by kernel_rfl
theorem zr35 : Zr Tryd.prog 35 [.int .u8 0, .int .u8 0, str []] := fun w => ⟨.agg #[.int .u8 0, .int .u8 0, str []], by kernel_rfl, rfl⟩

theorem reply_Frame (H : Hp) (r : Reply) (r_mail_head_a : Option Addr) (r_mail_head_c : Nat) (r_mail_head_h : SlH pairE 4 H (.slice r_mail_head_a r.mail.head.length r_mail_head_c) r.mail.head) (r_w : Reply.wf r) (hML : GInt H 2) : Pr Tryd.prog 15 #[.agg (Reply.cells r r_mail_head_a r_mail_head_c).toArray] H (.tuple #[.agg (Frame.cells (replyFrame r)).toArray, .int .i64 (replyE r)]) := by
  refine pr_cw Tryd.func15 rfl Tryd.ntmps15 rfl (fun N => ?_)
  have r_w' := r_w
  simp only [Reply.wf, Mail.wf] at r_w'
  refine cw_seq ?_
  refine cw_region ?_
  refine ow1 (op1_box (cs := [_, _, _, _, _, _, _, _, _, _, _, _, _]) 0 rfl rfl (fun b1 => ?_))
  refine ow1 (op1_alloc 1 rfl zr35 (fun b2 => ?_))
  refine ow1 (op1_l rfl (lo_assign (v := .int _ _) rfl) ?_)
  refine ow_nil ?_
  refine seqK_n ?_
  refine cw_seq ?_
  refine cw_seq ?_
  refine cw_region ?_
  refine ow1 (op1_l rfl (lo_loadA (i := 0) (vs := [_, _, _, _, _, _, _, _, _, _, _, _, _]) rfl ag27 sz27 rfl rfl rfl) ?_)
  refine ow1 (op1_pr (reply_Check _ r r_mail_head_a r_mail_head_c r_mail_head_h r_w hML) (en_f cb18 rfl) rfl ?_)
  have hrl := replyE_len r
  refine ow1 (op1_l rfl (lo_assign (v := .int _ _) rfl) ?_)
  refine ow_nil ?_
  refine seqK_n ?_
  refine cw_seq ?_
  refine cw_region ?_
  refine ow1 (op1_l rfl (lo_move (v := .int _ _) rfl) ?_)
  refine ow1 (op1_l rfl (lo_neq rfl rfl) ?_)
  refine ow_nil ?_
  refine seqK_n ?_
  refine cw_cond rfl (fun h3 => ?_) (fun h3 => ?_)
  · have h4 := not_t h3
    have p5 := df h4
    refine cw_seq ?_
    refine cw_region ?_
    refine ow1 (op1_l rfl (lo_build (v := .agg #[_, _, _]) rfl (bd35)) ?_)
    refine ow1 (op1_l rfl (lo_move (v := .int _ _) rfl) ?_)
    refine ow1 (op1_storeA (i := 1) (vs := [_, _, _]) rfl rfl rfl sz35 rfl rfl rfl ?_)
    refine ow1 (op1_l rfl (lo_assign (v := .int _ _) rfl) ?_)
    refine ow_nil ?_
    refine seqK_n ?_
    refine cw_ret ?_
    refine seqK_r ?_
    refine fnK_r (res2 rfl (rv_c (i := 1) (vs := [_, _, _]) rfl ag35 sz35 rfl rfl rfl) (rv_t (v := .int _ _) rfl)) (.refl _) ?_
    simp [replyFrame, replyOut, replyOut1, Frame.cells, Frame.zero, *]
  · have h6 := not_f h3
    have p7 := dt h6
    refine cw_skip ?_
    refine seqK_n ?_
    refine cw_seq ?_
    refine cw_region ?_
    refine ow1 (op1_alloc 2 rfl zr78 (fun b8 => ?_))
    refine ow_nil ?_
    refine seqK_n ?_
    refine cw_seq ?_
    refine cw_seq ?_
    refine cw_region ?_
    refine ow1 (op1_l rfl (lo_fieldAddr rfl fl27_1) ?_)
    refine ow1 (op1_l rfl (lo_load1 (i := 0) (v := .int _ _) rfl ag5 rfl rfl) ?_)
    refine ow_nil ?_
    refine seqK_n ?_
    refine cw_block ?_
    refine cw_seq ?_
    refine cw_region ?_
    refine ow1 (op1_l rfl (lo_eql rfl rfl) ?_)
    refine ow1 (op1_l rfl (lo_assign (v := .bool _) rfl) ?_)
    refine ow_nil ?_
    refine seqK_n ?_
    refine cw_cond rfl (fun h9 => ?_) (fun h9 => ?_)
    · have p10 := dt h9
      refine cw_region ?_
      refine ow1 (op1_l rfl (lo_loadA (i := 2) (vs := [_, _]) rfl ag78 sz78 rfl rfl rfl) ?_)
      refine ow1 (op1_l rfl (lo_fieldAddr rfl fl27_5) ?_)
      refine ow1 (op1_l rfl (lo_load1 (i := 0) (v := str _) rfl ag9 rfl rfl) ?_)
      refine ow1 (op1_pr (out_Text _ (⟨[], 0⟩ : Out) r.name (by first | omega | (have := hrl (by assumption); omega) | (simp [outNum, outRaw, numB_len, numK] <;> omega) | (have := hrl (by assumption); simp [outNum, outRaw, numB_len, numK] <;> omega))) (en_f cb45 rfl) rfl ?_)
      have nl0 : (⟨[], 0⟩ : Out).s.length = 0 := rfl
      have := outText_len (⟨[], 0⟩ : Out) r.name
      refine ow1 (op1_storeA (i := 2) (vs := [_, _]) rfl rfl rfl sz78 rfl rfl rfl ?_)
      refine ow_nil ?_
      refine blkK_n ?_
      refine seqK_n ?_
      refine cw_seq ?_
      refine cw_seq ?_
      refine cw_region ?_
      refine ow1 (op1_l rfl (lo_fieldAddr rfl fl27_1) ?_)
      refine ow1 (op1_l rfl (lo_load1 (i := 0) (v := .int _ _) rfl ag5 rfl rfl) ?_)
      refine ow1 (op1_l rfl (lo_eql rfl rfl) ?_)
      refine ow_nil ?_
      refine seqK_n ?_
      refine cw_cond_f rfl (fd (by omega)) ?_
      refine cw_skip ?_
      refine seqK_n ?_
      refine cw_seq ?_
      refine cw_anyX 1 mixd ?_
      refine vw_q 0 rfl (by kernel_rfl) (by repeat (first | exact lle_l0 | exact LLe.refl _ | exact lle_none | refine lle_up ?_ rfl)) (fun _ _ hh hl => lo_fieldAddr rfl fl27_0) ?_
      refine vw_q 1 rfl (by kernel_rfl) (by repeat (first | exact lle_l0 | exact LLe.refl _ | exact lle_none | refine lle_up ?_ rfl)) (fun _ _ hh hl => lo_load1 (i := 0) (v := .int _ _) rfl ag5 (hl _ _ rfl) rfl) ?_
      refine vw_q 2 rfl (by kernel_rfl) (by repeat (first | exact lle_l0 | exact LLe.refl _ | exact lle_none | refine lle_up ?_ rfl)) (fun _ _ hh hl => lo_fieldAddr rfl fl27_1) ?_
      refine vw_q 3 rfl (by kernel_rfl) (by repeat (first | exact lle_l0 | exact LLe.refl _ | exact lle_none | refine lle_up ?_ rfl)) (fun _ _ hh hl => lo_load1 (i := 0) (v := .int _ _) rfl ag5 (hl _ _ rfl) rfl) ?_
      have := wr_u8 (64 + r.kind)
      refine vw_q 4 rfl (by kernel_rfl) (by repeat (first | exact lle_l0 | exact LLe.refl _ | exact lle_none | refine lle_up ?_ rfl)) (fun _ _ hh hl => lo_add_w rfl rfl) ?_
      refine vw_q 5 rfl (by kernel_rfl) (by repeat (first | exact lle_l0 | exact LLe.refl _ | exact lle_none | refine lle_up ?_ rfl)) (fun _ _ hh hl => lo_loadA (i := 2) (vs := [_, _]) rfl ag78 sz78 (hl _ _ rfl) rfl rfl) ?_
      refine vw_qc 6 rfl (by kernel_rfl) (by repeat (first | exact lle_l0 | exact LLe.refl _ | exact lle_none | refine lle_up ?_ rfl)) (out_String _ (outText (⟨[], 0⟩ : Out) r.name)) (en_f cb49 rfl) ?_
      refine vw_q 7 rfl (by kernel_rfl) (by repeat (first | exact lle_l0 | exact LLe.refl _ | exact lle_none | refine lle_up ?_ rfl)) (fun _ _ hh hl => lo_build (v := .agg #[_, _, _]) rfl (bd35_0u8_1u8_2s _ _ _)) ?_
      refine vw_t 8 rfl (by kernel_rfl) (by kernel_rfl) (op1_storeA (i := 1) (vs := [_, _, _]) rfl rfl rfl sz35 rfl rfl rfl ?_)
      refine vw_q 9 rfl (by kernel_rfl) (by repeat (first | exact lle_l0 | exact LLe.refl _ | exact lle_none | refine lle_up ?_ rfl)) (fun _ _ hh hl => lo_assign (v := .int _ _) rfl) ?_
      refine vw_done (by kernel_rfl) ?_
      refine seqK_n ?_
      refine cw_ret ?_
      refine fnK_r (res2 rfl (rv_c (i := 1) (vs := [_, _, _]) rfl ag35 sz35 rfl rfl rfl) (rv_t (v := .int _ _) rfl)) (.refl _) ?_
      simp [replyFrame, replyOut, replyOut1, Frame.cells, Frame.zero, *]
    · have p11 := df h9
      refine cw_seq ?_
      refine cw_seq ?_
      refine cw_region ?_
      refine ow1 (op1_l rfl (lo_eql rfl rfl) ?_)
      refine ow1 (op1_l rfl (lo_assign (v := .bool _) rfl) ?_)
      refine ow_nil ?_
      refine seqK_n ?_
      refine cw_cond rfl (fun h12 => ?_) (fun h12 => ?_)
      · have p13 := dt h12
        refine cw_skip ?_
        refine seqK_n ?_
        refine cw_cond_t rfl h12 ?_
        refine cw_region ?_
        refine ow1 (op1_l rfl (lo_loadA (i := 2) (vs := [_, _]) rfl ag78 sz78 rfl rfl rfl) ?_)
        refine ow1 (op1_l rfl (lo_fieldAddr rfl fl27_2) ?_)
        refine ow1 (op1_l rfl (lo_load1 (i := 0) (v := .int _ _) rfl ag22 rfl rfl) ?_)
        refine ow1 (op1_pr (out_Num _ (⟨[], 0⟩ : Out) r.n (by omega) 8 (by omega) (by first | omega | (have := hrl (by assumption); omega) | (simp [outNum, outRaw, numB_len, numK] <;> omega) | (have := hrl (by assumption); simp [outNum, outRaw, numB_len, numK] <;> omega))) (en_f cb46 rfl) rfl ?_)
        have nl0 : (⟨[], 0⟩ : Out).s.length = 0 := rfl
        have := outNum_len (⟨[], 0⟩ : Out) r.n 8
        refine ow1 (op1_storeA (i := 2) (vs := [_, _]) rfl rfl rfl sz78 rfl rfl rfl ?_)
        refine ow_nil ?_
        refine blkK_n ?_
        refine seqK_n ?_
        refine cw_seq ?_
        refine cw_seq ?_
        refine cw_region ?_
        refine ow1 (op1_l rfl (lo_fieldAddr rfl fl27_1) ?_)
        refine ow1 (op1_l rfl (lo_load1 (i := 0) (v := .int _ _) rfl ag5 rfl rfl) ?_)
        refine ow1 (op1_l rfl (lo_eql rfl rfl) ?_)
        refine ow_nil ?_
        refine seqK_n ?_
        refine cw_cond_f rfl (fd (by omega)) ?_
        refine cw_skip ?_
        refine seqK_n ?_
        refine cw_seq ?_
        refine cw_anyX 1 mixd ?_
        refine vw_q 0 rfl (by kernel_rfl) (by repeat (first | exact lle_l0 | exact LLe.refl _ | exact lle_none | refine lle_up ?_ rfl)) (fun _ _ hh hl => lo_fieldAddr rfl fl27_0) ?_
        refine vw_q 1 rfl (by kernel_rfl) (by repeat (first | exact lle_l0 | exact LLe.refl _ | exact lle_none | refine lle_up ?_ rfl)) (fun _ _ hh hl => lo_load1 (i := 0) (v := .int _ _) rfl ag5 (hl _ _ rfl) rfl) ?_
        refine vw_q 2 rfl (by kernel_rfl) (by repeat (first | exact lle_l0 | exact LLe.refl _ | exact lle_none | refine lle_up ?_ rfl)) (fun _ _ hh hl => lo_fieldAddr rfl fl27_1) ?_
        refine vw_q 3 rfl (by kernel_rfl) (by repeat (first | exact lle_l0 | exact LLe.refl _ | exact lle_none | refine lle_up ?_ rfl)) (fun _ _ hh hl => lo_load1 (i := 0) (v := .int _ _) rfl ag5 (hl _ _ rfl) rfl) ?_
        have := wr_u8 (64 + r.kind)
        refine vw_q 4 rfl (by kernel_rfl) (by repeat (first | exact lle_l0 | exact LLe.refl _ | exact lle_none | refine lle_up ?_ rfl)) (fun _ _ hh hl => lo_add_w rfl rfl) ?_
        refine vw_q 5 rfl (by kernel_rfl) (by repeat (first | exact lle_l0 | exact LLe.refl _ | exact lle_none | refine lle_up ?_ rfl)) (fun _ _ hh hl => lo_loadA (i := 2) (vs := [_, _]) rfl ag78 sz78 (hl _ _ rfl) rfl rfl) ?_
        refine vw_qc 6 rfl (by kernel_rfl) (by repeat (first | exact lle_l0 | exact LLe.refl _ | exact lle_none | refine lle_up ?_ rfl)) (out_String _ (outNum (⟨[], 0⟩ : Out) r.n 8)) (en_f cb49 rfl) ?_
        refine vw_q 7 rfl (by kernel_rfl) (by repeat (first | exact lle_l0 | exact LLe.refl _ | exact lle_none | refine lle_up ?_ rfl)) (fun _ _ hh hl => lo_build (v := .agg #[_, _, _]) rfl (bd35_0u8_1u8_2s _ _ _)) ?_
        refine vw_t 8 rfl (by kernel_rfl) (by kernel_rfl) (op1_storeA (i := 1) (vs := [_, _, _]) rfl rfl rfl sz35 rfl rfl rfl ?_)
        refine vw_q 9 rfl (by kernel_rfl) (by repeat (first | exact lle_l0 | exact LLe.refl _ | exact lle_none | refine lle_up ?_ rfl)) (fun _ _ hh hl => lo_assign (v := .int _ _) rfl) ?_
        refine vw_done (by kernel_rfl) ?_
        refine seqK_n ?_
        refine cw_ret ?_
        refine fnK_r (res2 rfl (rv_c (i := 1) (vs := [_, _, _]) rfl ag35 sz35 rfl rfl rfl) (rv_t (v := .int _ _) rfl)) (.refl _) ?_
        simp [replyFrame, replyOut, replyOut1, Frame.cells, Frame.zero, *]
      · have p14 := df h12
        refine cw_seq ?_
        refine cw_region ?_
        refine ow1 (op1_l rfl (lo_eql rfl rfl) ?_)
        refine ow1 (op1_l rfl (lo_assign (v := .bool _) rfl) ?_)
        refine ow_nil ?_
        refine seqK_n ?_
        refine cw_cond rfl (fun h15 => ?_) (fun h15 => ?_)
        · have p16 := dt h15
          refine cw_skip ?_
          refine seqK_n ?_
          refine cw_cond_t rfl h15 ?_
          refine cw_region ?_
          refine ow1 (op1_l rfl (lo_loadA (i := 2) (vs := [_, _]) rfl ag78 sz78 rfl rfl rfl) ?_)
          refine ow1 (op1_l rfl (lo_fieldAddr rfl fl27_2) ?_)
          refine ow1 (op1_l rfl (lo_load1 (i := 0) (v := .int _ _) rfl ag22 rfl rfl) ?_)
          refine ow1 (op1_pr (out_Num _ (⟨[], 0⟩ : Out) r.n (by omega) 8 (by omega) (by first | omega | (have := hrl (by assumption); omega) | (simp [outNum, outRaw, numB_len, numK] <;> omega) | (have := hrl (by assumption); simp [outNum, outRaw, numB_len, numK] <;> omega))) (en_f cb46 rfl) rfl ?_)
          have nl0 : (⟨[], 0⟩ : Out).s.length = 0 := rfl
          have := outNum_len (⟨[], 0⟩ : Out) r.n 8
          refine ow1 (op1_storeA (i := 2) (vs := [_, _]) rfl rfl rfl sz78 rfl rfl rfl ?_)
          refine ow_nil ?_
          refine blkK_n ?_
          refine seqK_n ?_
          refine cw_seq ?_
          refine cw_seq ?_
          refine cw_region ?_
          refine ow1 (op1_l rfl (lo_fieldAddr rfl fl27_1) ?_)
          refine ow1 (op1_l rfl (lo_load1 (i := 0) (v := .int _ _) rfl ag5 rfl rfl) ?_)
          refine ow1 (op1_l rfl (lo_eql rfl rfl) ?_)
          refine ow_nil ?_
          refine seqK_n ?_
          refine cw_cond_f rfl (fd (by omega)) ?_
          refine cw_skip ?_
          refine seqK_n ?_
          refine cw_seq ?_
          refine cw_anyX 1 mixd ?_
          refine vw_q 0 rfl (by kernel_rfl) (by repeat (first | exact lle_l0 | exact LLe.refl _ | exact lle_none | refine lle_up ?_ rfl)) (fun _ _ hh hl => lo_fieldAddr rfl fl27_0) ?_
          refine vw_q 1 rfl (by kernel_rfl) (by repeat (first | exact lle_l0 | exact LLe.refl _ | exact lle_none | refine lle_up ?_ rfl)) (fun _ _ hh hl => lo_load1 (i := 0) (v := .int _ _) rfl ag5 (hl _ _ rfl) rfl) ?_
          refine vw_q 2 rfl (by kernel_rfl) (by repeat (first | exact lle_l0 | exact LLe.refl _ | exact lle_none | refine lle_up ?_ rfl)) (fun _ _ hh hl => lo_fieldAddr rfl fl27_1) ?_
          refine vw_q 3 rfl (by kernel_rfl) (by repeat (first | exact lle_l0 | exact LLe.refl _ | exact lle_none | refine lle_up ?_ rfl)) (fun _ _ hh hl => lo_load1 (i := 0) (v := .int _ _) rfl ag5 (hl _ _ rfl) rfl) ?_
          have := wr_u8 (64 + r.kind)
          refine vw_q 4 rfl (by kernel_rfl) (by repeat (first | exact lle_l0 | exact LLe.refl _ | exact lle_none | refine lle_up ?_ rfl)) (fun _ _ hh hl => lo_add_w rfl rfl) ?_
          refine vw_q 5 rfl (by kernel_rfl) (by repeat (first | exact lle_l0 | exact LLe.refl _ | exact lle_none | refine lle_up ?_ rfl)) (fun _ _ hh hl => lo_loadA (i := 2) (vs := [_, _]) rfl ag78 sz78 (hl _ _ rfl) rfl rfl) ?_
          refine vw_qc 6 rfl (by kernel_rfl) (by repeat (first | exact lle_l0 | exact LLe.refl _ | exact lle_none | refine lle_up ?_ rfl)) (out_String _ (outNum (⟨[], 0⟩ : Out) r.n 8)) (en_f cb49 rfl) ?_
          refine vw_q 7 rfl (by kernel_rfl) (by repeat (first | exact lle_l0 | exact LLe.refl _ | exact lle_none | refine lle_up ?_ rfl)) (fun _ _ hh hl => lo_build (v := .agg #[_, _, _]) rfl (bd35_0u8_1u8_2s _ _ _)) ?_
          refine vw_t 8 rfl (by kernel_rfl) (by kernel_rfl) (op1_storeA (i := 1) (vs := [_, _, _]) rfl rfl rfl sz35 rfl rfl rfl ?_)
          refine vw_q 9 rfl (by kernel_rfl) (by repeat (first | exact lle_l0 | exact LLe.refl _ | exact lle_none | refine lle_up ?_ rfl)) (fun _ _ hh hl => lo_assign (v := .int _ _) rfl) ?_
          refine vw_done (by kernel_rfl) ?_
          refine seqK_n ?_
          refine cw_ret ?_
          refine fnK_r (res2 rfl (rv_c (i := 1) (vs := [_, _, _]) rfl ag35 sz35 rfl rfl rfl) (rv_t (v := .int _ _) rfl)) (.refl _) ?_
          simp [replyFrame, replyOut, replyOut1, Frame.cells, Frame.zero, *]
        · have p17 := df h15
          refine cw_region ?_
          refine ow1 (op1_l rfl (lo_eql rfl rfl) ?_)
          refine ow1 (op1_l rfl (lo_assign (v := .bool _) rfl) ?_)
          refine ow_nil ?_
          refine seqK_n ?_
          refine cw_cond rfl (fun h18 => ?_) (fun h18 => ?_)
          · have p19 := dt h18
            refine cw_region ?_
            refine ow1 (op1_l rfl (lo_loadA (i := 2) (vs := [_, _]) rfl ag78 sz78 rfl rfl rfl) ?_)
            refine ow1 (op1_l rfl (lo_fieldAddr rfl fl27_2) ?_)
            refine ow1 (op1_l rfl (lo_load1 (i := 0) (v := .int _ _) rfl ag22 rfl rfl) ?_)
            refine ow1 (op1_pr (out_Num _ (⟨[], 0⟩ : Out) r.n (by omega) 8 (by omega) (by first | omega | (have := hrl (by assumption); omega) | (simp [outNum, outRaw, numB_len, numK] <;> omega) | (have := hrl (by assumption); simp [outNum, outRaw, numB_len, numK] <;> omega))) (en_f cb46 rfl) rfl ?_)
            have nl0 : (⟨[], 0⟩ : Out).s.length = 0 := rfl
            have := outNum_len (⟨[], 0⟩ : Out) r.n 8
            refine ow1 (op1_storeA (i := 2) (vs := [_, _]) rfl rfl rfl sz78 rfl rfl rfl ?_)
            refine ow_nil ?_
            refine blkK_n ?_
            refine seqK_n ?_
            refine cw_seq ?_
            refine cw_seq ?_
            refine cw_region ?_
            refine ow1 (op1_l rfl (lo_fieldAddr rfl fl27_1) ?_)
            refine ow1 (op1_l rfl (lo_load1 (i := 0) (v := .int _ _) rfl ag5 rfl rfl) ?_)
            refine ow1 (op1_l rfl (lo_eql rfl rfl) ?_)
            refine ow_nil ?_
            refine seqK_n ?_
            refine cw_cond_f rfl (fd (by omega)) ?_
            refine cw_skip ?_
            refine seqK_n ?_
            refine cw_seq ?_
            refine cw_anyX 1 mixd ?_
            refine vw_q 0 rfl (by kernel_rfl) (by repeat (first | exact lle_l0 | exact LLe.refl _ | exact lle_none | refine lle_up ?_ rfl)) (fun _ _ hh hl => lo_fieldAddr rfl fl27_0) ?_
            refine vw_q 1 rfl (by kernel_rfl) (by repeat (first | exact lle_l0 | exact LLe.refl _ | exact lle_none | refine lle_up ?_ rfl)) (fun _ _ hh hl => lo_load1 (i := 0) (v := .int _ _) rfl ag5 (hl _ _ rfl) rfl) ?_
            refine vw_q 2 rfl (by kernel_rfl) (by repeat (first | exact lle_l0 | exact LLe.refl _ | exact lle_none | refine lle_up ?_ rfl)) (fun _ _ hh hl => lo_fieldAddr rfl fl27_1) ?_
            refine vw_q 3 rfl (by kernel_rfl) (by repeat (first | exact lle_l0 | exact LLe.refl _ | exact lle_none | refine lle_up ?_ rfl)) (fun _ _ hh hl => lo_load1 (i := 0) (v := .int _ _) rfl ag5 (hl _ _ rfl) rfl) ?_
            have := wr_u8 (64 + r.kind)
            refine vw_q 4 rfl (by kernel_rfl) (by repeat (first | exact lle_l0 | exact LLe.refl _ | exact lle_none | refine lle_up ?_ rfl)) (fun _ _ hh hl => lo_add_w rfl rfl) ?_
            refine vw_q 5 rfl (by kernel_rfl) (by repeat (first | exact lle_l0 | exact LLe.refl _ | exact lle_none | refine lle_up ?_ rfl)) (fun _ _ hh hl => lo_loadA (i := 2) (vs := [_, _]) rfl ag78 sz78 (hl _ _ rfl) rfl rfl) ?_
            refine vw_qc 6 rfl (by kernel_rfl) (by repeat (first | exact lle_l0 | exact LLe.refl _ | exact lle_none | refine lle_up ?_ rfl)) (out_String _ (outNum (⟨[], 0⟩ : Out) r.n 8)) (en_f cb49 rfl) ?_
            refine vw_q 7 rfl (by kernel_rfl) (by repeat (first | exact lle_l0 | exact LLe.refl _ | exact lle_none | refine lle_up ?_ rfl)) (fun _ _ hh hl => lo_build (v := .agg #[_, _, _]) rfl (bd35_0u8_1u8_2s _ _ _)) ?_
            refine vw_t 8 rfl (by kernel_rfl) (by kernel_rfl) (op1_storeA (i := 1) (vs := [_, _, _]) rfl rfl rfl sz35 rfl rfl rfl ?_)
            refine vw_q 9 rfl (by kernel_rfl) (by repeat (first | exact lle_l0 | exact LLe.refl _ | exact lle_none | refine lle_up ?_ rfl)) (fun _ _ hh hl => lo_assign (v := .int _ _) rfl) ?_
            refine vw_done (by kernel_rfl) ?_
            refine seqK_n ?_
            refine cw_ret ?_
            refine fnK_r (res2 rfl (rv_c (i := 1) (vs := [_, _, _]) rfl ag35 sz35 rfl rfl rfl) (rv_t (v := .int _ _) rfl)) (.refl _) ?_
            simp [replyFrame, replyOut, replyOut1, Frame.cells, Frame.zero, *]
          · have p20 := df h18
            refine cw_seq ?_
            refine cw_seq ?_
            refine cw_region ?_
            refine ow1 (op1_l rfl (lo_eql rfl rfl) ?_)
            refine ow1 (op1_l rfl (lo_assign (v := .bool _) rfl) ?_)
            refine ow_nil ?_
            refine seqK_n ?_
            refine cw_cond rfl (fun h21 => ?_) (fun h21 => ?_)
            · have p22 := dt h21
              refine cw_skip ?_
              refine seqK_n ?_
              refine cw_cond_t rfl h21 ?_
              refine cw_anyL mixd ?_
              refine vw_q 0 rfl (by kernel_rfl) (by repeat (first | exact lle_l0 | exact LLe.refl _ | exact lle_none | refine lle_up ?_ rfl)) (fun _ _ hh hl => lo_loadA (i := 2) (vs := [_, _]) rfl ag78 sz78 (hl _ _ rfl) rfl rfl) ?_
              refine vw_q 1 rfl (by kernel_rfl) (by repeat (first | exact lle_l0 | exact LLe.refl _ | exact lle_none | refine lle_up ?_ rfl)) (fun _ _ hh hl => lo_fieldAddr rfl fl27_2) ?_
              refine vw_q 2 rfl (by kernel_rfl) (by repeat (first | exact lle_l0 | exact LLe.refl _ | exact lle_none | refine lle_up ?_ rfl)) (fun _ _ hh hl => lo_load1 (i := 0) (v := .int _ _) rfl ag22 (hl _ _ rfl) rfl) ?_
              have nl0 : (⟨[], 0⟩ : Out).s.length = 0 := rfl
              have := outNum_len (⟨[], 0⟩ : Out) r.n 8
              refine vw_qc 3 rfl (by kernel_rfl) (by repeat (first | exact lle_l0 | exact LLe.refl _ | exact lle_none | refine lle_up ?_ rfl)) (out_Num _ (⟨[], 0⟩ : Out) r.n (by omega) 8 (by omega) (by first | omega | (have := hrl (by assumption); omega) | (simp [outNum, outRaw, numB_len, numK] <;> omega) | (have := hrl (by assumption); simp [outNum, outRaw, numB_len, numK] <;> omega))) (en_f cb46 rfl) ?_
              refine vw_q 4 rfl (by kernel_rfl) (by repeat (first | exact lle_l0 | exact LLe.refl _ | exact lle_none | refine lle_up ?_ rfl)) (fun _ _ hh hl => lo_fieldAddr rfl fl27_3) ?_
              refine vw_q 5 rfl (by kernel_rfl) (by repeat (first | exact lle_l0 | exact LLe.refl _ | exact lle_none | refine lle_up ?_ rfl)) (fun _ _ hh hl => lo_load1 (i := 0) (v := .int _ _) rfl ag22 (hl _ _ rfl) rfl) ?_
              have := outNum_len (outNum (⟨[], 0⟩ : Out) r.n 8) r.m 8
              refine vw_qc 6 rfl (by kernel_rfl) (by repeat (first | exact lle_l0 | exact LLe.refl _ | exact lle_none | refine lle_up ?_ rfl)) (out_Num _ (outNum (⟨[], 0⟩ : Out) r.n 8) r.m (by omega) 8 (by omega) (by first | omega | (have := hrl (by assumption); omega) | (simp [outNum, outRaw, numB_len, numK] <;> omega) | (have := hrl (by assumption); simp [outNum, outRaw, numB_len, numK] <;> omega))) (en_f cb46 rfl) ?_
              refine vw_t 7 rfl (by kernel_rfl) (by kernel_rfl) (op1_storeA (i := 2) (vs := [_, _]) rfl rfl rfl sz78 rfl rfl rfl ?_)
              refine vw_done (by kernel_rfl) ?_
              refine blkK_n ?_
              refine seqK_n ?_
              refine cw_seq ?_
              refine cw_seq ?_
              refine cw_region ?_
              refine ow1 (op1_l rfl (lo_fieldAddr rfl fl27_1) ?_)
              refine ow1 (op1_l rfl (lo_load1 (i := 0) (v := .int _ _) rfl ag5 rfl rfl) ?_)
              refine ow1 (op1_l rfl (lo_eql rfl rfl) ?_)
              refine ow_nil ?_
              refine seqK_n ?_
              refine cw_cond_t rfl h21 ?_
              refine cw_seq ?_
              refine cw_region ?_
              refine ow1 (op1_l rfl (lo_assign (v := .int _ _) rfl) ?_)
              refine ow_nil ?_
              refine seqK_n ?_
              refine cw_seq ?_
              refine cw_seq ?_
              refine cw_region ?_
              refine ow1 (op1_l rfl (lo_fieldAddr rfl fl27_4) ?_)
              refine ow1 (op1_l rfl (lo_load1 (i := 0) (v := .bool _) rfl ag4 rfl rfl) ?_)
              refine ow_nil ?_
              refine seqK_n ?_
              refine cw_cond rfl (fun h23 => ?_) (fun h23 => ?_)
              · refine cw_region ?_
                refine ow1 (op1_l rfl (lo_assign (v := .int _ _) rfl) ?_)
                refine ow_nil ?_
                refine seqK_n ?_
                refine cw_seq ?_
                refine cw_region ?_
                refine ow1 (op1_l rfl (lo_fieldAddr rfl fl27_6) ?_)
                refine ow1 (op1_l rfl (lo_fieldAddr rfl fl25_3) ?_)
                refine ow1 (op1_l rfl (lo_load1 (i := 0) (v := .slice _ _ _) rfl ag23 rfl rfl) ?_)
                refine ow1 (op1_pr (head_Bytes _ r_mail_head_a r.mail.head.length r_mail_head_c r.mail.head r_mail_head_h (by first | omega | (simp <;> omega))) (en_f cb47 rfl) rfl ?_)
                have := headBytes_len r.mail.head
                refine ow1 (op1_l rfl (lo_move (v := .tuple #[_, _]) rfl) ?_)
                refine ow1 (op1_l rfl (lo_extract (v := str _) rfl rfl) ?_)
                refine ow1 (op1_l rfl (lo_extract (v := .int _ _) rfl rfl) ?_)
                refine ow1 (op1_l rfl (lo_assign (v := str _) rfl) ?_)
                refine ow1 (op1_l rfl (lo_assign (v := .int _ _) rfl) ?_)
                refine ow_nil ?_
                refine seqK_n ?_
                refine cw_anyL mixd ?_
                refine vw_q 0 rfl (by kernel_rfl) (by repeat (first | exact lle_l0 | exact LLe.refl _ | exact lle_none | refine lle_up ?_ rfl)) (fun _ _ hh hl => lo_loadA (i := 2) (vs := [_, _]) rfl ag78 sz78 (hl _ _ rfl) rfl rfl) ?_
                refine vw_q 1 rfl (by kernel_rfl) (by repeat (first | exact lle_l0 | exact LLe.refl _ | exact lle_none | refine lle_up ?_ rfl)) (fun _ _ hh hl => lo_move (v := .int _ _) rfl) ?_
                have := outNum_len (outNum (outNum (⟨[], 0⟩ : Out) r.n 8) r.m 8) 1 1
                refine vw_qc 2 rfl (by kernel_rfl) (by repeat (first | exact lle_l0 | exact LLe.refl _ | exact lle_none | refine lle_up ?_ rfl)) (out_Num _ (outNum (outNum (⟨[], 0⟩ : Out) r.n 8) r.m 8) 1 (by omega) 1 (by omega) (by first | omega | (have := hrl (by assumption); omega) | (simp [outNum, outRaw, numB_len, numK] <;> omega) | (have := hrl (by assumption); simp [outNum, outRaw, numB_len, numK] <;> omega))) (en_f cb46 rfl) ?_
                refine vw_q 3 rfl (by kernel_rfl) (by repeat (first | exact lle_l0 | exact LLe.refl _ | exact lle_none | refine lle_up ?_ rfl)) (fun _ _ hh hl => lo_fieldAddr rfl fl27_6) ?_
                refine vw_q 4 rfl (by kernel_rfl) (by repeat (first | exact lle_l0 | exact LLe.refl _ | exact lle_none | refine lle_up ?_ rfl)) (fun _ _ hh hl => lo_fieldAddr rfl fl25_1) ?_
                refine vw_q 5 rfl (by kernel_rfl) (by repeat (first | exact lle_l0 | exact LLe.refl _ | exact lle_none | refine lle_up ?_ rfl)) (fun _ _ hh hl => lo_load1 (i := 0) (v := str _) rfl ag9 (hl _ _ rfl) rfl) ?_
                have := outText_len (outNum (outNum (outNum (⟨[], 0⟩ : Out) r.n 8) r.m 8) 1 1) r.mail.shop
                refine vw_qc 6 rfl (by kernel_rfl) (by repeat (first | exact lle_l0 | exact LLe.refl _ | exact lle_none | refine lle_up ?_ rfl)) (out_Text _ (outNum (outNum (outNum (⟨[], 0⟩ : Out) r.n 8) r.m 8) 1 1) r.mail.shop (by first | omega | (have := hrl (by assumption); omega) | (simp [outNum, outRaw, numB_len, numK] <;> omega) | (have := hrl (by assumption); simp [outNum, outRaw, numB_len, numK] <;> omega))) (en_f cb45 rfl) ?_
                refine vw_q 7 rfl (by kernel_rfl) (by repeat (first | exact lle_l0 | exact LLe.refl _ | exact lle_none | refine lle_up ?_ rfl)) (fun _ _ hh hl => lo_fieldAddr rfl fl27_6) ?_
                refine vw_q 8 rfl (by kernel_rfl) (by repeat (first | exact lle_l0 | exact LLe.refl _ | exact lle_none | refine lle_up ?_ rfl)) (fun _ _ hh hl => lo_fieldAddr rfl fl25_2) ?_
                refine vw_q 9 rfl (by kernel_rfl) (by repeat (first | exact lle_l0 | exact LLe.refl _ | exact lle_none | refine lle_up ?_ rfl)) (fun _ _ hh hl => lo_load1 (i := 0) (v := str _) rfl ag9 (hl _ _ rfl) rfl) ?_
                have := outText_len (outText (outNum (outNum (outNum (⟨[], 0⟩ : Out) r.n 8) r.m 8) 1 1) r.mail.shop) r.mail.key
                refine vw_qc 10 rfl (by kernel_rfl) (by repeat (first | exact lle_l0 | exact LLe.refl _ | exact lle_none | refine lle_up ?_ rfl)) (out_Text _ (outText (outNum (outNum (outNum (⟨[], 0⟩ : Out) r.n 8) r.m 8) 1 1) r.mail.shop) r.mail.key (by first | omega | (have := hrl (by assumption); omega) | (simp [outNum, outRaw, numB_len, numK] <;> omega) | (have := hrl (by assumption); simp [outNum, outRaw, numB_len, numK] <;> omega))) (en_f cb45 rfl) ?_
                refine vw_q 11 rfl (by kernel_rfl) (by repeat (first | exact lle_l0 | exact LLe.refl _ | exact lle_none | refine lle_up ?_ rfl)) (fun _ _ hh hl => lo_move (v := str _) rfl) ?_
                have := outRaw_len (outText (outText (outNum (outNum (outNum (⟨[], 0⟩ : Out) r.n 8) r.m 8) 1 1) r.mail.shop) r.mail.key) (headBytes r.mail.head)
                refine vw_qc 12 rfl (by kernel_rfl) (by repeat (first | exact lle_l0 | exact LLe.refl _ | exact lle_none | refine lle_up ?_ rfl)) (out_Raw _ (outText (outText (outNum (outNum (outNum (⟨[], 0⟩ : Out) r.n 8) r.m 8) 1 1) r.mail.shop) r.mail.key) (headBytes r.mail.head) (by first | omega | (have := hrl (by assumption); omega) | (simp [outNum, outRaw, numB_len, numK] <;> omega) | (have := hrl (by assumption); simp [outNum, outRaw, numB_len, numK] <;> omega))) (en_f cb48 rfl) ?_
                refine vw_q 13 rfl (by kernel_rfl) (by repeat (first | exact lle_l0 | exact LLe.refl _ | exact lle_none | refine lle_up ?_ rfl)) (fun _ _ hh hl => lo_fieldAddr rfl fl27_6) ?_
                refine vw_q 14 rfl (by kernel_rfl) (by repeat (first | exact lle_l0 | exact LLe.refl _ | exact lle_none | refine lle_up ?_ rfl)) (fun _ _ hh hl => lo_fieldAddr rfl fl25_4) ?_
                refine vw_q 15 rfl (by kernel_rfl) (by repeat (first | exact lle_l0 | exact LLe.refl _ | exact lle_none | refine lle_up ?_ rfl)) (fun _ _ hh hl => lo_load1 (i := 0) (v := str _) rfl ag9 (hl _ _ rfl) rfl) ?_
                have := outText_len (outRaw (outText (outText (outNum (outNum (outNum (⟨[], 0⟩ : Out) r.n 8) r.m 8) 1 1) r.mail.shop) r.mail.key) (headBytes r.mail.head)) r.mail.body
                refine vw_qc 16 rfl (by kernel_rfl) (by repeat (first | exact lle_l0 | exact LLe.refl _ | exact lle_none | refine lle_up ?_ rfl)) (out_Text _ (outRaw (outText (outText (outNum (outNum (outNum (⟨[], 0⟩ : Out) r.n 8) r.m 8) 1 1) r.mail.shop) r.mail.key) (headBytes r.mail.head)) r.mail.body (by first | omega | (have := hrl (by assumption); omega) | (simp [outNum, outRaw, numB_len, numK] <;> omega) | (have := hrl (by assumption); simp [outNum, outRaw, numB_len, numK] <;> omega))) (en_f cb45 rfl) ?_
                refine vw_t 17 rfl (by kernel_rfl) (by kernel_rfl) (op1_storeA (i := 2) (vs := [_, _]) rfl rfl rfl sz78 rfl rfl rfl ?_)
                refine vw_done (by kernel_rfl) ?_
                refine seqK_n ?_
                refine cw_seq ?_
                refine cw_anyX 1 mixd ?_
                refine vw_q 0 rfl (by kernel_rfl) (by repeat (first | exact lle_l0 | exact LLe.refl _ | exact lle_none | refine lle_up ?_ rfl)) (fun _ _ hh hl => lo_fieldAddr rfl fl27_0) ?_
                refine vw_q 1 rfl (by kernel_rfl) (by repeat (first | exact lle_l0 | exact LLe.refl _ | exact lle_none | refine lle_up ?_ rfl)) (fun _ _ hh hl => lo_load1 (i := 0) (v := .int _ _) rfl ag5 (hl _ _ rfl) rfl) ?_
                refine vw_q 2 rfl (by kernel_rfl) (by repeat (first | exact lle_l0 | exact LLe.refl _ | exact lle_none | refine lle_up ?_ rfl)) (fun _ _ hh hl => lo_fieldAddr rfl fl27_1) ?_
                refine vw_q 3 rfl (by kernel_rfl) (by repeat (first | exact lle_l0 | exact LLe.refl _ | exact lle_none | refine lle_up ?_ rfl)) (fun _ _ hh hl => lo_load1 (i := 0) (v := .int _ _) rfl ag5 (hl _ _ rfl) rfl) ?_
                have := wr_u8 (64 + r.kind)
                refine vw_q 4 rfl (by kernel_rfl) (by repeat (first | exact lle_l0 | exact LLe.refl _ | exact lle_none | refine lle_up ?_ rfl)) (fun _ _ hh hl => lo_add_w rfl rfl) ?_
                refine vw_q 5 rfl (by kernel_rfl) (by repeat (first | exact lle_l0 | exact LLe.refl _ | exact lle_none | refine lle_up ?_ rfl)) (fun _ _ hh hl => lo_loadA (i := 2) (vs := [_, _]) rfl ag78 sz78 (hl _ _ rfl) rfl rfl) ?_
                refine vw_qc 6 rfl (by kernel_rfl) (by repeat (first | exact lle_l0 | exact LLe.refl _ | exact lle_none | refine lle_up ?_ rfl)) (out_String _ (outText (outRaw (outText (outText (outNum (outNum (outNum (⟨[], 0⟩ : Out) r.n 8) r.m 8) 1 1) r.mail.shop) r.mail.key) (headBytes r.mail.head)) r.mail.body)) (en_f cb49 rfl) ?_
                refine vw_q 7 rfl (by kernel_rfl) (by repeat (first | exact lle_l0 | exact LLe.refl _ | exact lle_none | refine lle_up ?_ rfl)) (fun _ _ hh hl => lo_build (v := .agg #[_, _, _]) rfl (bd35_0u8_1u8_2s _ _ _)) ?_
                refine vw_t 8 rfl (by kernel_rfl) (by kernel_rfl) (op1_storeA (i := 1) (vs := [_, _, _]) rfl rfl rfl sz35 rfl rfl rfl ?_)
                refine vw_q 9 rfl (by kernel_rfl) (by repeat (first | exact lle_l0 | exact LLe.refl _ | exact lle_none | refine lle_up ?_ rfl)) (fun _ _ hh hl => lo_assign (v := .int _ _) rfl) ?_
                refine vw_done (by kernel_rfl) ?_
                refine seqK_n ?_
                refine cw_ret ?_
                refine fnK_r (res2 rfl (rv_c (i := 1) (vs := [_, _, _]) rfl ag35 sz35 rfl rfl rfl) (rv_t (v := .int _ _) rfl)) (.refl _) ?_
                simp [replyFrame, replyOut, replyOut1, Frame.cells, Frame.zero, *]
              · refine cw_skip ?_
                refine seqK_n ?_
                refine cw_seq ?_
                refine cw_region ?_
                refine ow1 (op1_l rfl (lo_fieldAddr rfl fl27_6) ?_)
                refine ow1 (op1_l rfl (lo_fieldAddr rfl fl25_3) ?_)
                refine ow1 (op1_l rfl (lo_load1 (i := 0) (v := .slice _ _ _) rfl ag23 rfl rfl) ?_)
                refine ow1 (op1_pr (head_Bytes _ r_mail_head_a r.mail.head.length r_mail_head_c r.mail.head r_mail_head_h (by first | omega | (simp <;> omega))) (en_f cb47 rfl) rfl ?_)
                have := headBytes_len r.mail.head
                refine ow1 (op1_l rfl (lo_move (v := .tuple #[_, _]) rfl) ?_)
                refine ow1 (op1_l rfl (lo_extract (v := str _) rfl rfl) ?_)
                refine ow1 (op1_l rfl (lo_extract (v := .int _ _) rfl rfl) ?_)
                refine ow1 (op1_l rfl (lo_assign (v := str _) rfl) ?_)
                refine ow1 (op1_l rfl (lo_assign (v := .int _ _) rfl) ?_)
                refine ow_nil ?_
                refine seqK_n ?_
                refine cw_anyL mixd ?_
                refine vw_q 0 rfl (by kernel_rfl) (by repeat (first | exact lle_l0 | exact LLe.refl _ | exact lle_none | refine lle_up ?_ rfl)) (fun _ _ hh hl => lo_loadA (i := 2) (vs := [_, _]) rfl ag78 sz78 (hl _ _ rfl) rfl rfl) ?_
                refine vw_q 1 rfl (by kernel_rfl) (by repeat (first | exact lle_l0 | exact LLe.refl _ | exact lle_none | refine lle_up ?_ rfl)) (fun _ _ hh hl => lo_move (v := .int _ _) rfl) ?_
                have := outNum_len (outNum (outNum (⟨[], 0⟩ : Out) r.n 8) r.m 8) 0 1
                refine vw_qc 2 rfl (by kernel_rfl) (by repeat (first | exact lle_l0 | exact LLe.refl _ | exact lle_none | refine lle_up ?_ rfl)) (out_Num _ (outNum (outNum (⟨[], 0⟩ : Out) r.n 8) r.m 8) 0 (by omega) 1 (by omega) (by first | omega | (have := hrl (by assumption); omega) | (simp [outNum, outRaw, numB_len, numK] <;> omega) | (have := hrl (by assumption); simp [outNum, outRaw, numB_len, numK] <;> omega))) (en_f cb46 rfl) ?_
                refine vw_q 3 rfl (by kernel_rfl) (by repeat (first | exact lle_l0 | exact LLe.refl _ | exact lle_none | refine lle_up ?_ rfl)) (fun _ _ hh hl => lo_fieldAddr rfl fl27_6) ?_
                refine vw_q 4 rfl (by kernel_rfl) (by repeat (first | exact lle_l0 | exact LLe.refl _ | exact lle_none | refine lle_up ?_ rfl)) (fun _ _ hh hl => lo_fieldAddr rfl fl25_1) ?_
                refine vw_q 5 rfl (by kernel_rfl) (by repeat (first | exact lle_l0 | exact LLe.refl _ | exact lle_none | refine lle_up ?_ rfl)) (fun _ _ hh hl => lo_load1 (i := 0) (v := str _) rfl ag9 (hl _ _ rfl) rfl) ?_
                have := outText_len (outNum (outNum (outNum (⟨[], 0⟩ : Out) r.n 8) r.m 8) 0 1) r.mail.shop
                refine vw_qc 6 rfl (by kernel_rfl) (by repeat (first | exact lle_l0 | exact LLe.refl _ | exact lle_none | refine lle_up ?_ rfl)) (out_Text _ (outNum (outNum (outNum (⟨[], 0⟩ : Out) r.n 8) r.m 8) 0 1) r.mail.shop (by first | omega | (have := hrl (by assumption); omega) | (simp [outNum, outRaw, numB_len, numK] <;> omega) | (have := hrl (by assumption); simp [outNum, outRaw, numB_len, numK] <;> omega))) (en_f cb45 rfl) ?_
                refine vw_q 7 rfl (by kernel_rfl) (by repeat (first | exact lle_l0 | exact LLe.refl _ | exact lle_none | refine lle_up ?_ rfl)) (fun _ _ hh hl => lo_fieldAddr rfl fl27_6) ?_
                refine vw_q 8 rfl (by kernel_rfl) (by repeat (first | exact lle_l0 | exact LLe.refl _ | exact lle_none | refine lle_up ?_ rfl)) (fun _ _ hh hl => lo_fieldAddr rfl fl25_2) ?_
                refine vw_q 9 rfl (by kernel_rfl) (by repeat (first | exact lle_l0 | exact LLe.refl _ | exact lle_none | refine lle_up ?_ rfl)) (fun _ _ hh hl => lo_load1 (i := 0) (v := str _) rfl ag9 (hl _ _ rfl) rfl) ?_
                have := outText_len (outText (outNum (outNum (outNum (⟨[], 0⟩ : Out) r.n 8) r.m 8) 0 1) r.mail.shop) r.mail.key
                refine vw_qc 10 rfl (by kernel_rfl) (by repeat (first | exact lle_l0 | exact LLe.refl _ | exact lle_none | refine lle_up ?_ rfl)) (out_Text _ (outText (outNum (outNum (outNum (⟨[], 0⟩ : Out) r.n 8) r.m 8) 0 1) r.mail.shop) r.mail.key (by first | omega | (have := hrl (by assumption); omega) | (simp [outNum, outRaw, numB_len, numK] <;> omega) | (have := hrl (by assumption); simp [outNum, outRaw, numB_len, numK] <;> omega))) (en_f cb45 rfl) ?_
                refine vw_q 11 rfl (by kernel_rfl) (by repeat (first | exact lle_l0 | exact LLe.refl _ | exact lle_none | refine lle_up ?_ rfl)) (fun _ _ hh hl => lo_move (v := str _) rfl) ?_
                have := outRaw_len (outText (outText (outNum (outNum (outNum (⟨[], 0⟩ : Out) r.n 8) r.m 8) 0 1) r.mail.shop) r.mail.key) (headBytes r.mail.head)
                refine vw_qc 12 rfl (by kernel_rfl) (by repeat (first | exact lle_l0 | exact LLe.refl _ | exact lle_none | refine lle_up ?_ rfl)) (out_Raw _ (outText (outText (outNum (outNum (outNum (⟨[], 0⟩ : Out) r.n 8) r.m 8) 0 1) r.mail.shop) r.mail.key) (headBytes r.mail.head) (by first | omega | (have := hrl (by assumption); omega) | (simp [outNum, outRaw, numB_len, numK] <;> omega) | (have := hrl (by assumption); simp [outNum, outRaw, numB_len, numK] <;> omega))) (en_f cb48 rfl) ?_
                refine vw_q 13 rfl (by kernel_rfl) (by repeat (first | exact lle_l0 | exact LLe.refl _ | exact lle_none | refine lle_up ?_ rfl)) (fun _ _ hh hl => lo_fieldAddr rfl fl27_6) ?_
                refine vw_q 14 rfl (by kernel_rfl) (by repeat (first | exact lle_l0 | exact LLe.refl _ | exact lle_none | refine lle_up ?_ rfl)) (fun _ _ hh hl => lo_fieldAddr rfl fl25_4) ?_
                refine vw_q 15 rfl (by kernel_rfl) (by repeat (first | exact lle_l0 | exact LLe.refl _ | exact lle_none | refine lle_up ?_ rfl)) (fun _ _ hh hl => lo_load1 (i := 0) (v := str _) rfl ag9 (hl _ _ rfl) rfl) ?_
                have := outText_len (outRaw (outText (outText (outNum (outNum (outNum (⟨[], 0⟩ : Out) r.n 8) r.m 8) 0 1) r.mail.shop) r.mail.key) (headBytes r.mail.head)) r.mail.body
                refine vw_qc 16 rfl (by kernel_rfl) (by repeat (first | exact lle_l0 | exact LLe.refl _ | exact lle_none | refine lle_up ?_ rfl)) (out_Text _ (outRaw (outText (outText (outNum (outNum (outNum (⟨[], 0⟩ : Out) r.n 8) r.m 8) 0 1) r.mail.shop) r.mail.key) (headBytes r.mail.head)) r.mail.body (by first | omega | (have := hrl (by assumption); omega) | (simp [outNum, outRaw, numB_len, numK] <;> omega) | (have := hrl (by assumption); simp [outNum, outRaw, numB_len, numK] <;> omega))) (en_f cb45 rfl) ?_
                refine vw_t 17 rfl (by kernel_rfl) (by kernel_rfl) (op1_storeA (i := 2) (vs := [_, _]) rfl rfl rfl sz78 rfl rfl rfl ?_)
                refine vw_done (by kernel_rfl) ?_
                refine seqK_n ?_
                refine cw_seq ?_
                refine cw_anyX 1 mixd ?_
                refine vw_q 0 rfl (by kernel_rfl) (by repeat (first | exact lle_l0 | exact LLe.refl _ | exact lle_none | refine lle_up ?_ rfl)) (fun _ _ hh hl => lo_fieldAddr rfl fl27_0) ?_
                refine vw_q 1 rfl (by kernel_rfl) (by repeat (first | exact lle_l0 | exact LLe.refl _ | exact lle_none | refine lle_up ?_ rfl)) (fun _ _ hh hl => lo_load1 (i := 0) (v := .int _ _) rfl ag5 (hl _ _ rfl) rfl) ?_
                refine vw_q 2 rfl (by kernel_rfl) (by repeat (first | exact lle_l0 | exact LLe.refl _ | exact lle_none | refine lle_up ?_ rfl)) (fun _ _ hh hl => lo_fieldAddr rfl fl27_1) ?_
                refine vw_q 3 rfl (by kernel_rfl) (by repeat (first | exact lle_l0 | exact LLe.refl _ | exact lle_none | refine lle_up ?_ rfl)) (fun _ _ hh hl => lo_load1 (i := 0) (v := .int _ _) rfl ag5 (hl _ _ rfl) rfl) ?_
                have := wr_u8 (64 + r.kind)
                refine vw_q 4 rfl (by kernel_rfl) (by repeat (first | exact lle_l0 | exact LLe.refl _ | exact lle_none | refine lle_up ?_ rfl)) (fun _ _ hh hl => lo_add_w rfl rfl) ?_
                refine vw_q 5 rfl (by kernel_rfl) (by repeat (first | exact lle_l0 | exact LLe.refl _ | exact lle_none | refine lle_up ?_ rfl)) (fun _ _ hh hl => lo_loadA (i := 2) (vs := [_, _]) rfl ag78 sz78 (hl _ _ rfl) rfl rfl) ?_
                refine vw_qc 6 rfl (by kernel_rfl) (by repeat (first | exact lle_l0 | exact LLe.refl _ | exact lle_none | refine lle_up ?_ rfl)) (out_String _ (outText (outRaw (outText (outText (outNum (outNum (outNum (⟨[], 0⟩ : Out) r.n 8) r.m 8) 0 1) r.mail.shop) r.mail.key) (headBytes r.mail.head)) r.mail.body)) (en_f cb49 rfl) ?_
                refine vw_q 7 rfl (by kernel_rfl) (by repeat (first | exact lle_l0 | exact LLe.refl _ | exact lle_none | refine lle_up ?_ rfl)) (fun _ _ hh hl => lo_build (v := .agg #[_, _, _]) rfl (bd35_0u8_1u8_2s _ _ _)) ?_
                refine vw_t 8 rfl (by kernel_rfl) (by kernel_rfl) (op1_storeA (i := 1) (vs := [_, _, _]) rfl rfl rfl sz35 rfl rfl rfl ?_)
                refine vw_q 9 rfl (by kernel_rfl) (by repeat (first | exact lle_l0 | exact LLe.refl _ | exact lle_none | refine lle_up ?_ rfl)) (fun _ _ hh hl => lo_assign (v := .int _ _) rfl) ?_
                refine vw_done (by kernel_rfl) ?_
                refine seqK_n ?_
                refine cw_ret ?_
                refine fnK_r (res2 rfl (rv_c (i := 1) (vs := [_, _, _]) rfl ag35 sz35 rfl rfl rfl) (rv_t (v := .int _ _) rfl)) (.refl _) ?_
                simp [replyFrame, replyOut, replyOut1, Frame.cells, Frame.zero, *]
            · have p24 := df h21
              refine cw_region ?_
              refine ow1 (op1_l rfl (lo_eql rfl rfl) ?_)
              refine ow1 (op1_l rfl (lo_assign (v := .bool _) rfl) ?_)
              refine ow_nil ?_
              refine seqK_n ?_
              refine cw_cond rfl (fun h25 => ?_) (fun h25 => ?_)
              · have p26 := dt h25
                refine cw_anyL mixd ?_
                refine vw_q 0 rfl (by kernel_rfl) (by repeat (first | exact lle_l0 | exact LLe.refl _ | exact lle_none | refine lle_up ?_ rfl)) (fun _ _ hh hl => lo_loadA (i := 2) (vs := [_, _]) rfl ag78 sz78 (hl _ _ rfl) rfl rfl) ?_
                refine vw_q 1 rfl (by kernel_rfl) (by repeat (first | exact lle_l0 | exact LLe.refl _ | exact lle_none | refine lle_up ?_ rfl)) (fun _ _ hh hl => lo_fieldAddr rfl fl27_2) ?_
                refine vw_q 2 rfl (by kernel_rfl) (by repeat (first | exact lle_l0 | exact LLe.refl _ | exact lle_none | refine lle_up ?_ rfl)) (fun _ _ hh hl => lo_load1 (i := 0) (v := .int _ _) rfl ag22 (hl _ _ rfl) rfl) ?_
                have nl0 : (⟨[], 0⟩ : Out).s.length = 0 := rfl
                have := outNum_len (⟨[], 0⟩ : Out) r.n 8
                refine vw_qc 3 rfl (by kernel_rfl) (by repeat (first | exact lle_l0 | exact LLe.refl _ | exact lle_none | refine lle_up ?_ rfl)) (out_Num _ (⟨[], 0⟩ : Out) r.n (by omega) 8 (by omega) (by first | omega | (have := hrl (by assumption); omega) | (simp [outNum, outRaw, numB_len, numK] <;> omega) | (have := hrl (by assumption); simp [outNum, outRaw, numB_len, numK] <;> omega))) (en_f cb46 rfl) ?_
                refine vw_q 4 rfl (by kernel_rfl) (by repeat (first | exact lle_l0 | exact LLe.refl _ | exact lle_none | refine lle_up ?_ rfl)) (fun _ _ hh hl => lo_fieldAddr rfl fl27_3) ?_
                refine vw_q 5 rfl (by kernel_rfl) (by repeat (first | exact lle_l0 | exact LLe.refl _ | exact lle_none | refine lle_up ?_ rfl)) (fun _ _ hh hl => lo_load1 (i := 0) (v := .int _ _) rfl ag22 (hl _ _ rfl) rfl) ?_
                have := outNum_len (outNum (⟨[], 0⟩ : Out) r.n 8) r.m 8
                refine vw_qc 6 rfl (by kernel_rfl) (by repeat (first | exact lle_l0 | exact LLe.refl _ | exact lle_none | refine lle_up ?_ rfl)) (out_Num _ (outNum (⟨[], 0⟩ : Out) r.n 8) r.m (by omega) 8 (by omega) (by first | omega | (have := hrl (by assumption); omega) | (simp [outNum, outRaw, numB_len, numK] <;> omega) | (have := hrl (by assumption); simp [outNum, outRaw, numB_len, numK] <;> omega))) (en_f cb46 rfl) ?_
                refine vw_t 7 rfl (by kernel_rfl) (by kernel_rfl) (op1_storeA (i := 2) (vs := [_, _]) rfl rfl rfl sz78 rfl rfl rfl ?_)
                refine vw_done (by kernel_rfl) ?_
                refine blkK_n ?_
                refine seqK_n ?_
                refine cw_seq ?_
                refine cw_seq ?_
                refine cw_region ?_
                refine ow1 (op1_l rfl (lo_fieldAddr rfl fl27_1) ?_)
                refine ow1 (op1_l rfl (lo_load1 (i := 0) (v := .int _ _) rfl ag5 rfl rfl) ?_)
                refine ow1 (op1_l rfl (lo_eql rfl rfl) ?_)
                refine ow_nil ?_
                refine seqK_n ?_
                refine cw_cond_f rfl h21 ?_
                refine cw_skip ?_
                refine seqK_n ?_
                refine cw_seq ?_
                refine cw_anyX 1 mixd ?_
                refine vw_q 0 rfl (by kernel_rfl) (by repeat (first | exact lle_l0 | exact LLe.refl _ | exact lle_none | refine lle_up ?_ rfl)) (fun _ _ hh hl => lo_fieldAddr rfl fl27_0) ?_
                refine vw_q 1 rfl (by kernel_rfl) (by repeat (first | exact lle_l0 | exact LLe.refl _ | exact lle_none | refine lle_up ?_ rfl)) (fun _ _ hh hl => lo_load1 (i := 0) (v := .int _ _) rfl ag5 (hl _ _ rfl) rfl) ?_
                refine vw_q 2 rfl (by kernel_rfl) (by repeat (first | exact lle_l0 | exact LLe.refl _ | exact lle_none | refine lle_up ?_ rfl)) (fun _ _ hh hl => lo_fieldAddr rfl fl27_1) ?_
                refine vw_q 3 rfl (by kernel_rfl) (by repeat (first | exact lle_l0 | exact LLe.refl _ | exact lle_none | refine lle_up ?_ rfl)) (fun _ _ hh hl => lo_load1 (i := 0) (v := .int _ _) rfl ag5 (hl _ _ rfl) rfl) ?_
                have := wr_u8 (64 + r.kind)
                refine vw_q 4 rfl (by kernel_rfl) (by repeat (first | exact lle_l0 | exact LLe.refl _ | exact lle_none | refine lle_up ?_ rfl)) (fun _ _ hh hl => lo_add_w rfl rfl) ?_
                refine vw_q 5 rfl (by kernel_rfl) (by repeat (first | exact lle_l0 | exact LLe.refl _ | exact lle_none | refine lle_up ?_ rfl)) (fun _ _ hh hl => lo_loadA (i := 2) (vs := [_, _]) rfl ag78 sz78 (hl _ _ rfl) rfl rfl) ?_
                refine vw_qc 6 rfl (by kernel_rfl) (by repeat (first | exact lle_l0 | exact LLe.refl _ | exact lle_none | refine lle_up ?_ rfl)) (out_String _ (outNum (outNum (⟨[], 0⟩ : Out) r.n 8) r.m 8)) (en_f cb49 rfl) ?_
                refine vw_q 7 rfl (by kernel_rfl) (by repeat (first | exact lle_l0 | exact LLe.refl _ | exact lle_none | refine lle_up ?_ rfl)) (fun _ _ hh hl => lo_build (v := .agg #[_, _, _]) rfl (bd35_0u8_1u8_2s _ _ _)) ?_
                refine vw_t 8 rfl (by kernel_rfl) (by kernel_rfl) (op1_storeA (i := 1) (vs := [_, _, _]) rfl rfl rfl sz35 rfl rfl rfl ?_)
                refine vw_q 9 rfl (by kernel_rfl) (by repeat (first | exact lle_l0 | exact LLe.refl _ | exact lle_none | refine lle_up ?_ rfl)) (fun _ _ hh hl => lo_assign (v := .int _ _) rfl) ?_
                refine vw_done (by kernel_rfl) ?_
                refine seqK_n ?_
                refine cw_ret ?_
                refine fnK_r (res2 rfl (rv_c (i := 1) (vs := [_, _, _]) rfl ag35 sz35 rfl rfl rfl) (rv_t (v := .int _ _) rfl)) (.refl _) ?_
                simp [replyFrame, replyOut, replyOut1, Frame.cells, Frame.zero, *]
              · have p27 := df h25
                refine cw_skip ?_
                refine blkK_n ?_
                refine seqK_n ?_
                refine cw_seq ?_
                refine cw_seq ?_
                refine cw_region ?_
                refine ow1 (op1_l rfl (lo_fieldAddr rfl fl27_1) ?_)
                refine ow1 (op1_l rfl (lo_load1 (i := 0) (v := .int _ _) rfl ag5 rfl rfl) ?_)
                refine ow1 (op1_l rfl (lo_eql rfl rfl) ?_)
                refine ow_nil ?_
                refine seqK_n ?_
                refine cw_cond_f rfl h21 ?_
                refine cw_skip ?_
                refine seqK_n ?_
                refine cw_seq ?_
                refine cw_anyX 1 mixd ?_
                refine vw_q 0 rfl (by kernel_rfl) (by repeat (first | exact lle_l0 | exact LLe.refl _ | exact lle_none | refine lle_up ?_ rfl)) (fun _ _ hh hl => lo_fieldAddr rfl fl27_0) ?_
                refine vw_q 1 rfl (by kernel_rfl) (by repeat (first | exact lle_l0 | exact LLe.refl _ | exact lle_none | refine lle_up ?_ rfl)) (fun _ _ hh hl => lo_load1 (i := 0) (v := .int _ _) rfl ag5 (hl _ _ rfl) rfl) ?_
                refine vw_q 2 rfl (by kernel_rfl) (by repeat (first | exact lle_l0 | exact LLe.refl _ | exact lle_none | refine lle_up ?_ rfl)) (fun _ _ hh hl => lo_fieldAddr rfl fl27_1) ?_
                refine vw_q 3 rfl (by kernel_rfl) (by repeat (first | exact lle_l0 | exact LLe.refl _ | exact lle_none | refine lle_up ?_ rfl)) (fun _ _ hh hl => lo_load1 (i := 0) (v := .int _ _) rfl ag5 (hl _ _ rfl) rfl) ?_
                have := wr_u8 (64 + r.kind)
                refine vw_q 4 rfl (by kernel_rfl) (by repeat (first | exact lle_l0 | exact LLe.refl _ | exact lle_none | refine lle_up ?_ rfl)) (fun _ _ hh hl => lo_add_w rfl rfl) ?_
                refine vw_q 5 rfl (by kernel_rfl) (by repeat (first | exact lle_l0 | exact LLe.refl _ | exact lle_none | refine lle_up ?_ rfl)) (fun _ _ hh hl => lo_loadA (i := 2) (vs := [_, _]) rfl ag78 sz78 (hl _ _ rfl) rfl rfl) ?_
                refine vw_qc 6 rfl (by kernel_rfl) (by repeat (first | exact lle_l0 | exact LLe.refl _ | exact lle_none | refine lle_up ?_ rfl)) (out_String _ (⟨[], 0⟩ : Out)) (en_f cb49 rfl) ?_
                refine vw_q 7 rfl (by kernel_rfl) (by repeat (first | exact lle_l0 | exact LLe.refl _ | exact lle_none | refine lle_up ?_ rfl)) (fun _ _ hh hl => lo_build (v := .agg #[_, _, _]) rfl (bd35_0u8_1u8_2s _ _ _)) ?_
                refine vw_t 8 rfl (by kernel_rfl) (by kernel_rfl) (op1_storeA (i := 1) (vs := [_, _, _]) rfl rfl rfl sz35 rfl rfl rfl ?_)
                refine vw_q 9 rfl (by kernel_rfl) (by repeat (first | exact lle_l0 | exact LLe.refl _ | exact lle_none | refine lle_up ?_ rfl)) (fun _ _ hh hl => lo_assign (v := .int _ _) rfl) ?_
                refine vw_done (by kernel_rfl) ?_
                refine seqK_n ?_
                refine cw_ret ?_
                refine fnK_r (res2 rfl (rv_c (i := 1) (vs := [_, _, _]) rfl ag35 sz35 rfl rfl rfl) (rv_t (v := .int _ _) rfl)) (.refl _) ?_
                simp [replyFrame, replyOut, replyOut1, Frame.cells, Frame.zero, *]

end Go.SW


set_option linter.unusedVariables false
set_option maxRecDepth 100000
set_option maxHeartbeats 4000000
namespace Go.SW
open Go.Proofs
theorem bd35_0u8_1u8 (a1 : Int) (a2 : Int) (w : World) : (Instr.build 35 #[(0, .int .u8 a1), (1, .int .u8 a2)]).run Tryd.prog w = .ok (.agg #[.int .u8 a1, .int .u8 a2, str []]) w := by kernel_rfl
theorem cb35 : Callable Tryd.prog 35 := callable_of Tryd.func35 (by kernel_rfl) (by kernel_rfl)
theorem cb68 : Callable Tryd.prog 68 := callable_of Tryd.func68 (by kernel_rfl) (by kernel_rfl)

theorem frame_Parse (H : Hp) (s : Bs) (hCrc : GTab H 1 laidT) (hs : s.length ≤ 4611686018427387904) : Pr Tryd.prog 108 #[str s] H (.tuple #[.agg (Frame.cells ((parseF s).1)).toArray, .int .i64 ((parseF s).2.1), .int .i64 ((parseF s).2.2)]) := by
  refine pr_cw Tryd.func108 rfl Tryd.ntmps108 rfl (fun N => ?_)
  refine cw_seq ?_
  refine cw_region ?_
  refine ow1 (op1_alloc 0 rfl zr35 (fun b1 => ?_))
  refine ow1 (op1_l rfl (lo_assign (v := .int _ _) rfl) ?_)
  refine ow1 (op1_l rfl (lo_assign (v := .int _ _) rfl) ?_)
  refine ow_nil ?_
  refine seqK_n ?_
  refine cw_seq ?_
  refine cw_region ?_
  refine ow1 (op1_l rfl (lo_move (v := str _) rfl) ?_)
  refine ow1 (op1_pn 1 (octet_New _ s) (en_f cb35 rfl) rfl ?_)
  rintro _ _ b4 _ ⟨rfl, rfl, rfl⟩ _
  refine ow1 (op1_l rfl (lo_assign (v := .pointer (some ⟨_, _, none⟩)) rfl) ?_)
  refine ow_nil ?_
  refine seqK_n ?_
  refine cw_seq ?_
  refine cw_region ?_
  refine ow1 (op1_l rfl (lo_move (v := .pointer (some ⟨_, _, none⟩)) rfl) ?_)
  refine ow1 (op1_pm 1 rfl (in_Num _ b4 (⟨s, 0⟩) 1 (by omega)) (en_f cb69 rfl) rfl ?_)
  rintro _ _ _ ⟨rfl, rfl, rfl⟩ _
  have := inNum_r (⟨s, 0⟩) 1
  refine ow1 (op1_l rfl (lo_conv_in rfl (by rw [Tryd.underlying22]; rfl) Tryd.underlying5 (rg_u8 (by omega))) ?_)
  refine ow1 (op1_l rfl (lo_move (v := .pointer (some ⟨_, _, none⟩)) rfl) ?_)
  refine ow1 (op1_pm 1 rfl (in_Num _ b4 ((inNum (⟨s, 0⟩) 1).2) 1 (by omega)) (en_f cb69 rfl) rfl ?_)
  rintro _ _ _ ⟨rfl, rfl, rfl⟩ _
  have := inNum_r ((inNum (⟨s, 0⟩) 1).2) 1
  refine ow1 (op1_l rfl (lo_conv_in rfl (by rw [Tryd.underlying22]; rfl) Tryd.underlying5 (rg_u8 (by omega))) ?_)
  refine ow1 (op1_l rfl (lo_build (v := .agg #[_, _, _]) rfl (bd35_0u8_1u8 _ _)) ?_)
  refine ow1 (op1_alloc 2 rfl zr35 (fun b9 => ?_))
  refine ow1 (op1_storeA (i := 2) (vs := [_, _, _]) rfl rfl rfl sz35 rfl rfl rfl ?_)
  refine ow_nil ?_
  refine seqK_n ?_
  refine cw_seq ?_
  refine cw_region ?_
  refine ow1 (op1_l rfl (lo_move (v := .pointer (some ⟨_, _, none⟩)) rfl) ?_)
  refine ow1 (op1_pm 1 rfl (in_Text _ b4 ((inNum ((inNum (⟨s, 0⟩) 1).2) 1).2) 2048 (by omega)) (en_f cb68 rfl) rfl ?_)
  rintro _ _ _ ⟨rfl, rfl, rfl⟩ _
  have := inText_len ((inNum ((inNum (⟨s, 0⟩) 1).2) 1).2) 2048
  refine ow1 (op1_l rfl (lo_fieldAddr rfl fl35_2) ?_)
  refine ow1 (op1_store1 (i := 2) (v := str _) rfl rfl rfl sz9 rfl rfl ?_)
  refine ow_nil ?_
  refine seqK_n ?_
  refine cw_seq ?_
  refine cw_region ?_
  refine ow1 (op1_l rfl (lo_move (v := .pointer (some ⟨_, _, none⟩)) rfl) ?_)
  refine ow1 (op1_pm 1 rfl (in_Num _ b4 ((inText ((inNum ((inNum (⟨s, 0⟩) 1).2) 1).2) 2048).2) 4 (by omega)) (en_f cb69 rfl) rfl ?_)
  rintro _ _ _ ⟨rfl, rfl, rfl⟩ _
  have := inNum_r ((inText ((inNum ((inNum (⟨s, 0⟩) 1).2) 1).2) 2048).2) 4
  refine ow1 (op1_l rfl (lo_move (v := .pointer (some ⟨_, _, none⟩)) rfl) ?_)
  refine ow1 (op1_pm 1 rfl (in_Num _ b4 ((inNum ((inText ((inNum ((inNum (⟨s, 0⟩) 1).2) 1).2) 2048).2) 4).2) 1 (by omega)) (en_f cb69 rfl) rfl ?_)
  rintro _ _ _ ⟨rfl, rfl, rfl⟩ _
  have := inNum_r ((inNum ((inText ((inNum ((inNum (⟨s, 0⟩) 1).2) 1).2) 2048).2) 4).2) 1
  refine ow1 (op1_l rfl (lo_assign (v := .int _ _) rfl) ?_)
  refine ow1 (op1_l rfl (lo_assign (v := .int _ _) rfl) ?_)
  refine ow_nil ?_
  refine seqK_n ?_
  refine cw_seq ?_
  refine cw_seq ?_
  refine cw_region ?_
  refine ow1 (op1_l rfl (lo_move (v := .pointer (some ⟨_, _, none⟩)) rfl) ?_)
  refine ow1 (op1_pm 1 rfl (in_Err _ b4 ((inNum ((inNum ((inText ((inNum ((inNum (⟨s, 0⟩) 1).2) 1).2) 2048).2) 4).2) 1).2)) (en_f cb72 rfl) rfl ?_)
  rintro _ _ _ ⟨rfl, rfl, rfl⟩ _
  refine ow1 (op1_l rfl (lo_assign (v := .int _ _) rfl) ?_)
  refine ow_nil ?_
  refine seqK_n ?_
  refine cw_seq ?_
  refine cw_region ?_
  refine ow1 (op1_l rfl (lo_move (v := .int _ _) rfl) ?_)
  refine ow1 (op1_l rfl (lo_neq rfl rfl) ?_)
  refine ow_nil ?_
  refine seqK_n ?_
  refine cw_cond rfl (fun h18 => ?_) (fun h18 => ?_)
  · have h19 := not_t h18
    have p20 := df h19
    refine cw_seq ?_
    refine cw_region ?_
    refine ow1 (op1_l rfl (lo_build (v := .agg #[_, _, _]) rfl (bd35)) ?_)
    refine ow1 (op1_l rfl (lo_move (v := .int _ _) rfl) ?_)
    refine ow1 (op1_storeA (i := 0) (vs := [_, _, _]) rfl rfl rfl sz35 rfl rfl rfl ?_)
    refine ow1 (op1_l rfl (lo_assign (v := .int _ _) rfl) ?_)
    refine ow1 (op1_l rfl (lo_assign (v := .int _ _) rfl) ?_)
    refine ow_nil ?_
    refine seqK_n ?_
    refine cw_ret ?_
    refine seqK_r ?_
    refine fnK_r (res3 rfl (rv_c (i := 0) (vs := [_, _, _]) rfl ag35 sz35 rfl rfl rfl) (rv_t (v := .int _ _) rfl) (rv_t (v := .int _ _) rfl)) (.refl _) ?_
    first | (simp [parseF, Frame.cells, Frame.zero, *]; done) | (simp [parseF, Frame.cells, Frame.zero, *]; omega)
  · have h21 := not_f h18
    have p22 := dt h21
    refine cw_skip ?_
    refine seqK_n ?_
    refine cw_seq ?_
    refine cw_region ?_
    refine ow1 (op1_l rfl (lo_fieldAddr rfl fl35_2) ?_)
    refine ow1 (op1_l rfl (lo_load1 (i := 2) (v := str _) rfl ag9 rfl rfl) ?_)
    refine ow1 (op1_l rfl (lo_len_str rfl Tryd.underlying9) ?_)
    refine ow1 (op1_l rfl (lo_add rfl rfl (rg_i64 (by omega))) ?_)
    refine ow1 (op1_l rfl (lo_assign (v := .int _ _) rfl) ?_)
    refine ow_nil ?_
    refine seqK_n ?_
    refine cw_seq ?_
    refine cw_block ?_
    refine cw_seq ?_
    refine cw_region ?_
    refine ow1 (op1_l rfl (lo_move (v := .int _ _) rfl) ?_)
    refine ow1 (op1_l rfl (lo_neq rfl rfl) ?_)
    refine ow1 (op1_l rfl (lo_assign (v := .bool _) rfl) ?_)
    refine ow_nil ?_
    refine seqK_n ?_
    refine cw_cond rfl (fun h23 => ?_) (fun h23 => ?_)
    · have h24 := not_t h23
      have p25 := df h24
      refine cw_seq ?_
      refine cw_region ?_
      refine ow1 (op1_l rfl (lo_build (v := .agg #[_, _, _]) rfl (bd35)) ?_)
      refine ow1 (op1_storeA (i := 0) (vs := [_, _, _]) rfl rfl rfl sz35 rfl rfl rfl ?_)
      refine ow1 (op1_l rfl (lo_assign (v := .int _ _) rfl) ?_)
      refine ow1 (op1_l rfl (lo_assign (v := .int _ _) rfl) ?_)
      refine ow_nil ?_
      refine seqK_n ?_
      refine cw_ret ?_
      refine blkK_r ?_
      refine seqK_r ?_
      refine fnK_r (res3 rfl (rv_c (i := 0) (vs := [_, _, _]) rfl ag35 sz35 rfl rfl rfl) (rv_t (v := .int _ _) rfl) (rv_t (v := .int _ _) rfl)) (.refl _) ?_
      first | (simp [parseF, Frame.cells, Frame.zero, *]; done) | (simp [parseF, Frame.cells, Frame.zero, *]; omega)
    · have h26 := not_f h23
      have p27 := dt h26
      refine cw_seq ?_
      refine cw_region ?_
      refine ow1 (op1_l rfl (lo_move (v := str _) rfl) ?_)
      refine ow1 (op1_l rfl (lo_move (v := .int _ _) rfl) ?_)
      refine ow1 (op1_l rfl (lo_slice_str_hi (4 + (((inText ((inNum ((inNum (⟨s, 0⟩) 1).2) 1).2) 2048).1).length)) rfl rfl Tryd.underlying9 (by omega) (by first | omega | (have := parse_len (s := s) (by assumption); omega))) ?_)
      refine ow1 (op1_bslice (cs := [_]) 3 rfl Tryd.underlying108 sz9 zx9 rfl ⟨rfl, rfl, trivial⟩ rfl rfl (by decide) (fun b28 => ?_))
      refine ow_giveO 3 rfl (fun _ hl29 hg30 => ?_)
      have hs31 := slh_bx (H := _) (enc := (fun s => [str s])) (wf := (fun s => s.length ≤ 9223372036854775807)) [(s.take (4 + (((inText ((inNum ((inNum (⟨s, 0⟩) 1).2) 1).2) 2048).1).length)))] (fun _ => rfl) (hg30 _ _ rfl) rfl rfl (Nat.le_refl _) (by first | (intro x hx; simp at hx; subst hx; first | omega | (simp; done) | (simp; omega)) | (simp; done) | (simp; omega))
      refine ow1 (op1_pr (crc_Sum _ (some ⟨b28, 0, none⟩) 1 1 [(s.take (4 + (((inText ((inNum ((inNum (⟨s, 0⟩) 1).2) 1).2) 2048).1).length)))] hs31 (hCrc.mono ((HLe.refl _).trans hl29)) (by first | omega | (simp; done) | (simp; omega))) (en_f cb107 rfl) rfl ?_)
      have := crcSum_r [(s.take (4 + (((inText ((inNum ((inNum (⟨s, 0⟩) 1).2) 1).2) 2048).1).length)))]
      refine ow1 (op1_l rfl (lo_conv_in rfl (by rw [Tryd.underlying135]; rfl) Tryd.underlying22 (rg_u64 (by omega))) ?_)
      refine ow1 (op1_l rfl (lo_move (v := .int _ _) rfl) ?_)
      refine ow1 (op1_l rfl (lo_neq rfl rfl) ?_)
      refine ow1 (op1_l rfl (lo_assign (v := .bool _) rfl) ?_)
      refine ow_nil ?_
      refine seqK_n ?_
      refine cw_cond rfl (fun h32 => ?_) (fun h32 => ?_)
      · have h33 := not_t h32
        have p34 := df h33
        refine cw_seq ?_
        refine cw_region ?_
        refine ow1 (op1_l rfl (lo_build (v := .agg #[_, _, _]) rfl (bd35)) ?_)
        refine ow1 (op1_storeA (i := 0) (vs := [_, _, _]) rfl rfl rfl sz35 rfl rfl rfl ?_)
        refine ow1 (op1_l rfl (lo_assign (v := .int _ _) rfl) ?_)
        refine ow1 (op1_l rfl (lo_assign (v := .int _ _) rfl) ?_)
        refine ow_nil ?_
        refine seqK_n ?_
        refine cw_ret ?_
        refine blkK_r ?_
        refine seqK_r ?_
        refine fnK_r (res3 rfl (rv_c (i := 0) (vs := [_, _, _]) rfl ag35 sz35 rfl rfl rfl) (rv_t (v := .int _ _) rfl) (rv_t (v := .int _ _) rfl)) ((HLe.refl _).trans hl29) ?_
        first | (simp [parseF, Frame.cells, Frame.zero, *]; done) | (simp [parseF, Frame.cells, Frame.zero, *]; omega)
      · have h35 := not_f h32
        have p36 := dt h35
        refine cw_skip ?_
        refine blkK_n ?_
        refine seqK_n ?_
        refine cw_seq ?_
        refine cw_region ?_
        refine ow1 (op1_l rfl (lo_loadA (i := 2) (vs := [_, _, _]) rfl ag35 sz35 rfl rfl rfl) ?_)
        refine ow1 (op1_l rfl (lo_move (v := .int _ _) rfl) ?_)
        refine ow1 (op1_l rfl (lo_add rfl rfl (rg_i64 (by omega))) ?_)
        refine ow1 (op1_storeA (i := 0) (vs := [_, _, _]) rfl rfl rfl sz35 rfl rfl rfl ?_)
        refine ow1 (op1_l rfl (lo_assign (v := .int _ _) rfl) ?_)
        refine ow1 (op1_l rfl (lo_assign (v := .int _ _) rfl) ?_)
        refine ow_nil ?_
        refine seqK_n ?_
        refine cw_ret ?_
        refine fnK_r (res3 rfl (rv_c (i := 0) (vs := [_, _, _]) rfl ag35 sz35 rfl rfl rfl) (rv_t (v := .int _ _) rfl) (rv_t (v := .int _ _) rfl)) ((HLe.refl _).trans hl29) ?_
        first | (simp [parseF, Frame.cells, Frame.zero, *]; done) | (simp [parseF, Frame.cells, Frame.zero, *]; omega)

end Go.SW


set_option linter.unusedVariables false
set_option maxRecDepth 100000
set_option maxHeartbeats 4000000
namespace Go.SW
open Go.Proofs
theorem ag115 : Ag Tryd.prog 115 true := fun w => by kernel_rfl
theorem bd115_1i64 (a1 : Int) (w : World) : (Instr.build 115 #[(1, .int .i64 a1)]).run Tryd.prog w = .ok (.agg #[str [], .int .i64 a1]) w := by kernel_rfl
theorem by35 : By Tryd.prog 35 24 := by_of (by kernel_rfl)
theorem cb108 : Callable Tryd.prog 108 := callable_of Tryd.func108 (by kernel_rfl) (by kernel_rfl)
theorem fl115_0 : Fld Tryd.prog 115 0 0 := fun b o w => by kernel_rfl
theorem fl115_1 : Fld Tryd.prog 115 1 1 := fun b o w => by kernel_rfl
theorem sz115 : Sz Tryd.prog 115 2 := fun w => by kernel_rfl
theorem zr115 : Zr Tryd.prog 115 [str [], .int .i64 0] := fun w => ⟨.agg #[str [], .int .i64 0], by kernel_rfl, rfl⟩
theorem zx35 : ∃ z, ∀ w, (zeroValue 35).run Tryd.prog w = .ok z w := ⟨.agg #[.int .u8 0, .int .u8 0, str []], fun w => by kernel_rfl⟩

theorem feed_Take (H : Hp) (f : Feed) (chunk : Bs) (hCrc : GTab H 1 laidT) (hfl : f.rest.length + chunk.length ≤ 4000000000) : Ph Tryd.prog 89 #[.agg (Feed.cells f).toArray, str chunk] H (fun v H' => ∃ (a1 : Option Addr) (c1 : Nat), v = .tuple #[.agg (Feed.cells ((feedTake f chunk).1)).toArray, .slice a1 ((feedTake f chunk).2).length c1] ∧ SlH frameE 3 H' (.slice a1 ((feedTake f chunk).2).length c1) ((feedTake f chunk).2)) := by
  refine ph_cw Tryd.func89 rfl Tryd.ntmps89 rfl (fun N => ?_)
  refine cw_seq ?_
  refine cw_region ?_
  refine ow1 (op1_box (cs := [_, _]) 0 rfl rfl (fun b1 => ?_))
  refine ow1 (op1_alloc 1 rfl zr115 (fun b2 => ?_))
  refine ow1 (op1_l rfl (lo_assign (v := .slice _ _ _) rfl) ?_)
  refine ow_nil ?_
  refine seqK_n ?_
  refine cw_scope ?_
  refine cw_seq ?_
  refine cw_seq ?_
  refine cw_region ?_
  refine ow1 (op1_l rfl (lo_fieldAddr rfl fl115_1) ?_)
  refine ow1 (op1_l rfl (lo_load1 (i := 0) (v := .int _ _) rfl ag36 rfl rfl) ?_)
  refine ow1 (op1_l rfl (lo_neq rfl rfl) ?_)
  refine ow_nil ?_
  refine seqK_n ?_
  refine cw_cond rfl (fun h3 => ?_) (fun h3 => ?_)
  · have h4 := not_t h3
    have p5 := df h4
    refine cw_seq ?_
    refine cw_region ?_
    refine ow1 (op1_l rfl (lo_loadA (i := 0) (vs := [_, _]) rfl ag115 sz115 rfl rfl rfl) ?_)
    refine ow1 (op1_storeA (i := 1) (vs := [_, _]) rfl rfl rfl sz115 rfl rfl rfl ?_)
    refine ow1 (op1_l rfl (lo_assign (v := .slice _ _ _) rfl) ?_)
    refine ow_nil ?_
    refine seqK_n ?_
    refine cw_ret ?_
    refine seqK_r ?_
    refine scK_r ?_
    refine fnK_r (res2 rfl (rv_c (i := 1) (vs := [_, _]) rfl ag115 sz115 rfl rfl rfl) (rv_t (v := .slice _ _ _) rfl)) (.refl _) ?_
    have e : feedTake f chunk = (f, []) := by simp [feedTake, *]
    rw [e]
    exact ⟨none, 0, rfl, slh_nil⟩
  · have h6 := not_f h3
    have p7 := dt h6
    refine cw_skip ?_
    refine seqK_n ?_
    refine cw_seq ?_
    refine cw_region ?_
    refine ow1 (op1_l rfl (lo_assign (v := .slice _ _ _) rfl) ?_)
    refine ow_nil ?_
    refine seqK_n ?_
    refine cw_seq ?_
    refine cw_region ?_
    refine ow1 (op1_l rfl (lo_fieldAddr rfl fl115_0) ?_)
    refine ow1 (op1_l rfl (lo_load1 (i := 0) (v := str _) rfl ag9 rfl rfl) ?_)
    refine ow1 (op1_l rfl (lo_move (v := str _) rfl) ?_)
    refine ow1 (op1_l rfl (lo_cat rfl rfl (by first | omega | (simp <;> omega))) ?_)
    refine ow1 (op1_l rfl (lo_fieldAddr rfl fl115_0) ?_)
    refine ow1 (op1_store1 (i := 0) (v := str _) rfl rfl rfl sz9 rfl rfl ?_)
    refine ow_nil ?_
    refine seqK_n ?_
    refine cw_seq ?_
    refine cw_label ?_
    refine seqK_n ?_
    refine cw_seq ?_
    refine cw_block ?_
    refine cw_loop5 [6, 7, 8, 9, 19, 20, 21, 22, 23, 24, 25, 26, 27, 28, 29, 30, 31, 32, 33, 34, 35, 36, 37, 38, 39, 40, 41] [0, 2, 3, 9] (fun (k : Nat) (rest : Bs) (out : List Frame) (v : Value) (en : Option (Nat × Obj)) G => upd (G) 6 (v)) (fun (k : Nat) (rest : Bs) (out : List Frame) (v : Value) (en : Option (Nat × Obj)) G => lupd (lupd (G) 0 (some (b1, bx 115 [str rest, .int .i64 f.err]))) 9 (en)) (fun (k : Nat) (rest : Bs) (out : List Frame) (v : Value) (en : Option (Nat × Obj)) H' => feedTake f chunk = feedGo k rest out ∧ rest.length < k ∧ (rest.length : Int) + out.length ≤ f.rest.length + chunk.length ∧ OwnV 3 35 v en out.length (out.flatMap Frame.cells) ∧ (∀ x ∈ out, Frame.wf x)) (fun (k : Nat) (rest : Bs) (out : List Frame) (v : Value) (en : Option (Nat × Obj)) => k) ((f.rest ++ chunk).length + 1) (f.rest ++ chunk) [] (.slice none 0 0) none (upd_intro (mask_intro (by first | exact off_refl | (repeat (first | exact off_mask | refine off_upd rfl ?_ | refine off_mask2 rfl ?_)))) rfl) (lupd_intro (lupd_intro (lmask_intro offl_refl) rfl) rfl) ?_ ?_
    · exact ⟨by simp [feedTake, *], by omega, by simp, ownV_nil, fun x hx => by cases hx⟩
    · intro k rest out v en J9 JL9 H9 hp8 hl9
      obtain ⟨hk1, hk2, hk3, ho, hw⟩ := hp8
      refine cw_block ?_
      refine cw_seq ?_
      refine cw_region ?_
      refine ow1 (op1_l rfl (lo_fieldAddr rfl fl115_0) ?_)
      refine ow1 (op1_l rfl (lo_load1 (i := 0) (v := str _) rfl ag9 rfl rfl) ?_)
      refine ow1 (op1_pr (frame_Parse _ rest (hCrc.mono ((HLe.refl _).trans hl9)) (by first | omega | (simp <;> omega))) (en_f cb108 rfl) rfl ?_)
      have hpo := parseF_ok rest
      refine ow1 (op1_l rfl (lo_move (v := .tuple #[_, _, _]) rfl) ?_)
      refine ow1 (op1_l rfl (lo_extract (v := .agg #[_, _, _]) rfl rfl) ?_)
      refine ow1 (op1_l rfl (lo_extract (v := .int _ _) rfl rfl) ?_)
      refine ow1 (op1_l rfl (lo_extract (v := .int _ _) rfl rfl) ?_)
      refine ow1 (op1_alloc 2 rfl zr35 (fun b10 => ?_))
      refine ow1 (op1_storeA (i := 2) (vs := [_, _, _]) rfl rfl rfl sz35 rfl rfl rfl ?_)
      refine ow1 (op1_l rfl (lo_assign (v := .int _ _) rfl) ?_)
      refine ow1 (op1_l rfl (lo_assign (v := .int _ _) rfl) ?_)
      refine ow_nil ?_
      refine seqK_n ?_
      refine cw_seq ?_
      refine cw_region ?_
      refine ow1 (op1_l rfl (lo_move (v := .int _ _) rfl) ?_)
      refine ow_nil ?_
      refine seqK_n ?_
      refine cw_block ?_
      refine cw_seq ?_
      refine cw_region ?_
      refine ow1 (op1_l rfl (lo_eql rfl rfl) ?_)
      refine ow1 (op1_l rfl (lo_assign (v := .bool _) rfl) ?_)
      refine ow_nil ?_
      refine seqK_n ?_
      refine cw_cond rfl (fun h11 => ?_) (fun h11 => ?_)
      · have p12 := dt h11
        refine cw_seq ?_
        refine cw_region ?_
        refine ow1 (op1_l rfl (lo_move rfl) ?_)
        refine ow1 (op1_l rfl (lo_loadA (i := 2) (vs := [_, _, _]) rfl ag35 sz35 rfl rfl rfl) ?_)
        refine ow1 (op1_bslice (cs := [_, _, _]) 3 rfl Tryd.underlying116 sz35 zx35 rfl ⟨rfl, rfl, trivial⟩ rfl rfl (by decide) (fun b13 => ?_))
        refine ow1 (op1_app 9 rfl rfl Tryd.underlying116 Tryd.underlying116 rfl sz35 by35 (by decide) zr35 ho (src_bx (i := 3) rfl rfl) (List.all_eq_true.1 rfl) rfl (by omega) rfl (fun v14 en15 ho16 => ?_))
        have ho17 := own_push (enc := Frame.cells) out ((parseF rest).1) ho16 rfl
        refine ow1 (op1_l rfl (lo_assign rfl) ?_)
        refine ow_nil ?_
        refine seqK_n ?_
        refine cw_region ?_
        refine ow1 (op1_l rfl (lo_fieldAddr rfl fl115_0) ?_)
        refine ow1 (op1_l rfl (lo_load1 (i := 0) (v := str _) rfl ag9 rfl rfl) ?_)
        refine ow1 (op1_l rfl (lo_move (v := .int _ _) rfl) ?_)
        refine ow1 (op1_l rfl (lo_slice_str_lo ((parseF rest).2.1).toNat rfl rfl Tryd.underlying9 (by first | omega | (have := hpo (by assumption); omega)) (by first | omega | (have := hpo (by assumption); omega))) ?_)
        refine ow1 (op1_l rfl (lo_fieldAddr rfl fl115_0) ?_)
        refine ow1 (op1_store1 (i := 0) (v := str _) rfl rfl rfl sz9 rfl rfl ?_)
        refine ow_nil ?_
        refine blkK_n ?_
        refine blkK_n ?_
        refine next5 (k - 1) (rest.drop ((parseF rest).2.1).toNat) (out ++ [((parseF rest).1)]) v14 en15 (upd_intro (mask_intro (by first | exact off_refl | (repeat (first | exact off_mask | refine off_upd rfl ?_ | refine off_mask2 rfl ?_)))) rfl) (lupd_intro (lupd_intro (lmask_intro (by first | exact offl_refl | (repeat (first | exact offl_mask | refine offl_upd rfl ?_ | refine offl_mask2 rfl ?_)))) rfl) rfl) hl9 ?_ ?_
        · have hp0 : (parseF rest).2.2 = 0 := by assumption
          have hpo := hpo hp0
          refine ⟨?_, by simp; omega, by simp; omega, ho17, wf_push hw (parseF_wf rest)⟩
          obtain ⟨j, rfl⟩ : ∃ j, k = j + 1 := ⟨k - 1, by omega⟩
          rw [hk1]
          simp only [feedGo, Nat.add_sub_cancel]
          rw [if_pos hp0]
        · omega
      · have p18 := df h11
        refine cw_seq ?_
        refine cw_region ?_
        refine ow1 (op1_l rfl (lo_eql rfl rfl) ?_)
        refine ow1 (op1_l rfl (lo_assign (v := .bool _) rfl) ?_)
        refine ow_nil ?_
        refine seqK_n ?_
        refine cw_cond rfl (fun h19 => ?_) (fun h19 => ?_)
        · have p20 := dt h19
          refine cw_exit ?_
          refine blkK_e rfl ?_
          refine blkK_e rfl ?_
          refine loopK_e ?_
          refine blkK_hit ?_
          refine seqK_n ?_
          refine cw_seq ?_
          refine cw_region ?_
          refine ow1 (op1_l rfl (lo_loadA (i := 0) (vs := [_, _]) rfl ag115 sz115 rfl rfl rfl) ?_)
          refine ow1 (op1_l rfl (lo_move rfl) ?_)
          refine ow1 (op1_storeA (i := 1) (vs := [_, _]) rfl rfl rfl sz115 rfl rfl rfl ?_)
          refine ow1 (op1_l rfl (lo_assign rfl) ?_)
          refine ow_nil ?_
          refine seqK_n ?_
          refine cw_giveO 9 rfl (fun _ hl21 hg22 => ?_)
          have hs23 := slh_own (enc := Frame.cells) (wf := Frame.wf) (fun _ => rfl) ho hw hg22
          obtain ⟨⟨a24, c25, rfl, -⟩, -⟩ := id hs23
          refine cw_ret ?_
          refine scK_r ?_
          refine fnK_r (res2 rfl (rv_c (i := 1) (vs := [_, _]) rfl ag115 sz115 rfl rfl rfl) (rv_t (v := .slice _ _ _) rfl)) (((HLe.refl _).trans hl9).trans hl21) ?_
          have e : feedTake f chunk = (⟨rest, f.err⟩, out) := by
            obtain ⟨j, rfl⟩ : ∃ j, k = j + 1 := ⟨k - 1, by omega⟩
            rw [hk1]
            simp [feedGo, *]
          rw [e]
          exact ⟨_, _, rfl, hs23⟩
        · have p26 := df h19
          refine cw_seq ?_
          refine cw_region ?_
          refine ow1 (op1_l rfl (lo_move (v := .int _ _) rfl) ?_)
          refine ow1 (op1_l rfl (lo_build (v := .agg #[_, _]) rfl (bd115_1i64 _)) ?_)
          refine ow1 (op1_storeA (i := 0) (vs := [_, _]) rfl rfl rfl sz115 rfl rfl rfl ?_)
          refine ow_nil ?_
          refine seqK_n ?_
          refine cw_exit ?_
          refine blkK_e rfl ?_
          refine blkK_e rfl ?_
          refine loopK_e ?_
          refine blkK_hit ?_
          refine seqK_n ?_
          refine cw_seq ?_
          refine cw_region ?_
          refine ow1 (op1_l rfl (lo_loadA (i := 0) (vs := [_, _]) rfl ag115 sz115 rfl rfl rfl) ?_)
          refine ow1 (op1_l rfl (lo_move rfl) ?_)
          refine ow1 (op1_storeA (i := 1) (vs := [_, _]) rfl rfl rfl sz115 rfl rfl rfl ?_)
          refine ow1 (op1_l rfl (lo_assign rfl) ?_)
          refine ow_nil ?_
          refine seqK_n ?_
          refine cw_giveO 9 rfl (fun _ hl27 hg28 => ?_)
          have hs29 := slh_own (enc := Frame.cells) (wf := Frame.wf) (fun _ => rfl) ho hw hg28
          obtain ⟨⟨a30, c31, rfl, -⟩, -⟩ := id hs29
          refine cw_ret ?_
          refine scK_r ?_
          refine fnK_r (res2 rfl (rv_c (i := 1) (vs := [_, _]) rfl ag115 sz115 rfl rfl rfl) (rv_t (v := .slice _ _ _) rfl)) (((HLe.refl _).trans hl9).trans hl27) ?_
          have e : feedTake f chunk = (⟨[], (parseF rest).2.2⟩, out) := by
            obtain ⟨j, rfl⟩ : ∃ j, k = j + 1 := ⟨k - 1, by omega⟩
            rw [hk1]
            simp [feedGo, *]
          rw [e]
          exact ⟨_, _, rfl, hs29⟩

end Go.SW


set_option linter.unusedVariables false
set_option maxRecDepth 100000
set_option maxHeartbeats 4000000
namespace Go.SW
open Go.Proofs
theorem cb101 : Callable Tryd.prog 101 := callable_of Tryd.func101 (by kernel_rfl) (by kernel_rfl)
theorem cb109 : Callable Tryd.prog 109 := callable_of Tryd.func109 (by kernel_rfl) (by kernel_rfl)
theorem cb116 : Callable Tryd.prog 116 := callable_of Tryd.func116 (by kernel_rfl) (by kernel_rfl)
theorem cb85 : Callable Tryd.prog 85 := callable_of Tryd.func85 (by kernel_rfl) (by kernel_rfl)
theorem cb88 : Callable Tryd.prog 88 := callable_of Tryd.func88 (by kernel_rfl) (by kernel_rfl)
theorem cb92 : Callable Tryd.prog 92 := callable_of Tryd.func92 (by kernel_rfl) (by kernel_rfl)

theorem feed_Rest (H : Hp) (f : Feed) : Pr Tryd.prog 90 #[.agg (Feed.cells f).toArray] H (str f.rest) := by
  refine pr_cw Tryd.func90 rfl Tryd.ntmps90 rfl (fun N => ?_)
  refine cw_seq ?_
  refine cw_region ?_
  refine ow1 (op1_box (cs := [_, _]) 0 rfl rfl (fun b1 => ?_))
  refine ow1 (op1_l rfl (lo_assign (v := str _) rfl) ?_)
  refine ow_nil ?_
  refine seqK_n ?_
  refine cw_seq ?_
  refine cw_region ?_
  refine ow1 (op1_l rfl (lo_fieldAddr rfl fl115_0) ?_)
  refine ow1 (op1_l rfl (lo_load1 (i := 0) (v := str _) rfl ag9 rfl rfl) ?_)
  refine ow1 (op1_l rfl (lo_assign (v := str _) rfl) ?_)
  refine ow_nil ?_
  refine seqK_n ?_
  refine cw_ret ?_
  refine fnK_r (res1 rfl (rv_t (v := str _) rfl)) (.refl _) ?_
  rfl

theorem feed_Err (H : Hp) (f : Feed) : Pr Tryd.prog 91 #[.agg (Feed.cells f).toArray] H (.int .i64 f.err) := by
  refine pr_cw Tryd.func91 rfl Tryd.ntmps91 rfl (fun N => ?_)
  refine cw_seq ?_
  refine cw_region ?_
  refine ow1 (op1_box (cs := [_, _]) 0 rfl rfl (fun b1 => ?_))
  refine ow1 (op1_l rfl (lo_assign (v := .int _ _) rfl) ?_)
  refine ow_nil ?_
  refine seqK_n ?_
  refine cw_seq ?_
  refine cw_region ?_
  refine ow1 (op1_l rfl (lo_fieldAddr rfl fl115_1) ?_)
  refine ow1 (op1_l rfl (lo_load1 (i := 0) (v := .int _ _) rfl ag36 rfl rfl) ?_)
  refine ow1 (op1_l rfl (lo_assign (v := .int _ _) rfl) ?_)
  refine ow_nil ?_
  refine seqK_n ?_
  refine cw_ret ?_
  refine fnK_r (res1 rfl (rv_t (v := .int _ _) rfl)) (.refl _) ?_
  rfl

theorem l01_awake (H : Hp)  : Pr Tryd.prog 109 #[] H (.bool true) := by
  refine pr_cw Tryd.func109 rfl Tryd.ntmps109 rfl (fun N => ?_)
  refine cw_seq ?_
  refine cw_region ?_
  refine ow1 (op1_l rfl (lo_assign (v := .bool _) rfl) ?_)
  refine ow_nil ?_
  refine seqK_n ?_
  refine cw_seq ?_
  refine cw_region ?_
  refine ow1 (op1_l rfl (lo_build (v := .agg #[_, _]) rfl (bd78)) ?_)
  refine ow1 (op1_pr (out_Num _ (⟨[], 0⟩ : Out) 258 (by omega) 2 (by omega) (by first | omega | (have := hrl (by assumption); omega) | (simp [outNum, outRaw, numB_len, numK] <;> omega) | (have := hrl (by assumption); simp [outNum, outRaw, numB_len, numK] <;> omega))) (en_f cb46 rfl) rfl ?_)
  have nl0 : (⟨[], 0⟩ : Out).s.length = 0 := rfl
  have := outNum_len (⟨[], 0⟩ : Out) 258 2
  refine ow1 (op1_pr (out_String _ (outNum (⟨[], 0⟩ : Out) 258 2)) (en_f cb49 rfl) rfl ?_)
  refine ow1 (op1_l rfl (lo_seql rfl rfl) ?_)
  refine ow1 (op1_l rfl (lo_move (v := .bool _) rfl) ?_)
  refine ow1 (op1_g rfl (by decide +kernel) rfl (lo_build (v := .agg #[_, _]) rfl (bd78)) ?_)
  refine ow1 (op1_prg rfl (by decide +kernel) (out_Text _ (⟨[], 0⟩ : Out) [97, 98] (by first | omega | (have := hrl (by assumption); omega) | (simp [outNum, outRaw, numB_len, numK] <;> omega) | (have := hrl (by assumption); simp [outNum, outRaw, numB_len, numK] <;> omega))) (en_f cb45 rfl) rfl ?_)
  have nl0 : (⟨[], 0⟩ : Out).s.length = 0 := rfl
  have := outText_len (⟨[], 0⟩ : Out) [97, 98]
  refine ow1 (op1_prg rfl (by decide +kernel) (out_String _ (outText (⟨[], 0⟩ : Out) [97, 98])) (en_f cb49 rfl) rfl ?_)
  refine ow1 (op1_g rfl (by decide +kernel) rfl (lo_seql rfl rfl) ?_)
  refine ow1 (op1_l rfl (lo_pick_t (v := .bool _) rfl (by decide +kernel) rfl) ?_)
  refine ow1 (op1_l rfl (lo_move (v := .bool _) rfl) ?_)
  refine ow1 (op1_png 0 rfl (by decide +kernel) (octet_New _ [1, 2]) (en_f cb35 rfl) rfl ?_)
  rintro _ _ b3 _ ⟨rfl, rfl, rfl⟩ _
  refine ow1 (op1_pmg 0 rfl (by decide +kernel) rfl (in_Num _ b3 (⟨[1, 2], 0⟩) 2 (by omega)) (en_f cb69 rfl) rfl ?_)
  rintro _ _ _ ⟨rfl, rfl, rfl⟩ _
  have := inNum_r (⟨[1, 2], 0⟩) 2
  refine ow1 (op1_g rfl (by decide +kernel) rfl (lo_eql rfl rfl) ?_)
  refine ow1 (op1_l rfl (lo_pick_t (v := .bool _) rfl (by decide +kernel) rfl) ?_)
  refine ow1 (op1_l rfl (lo_assign (v := .bool _) rfl) ?_)
  refine ow_nil ?_
  refine seqK_n ?_
  refine cw_ret ?_
  refine fnK_r (res1 rfl (rv_t (v := .bool _) rfl)) (.refl _) ?_
  exact congrArg Value.bool (by decide +kernel)

theorem l01_Awake (H : Hp)  : Pr Tryd.prog 92 #[] H (.bool true) := by
  refine pr_cw Tryd.func92 rfl Tryd.ntmps92 rfl (fun N => ?_)
  refine cw_seq ?_
  refine cw_region ?_
  refine ow1 (op1_l rfl (lo_assign (v := .bool _) rfl) ?_)
  refine ow_nil ?_
  refine seqK_n ?_
  refine cw_seq ?_
  refine cw_region ?_
  refine ow1 (op1_pr (l01_awake _ ) (en_f cb109 rfl) rfl ?_)
  refine ow1 (op1_l rfl (lo_assign (v := .bool _) rfl) ?_)
  refine ow_nil ?_
  refine seqK_n ?_
  refine cw_ret ?_
  refine fnK_r (res1 rfl (rv_t (v := .bool _) rfl)) (.refl _) ?_
  rfl

theorem l02_awake (H : Hp)  (hCrc : GTab H 1 laidT) : Pr Tryd.prog 116 #[] H (.bool true) := by
  refine pr_cw Tryd.func116 rfl Tryd.ntmps116 rfl (fun N => ?_)
  refine cw_seq ?_
  refine cw_region ?_
  refine ow1 (op1_l rfl (lo_assign (v := .bool _) rfl) ?_)
  refine ow_nil ?_
  refine seqK_n ?_
  refine cw_seq ?_
  refine cw_region ?_
  refine ow1 (op1_bslice (cs := [_, _]) 0 rfl Tryd.underlying108 sz9 zx9 rfl ⟨rfl, rfl, ⟨rfl, rfl, trivial⟩⟩ rfl rfl (by decide) (fun b1 => ?_))
  refine ow_giveO 0 rfl (fun _ hl2 hg3 => ?_)
  have hs4 := slh_bx (H := _) (enc := (fun s => [str s])) (wf := (fun s => s.length ≤ 9223372036854775807)) [[49, 50, 51, 52], [53, 54, 55, 56, 57]] (fun _ => rfl) (hg3 _ _ rfl) rfl rfl (Nat.le_refl _) (by first | (intro x hx; simp at hx; subst hx; first | omega | (simp; done) | (simp; omega)) | (simp; done) | (simp; omega))
  refine ow1 (op1_pr (crc_Sum _ (some ⟨b1, 0, none⟩) 2 2 [[49, 50, 51, 52], [53, 54, 55, 56, 57]] hs4 (hCrc.mono ((HLe.refl _).trans hl2)) (by first | omega | (simp; done) | (simp; omega))) (en_f cb107 rfl) rfl ?_)
  have := crcSum_r [[49, 50, 51, 52], [53, 54, 55, 56, 57]]
  refine ow1 (op1_l rfl (lo_eql rfl rfl) ?_)
  refine ow1 (op1_l rfl (lo_move (v := .bool _) rfl) ?_)
  refine ow1 (op1_prg rfl (by decide +kernel) (crc_Sum _ none 0 0 [] slh_nil (hCrc.mono ((HLe.refl _).trans hl2)) (by first | omega | (simp; done) | (simp; omega))) (en_f cb107 rfl) rfl ?_)
  have := crcSum_r []
  refine ow1 (op1_g rfl (by decide +kernel) rfl (lo_eql rfl rfl) ?_)
  refine ow1 (op1_l rfl (lo_pick_t (v := .bool _) rfl (by decide +kernel) rfl) ?_)
  refine ow1 (op1_l rfl (lo_assign (v := .bool _) rfl) ?_)
  refine ow_nil ?_
  refine seqK_n ?_
  refine cw_ret ?_
  refine fnK_r (res1 rfl (rv_t (v := .bool _) rfl)) ((HLe.refl _).trans hl2) ?_
  exact congrArg Value.bool (by decide +kernel)

theorem l02_Awake (H : Hp)  (hCrc : GTab H 1 laidT) : Pr Tryd.prog 101 #[] H (.bool true) := by
  refine pr_cw Tryd.func101 rfl Tryd.ntmps101 rfl (fun N => ?_)
  refine cw_seq ?_
  refine cw_region ?_
  refine ow1 (op1_l rfl (lo_assign (v := .bool _) rfl) ?_)
  refine ow_nil ?_
  refine seqK_n ?_
  refine cw_seq ?_
  refine cw_region ?_
  refine ow1 (op1_pr (l02_awake _ hCrc) (en_f cb116 rfl) rfl ?_)
  refine ow1 (op1_l rfl (lo_assign (v := .bool _) rfl) ?_)
  refine ow_nil ?_
  refine seqK_n ?_
  refine cw_ret ?_
  refine fnK_r (res1 rfl (rv_t (v := .bool _) rfl)) (.refl _) ?_
  rfl

theorem l07_awake (H : Hp)  (hCrc : GTab H 1 laidT) : Pr Tryd.prog 85 #[] H (.bool true) := by
  refine pr_cw Tryd.func85 rfl Tryd.ntmps85 rfl (fun N => ?_)
  refine cw_seq ?_
  refine cw_region ?_
  refine ow1 (op1_l rfl (lo_assign (v := .bool _) rfl) ?_)
  refine ow_nil ?_
  refine seqK_n ?_
  refine cw_seq ?_
  refine cw_region ?_
  refine ow1 (op1_l rfl (lo_build (v := .agg #[_, _, _]) rfl (bd35_0u8_1u8 _ _)) ?_)
  refine ow1 (op1_pr (frame_Bytes _ (⟨1, 2, []⟩ : Frame) (by simp only [Frame.wf]; first | omega | (simp; done) | (simp; omega)) hCrc) (en_f cb88 rfl) rfl ?_)
  refine ow1 (op1_l rfl (lo_move (v := .tuple #[_, _]) rfl) ?_)
  refine ow1 (op1_l rfl (lo_extract (v := str _) rfl rfl) ?_)
  refine ow1 (op1_l rfl (lo_extract (v := .int _ _) rfl rfl) ?_)
  refine ow1 (op1_l rfl (lo_assign (v := str _) rfl) ?_)
  refine ow1 (op1_l rfl (lo_assign (v := .int _ _) rfl) ?_)
  refine ow_nil ?_
  refine seqK_n ?_
  refine cw_seq ?_
  refine cw_region ?_
  refine ow1 (op1_pr (l01_Awake _ ) (en_f cb92 rfl) rfl ?_)
  refine ow1 (op1_l rfl (lo_move (v := .bool _) rfl) ?_)
  refine ow1 (op1_prg rfl rfl (l02_Awake _ hCrc) (en_f cb101 rfl) rfl ?_)
  refine ow1 (op1_l rfl (lo_pick_t (v := .bool _) rfl rfl rfl) ?_)
  refine ow1 (op1_l rfl (lo_move (v := .bool _) rfl) ?_)
  refine ow1 (op1_g rfl rfl rfl (lo_move (v := .int _ _) rfl) ?_)
  refine ow1 (op1_g rfl rfl rfl (lo_eql rfl rfl) ?_)
  refine ow1 (op1_l rfl (lo_pick_t (v := .bool _) rfl rfl rfl) ?_)
  refine ow1 (op1_l rfl (lo_move (v := .bool _) rfl) ?_)
  refine ow1 (op1_g rfl (by decide +kernel) rfl (lo_move (v := str _) rfl) ?_)
  refine ow1 (op1_g rfl (by decide +kernel) rfl (lo_len_str rfl Tryd.underlying9) ?_)
  refine ow1 (op1_g rfl (by decide +kernel) rfl (lo_eql rfl rfl) ?_)
  refine ow1 (op1_l rfl (lo_pick_t (v := .bool _) rfl (by decide +kernel) rfl) ?_)
  refine ow1 (op1_l rfl (lo_move (v := .bool _) rfl) ?_)
  refine ow1 (op1_g rfl (by decide +kernel) rfl (lo_move (v := str _) rfl) ?_)
  have := u8r ((frameBytes (⟨1, 2, []⟩ : Frame)).getD 8 0)
  refine ow1 (op1_g rfl (by decide +kernel) rfl (lo_index_str 8 rfl rfl Tryd.underlying9 (by omega) (by first | omega | decide +kernel)) ?_)
  refine ow1 (op1_g rfl (by decide +kernel) rfl (lo_eql rfl rfl) ?_)
  refine ow1 (op1_l rfl (lo_pick_t (v := .bool _) rfl (by decide +kernel) rfl) ?_)
  refine ow1 (op1_l rfl (lo_assign (v := .bool _) rfl) ?_)
  refine ow_nil ?_
  refine seqK_n ?_
  refine cw_ret ?_
  refine fnK_r (res1 rfl (rv_t (v := .bool _) rfl)) (.refl _) ?_
  exact congrArg Value.bool (by decide +kernel)

theorem l07_Awake (H : Hp)  (hCrc : GTab H 1 laidT) : Pr Tryd.prog 60 #[] H (.bool true) := by
  refine pr_cw Tryd.func60 rfl Tryd.ntmps60 rfl (fun N => ?_)
  refine cw_seq ?_
  refine cw_region ?_
  refine ow1 (op1_l rfl (lo_assign (v := .bool _) rfl) ?_)
  refine ow_nil ?_
  refine seqK_n ?_
  refine cw_seq ?_
  refine cw_region ?_
  refine ow1 (op1_pr (l07_awake _ hCrc) (en_f cb85 rfl) rfl ?_)
  refine ow1 (op1_l rfl (lo_assign (v := .bool _) rfl) ?_)
  refine ow_nil ?_
  refine seqK_n ?_
  refine cw_ret ?_
  refine fnK_r (res1 rfl (rv_t (v := .bool _) rfl)) (.refl _) ?_
  rfl

end Go.SW


set_option linter.unusedVariables false
set_option maxRecDepth 100000
set_option maxHeartbeats 4000000
namespace Go.SW
open Go.Proofs
theorem bd115  (w : World) : (Instr.build 115 #[]).run Tryd.prog w = .ok (.agg #[str [], .int .i64 0]) w := by kernel_rfl
theorem cb60 : Callable Tryd.prog 60 := callable_of Tryd.func60 (by kernel_rfl) (by kernel_rfl)
theorem cb66 : Callable Tryd.prog 66 := callable_of Tryd.func66 (by kernel_rfl) (by kernel_rfl)
theorem cb89 : Callable Tryd.prog 89 := callable_of Tryd.func89 (by kernel_rfl) (by kernel_rfl)
theorem cb90 : Callable Tryd.prog 90 := callable_of Tryd.func90 (by kernel_rfl) (by kernel_rfl)
theorem cb91 : Callable Tryd.prog 91 := callable_of Tryd.func91 (by kernel_rfl) (by kernel_rfl)

theorem l08_awake (H : Hp)  (hCrc : GTab H 1 laidT) : Pr Tryd.prog 66 #[] H (.bool true) := by
  refine pr_cw Tryd.func66 rfl Tryd.ntmps66 rfl (fun N => ?_)
  refine cw_seq ?_
  refine cw_region ?_
  refine ow1 (op1_l rfl (lo_assign (v := .bool _) rfl) ?_)
  refine ow_nil ?_
  refine seqK_n ?_
  refine cw_seq ?_
  refine cw_region ?_
  refine ow1 (op1_l rfl (lo_build (v := .agg #[_, _, _]) rfl (bd35_0u8_1u8_2s _ _ _)) ?_)
  refine ow1 (op1_pr (frame_Bytes _ (⟨1, 2, [97, 98]⟩ : Frame) (by simp only [Frame.wf]; first | omega | (simp; done) | (simp; omega)) hCrc) (en_f cb88 rfl) rfl ?_)
  refine ow1 (op1_l rfl (lo_move (v := .tuple #[_, _]) rfl) ?_)
  refine ow1 (op1_l rfl (lo_extract (v := str _) rfl rfl) ?_)
  refine ow1 (op1_l rfl (lo_extract (v := .int _ _) rfl rfl) ?_)
  refine ow1 (op1_l rfl (lo_assign (v := str _) rfl) ?_)
  refine ow1 (op1_l rfl (lo_assign (v := .int _ _) rfl) ?_)
  refine ow_nil ?_
  refine seqK_n ?_
  refine cw_seq ?_
  refine cw_seq ?_
  refine cw_region ?_
  refine ow1 (op1_pr (l07_Awake _ hCrc) (en_f cb60 rfl) rfl ?_)
  refine ow1 (op1_l rfl (lo_not rfl) ?_)
  refine ow1 (op1_l rfl (lo_move (v := .bool _) rfl) ?_)
  refine ow1 (op1_g rfl rfl rfl (lo_move (v := str _) rfl) ?_)
  refine ow1 (op1_g rfl rfl rfl (lo_len_str rfl Tryd.underlying9) ?_)
  refine ow1 (op1_g rfl rfl rfl (lo_neq rfl rfl) ?_)
  refine ow1 (op1_l rfl (lo_pick_f (v := .bool _) rfl rfl rfl) ?_)
  refine ow_nil ?_
  refine seqK_n ?_
  refine cw_cond_f rfl (by first | decide +kernel | (rw [hce]; decide +kernel)) ?_
  refine cw_skip ?_
  refine seqK_n ?_
  refine cw_seq ?_
  refine cw_region ?_
  refine ow1 (op1_l rfl (lo_build (v := .agg #[_, _]) rfl (bd115)) ?_)
  refine ow1 (op1_l rfl (lo_move (v := str _) rfl) ?_)
  refine ow1 (op1_l rfl (lo_move (v := str _) rfl) ?_)
  refine ow1 (op1_l rfl (lo_slice_str_hi 5 rfl rfl Tryd.underlying9 (by first | omega | decide +kernel) (by first | omega | decide +kernel)) ?_)
  refine ow1 (op1_l rfl (lo_cat rfl rfl (by decide +kernel)) ?_)
  refine ow1 (op1_ph (feed_Take _ (⟨[], 0⟩ : Feed) ((frameBytes (⟨1, 2, [97, 98]⟩ : Frame)) ++ ((frameBytes (⟨1, 2, [97, 98]⟩ : Frame)).take 5)) hCrc (by first | omega | (simp; done) | (simp; omega) | decide +kernel)) (en_f cb89 rfl) rfl ?_)
  rintro _ H5 ⟨a1, c2, rfl, hs3⟩ hl4
  refine ow1 (op1_l rfl (lo_move (v := .tuple #[_, _]) rfl) ?_)
  refine ow1 (op1_l rfl (lo_extract (v := .agg #[_, _]) rfl rfl) ?_)
  refine ow1 (op1_l rfl (lo_extract (v := .slice _ _ _) rfl rfl) ?_)
  refine ow1 (op1_alloc 0 rfl zr115 (fun b6 => ?_))
  refine ow1 (op1_storeA (i := 0) (vs := [_, _]) rfl rfl rfl sz115 rfl rfl rfl ?_)
  refine ow1 (op1_l rfl (lo_assign (v := .slice _ _ _) rfl) ?_)
  refine ow_nil ?_
  refine seqK_n ?_
  refine cw_seq ?_
  refine cw_anyL mixd ?_
  refine vw_q 0 rfl (by kernel_rfl) (by repeat (first | exact lle_l0 | exact LLe.refl _ | exact lle_none | refine lle_up ?_ rfl)) (fun _ _ hh hl => lo_loadA (i := 0) (vs := [_, _]) rfl ag115 sz115 (hl _ _ rfl) rfl rfl) ?_
  refine vw_q 1 rfl (by kernel_rfl) (by repeat (first | exact lle_l0 | exact LLe.refl _ | exact lle_none | refine lle_up ?_ rfl)) (fun _ _ hh hl => lo_move (v := str _) rfl) ?_
  refine vw_q 2 rfl (by kernel_rfl) (by repeat (first | exact lle_l0 | exact LLe.refl _ | exact lle_none | refine lle_up ?_ rfl)) (fun _ _ hh hl => lo_slice_str_lo 5 rfl rfl Tryd.underlying9 (by first | omega | decide +kernel) (by first | omega | decide +kernel)) ?_
  refine vw_tp 3 rfl (by kernel_rfl) (by kernel_rfl) (op1_ph (feed_Take _ ((feedTake (⟨[], 0⟩ : Feed) ((frameBytes (⟨1, 2, [97, 98]⟩ : Frame)) ++ ((frameBytes (⟨1, 2, [97, 98]⟩ : Frame)).take 5))).1) ((frameBytes (⟨1, 2, [97, 98]⟩ : Frame)).drop 5) (hCrc.mono ((HLe.refl _).trans hl4)) (by first | omega | (simp; done) | (simp; omega) | decide +kernel)) (en_f cb89 rfl) rfl ?_)
  rintro _ H11 ⟨a7, c8, rfl, hs9⟩ hl10
  refine ⟨((HLe.refl _).trans hl10), ?_⟩
  refine vw_q 4 rfl (by kernel_rfl) (by repeat (first | exact lle_l0 | exact LLe.refl _ | exact lle_none | refine lle_up ?_ rfl)) (fun _ _ hh hl => lo_move (v := .tuple #[_, _]) rfl) ?_
  refine vw_q 5 rfl (by kernel_rfl) (by repeat (first | exact lle_l0 | exact LLe.refl _ | exact lle_none | refine lle_up ?_ rfl)) (fun _ _ hh hl => lo_extract (v := .agg #[_, _]) rfl rfl) ?_
  refine vw_q 6 rfl (by kernel_rfl) (by repeat (first | exact lle_l0 | exact LLe.refl _ | exact lle_none | refine lle_up ?_ rfl)) (fun _ _ hh hl => lo_extract (v := .slice _ _ _) rfl rfl) ?_
  refine vw_tp 7 rfl (by kernel_rfl) (by kernel_rfl) (op1_storeA (i := 0) (vs := [_, _]) rfl rfl rfl sz115 rfl rfl rfl ?_)
  refine ⟨(.refl _), ?_⟩
  refine vw_q 8 rfl (by kernel_rfl) (by repeat (first | exact lle_l0 | exact LLe.refl _ | exact lle_none | refine lle_up ?_ rfl)) (fun _ _ hh hl => lo_assign (v := .slice _ _ _) rfl) ?_
  refine vw_done (by kernel_rfl) ?_
  refine seqK_n ?_
  refine cw_seq ?_
  refine cw_region ?_
  refine ow1 (op1_l rfl (lo_move (v := .slice _ _ _) rfl) ?_)
  refine ow1 (op1_l rfl (lo_len_slh rfl (hs3.mono ((HLe.refl _).trans hl10) (fun _ _ h => h)) Tryd.underlying116) ?_)
  refine ow1 (op1_l rfl (lo_eql rfl rfl) ?_)
  refine ow1 (op1_l rfl (lo_move (v := .bool _) rfl) ?_)
  refine ow1 (op1_g rfl (by first | decide +kernel | (rw [hce]; decide +kernel)) rfl (lo_move (v := .slice _ _ _) rfl) ?_)
  refine ow1 (op1_g rfl (by first | decide +kernel | (rw [hce]; decide +kernel)) rfl (lo_len_slh rfl hs9 Tryd.underlying116) ?_)
  refine ow1 (op1_g rfl (by first | decide +kernel | (rw [hce]; decide +kernel)) rfl (lo_eql rfl rfl) ?_)
  refine ow1 (op1_l rfl (lo_pick_t (v := .bool _) rfl (by first | decide +kernel | (rw [hce]; decide +kernel)) rfl) ?_)
  refine ow1 (op1_l rfl (lo_move (v := .bool _) rfl) ?_)
  refine ow1 (op1_g rfl (by first | decide +kernel | (rw [hce]; decide +kernel)) rfl (lo_move (v := .slice _ _ _) rfl) ?_)
  obtain ⟨c12, hc13⟩ := getE (xs := (feedTake ((feedTake (⟨[], 0⟩ : Feed) ((frameBytes (⟨1, 2, [97, 98]⟩ : Frame)) ++ ((frameBytes (⟨1, 2, [97, 98]⟩ : Frame)).take 5))).1) ((frameBytes (⟨1, 2, [97, 98]⟩ : Frame)).drop 5)).2) (m := 0) (by first | omega | decide +kernel)
  obtain ⟨cs14, hE15, at16⟩ := hs9.get hc13
  obtain ⟨rfl, c12_w⟩ := hE15
  have c12_w' := c12_w
  simp only [Frame.wf] at c12_w'
  have hce : c12 = ⟨1, 2, [97, 98]⟩ := Option.some.inj (hc13.symm.trans (by decide +kernel))
  refine ow1 (op1_g rfl (by first | decide +kernel | (rw [hce]; decide +kernel)) rfl (lo_indexAddr rfl rfl hs9.1 at16 Tryd.underlying116 sz35 (by first | omega | decide +kernel) (by first | omega | decide +kernel)) ?_)
  refine ow1 (op1_g rfl (by first | decide +kernel | (rw [hce]; decide +kernel)) rfl (lo_fieldAddr rfl fl35_2) ?_)
  refine ow1 (op1_g rfl (by first | decide +kernel | (rw [hce]; decide +kernel)) rfl (lo_loadEf (o := 2) (v := str _) rfl ag9 at16 rfl rfl) ?_)
  refine ow1 (op1_g rfl (by first | decide +kernel | (rw [hce]; decide +kernel)) rfl (lo_seql rfl rfl) ?_)
  refine ow1 (op1_l rfl (lo_pick_t (v := .bool _) rfl (by first | decide +kernel | (rw [hce]; decide +kernel)) rfl) ?_)
  refine ow1 (op1_l rfl (lo_move (v := .bool _) rfl) ?_)
  refine ow1 (op1_g rfl (by first | decide +kernel | (rw [hce]; decide +kernel)) rfl (lo_loadA (i := 0) (vs := [_, _]) rfl ag115 sz115 rfl rfl rfl) ?_)
  refine ow1 (op1_prg rfl (by first | decide +kernel | (rw [hce]; decide +kernel)) (feed_Rest _ ((feedTake ((feedTake (⟨[], 0⟩ : Feed) ((frameBytes (⟨1, 2, [97, 98]⟩ : Frame)) ++ ((frameBytes (⟨1, 2, [97, 98]⟩ : Frame)).take 5))).1) ((frameBytes (⟨1, 2, [97, 98]⟩ : Frame)).drop 5)).1)) (en_f cb90 rfl) rfl ?_)
  refine ow1 (op1_g rfl (by first | decide +kernel | (rw [hce]; decide +kernel)) rfl (lo_seql rfl rfl) ?_)
  refine ow1 (op1_l rfl (lo_pick_t (v := .bool _) rfl (by first | decide +kernel | (rw [hce]; decide +kernel)) rfl) ?_)
  refine ow1 (op1_l rfl (lo_move (v := .bool _) rfl) ?_)
  refine ow1 (op1_g rfl (by first | decide +kernel | (rw [hce]; decide +kernel)) rfl (lo_loadA (i := 0) (vs := [_, _]) rfl ag115 sz115 rfl rfl rfl) ?_)
  refine ow1 (op1_prg rfl (by first | decide +kernel | (rw [hce]; decide +kernel)) (feed_Err _ ((feedTake ((feedTake (⟨[], 0⟩ : Feed) ((frameBytes (⟨1, 2, [97, 98]⟩ : Frame)) ++ ((frameBytes (⟨1, 2, [97, 98]⟩ : Frame)).take 5))).1) ((frameBytes (⟨1, 2, [97, 98]⟩ : Frame)).drop 5)).1)) (en_f cb91 rfl) rfl ?_)
  refine ow1 (op1_g rfl (by first | decide +kernel | (rw [hce]; decide +kernel)) rfl (lo_eql rfl rfl) ?_)
  refine ow1 (op1_l rfl (lo_pick_t (v := .bool _) rfl (by first | decide +kernel | (rw [hce]; decide +kernel)) rfl) ?_)
  refine ow1 (op1_l rfl (lo_assign (v := .bool _) rfl) ?_)
  refine ow_nil ?_
  refine seqK_n ?_
  refine cw_ret ?_
  refine fnK_r (res1 rfl (rv_t (v := .bool _) rfl)) (((HLe.refl _).trans hl4).trans hl10) ?_
  exact congrArg Value.bool (by first | decide +kernel | (rw [hce]; decide +kernel))

theorem l08_Awake (H : Hp)  (hCrc : GTab H 1 laidT) : Pr Tryd.prog 30 #[] H (.bool true) := by
  refine pr_cw Tryd.func30 rfl Tryd.ntmps30 rfl (fun N => ?_)
  refine cw_seq ?_
  refine cw_region ?_
  refine ow1 (op1_l rfl (lo_assign (v := .bool _) rfl) ?_)
  refine ow_nil ?_
  refine seqK_n ?_
  refine cw_seq ?_
  refine cw_region ?_
  refine ow1 (op1_pr (l08_awake _ hCrc) (en_f cb66 rfl) rfl ?_)
  refine ow1 (op1_l rfl (lo_assign (v := .bool _) rfl) ?_)
  refine ow_nil ?_
  refine seqK_n ?_
  refine cw_ret ?_
  refine fnK_r (res1 rfl (rv_t (v := .bool _) rfl)) (.refl _) ?_
  rfl

end Go.SW
