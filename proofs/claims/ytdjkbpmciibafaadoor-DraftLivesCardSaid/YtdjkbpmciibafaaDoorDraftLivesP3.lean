/-
  A part of the proof of DraftLives: The walks of this seat, printed by program: match.Rule.Check, match.Rule.heads, match.Rule.Goes. The walks of this seat, printed by program: stairwelllaw10.awake, stairwelllaw10.Awake, stairwelllaw11.awake, stairwelllaw11.Awake. The walks of this seat, printed by program: method.Same, stairwellref11.Same, match.Same, stairwelllaw11.Light, stairwelllaw11.To, method.Method.Rule, stairwelllaw11.MethodSame. The walks of this seat, printed by program: mail.Check, mail.Bytes, draft.Life, stairwellref26.Life, stairwelllaw13.awake, stairwelllaw13.Awake. The walks of this seat, printed by program: deed.maybe, deed.bound, deed.bit. The walks of this seat, printed by program: deed.sameBind, mail.Same, deed.Same. The walks of this seat, printed by program: deed.Deed.told. The walks of this seat, printed by program: deed.first, deed.Deed.Check. The walks of this seat, printed by program: api.Pair], deed.Deed].
-/
import Derived.Test.YtdjkbpmciibafaaDoorProg
import Derived.KernelRfl
import Derived.Test.YtdjkbpmciibafaaDoorDraftLivesP2
import Derived.Test.YtdjkbpmciibafaaDoorDraftLivesP1
set_option linter.unusedVariables false
set_option linter.unusedSimpArgs false
set_option linter.unusedVariables false
set_option maxRecDepth 100000
set_option maxHeartbeats 4000000
namespace Go.SW
open Go.Proofs
theorem ag32 : Ag Tryd.prog 32 false := fun w => by kernel_rfl
theorem ag4 : Ag Tryd.prog 4 false := fun w => by kernel_rfl
theorem ag86 : Ag Tryd.prog 86 true := fun w => by kernel_rfl
theorem cb43 : Callable Tryd.prog 43 := callable_of Tryd.func43 (by kernel_rfl) (by kernel_rfl)
theorem cb64 : Callable Tryd.prog 64 := callable_of Tryd.func64 (by kernel_rfl) (by kernel_rfl)
theorem cb70 : Callable Tryd.prog 70 := callable_of Tryd.func70 (by kernel_rfl) (by kernel_rfl)
theorem fl86_0 : Fld Tryd.prog 86 0 0 := fun b o w => by kernel_rfl
theorem fl86_1 : Fld Tryd.prog 86 1 1 := fun b o w => by kernel_rfl
theorem fl86_2 : Fld Tryd.prog 86 2 2 := fun b o w => by kernel_rfl
theorem fl86_3 : Fld Tryd.prog 86 3 3 := fun b o w => by kernel_rfl
theorem sz86 : Sz Tryd.prog 86 4 := fun w => by kernel_rfl
theorem rule_Check (H : Hp) (r : Rule) (r_want_a : Option Addr) (r_want_c : Nat) (r_want_h : SlH pairE 4 H (.slice r_want_a r.want.length r_want_c) r.want) (r_w : Rule.wf r) (hML : GInt H 0) : Pr Tryd.prog 50 #[.agg (Rule.cells r r_want_a r_want_c).toArray] H (.int .i64 (ruleE r)) := by
  refine pr_cw Tryd.func50 rfl Tryd.ntmps50 rfl (fun N => ?_)
  have r_w' := r_w
  simp only [Rule.wf] at r_w'
  refine cw_seq ?_
  refine cw_region ?_
  refine ow1 (op1_box (cs := [_, _, _, _]) 0 rfl rfl (fun b1 => ?_))
  refine ol rfl (lo_assign (v := .int _ _) rfl) ?_
  refine ow_nil ?_
  refine seqK_n ?_
  refine cw_seq ?_
  refine cw_region ?_
  refine ol rfl (lo_assign (v := .int _ _) rfl) ?_
  refine ow_nil ?_
  refine seqK_n ?_
  refine cw_seq ?_
  refine cw_block ?_
  refine cw_seq ?_
  refine cw_region ?_
  refine ol rfl (lo_fieldAddr rfl fl86_0) ?_
  refine ol rfl (lo_load1 (i := 0) (v := .int _ _) rfl ag5 rfl rfl) ?_
  refine ol rfl (lo_gtr rfl rfl) ?_
  refine ol rfl (lo_assign (v := .bool _) rfl) ?_
  refine ow_nil ?_
  refine seqK_n ?_
  refine cw_cond rfl (fun h2 => ?_) (fun h2 => ?_)
  · have p3 := dt h2
    refine cw_seq ?_
    refine cw_region ?_
    refine ol rfl (lo_assign (v := .int _ _) rfl) ?_
    refine ow_nil ?_
    refine seqK_n ?_
    refine cw_ret ?_
    refine blkK_r ?_
    refine seqK_r ?_
    refine fnK_r (res1 rfl (rv_t (v := .int _ _) rfl)) (.refl _) ?_
    refine congrArg (Value.int .i64) ?_
    unfold ruleE
    repeat (first | rw [if_pos (by omega)] | rw [if_neg (by omega)])
  have p4 := df h2
  refine cw_seq ?_
  refine cw_region ?_
  refine ol rfl (lo_fieldAddr rfl fl86_0) ?_
  refine ol rfl (lo_load1 (i := 0) (v := .int _ _) rfl ag5 rfl rfl) ?_
  refine ol rfl (lo_eql rfl rfl) ?_
  refine ol rfl (lo_assign (v := .bool _) rfl) ?_
  refine ow_nil ?_
  refine seqK_n ?_
  refine cw_cond rfl (fun h5 => ?_) (fun h5 => ?_)
  · have p6 := dt h5
    refine cw_region ?_
    refine ol rfl (lo_fieldAddr rfl fl86_1) ?_
    refine ol rfl (lo_load1 (i := 0) (v := str _) rfl ag9 rfl rfl) ?_
    refine ow1 (op1_pr (words_Key _ r.key hML) (en_f cb43 rfl) rfl ?_)
    refine ol rfl (lo_assign (v := .int _ _) rfl) ?_
    refine ow_nil ?_
    refine blkK_n ?_
    refine seqK_n ?_
    refine cw_seq ?_
    refine cw_seq ?_
    refine cw_region ?_
    refine ol rfl (lo_move (v := .int _ _) rfl) ?_
    refine ol rfl (lo_neq rfl rfl) ?_
    refine ow_nil ?_
    refine seqK_n ?_
    refine cw_cond rfl (fun h7 => ?_) (fun h7 => ?_)
    · have h8 := not_t h7
      have p9 := df h8
      refine cw_seq ?_
      refine cw_region ?_
      refine ol rfl (lo_move (v := .int _ _) rfl) ?_
      refine ol rfl (lo_assign (v := .int _ _) rfl) ?_
      refine ow_nil ?_
      refine seqK_n ?_
      refine cw_ret ?_
      refine seqK_r ?_
      refine fnK_r (res1 rfl (rv_t (v := .int _ _) rfl)) (.refl _) ?_
      refine congrArg (Value.int .i64) ?_
      unfold ruleE
      repeat (first | rw [if_pos (by omega)] | rw [if_neg (by omega)])
    have h10 := not_f h7
    have p11 := dt h10
    refine cw_skip ?_
    refine seqK_n ?_
    refine cw_seq ?_
    refine cw_region ?_
    refine ol rfl (lo_fieldAddr rfl fl86_2) ?_
    refine ol rfl (lo_load1 (i := 0) (v := .slice _ _ _) rfl ag32 rfl rfl) ?_
    refine ow1 (op1_pr (head_Check _ r_want_a r.want.length r_want_c r.want r_want_h (by first | omega | (simp <;> omega))) (en_f cb28 rfl) rfl ?_)
    refine ol rfl (lo_assign (v := .int _ _) rfl) ?_
    refine ow_nil ?_
    refine seqK_n ?_
    refine cw_ret ?_
    refine fnK_r (res1 rfl (rv_t (v := .int _ _) rfl)) (.refl _) ?_
    refine congrArg (Value.int .i64) ?_
    unfold ruleE
    repeat (first | rw [if_pos (by omega)] | rw [if_neg (by omega)])
  have p12 := df h5
  refine cw_region ?_
  refine ol rfl (lo_fieldAddr rfl fl86_1) ?_
  refine ol rfl (lo_load1 (i := 0) (v := str _) rfl ag9 rfl rfl) ?_
  refine ow1 (op1_pr (words_Pattern _ r.key hML) (en_f cb64 rfl) rfl ?_)
  refine ol rfl (lo_assign (v := .int _ _) rfl) ?_
  refine ow_nil ?_
  refine blkK_n ?_
  refine seqK_n ?_
  refine cw_seq ?_
  refine cw_seq ?_
  refine cw_region ?_
  refine ol rfl (lo_move (v := .int _ _) rfl) ?_
  refine ol rfl (lo_neq rfl rfl) ?_
  refine ow_nil ?_
  refine seqK_n ?_
  refine cw_cond rfl (fun h13 => ?_) (fun h13 => ?_)
  · have h14 := not_t h13
    have p15 := df h14
    refine cw_seq ?_
    refine cw_region ?_
    refine ol rfl (lo_move (v := .int _ _) rfl) ?_
    refine ol rfl (lo_assign (v := .int _ _) rfl) ?_
    refine ow_nil ?_
    refine seqK_n ?_
    refine cw_ret ?_
    refine seqK_r ?_
    refine fnK_r (res1 rfl (rv_t (v := .int _ _) rfl)) (.refl _) ?_
    refine congrArg (Value.int .i64) ?_
    unfold ruleE
    repeat (first | rw [if_pos (by omega)] | rw [if_neg (by omega)])
  have h16 := not_f h13
  have p17 := dt h16
  refine cw_skip ?_
  refine seqK_n ?_
  refine cw_seq ?_
  refine cw_region ?_
  refine ol rfl (lo_fieldAddr rfl fl86_2) ?_
  refine ol rfl (lo_load1 (i := 0) (v := .slice _ _ _) rfl ag32 rfl rfl) ?_
  refine ow1 (op1_pr (head_Check _ r_want_a r.want.length r_want_c r.want r_want_h (by first | omega | (simp <;> omega))) (en_f cb28 rfl) rfl ?_)
  refine ol rfl (lo_assign (v := .int _ _) rfl) ?_
  refine ow_nil ?_
  refine seqK_n ?_
  refine cw_ret ?_
  refine fnK_r (res1 rfl (rv_t (v := .int _ _) rfl)) (.refl _) ?_
  refine congrArg (Value.int .i64) ?_
  unfold ruleE
  repeat (first | rw [if_pos (by omega)] | rw [if_neg (by omega)])
theorem rule_heads (H : Hp) (r : Rule) (r_want_a : Option Addr) (r_want_c : Nat) (r_want_h : SlH pairE 4 H (.slice r_want_a r.want.length r_want_c) r.want) (r_w : Rule.wf r) (h_a : Option Addr) (h_l h_c : Nat) (h : List Pair) (h_h : SlH pairE 4 H (.slice h_a h_l h_c) h) (hl : h.length ≤ 9223372036854775807) : Pr Tryd.prog 70 #[.agg (Rule.cells r r_want_a r_want_c).toArray, .slice h_a h_l h_c] H (.bool (headsGo r.all h r.want)) := by
  refine pr_cw Tryd.func70 rfl Tryd.ntmps70 rfl (fun N => ?_)
  have r_w' := r_w
  simp only [Rule.wf] at r_w'
  refine cw_seq ?_
  refine cw_region ?_
  refine ow1 (op1_box (cs := [_, _, _, _]) 0 rfl rfl (fun b1 => ?_))
  refine ol rfl (lo_assign (v := .bool _) rfl) ?_
  refine ow_nil ?_
  refine seqK_n ?_
  refine cw_scope ?_
  refine cw_seq ?_
  refine cw_label ?_
  refine seqK_n ?_
  refine cw_seq ?_
  refine cw_seq ?_
  refine cw_region ?_
  refine ol rfl (lo_fieldAddr rfl fl86_2) ?_
  refine ol rfl (lo_load1 (i := 0) (v := .slice _ _ _) rfl ag32 rfl rfl) ?_
  refine ol rfl (lo_len_slh rfl r_want_h Tryd.underlying32) ?_
  refine ol rfl (lo_move (v := .int _ _) rfl) ?_
  refine ow_nil ?_
  refine seqK_n ?_
  refine cw_block ?_
  refine cw_loop1 [4, 6, 7, 8, 9, 13, 14, 15, 16, 17, 18, 19, 20, 21, 22, 23, 24, 25, 26, 27, 28, 29, 30, 31, 32, 33, 34, 35, 36, 37, 38, 39, 40, 41] [1, 2] (fun (k : Nat) G => upd (G) 13 (.int .i64 (k : Int))) (fun (k : Nat) G => G) (fun (k : Nat) H' => k ≤ r.want.length ∧ headsGo r.all h r.want = headsGo r.all h (r.want.drop k)) (fun (k : Nat) => r.want.length - k) 0 (upd_intro (mask_intro (by first | exact off_refl | (repeat (first | exact off_mask | refine off_upd rfl ?_ | refine off_mask2 rfl ?_)))) rfl) (lmask_intro offl_refl) ?_ ?_
  · exact ⟨Nat.zero_le _, rfl⟩
  intro k J3 JL3 H3 hp2 hl3
  obtain ⟨hk1, hk2⟩ := hp2
  refine cw_seq ?_
  refine cw_region ?_
  refine ol rfl (lo_lss rfl rfl) ?_
  refine ow_nil ?_
  refine seqK_n ?_
  refine cw_seq ?_
  refine cw_cond rfl (fun h4 => ?_) (fun h4 => ?_)
  · have p5 := dt h4
    refine cw_skip ?_
    refine seqK_n ?_
    refine cw_seq ?_
    refine cw_block ?_
    refine cw_seq ?_
    refine cw_region ?_
    obtain ⟨c6, hc7⟩ := getE (xs := r.want) (m := k) (by omega)
    obtain ⟨cs8, hE9, at10⟩ := (r_want_h.mono ((HLe.refl _).trans hl3) (fun _ _ h => h)).get hc7
    obtain ⟨rfl, c6_w⟩ := hE9
    have c6_w' := c6_w
    simp only [Pair.wf] at c6_w'
    refine ol rfl (lo_indexAddr rfl rfl (r_want_h.mono ((HLe.refl _).trans hl3) (fun _ _ h => h)).1 at10 Tryd.underlying32 sz64 (by omega) (by omega)) ?_
    refine ol rfl (lo_loadEA rfl ag64 sz64 at10) ?_
    refine ow1 (op1_alloc 1 rfl zr64 (fun b11 => ?_))
    refine ow1 (op1_storeAn (i := 1) (vs := [_, _, _, _]) [_, _, _, _] rfl rfl rfl sz64 rfl rfl rfl rfl ?_)
    refine ow_nil ?_
    refine seqK_n ?_
    refine cw_seq ?_
    refine cw_region ?_
    refine ol rfl (lo_move (v := .slice _ _ _) rfl) ?_
    refine ol rfl (lo_fieldAddr rfl fl64_0) ?_
    refine ol rfl (lo_load1 (i := 1) (v := str _) rfl ag9 rfl rfl) ?_
    refine ow1 (op1_pr (head_Find _ h_a h_l h_c h (h_h.mono ((HLe.refl _).trans hl3) (fun _ _ h => h)) c6.key (by first | omega | (simp <;> omega))) (en_f cb59 rfl) rfl ?_)
    refine ol rfl (lo_move (v := .tuple #[_, _]) rfl) ?_
    refine ol rfl (lo_extract (v := .agg #[_, _, _, _]) rfl rfl) ?_
    refine ol rfl (lo_extract (v := .bool _) rfl rfl) ?_
    refine ow1 (op1_alloc 2 rfl zr64 (fun b12 => ?_))
    refine ow1 (op1_storeAn (i := 2) (vs := [_, _, _, _]) [_, _, _, _] rfl rfl rfl sz64 rfl rfl rfl rfl ?_)
    refine ol rfl (lo_assign (v := .bool _) rfl) ?_
    refine ow_nil ?_
    refine seqK_n ?_
    refine cw_seq ?_
    refine cw_region ?_
    refine ol rfl (lo_move (v := .bool _) rfl) ?_
    refine ol rfl (lo_move (v := .bool _) rfl) ?_
    refine ow_sp (j := 1) rfl (fun h13 => ?_) (fun h13 => ?_)
    · refine ow1 (op1_g rfl h13 rfl (lo_loadA (i := 2) (vs := [_, _, _, _]) rfl ag64 sz64 rfl rfl rfl) ?_)
      refine ow1 (op1_g rfl h13 rfl (lo_loadA (i := 1) (vs := [_, _, _, _]) rfl ag64 sz64 rfl rfl rfl) ?_)
      refine ow1 (op1_g rfl h13 rfl (lo_aeql (u := (Pair.cells ((findP h c6.key).getD Pair.zero)).toArray) (v := (Pair.cells c6).toArray) rfl rfl eqg64 (eqr64 _ _ 9998)) ?_)
      refine ol rfl (lo_pick_t (v := .bool _) rfl h13 rfl) ?_
      refine ol rfl (lo_assign (v := .bool _) rfl) ?_
      refine ow_nil ?_
      refine seqK_n ?_
      refine cw_block ?_
      refine cw_seq ?_
      refine cw_region ?_
      refine ol rfl (lo_move (v := .bool _) rfl) ?_
      refine ol rfl (lo_move (v := .bool _) rfl) ?_
      refine ow_sp (j := 1) rfl (fun h14 => ?_) (fun h14 => ?_)
      · have p15 := dt h14
        refine ow1 (op1_g rfl h14 rfl (lo_fieldAddr rfl fl86_3) ?_)
        refine ow1 (op1_g rfl h14 rfl (lo_load1 (i := 0) (v := .bool _) rfl ag4 rfl rfl) ?_)
        refine ol rfl (lo_pick_t (v := .bool _) rfl h14 rfl) ?_
        refine ol rfl (lo_assign (v := .bool _) rfl) ?_
        refine ow_nil ?_
        refine seqK_n ?_
        refine cw_cond rfl (fun h16 => ?_) (fun h16 => ?_)
        · refine cw_exit ?_
          refine blkK_e rfl ?_
          refine blkK_hit ?_
          refine seqK_n ?_
          refine cw_region ?_
          refine ol rfl (lo_add rfl rfl (rg_i64 (by omega))) ?_
          refine ol rfl (lo_move (v := .int _ _) rfl) ?_
          refine ow_nil ?_
          refine next1 (k + 1) (upd_intro (mask_intro (by first | exact off_refl | (repeat (first | exact off_mask | refine off_upd rfl ?_ | refine off_mask2 rfl ?_)))) rfl) (lmask_intro (by first | exact offl_refl | (repeat (first | exact offl_mask | refine offl_upd rfl ?_ | refine offl_mask2 rfl ?_)))) hl3 ?_ ?_
          · refine ⟨by omega, ?_⟩
            rw [hk2, dropE hc7]
            simp only [headsGo, hasP, h4, h13, h14, h16, Bool.or_false, Bool.true_or, Bool.or_true, Bool.false_or, Bool.not_true, Bool.not_false, Bool.and_true, Bool.true_and, Bool.false_and, Bool.and_false, if_true, if_false, Bool.false_eq_true, Bool.true_eq_false, decide_true, decide_false]
          omega
        refine cw_seq ?_
        refine cw_region ?_
        refine ol rfl (lo_move (v := .bool _) rfl) ?_
        refine ol rfl (lo_assign (v := .bool _) rfl) ?_
        refine ow_nil ?_
        refine seqK_n ?_
        refine cw_cond_t rfl h14 ?_
        refine cw_seq ?_
        refine cw_region ?_
        refine ol rfl (lo_assign (v := .bool _) rfl) ?_
        refine ow_nil ?_
        refine seqK_n ?_
        refine cw_ret ?_
        refine blkK_r ?_
        refine blkK_r ?_
        refine seqK_r ?_
        refine loopK_r ?_
        refine blkK_r ?_
        refine seqK_r ?_
        refine scK_r ?_
        refine fnK_r (res1 rfl (rv_t (v := .bool _) rfl)) ((HLe.refl _).trans hl3) ?_
        refine congrArg Value.bool ?_
        rw [hk2, dropE hc7]
        simp only [headsGo, hasP, h4, h13, h14, h16, Bool.or_false, Bool.true_or, Bool.or_true, Bool.false_or, Bool.not_true, Bool.not_false, Bool.and_true, Bool.true_and, Bool.false_and, Bool.and_false, if_true, if_false, Bool.false_eq_true, Bool.true_eq_false, decide_true, decide_false]
      have p17 := df h14
      refine ow1 (op1_gs rfl h14 rfl ?_)
      refine ow1 (op1_gs rfl h14 rfl ?_)
      refine ol rfl (lo_pick_f (v := .bool _) rfl h14 rfl) ?_
      refine ol rfl (lo_assign (v := .bool _) rfl) ?_
      refine ow_nil ?_
      refine seqK_n ?_
      refine cw_cond_f rfl rfl ?_
      refine cw_seq ?_
      refine cw_region ?_
      refine ol rfl (lo_move (v := .bool _) rfl) ?_
      refine ol rfl (lo_assign (v := .bool _) rfl) ?_
      refine ow_nil ?_
      refine seqK_n ?_
      refine cw_cond_f rfl h14 ?_
      refine cw_seq ?_
      refine cw_region ?_
      refine ol rfl (lo_fieldAddr rfl fl86_3) ?_
      refine ol rfl (lo_load1 (i := 0) (v := .bool _) rfl ag4 rfl rfl) ?_
      refine ol rfl (lo_assign (v := .bool _) rfl) ?_
      refine ow_nil ?_
      refine seqK_n ?_
      refine cw_cond rfl (fun h18 => ?_) (fun h18 => ?_)
      · refine cw_seq ?_
        refine cw_region ?_
        refine ol rfl (lo_assign (v := .bool _) rfl) ?_
        refine ow_nil ?_
        refine seqK_n ?_
        refine cw_ret ?_
        refine blkK_r ?_
        refine blkK_r ?_
        refine seqK_r ?_
        refine loopK_r ?_
        refine blkK_r ?_
        refine seqK_r ?_
        refine scK_r ?_
        refine fnK_r (res1 rfl (rv_t (v := .bool _) rfl)) ((HLe.refl _).trans hl3) ?_
        refine congrArg Value.bool ?_
        rw [hk2, dropE hc7]
        simp only [headsGo, hasP, h4, h13, h14, h18, Bool.or_false, Bool.true_or, Bool.or_true, Bool.false_or, Bool.not_true, Bool.not_false, Bool.and_true, Bool.true_and, Bool.false_and, Bool.and_false, if_true, if_false, Bool.false_eq_true, Bool.true_eq_false, decide_true, decide_false]
      refine cw_skip ?_
      refine blkK_n ?_
      refine blkK_n ?_
      refine seqK_n ?_
      refine cw_region ?_
      refine ol rfl (lo_add rfl rfl (rg_i64 (by omega))) ?_
      refine ol rfl (lo_move (v := .int _ _) rfl) ?_
      refine ow_nil ?_
      refine next1 (k + 1) (upd_intro (mask_intro (by first | exact off_refl | (repeat (first | exact off_mask | refine off_upd rfl ?_ | refine off_mask2 rfl ?_)))) rfl) (lmask_intro (by first | exact offl_refl | (repeat (first | exact offl_mask | refine offl_upd rfl ?_ | refine offl_mask2 rfl ?_)))) hl3 ?_ ?_
      · refine ⟨by omega, ?_⟩
        rw [hk2, dropE hc7]
        simp only [headsGo, hasP, h4, h13, h14, h18, Bool.or_false, Bool.true_or, Bool.or_true, Bool.false_or, Bool.not_true, Bool.not_false, Bool.and_true, Bool.true_and, Bool.false_and, Bool.and_false, if_true, if_false, Bool.false_eq_true, Bool.true_eq_false, decide_true, decide_false]
      omega
    refine ow1 (op1_gs rfl h13 rfl ?_)
    refine ow1 (op1_gs rfl h13 rfl ?_)
    refine ow1 (op1_gs rfl h13 rfl ?_)
    refine ol rfl (lo_pick_f (v := .bool _) rfl h13 rfl) ?_
    refine ol rfl (lo_assign (v := .bool _) rfl) ?_
    refine ow_nil ?_
    refine seqK_n ?_
    refine cw_block ?_
    refine cw_seq ?_
    refine cw_region ?_
    refine ol rfl (lo_move (v := .bool _) rfl) ?_
    refine ol rfl (lo_move (v := .bool _) rfl) ?_
    refine ow1 (op1_gs rfl rfl rfl ?_)
    refine ow1 (op1_gs rfl rfl rfl ?_)
    refine ol rfl (lo_pick_f (v := .bool _) rfl rfl rfl) ?_
    refine ol rfl (lo_assign (v := .bool _) rfl) ?_
    refine ow_nil ?_
    refine seqK_n ?_
    refine cw_cond_f rfl rfl ?_
    refine cw_seq ?_
    refine cw_region ?_
    refine ol rfl (lo_move (v := .bool _) rfl) ?_
    refine ol rfl (lo_assign (v := .bool _) rfl) ?_
    refine ow_nil ?_
    refine seqK_n ?_
    refine cw_cond_f rfl rfl ?_
    refine cw_seq ?_
    refine cw_region ?_
    refine ol rfl (lo_fieldAddr rfl fl86_3) ?_
    refine ol rfl (lo_load1 (i := 0) (v := .bool _) rfl ag4 rfl rfl) ?_
    refine ol rfl (lo_assign (v := .bool _) rfl) ?_
    refine ow_nil ?_
    refine seqK_n ?_
    refine cw_cond rfl (fun h19 => ?_) (fun h19 => ?_)
    · refine cw_seq ?_
      refine cw_region ?_
      refine ol rfl (lo_assign (v := .bool _) rfl) ?_
      refine ow_nil ?_
      refine seqK_n ?_
      refine cw_ret ?_
      refine blkK_r ?_
      refine blkK_r ?_
      refine seqK_r ?_
      refine loopK_r ?_
      refine blkK_r ?_
      refine seqK_r ?_
      refine scK_r ?_
      refine fnK_r (res1 rfl (rv_t (v := .bool _) rfl)) ((HLe.refl _).trans hl3) ?_
      refine congrArg Value.bool ?_
      rw [hk2, dropE hc7]
      simp only [headsGo, hasP, h4, h13, h19, Bool.or_false, Bool.true_or, Bool.or_true, Bool.false_or, Bool.not_true, Bool.not_false, Bool.and_true, Bool.true_and, Bool.false_and, Bool.and_false, if_true, if_false, Bool.false_eq_true, Bool.true_eq_false, decide_true, decide_false]
    refine cw_skip ?_
    refine blkK_n ?_
    refine blkK_n ?_
    refine seqK_n ?_
    refine cw_region ?_
    refine ol rfl (lo_add rfl rfl (rg_i64 (by omega))) ?_
    refine ol rfl (lo_move (v := .int _ _) rfl) ?_
    refine ow_nil ?_
    refine next1 (k + 1) (upd_intro (mask_intro (by first | exact off_refl | (repeat (first | exact off_mask | refine off_upd rfl ?_ | refine off_mask2 rfl ?_)))) rfl) (lmask_intro (by first | exact offl_refl | (repeat (first | exact offl_mask | refine offl_upd rfl ?_ | refine offl_mask2 rfl ?_)))) hl3 ?_ ?_
    · refine ⟨by omega, ?_⟩
      rw [hk2, dropE hc7]
      simp only [headsGo, hasP, h4, h13, h19, Bool.or_false, Bool.true_or, Bool.or_true, Bool.false_or, Bool.not_true, Bool.not_false, Bool.and_true, Bool.true_and, Bool.false_and, Bool.and_false, if_true, if_false, Bool.false_eq_true, Bool.true_eq_false, decide_true, decide_false]
    omega
  have p20 := df h4
  refine cw_exit ?_
  refine seqK_e ?_
  refine loopK_e ?_
  refine blkK_hit ?_
  refine seqK_n ?_
  refine cw_seq ?_
  refine cw_region ?_
  refine ol rfl (lo_fieldAddr rfl fl86_3) ?_
  refine ol rfl (lo_load1 (i := 0) (v := .bool _) rfl ag4 rfl rfl) ?_
  refine ol rfl (lo_assign (v := .bool _) rfl) ?_
  refine ow_nil ?_
  refine seqK_n ?_
  refine cw_ret ?_
  refine scK_r ?_
  refine fnK_r (res1 rfl (rv_t (v := .bool _) rfl)) ((HLe.refl _).trans hl3) ?_
  refine congrArg Value.bool ?_
  rw [hk2, List.drop_of_length_le (by omega)]
  rfl
theorem rule_Goes (H : Hp) (r : Rule) (r_want_a : Option Addr) (r_want_c : Nat) (r_want_h : SlH pairE 4 H (.slice r_want_a r.want.length r_want_c) r.want) (r_w : Rule.wf r) (key : Bs) (h_a : Option Addr) (h_l h_c : Nat) (h : List Pair) (h_h : SlH pairE 4 H (.slice h_a h_l h_c) h) (hML : GInt H 0) (hrk : r.key.length < 4294967281) (hk : key.length < 4294967281) (hl : h.length ≤ 9223372036854775807) : Pr Tryd.prog 54 #[.agg (Rule.cells r r_want_a r_want_c).toArray, str key, .slice h_a h_l h_c] H (.bool (goesR r key h)) := by
  refine pr_cw Tryd.func54 rfl Tryd.ntmps54 rfl (fun N => ?_)
  have r_w' := r_w
  simp only [Rule.wf] at r_w'
  refine cw_seq ?_
  refine cw_region ?_
  refine ow1 (op1_box (cs := [_, _, _, _]) 0 rfl rfl (fun b1 => ?_))
  refine ol rfl (lo_assign (v := .bool _) rfl) ?_
  refine ow_nil ?_
  refine seqK_n ?_
  refine cw_seq ?_
  refine cw_seq ?_
  refine cw_region ?_
  refine ol rfl (lo_fieldAddr rfl fl86_0) ?_
  refine ol rfl (lo_load1 (i := 0) (v := .int _ _) rfl ag5 rfl rfl) ?_
  refine ow_nil ?_
  refine seqK_n ?_
  refine cw_block ?_
  refine cw_seq ?_
  refine cw_region ?_
  refine ol rfl (lo_eql rfl rfl) ?_
  refine ol rfl (lo_assign (v := .bool _) rfl) ?_
  refine ow_nil ?_
  refine seqK_n ?_
  refine cw_cond rfl (fun h2 => ?_) (fun h2 => ?_)
  · have p3 := dt h2
    refine cw_seq ?_
    refine cw_region ?_
    refine ol rfl (lo_move (v := str _) rfl) ?_
    refine ol rfl (lo_fieldAddr rfl fl86_1) ?_
    refine ol rfl (lo_load1 (i := 0) (v := str _) rfl ag9 rfl rfl) ?_
    refine ol rfl (lo_seql rfl rfl) ?_
    refine ol rfl (lo_assign (v := .bool _) rfl) ?_
    refine ow_nil ?_
    refine seqK_n ?_
    refine cw_ret ?_
    refine blkK_r ?_
    refine seqK_r ?_
    refine fnK_r (res1 rfl (rv_t (v := .bool _) rfl)) (.refl _) ?_
    first | (simp [goesR, *]; done) | (simp [goesR, *]; omega)
  have p4 := df h2
  refine cw_seq ?_
  refine cw_region ?_
  refine ol rfl (lo_eql rfl rfl) ?_
  refine ol rfl (lo_assign (v := .bool _) rfl) ?_
  refine ow_nil ?_
  refine seqK_n ?_
  refine cw_cond rfl (fun h5 => ?_) (fun h5 => ?_)
  · have p6 := dt h5
    refine cw_seq ?_
    refine cw_region ?_
    refine ol rfl (lo_fieldAddr rfl fl86_1) ?_
    refine ol rfl (lo_load1 (i := 0) (v := str _) rfl ag9 rfl rfl) ?_
    refine ol rfl (lo_move (v := str _) rfl) ?_
    refine ow1 (op1_pr (words_Matches _ r.key key hML (by first | omega | (simp; done) | decide) (by first | omega | (simp; done) | decide)) (en_f cb69 rfl) rfl ?_)
    refine ol rfl (lo_assign (v := .bool _) rfl) ?_
    refine ow_nil ?_
    refine seqK_n ?_
    refine cw_ret ?_
    refine blkK_r ?_
    refine seqK_r ?_
    refine fnK_r (res1 rfl (rv_t (v := .bool _) rfl)) (.refl _) ?_
    first | (simp [goesR, *]; done) | (simp [goesR, *]; omega)
  have p7 := df h5
  refine cw_seq ?_
  refine cw_region ?_
  refine ol rfl (lo_eql rfl rfl) ?_
  refine ol rfl (lo_assign (v := .bool _) rfl) ?_
  refine ow_nil ?_
  refine seqK_n ?_
  refine cw_cond rfl (fun h8 => ?_) (fun h8 => ?_)
  · have p9 := dt h8
    refine cw_seq ?_
    refine cw_region ?_
    refine ol rfl (lo_loadA (i := 0) (vs := [_, _, _, _]) rfl ag86 sz86 rfl rfl rfl) ?_
    refine ol rfl (lo_move (v := .slice _ _ _) rfl) ?_
    refine ow1 (op1_pr (rule_heads _ r r_want_a r_want_c r_want_h r_w h_a h_l h_c h h_h (by first | omega | (simp <;> omega))) (en_f cb70 rfl) rfl ?_)
    refine ol rfl (lo_assign (v := .bool _) rfl) ?_
    refine ow_nil ?_
    refine seqK_n ?_
    refine cw_ret ?_
    refine blkK_r ?_
    refine seqK_r ?_
    refine fnK_r (res1 rfl (rv_t (v := .bool _) rfl)) (.refl _) ?_
    first | (simp [goesR, *]; done) | (simp [goesR, *]; omega)
  have p10 := df h8
  refine cw_skip ?_
  refine blkK_n ?_
  refine seqK_n ?_
  refine cw_seq ?_
  refine cw_region ?_
  refine ol rfl (lo_assign (v := .bool _) rfl) ?_
  refine ow_nil ?_
  refine seqK_n ?_
  refine cw_ret ?_
  refine fnK_r (res1 rfl (rv_t (v := .bool _) rfl)) (.refl _) ?_
  first | (simp [goesR, *]; done) | (simp [goesR, *]; omega)
end Go.SW
set_option linter.unusedVariables false
set_option maxRecDepth 100000
set_option maxHeartbeats 4000000
namespace Go.SW
open Go.Proofs
theorem bd86_0u8_1s (a1 : Int) (a2 : Bs) (w : World) : (Instr.build 86 #[(0, .int .u8 a1), (1, str a2)]).run Tryd.prog w = .ok (.agg #[.int .u8 a1, str a2, .slice none 0 0, .bool false]) w := by kernel_rfl
theorem cb32 : Callable Tryd.prog 32 := callable_of Tryd.func32 (by kernel_rfl) (by kernel_rfl)
theorem cb50 : Callable Tryd.prog 50 := callable_of Tryd.func50 (by kernel_rfl) (by kernel_rfl)
theorem cb54 : Callable Tryd.prog 54 := callable_of Tryd.func54 (by kernel_rfl) (by kernel_rfl)
theorem cb57 : Callable Tryd.prog 57 := callable_of Tryd.func57 (by kernel_rfl) (by kernel_rfl)
theorem zr86 : Zr Tryd.prog 86 [.int .u8 0, str [], .slice none 0 0, .bool false] := fun w => ⟨.agg #[.int .u8 0, str [], .slice none 0 0, .bool false], by kernel_rfl, rfl⟩
theorem l10_awake (H : Hp)  (hML : GInt H 0) : Pr Tryd.prog 57 #[] H (.bool true) := by
  refine pr_cw Tryd.func57 rfl Tryd.ntmps57 rfl (fun N => ?_)
  refine cw_seq ?_
  refine cw_region ?_
  refine ol rfl (lo_assign (v := .bool _) rfl) ?_
  refine ow_nil ?_
  refine seqK_n ?_
  refine cw_seq ?_
  refine cw_region ?_
  refine ol rfl (lo_build (v := .agg #[_, _, _, _]) rfl (bd86_0u8_1s _ _)) ?_
  refine ow1 (op1_alloc 0 rfl zr86 (fun b1 => ?_))
  refine ow1 (op1_storeAn (i := 0) (vs := [_, _, _, _]) [_, _, _, _] rfl rfl rfl sz86 rfl rfl rfl rfl ?_)
  refine ow_nil ?_
  refine seqK_n ?_
  refine cw_seq ?_
  refine cw_region ?_
  refine ow1 (op1_pr (l04_Awake _ hML) (en_f cb36 rfl) rfl ?_)
  refine ol rfl (lo_move (v := .bool _) rfl) ?_
  refine ow1 (op1_prg rfl rfl (l09_Awake _ hML) (en_f cb32 rfl) rfl ?_)
  refine ol rfl (lo_pick_t (v := .bool _) rfl rfl rfl) ?_
  refine ol rfl (lo_move (v := .bool _) rfl) ?_
  refine ow1 (op1_g rfl rfl rfl (lo_loadA (i := 0) (vs := [_, _, _, _]) rfl ag86 sz86 rfl rfl rfl) ?_)
  refine ow1 (op1_prg rfl rfl (rule_Check _ (⟨2, [97, 46, 35], [], false⟩ : Rule) none 0 slh_nil (by simp only [Rule.wf]; first | omega | (simp; done) | (simp; omega)) hML) (en_f cb50 rfl) rfl ?_)
  refine ow1 (op1_g rfl rfl rfl (lo_eql rfl rfl) ?_)
  refine ol rfl (lo_pick_t (v := .bool _) rfl rfl rfl) ?_
  refine ol rfl (lo_move (v := .bool _) rfl) ?_
  refine ow1 (op1_g rfl (by decide +kernel) rfl (lo_loadA (i := 0) (vs := [_, _, _, _]) rfl ag86 sz86 rfl rfl rfl) ?_)
  refine ow1 (op1_prg rfl (by decide +kernel) (rule_Goes _ (⟨2, [97, 46, 35], [], false⟩ : Rule) none 0 slh_nil (by simp only [Rule.wf]; first | omega | (simp; done) | (simp; omega)) [97, 46, 98] none 0 0 [] slh_nil hML (by first | omega | (simp; done) | decide) (by first | omega | (simp; done) | decide) (by first | omega | (simp <;> omega))) (en_f cb54 rfl) rfl ?_)
  refine ol rfl (lo_pick_t (v := .bool _) rfl (by decide +kernel) rfl) ?_
  refine ol rfl (lo_move (v := .bool _) rfl) ?_
  refine ow1 (op1_g rfl (by decide +kernel) rfl (lo_loadA (i := 0) (vs := [_, _, _, _]) rfl ag86 sz86 rfl rfl rfl) ?_)
  refine ow1 (op1_prg rfl (by decide +kernel) (rule_Goes _ (⟨2, [97, 46, 35], [], false⟩ : Rule) none 0 slh_nil (by simp only [Rule.wf]; first | omega | (simp; done) | (simp; omega)) [98] none 0 0 [] slh_nil hML (by first | omega | (simp; done) | decide) (by first | omega | (simp; done) | decide) (by first | omega | (simp <;> omega))) (en_f cb54 rfl) rfl ?_)
  refine ow1 (op1_g rfl (by decide +kernel) rfl (lo_not rfl) ?_)
  refine ol rfl (lo_pick_t (v := .bool _) rfl (by decide +kernel) rfl) ?_
  refine ol rfl (lo_assign (v := .bool _) rfl) ?_
  refine ow_nil ?_
  refine seqK_n ?_
  refine cw_ret ?_
  refine fnK_r (res1 rfl (rv_t (v := .bool _) rfl)) (.refl _) ?_
  exact congrArg Value.bool (by decide +kernel)
theorem l10_Awake (H : Hp)  (hML : GInt H 0) : Pr Tryd.prog 37 #[] H (.bool true) := by
  refine pr_cw Tryd.func37 rfl Tryd.ntmps37 rfl (fun N => ?_)
  refine cw_seq ?_
  refine cw_region ?_
  refine ol rfl (lo_assign (v := .bool _) rfl) ?_
  refine ow_nil ?_
  refine seqK_n ?_
  refine cw_seq ?_
  refine cw_region ?_
  refine ow1 (op1_pr (l10_awake _ hML) (en_f cb57 rfl) rfl ?_)
  refine ol rfl (lo_assign (v := .bool _) rfl) ?_
  refine ow_nil ?_
  refine seqK_n ?_
  refine cw_ret ?_
  refine fnK_r (res1 rfl (rv_t (v := .bool _) rfl)) (.refl _) ?_
  rfl
end Go.SW
set_option linter.unusedVariables false
set_option maxRecDepth 100000
set_option maxHeartbeats 4000000
namespace Go.SW
open Go.Proofs
theorem match_Same (H : Hp) (a : Rule) (a_want_a : Option Addr) (a_want_c : Nat) (a_want_h : SlH pairE 4 H (.slice a_want_a a.want.length a_want_c) a.want) (a_w : Rule.wf a) (b : Rule) (b_want_a : Option Addr) (b_want_c : Nat) (b_want_h : SlH pairE 4 H (.slice b_want_a b.want.length b_want_c) b.want) (b_w : Rule.wf b) : Pr Tryd.prog 77 #[.agg (Rule.cells a a_want_a a_want_c).toArray, .agg (Rule.cells b b_want_a b_want_c).toArray] H (.bool (decide (a = b))) := by
  refine pr_cw Tryd.func77 rfl Tryd.ntmps77 rfl (fun N => ?_)
  have a_w' := a_w
  simp only [Rule.wf] at a_w'
  have b_w' := b_w
  simp only [Rule.wf] at b_w'
  refine cw_seq ?_
  refine cw_region ?_
  refine ow1 (op1_box (cs := [_, _, _, _]) 0 rfl rfl (fun b1 => ?_))
  refine ow1 (op1_box (cs := [_, _, _, _]) 1 rfl rfl (fun b2 => ?_))
  refine ol rfl (lo_assign (v := .bool _) rfl) ?_
  refine ow_nil ?_
  refine seqK_n ?_
  refine cw_seq ?_
  refine cw_region ?_
  refine ol rfl (lo_fieldAddr rfl fl86_0) ?_
  refine ol rfl (lo_load1 (i := 0) (v := .int _ _) rfl ag5 rfl rfl) ?_
  refine ol rfl (lo_fieldAddr rfl fl86_0) ?_
  refine ol rfl (lo_load1 (i := 1) (v := .int _ _) rfl ag5 rfl rfl) ?_
  refine ol rfl (lo_eql rfl rfl) ?_
  refine ol rfl (lo_move (v := .bool _) rfl) ?_
  refine ow_sp (j := 5) rfl (fun h3 => ?_) (fun h3 => ?_)
  · have p4 := dt h3
    refine ow1 (op1_g rfl h3 rfl (lo_fieldAddr rfl fl86_1) ?_)
    refine ow1 (op1_g rfl h3 rfl (lo_load1 (i := 0) (v := str _) rfl ag9 rfl rfl) ?_)
    refine ow1 (op1_g rfl h3 rfl (lo_fieldAddr rfl fl86_1) ?_)
    refine ow1 (op1_g rfl h3 rfl (lo_load1 (i := 1) (v := str _) rfl ag9 rfl rfl) ?_)
    refine ow1 (op1_g rfl h3 rfl (lo_seql rfl rfl) ?_)
    refine ol rfl (lo_pick_t (v := .bool _) rfl h3 rfl) ?_
    refine ol rfl (lo_move (v := .bool _) rfl) ?_
    refine ow_sp (j := 12) rfl (fun h5 => ?_) (fun h5 => ?_)
    · have p6 := dt h5
      refine ow1 (op1_g rfl h5 rfl (lo_fieldAddr rfl fl86_3) ?_)
      refine ow1 (op1_g rfl h5 rfl (lo_load1 (i := 0) (v := .bool _) rfl ag4 rfl rfl) ?_)
      refine ow1 (op1_g rfl h5 rfl (lo_fieldAddr rfl fl86_3) ?_)
      refine ow1 (op1_g rfl h5 rfl (lo_load1 (i := 1) (v := .bool _) rfl ag4 rfl rfl) ?_)
      refine ow1 (op1_g rfl h5 rfl (lo_beql rfl rfl Tryd.underlying4) ?_)
      refine ol rfl (lo_pick_t (v := .bool _) rfl h5 rfl) ?_
      refine ol rfl (lo_move (v := .bool _) rfl) ?_
      refine ow_sp (j := 19) rfl (fun h7 => ?_) (fun h7 => ?_)
      · have p8 := beqT h7
        refine ow1 (op1_g rfl h7 rfl (lo_fieldAddr rfl fl86_2) ?_)
        refine ow1 (op1_g rfl h7 rfl (lo_load1 (i := 0) (v := .slice _ _ _) rfl ag32 rfl rfl) ?_)
        refine ow1 (op1_g rfl h7 rfl (lo_fieldAddr rfl fl86_2) ?_)
        refine ow1 (op1_g rfl h7 rfl (lo_load1 (i := 1) (v := .slice _ _ _) rfl ag32 rfl rfl) ?_)
        refine ow1 (op1_prg rfl h7 (eq_Pair _ a_want_a a.want.length a_want_c a.want a_want_h b_want_a b.want.length b_want_c b.want b_want_h (by first | omega | (simp <;> omega))) (en_f cb72 rfl) rfl ?_)
        refine ol rfl (lo_pick_t (v := .bool _) rfl h7 rfl) ?_
        refine ol rfl (lo_assign (v := .bool _) rfl) ?_
        refine ow_nil ?_
        refine seqK_n ?_
        refine cw_ret ?_
        refine fnK_r (res1 rfl (rv_t (v := .bool _) rfl)) (.refl _) ?_
        first | (simp [Rule.eq_iff, *]; done)
      have p9 := beqF h7
      refine ow1 (op1_gs rfl h7 rfl ?_)
      refine ow1 (op1_gs rfl h7 rfl ?_)
      refine ow1 (op1_gs rfl h7 rfl ?_)
      refine ow1 (op1_gs rfl h7 rfl ?_)
      refine ow1 (op1_gs rfl h7 rfl ?_)
      refine ol rfl (lo_pick_f (v := .bool _) rfl h7 rfl) ?_
      refine ol rfl (lo_assign (v := .bool _) rfl) ?_
      refine ow_nil ?_
      refine seqK_n ?_
      refine cw_ret ?_
      refine fnK_r (res1 rfl (rv_t (v := .bool _) rfl)) (.refl _) ?_
      first | (simp [Rule.eq_iff, *]; done)
    have p10 := df h5
    refine ow1 (op1_gs rfl h5 rfl ?_)
    refine ow1 (op1_gs rfl h5 rfl ?_)
    refine ow1 (op1_gs rfl h5 rfl ?_)
    refine ow1 (op1_gs rfl h5 rfl ?_)
    refine ow1 (op1_gs rfl h5 rfl ?_)
    refine ol rfl (lo_pick_f (v := .bool _) rfl h5 rfl) ?_
    refine ol rfl (lo_move (v := .bool _) rfl) ?_
    refine ow1 (op1_gs rfl rfl rfl ?_)
    refine ow1 (op1_gs rfl rfl rfl ?_)
    refine ow1 (op1_gs rfl rfl rfl ?_)
    refine ow1 (op1_gs rfl rfl rfl ?_)
    refine ow1 (op1_gs rfl rfl rfl ?_)
    refine ol rfl (lo_pick_f (v := .bool _) rfl rfl rfl) ?_
    refine ol rfl (lo_assign (v := .bool _) rfl) ?_
    refine ow_nil ?_
    refine seqK_n ?_
    refine cw_ret ?_
    refine fnK_r (res1 rfl (rv_t (v := .bool _) rfl)) (.refl _) ?_
    first | (simp [Rule.eq_iff, *]; done)
  have p11 := df h3
  refine ow1 (op1_gs rfl h3 rfl ?_)
  refine ow1 (op1_gs rfl h3 rfl ?_)
  refine ow1 (op1_gs rfl h3 rfl ?_)
  refine ow1 (op1_gs rfl h3 rfl ?_)
  refine ow1 (op1_gs rfl h3 rfl ?_)
  refine ol rfl (lo_pick_f (v := .bool _) rfl h3 rfl) ?_
  refine ol rfl (lo_move (v := .bool _) rfl) ?_
  refine ow1 (op1_gs rfl rfl rfl ?_)
  refine ow1 (op1_gs rfl rfl rfl ?_)
  refine ow1 (op1_gs rfl rfl rfl ?_)
  refine ow1 (op1_gs rfl rfl rfl ?_)
  refine ow1 (op1_gs rfl rfl rfl ?_)
  refine ol rfl (lo_pick_f (v := .bool _) rfl rfl rfl) ?_
  refine ol rfl (lo_move (v := .bool _) rfl) ?_
  refine ow1 (op1_gs rfl rfl rfl ?_)
  refine ow1 (op1_gs rfl rfl rfl ?_)
  refine ow1 (op1_gs rfl rfl rfl ?_)
  refine ow1 (op1_gs rfl rfl rfl ?_)
  refine ow1 (op1_gs rfl rfl rfl ?_)
  refine ol rfl (lo_pick_f (v := .bool _) rfl rfl rfl) ?_
  refine ol rfl (lo_assign (v := .bool _) rfl) ?_
  refine ow_nil ?_
  refine seqK_n ?_
  refine cw_ret ?_
  refine fnK_r (res1 rfl (rv_t (v := .bool _) rfl)) (.refl _) ?_
  first | (simp [Rule.eq_iff, *]; done)
end Go.SW
set_option linter.unusedVariables false
set_option maxRecDepth 100000
set_option maxHeartbeats 4000000
namespace Go.SW
open Go.Proofs
theorem ag22 : Ag Tryd.prog 22 false := fun w => by kernel_rfl
theorem ag36 : Ag Tryd.prog 36 true := fun w => by kernel_rfl
theorem bd36_1s (a1 : Bs) (w : World) : (Instr.build 36 #[(1, str a1)]).run Tryd.prog w = .ok (.agg #[.int .u64 0, str a1, str [], .slice none 0 0, str [], .int .u64 0, .int .u8 0]) w := by kernel_rfl
theorem cb14 : Callable Tryd.prog 14 := callable_of Tryd.func14 (by kernel_rfl) (by kernel_rfl)
theorem cb20 : Callable Tryd.prog 20 := callable_of Tryd.func20 (by kernel_rfl) (by kernel_rfl)
theorem cb29 : Callable Tryd.prog 29 := callable_of Tryd.func29 (by kernel_rfl) (by kernel_rfl)
theorem fl36_0 : Fld Tryd.prog 36 0 0 := fun b o w => by kernel_rfl
theorem fl36_1 : Fld Tryd.prog 36 1 1 := fun b o w => by kernel_rfl
theorem fl36_2 : Fld Tryd.prog 36 2 2 := fun b o w => by kernel_rfl
theorem fl36_3 : Fld Tryd.prog 36 3 3 := fun b o w => by kernel_rfl
theorem fl36_4 : Fld Tryd.prog 36 4 4 := fun b o w => by kernel_rfl
theorem fl36_5 : Fld Tryd.prog 36 5 5 := fun b o w => by kernel_rfl
theorem fl36_6 : Fld Tryd.prog 36 6 6 := fun b o w => by kernel_rfl
theorem sz36 : Sz Tryd.prog 36 7 := fun w => by kernel_rfl
theorem mail_Check (H : Hp) (m : Mail) (m_head_a : Option Addr) (m_head_c : Nat) (m_head_h : SlH pairE 4 H (.slice m_head_a m.head.length m_head_c) m.head) (m_w : Mail.wf m) (hML : GInt H 0) : Pr Tryd.prog 29 #[.agg (Mail.cells m m_head_a m_head_c).toArray] H (.int .i64 (mailC m)) := by
  refine pr_cw Tryd.func29 rfl Tryd.ntmps29 rfl (fun N => ?_)
  have m_w' := m_w
  simp only [Mail.wf] at m_w'
  refine cw_seq ?_
  refine cw_region ?_
  refine ow1 (op1_box (cs := [_, _, _, _, _, _, _]) 0 rfl rfl (fun b1 => ?_))
  refine ol rfl (lo_assign (v := .int _ _) rfl) ?_
  refine ow_nil ?_
  refine seqK_n ?_
  refine cw_seq ?_
  refine cw_seq ?_
  refine cw_region ?_
  refine ol rfl (lo_fieldAddr rfl fl36_1) ?_
  refine ol rfl (lo_load1 (i := 0) (v := str _) rfl ag9 rfl rfl) ?_
  refine ow1 (op1_pr (words_Name _ m.shop (by first | omega | decide | (simp; done))) (en_f cb25 rfl) rfl ?_)
  refine ol rfl (lo_assign (v := .int _ _) rfl) ?_
  refine ow_nil ?_
  refine seqK_n ?_
  refine cw_seq ?_
  refine cw_region ?_
  refine ol rfl (lo_move (v := .int _ _) rfl) ?_
  refine ol rfl (lo_neq rfl rfl) ?_
  refine ow_nil ?_
  refine seqK_n ?_
  refine cw_cond rfl (fun h2 => ?_) (fun h2 => ?_)
  · have h3 := not_t h2
    have p4 := df h3
    refine cw_seq ?_
    refine cw_region ?_
    refine ol rfl (lo_move (v := .int _ _) rfl) ?_
    refine ol rfl (lo_assign (v := .int _ _) rfl) ?_
    refine ow_nil ?_
    refine seqK_n ?_
    refine cw_ret ?_
    refine seqK_r ?_
    refine fnK_r (res1 rfl (rv_t (v := .int _ _) rfl)) (.refl _) ?_
    refine congrArg (Value.int .i64) ?_
    unfold mailC
    repeat (first | rw [if_pos (by omega)] | rw [if_neg (by omega)])
  have h5 := not_f h2
  have p6 := dt h5
  refine cw_skip ?_
  refine seqK_n ?_
  refine cw_seq ?_
  refine cw_seq ?_
  refine cw_region ?_
  refine ol rfl (lo_fieldAddr rfl fl36_2) ?_
  refine ol rfl (lo_load1 (i := 0) (v := str _) rfl ag9 rfl rfl) ?_
  refine ow1 (op1_pr (words_Key _ m.key hML) (en_f cb43 rfl) rfl ?_)
  refine ol rfl (lo_assign (v := .int _ _) rfl) ?_
  refine ow_nil ?_
  refine seqK_n ?_
  refine cw_seq ?_
  refine cw_region ?_
  refine ol rfl (lo_move (v := .int _ _) rfl) ?_
  refine ol rfl (lo_neq rfl rfl) ?_
  refine ow_nil ?_
  refine seqK_n ?_
  refine cw_cond rfl (fun h7 => ?_) (fun h7 => ?_)
  · have h8 := not_t h7
    have p9 := df h8
    refine cw_seq ?_
    refine cw_region ?_
    refine ol rfl (lo_move (v := .int _ _) rfl) ?_
    refine ol rfl (lo_assign (v := .int _ _) rfl) ?_
    refine ow_nil ?_
    refine seqK_n ?_
    refine cw_ret ?_
    refine seqK_r ?_
    refine fnK_r (res1 rfl (rv_t (v := .int _ _) rfl)) (.refl _) ?_
    refine congrArg (Value.int .i64) ?_
    unfold mailC
    repeat (first | rw [if_pos (by omega)] | rw [if_neg (by omega)])
  have h10 := not_f h7
  have p11 := dt h10
  refine cw_skip ?_
  refine seqK_n ?_
  refine cw_seq ?_
  refine cw_seq ?_
  refine cw_region ?_
  refine ol rfl (lo_fieldAddr rfl fl36_3) ?_
  refine ol rfl (lo_load1 (i := 0) (v := .slice _ _ _) rfl ag32 rfl rfl) ?_
  refine ow1 (op1_pr (head_Check _ m_head_a m.head.length m_head_c m.head m_head_h (by first | omega | (simp <;> omega))) (en_f cb28 rfl) rfl ?_)
  refine ol rfl (lo_assign (v := .int _ _) rfl) ?_
  refine ow_nil ?_
  refine seqK_n ?_
  refine cw_block ?_
  refine cw_seq ?_
  refine cw_region ?_
  refine ol rfl (lo_move (v := .int _ _) rfl) ?_
  refine ol rfl (lo_neq rfl rfl) ?_
  refine ol rfl (lo_assign (v := .bool _) rfl) ?_
  refine ow_nil ?_
  refine seqK_n ?_
  refine cw_cond rfl (fun h12 => ?_) (fun h12 => ?_)
  · have h13 := not_t h12
    have p14 := df h13
    refine cw_seq ?_
    refine cw_region ?_
    refine ol rfl (lo_move (v := .int _ _) rfl) ?_
    refine ol rfl (lo_assign (v := .int _ _) rfl) ?_
    refine ow_nil ?_
    refine seqK_n ?_
    refine cw_ret ?_
    refine blkK_r ?_
    refine seqK_r ?_
    refine fnK_r (res1 rfl (rv_t (v := .int _ _) rfl)) (.refl _) ?_
    refine congrArg (Value.int .i64) ?_
    unfold mailC
    repeat (first | rw [if_pos (by omega)] | rw [if_neg (by omega)])
  have h15 := not_f h12
  have p16 := dt h15
  refine cw_seq ?_
  refine cw_region ?_
  refine ol rfl (lo_fieldAddr rfl fl36_4) ?_
  refine ol rfl (lo_load1 (i := 0) (v := str _) rfl ag9 rfl rfl) ?_
  refine ol rfl (lo_len_str rfl Tryd.underlying9) ?_
  refine ol rfl (lo_gtr rfl rfl) ?_
  refine ol rfl (lo_assign (v := .bool _) rfl) ?_
  refine ow_nil ?_
  refine seqK_n ?_
  refine cw_cond rfl (fun h17 => ?_) (fun h17 => ?_)
  · have p18 := dt h17
    refine cw_seq ?_
    refine cw_region ?_
    refine ol rfl (lo_assign (v := .int _ _) rfl) ?_
    refine ow_nil ?_
    refine seqK_n ?_
    refine cw_ret ?_
    refine blkK_r ?_
    refine seqK_r ?_
    refine fnK_r (res1 rfl (rv_t (v := .int _ _) rfl)) (.refl _) ?_
    refine congrArg (Value.int .i64) ?_
    unfold mailC
    repeat (first | rw [if_pos (by omega)] | rw [if_neg (by omega)])
  have p19 := df h17
  refine cw_seq ?_
  refine cw_region ?_
  refine ol rfl (lo_fieldAddr rfl fl36_6) ?_
  refine ol rfl (lo_load1 (i := 0) (v := .int _ _) rfl ag5 rfl rfl) ?_
  refine ol rfl (lo_gtr rfl rfl) ?_
  refine ol rfl (lo_assign (v := .bool _) rfl) ?_
  refine ow_nil ?_
  refine seqK_n ?_
  refine cw_cond rfl (fun h20 => ?_) (fun h20 => ?_)
  · have p21 := dt h20
    refine cw_seq ?_
    refine cw_region ?_
    refine ol rfl (lo_assign (v := .int _ _) rfl) ?_
    refine ow_nil ?_
    refine seqK_n ?_
    refine cw_ret ?_
    refine blkK_r ?_
    refine seqK_r ?_
    refine fnK_r (res1 rfl (rv_t (v := .int _ _) rfl)) (.refl _) ?_
    refine congrArg (Value.int .i64) ?_
    unfold mailC
    repeat (first | rw [if_pos (by omega)] | rw [if_neg (by omega)])
  have p22 := df h20
  refine cw_skip ?_
  refine blkK_n ?_
  refine seqK_n ?_
  refine cw_seq ?_
  refine cw_region ?_
  refine ol rfl (lo_assign (v := .int _ _) rfl) ?_
  refine ow_nil ?_
  refine seqK_n ?_
  refine cw_ret ?_
  refine fnK_r (res1 rfl (rv_t (v := .int _ _) rfl)) (.refl _) ?_
  refine congrArg (Value.int .i64) ?_
  unfold mailC
  repeat (first | rw [if_pos (by omega)] | rw [if_neg (by omega)])
theorem mail_Bytes (H : Hp) (m : Mail) (m_head_a : Option Addr) (m_head_c : Nat) (m_head_h : SlH pairE 4 H (.slice m_head_a m.head.length m_head_c) m.head) (m_w : Mail.wf m) (hML : GInt H 0) : Pr Tryd.prog 14 #[.agg (Mail.cells m m_head_a m_head_c).toArray] H (.tuple #[str (mailBytes m), .int .i64 (mailC m)]) := by
  refine pr_cw Tryd.func14 rfl Tryd.ntmps14 rfl (fun N => ?_)
  have m_w' := m_w
  simp only [Mail.wf] at m_w'
  refine cw_seq ?_
  refine cw_region ?_
  refine ow1 (op1_box (cs := [_, _, _, _, _, _, _]) 0 rfl rfl (fun b1 => ?_))
  refine ol rfl (lo_assign (v := str _) rfl) ?_
  refine ol rfl (lo_assign (v := .int _ _) rfl) ?_
  refine ow_nil ?_
  refine seqK_n ?_
  refine cw_seq ?_
  refine cw_seq ?_
  refine cw_region ?_
  refine ol rfl (lo_loadA (i := 0) (vs := [_, _, _, _, _, _, _]) rfl ag36 sz36 rfl rfl rfl) ?_
  refine ow1 (op1_pr (mail_Check _ m m_head_a m_head_c m_head_h m_w hML) (en_f cb29 rfl) rfl ?_)
  have := mailC_r m
  have hmo1 := fun h => mailC_ok (m := m) h
  refine ol rfl (lo_assign (v := .int _ _) rfl) ?_
  refine ow_nil ?_
  refine seqK_n ?_
  refine cw_seq ?_
  refine cw_region ?_
  refine ol rfl (lo_move (v := .int _ _) rfl) ?_
  refine ol rfl (lo_neq rfl rfl) ?_
  refine ow_nil ?_
  refine seqK_n ?_
  refine cw_cond rfl (fun h2 => ?_) (fun h2 => ?_)
  · have h3 := not_t h2
    have p4 := df h3
    refine cw_seq ?_
    refine cw_region ?_
    refine ol rfl (lo_move (v := .int _ _) rfl) ?_
    refine ol rfl (lo_assign (v := str _) rfl) ?_
    refine ol rfl (lo_assign (v := .int _ _) rfl) ?_
    refine ow_nil ?_
    refine seqK_n ?_
    refine cw_ret ?_
    refine seqK_r ?_
    refine fnK_r (res2 rfl (rv_t (v := str _) rfl) (rv_t (v := .int _ _) rfl)) (.refl _) ?_
    simp [mailBytes, mailOut, *]
  have h5 := not_f h2
  have p6 := dt h5
  refine cw_skip ?_
  refine seqK_n ?_
  refine cw_seq ?_
  refine cw_region ?_
  refine ol rfl (lo_fieldAddr rfl fl36_3) ?_
  refine ol rfl (lo_load1 (i := 0) (v := .slice _ _ _) rfl ag32 rfl rfl) ?_
  refine ow1 (op1_pr (head_Bytes _ m_head_a m.head.length m_head_c m.head m_head_h (by first | omega | (simp <;> omega))) (en_f cb16 rfl) rfl ?_)
  have := headBytes_len m.head
  refine ol rfl (lo_move (v := .tuple #[_, _]) rfl) ?_
  refine ol rfl (lo_extract (v := str _) rfl rfl) ?_
  refine ol rfl (lo_extract (v := .int _ _) rfl rfl) ?_
  refine ol rfl (lo_assign (v := str _) rfl) ?_
  refine ol rfl (lo_assign (v := .int _ _) rfl) ?_
  refine ow_nil ?_
  refine seqK_n ?_
  refine cw_seq ?_
  refine cw_anyL mixd ?_
  refine vw_q 0 rfl (by kernel_rfl) (by repeat (first | exact lle_l0 | exact LLe.refl _ | exact lle_none | refine lle_up ?_ rfl)) (fun _ _ hh hl => lo_build (v := .agg #[_, _]) rfl (bd42)) ?_
  refine vw_q 1 rfl (by kernel_rfl) (by repeat (first | exact lle_l0 | exact LLe.refl _ | exact lle_none | refine lle_up ?_ rfl)) (fun _ _ hh hl => lo_fieldAddr rfl fl36_0) ?_
  refine vw_q 2 rfl (by kernel_rfl) (by repeat (first | exact lle_l0 | exact LLe.refl _ | exact lle_none | refine lle_up ?_ rfl)) (fun _ _ hh hl => lo_load1 (i := 0) (v := .int _ _) rfl ag22 (hl _ _ rfl) rfl) ?_
  have nl0 : (⟨[], 0⟩ : Out).s.length = 0 := rfl
  have := outNum_len (⟨[], 0⟩ : Out) m.id 8
  refine vw_qc 3 rfl (by kernel_rfl) (by repeat (first | exact lle_l0 | exact LLe.refl _ | exact lle_none | refine lle_up ?_ rfl)) (out_Num _ (⟨[], 0⟩ : Out) m.id (by omega) 8 (by omega) (by first | omega | (have := hrl (by assumption); omega) | (simp [outNum, outRaw, numB_len, numK] <;> omega) | (have := hrl (by assumption); simp [outNum, outRaw, numB_len, numK] <;> omega))) (en_f cb13 rfl) ?_
  refine vw_q 4 rfl (by kernel_rfl) (by repeat (first | exact lle_l0 | exact LLe.refl _ | exact lle_none | refine lle_up ?_ rfl)) (fun _ _ hh hl => lo_fieldAddr rfl fl36_1) ?_
  refine vw_q 5 rfl (by kernel_rfl) (by repeat (first | exact lle_l0 | exact LLe.refl _ | exact lle_none | refine lle_up ?_ rfl)) (fun _ _ hh hl => lo_load1 (i := 0) (v := str _) rfl ag9 (hl _ _ rfl) rfl) ?_
  have := outText_len (outNum (⟨[], 0⟩ : Out) m.id 8) m.shop
  refine vw_qc 6 rfl (by kernel_rfl) (by repeat (first | exact lle_l0 | exact LLe.refl _ | exact lle_none | refine lle_up ?_ rfl)) (out_Text _ (outNum (⟨[], 0⟩ : Out) m.id 8) m.shop (by first | omega | (have := hrl (by assumption); omega) | (simp [outNum, outRaw, numB_len, numK] <;> omega) | (have := hrl (by assumption); simp [outNum, outRaw, numB_len, numK] <;> omega))) (en_f cb15 rfl) ?_
  refine vw_q 7 rfl (by kernel_rfl) (by repeat (first | exact lle_l0 | exact LLe.refl _ | exact lle_none | refine lle_up ?_ rfl)) (fun _ _ hh hl => lo_fieldAddr rfl fl36_2) ?_
  refine vw_q 8 rfl (by kernel_rfl) (by repeat (first | exact lle_l0 | exact LLe.refl _ | exact lle_none | refine lle_up ?_ rfl)) (fun _ _ hh hl => lo_load1 (i := 0) (v := str _) rfl ag9 (hl _ _ rfl) rfl) ?_
  have := outText_len (outText (outNum (⟨[], 0⟩ : Out) m.id 8) m.shop) m.key
  refine vw_qc 9 rfl (by kernel_rfl) (by repeat (first | exact lle_l0 | exact LLe.refl _ | exact lle_none | refine lle_up ?_ rfl)) (out_Text _ (outText (outNum (⟨[], 0⟩ : Out) m.id 8) m.shop) m.key (by first | omega | (have := hrl (by assumption); omega) | (simp [outNum, outRaw, numB_len, numK] <;> omega) | (have := hrl (by assumption); simp [outNum, outRaw, numB_len, numK] <;> omega))) (en_f cb15 rfl) ?_
  refine vw_q 10 rfl (by kernel_rfl) (by repeat (first | exact lle_l0 | exact LLe.refl _ | exact lle_none | refine lle_up ?_ rfl)) (fun _ _ hh hl => lo_move (v := str _) rfl) ?_
  have := outRaw_len (outText (outText (outNum (⟨[], 0⟩ : Out) m.id 8) m.shop) m.key) (headBytes m.head)
  refine vw_qc 11 rfl (by kernel_rfl) (by repeat (first | exact lle_l0 | exact LLe.refl _ | exact lle_none | refine lle_up ?_ rfl)) (out_Raw _ (outText (outText (outNum (⟨[], 0⟩ : Out) m.id 8) m.shop) m.key) (headBytes m.head) (by first | omega | (have := hrl (by assumption); omega) | (simp [outNum, outRaw, numB_len, numK] <;> omega) | (have := hrl (by assumption); simp [outNum, outRaw, numB_len, numK] <;> omega))) (en_f cb18 rfl) ?_
  refine vw_q 12 rfl (by kernel_rfl) (by repeat (first | exact lle_l0 | exact LLe.refl _ | exact lle_none | refine lle_up ?_ rfl)) (fun _ _ hh hl => lo_fieldAddr rfl fl36_4) ?_
  refine vw_q 13 rfl (by kernel_rfl) (by repeat (first | exact lle_l0 | exact LLe.refl _ | exact lle_none | refine lle_up ?_ rfl)) (fun _ _ hh hl => lo_load1 (i := 0) (v := str _) rfl ag9 (hl _ _ rfl) rfl) ?_
  have := outText_len (outRaw (outText (outText (outNum (⟨[], 0⟩ : Out) m.id 8) m.shop) m.key) (headBytes m.head)) m.body
  refine vw_qc 14 rfl (by kernel_rfl) (by repeat (first | exact lle_l0 | exact LLe.refl _ | exact lle_none | refine lle_up ?_ rfl)) (out_Text _ (outRaw (outText (outText (outNum (⟨[], 0⟩ : Out) m.id 8) m.shop) m.key) (headBytes m.head)) m.body (by first | omega | (have := hrl (by assumption); omega) | (simp [outNum, outRaw, numB_len, numK] <;> omega) | (have := hrl (by assumption); simp [outNum, outRaw, numB_len, numK] <;> omega))) (en_f cb15 rfl) ?_
  refine vw_e 15 rfl (by kernel_rfl) (op1_alloc 1 rfl zr42 (fun b7 => ?_))
  refine ⟨⟨(.refl _), (by repeat (first | exact lle_l0 | exact LLe.refl _ | exact lle_none | refine lle_up ?_ rfl))⟩, ?_⟩
  refine vw_t 16 rfl (by kernel_rfl) (by kernel_rfl) (op1_storeAn (i := 1) (vs := [_, _]) [_, _] rfl rfl rfl sz42 rfl rfl rfl rfl ?_)
  refine vw_done (by kernel_rfl) ?_
  refine seqK_n ?_
  refine cw_seq ?_
  refine cw_anyL mixd ?_
  refine vw_q 0 rfl (by kernel_rfl) (by repeat (first | exact lle_l0 | exact LLe.refl _ | exact lle_none | refine lle_up ?_ rfl)) (fun _ _ hh hl => lo_loadA (i := 1) (vs := [_, _]) rfl ag42 sz42 (hl _ _ rfl) rfl rfl) ?_
  refine vw_q 1 rfl (by kernel_rfl) (by repeat (first | exact lle_l0 | exact LLe.refl _ | exact lle_none | refine lle_up ?_ rfl)) (fun _ _ hh hl => lo_fieldAddr rfl fl36_5) ?_
  refine vw_q 2 rfl (by kernel_rfl) (by repeat (first | exact lle_l0 | exact LLe.refl _ | exact lle_none | refine lle_up ?_ rfl)) (fun _ _ hh hl => lo_load1 (i := 0) (v := .int _ _) rfl ag22 (hl _ _ rfl) rfl) ?_
  have := outNum_len (outText (outRaw (outText (outText (outNum (⟨[], 0⟩ : Out) m.id 8) m.shop) m.key) (headBytes m.head)) m.body) m.due 8
  refine vw_qc 3 rfl (by kernel_rfl) (by repeat (first | exact lle_l0 | exact LLe.refl _ | exact lle_none | refine lle_up ?_ rfl)) (out_Num _ (outText (outRaw (outText (outText (outNum (⟨[], 0⟩ : Out) m.id 8) m.shop) m.key) (headBytes m.head)) m.body) m.due (by omega) 8 (by omega) (by first | omega | (have := hrl (by assumption); omega) | (simp [outNum, outRaw, numB_len, numK] <;> omega) | (have := hrl (by assumption); simp [outNum, outRaw, numB_len, numK] <;> omega))) (en_f cb13 rfl) ?_
  refine vw_q 4 rfl (by kernel_rfl) (by repeat (first | exact lle_l0 | exact LLe.refl _ | exact lle_none | refine lle_up ?_ rfl)) (fun _ _ hh hl => lo_fieldAddr rfl fl36_6) ?_
  refine vw_q 5 rfl (by kernel_rfl) (by repeat (first | exact lle_l0 | exact LLe.refl _ | exact lle_none | refine lle_up ?_ rfl)) (fun _ _ hh hl => lo_load1 (i := 0) (v := .int _ _) rfl ag5 (hl _ _ rfl) rfl) ?_
  refine vw_q 6 rfl (by kernel_rfl) (by repeat (first | exact lle_l0 | exact LLe.refl _ | exact lle_none | refine lle_up ?_ rfl)) (fun _ _ hh hl => lo_conv_in rfl (by rw [Tryd.underlying5]; rfl) Tryd.underlying22 (rg_u64 (by omega))) ?_
  have := outNum_len (outNum (outText (outRaw (outText (outText (outNum (⟨[], 0⟩ : Out) m.id 8) m.shop) m.key) (headBytes m.head)) m.body) m.due 8) m.hops 1
  refine vw_qc 7 rfl (by kernel_rfl) (by repeat (first | exact lle_l0 | exact LLe.refl _ | exact lle_none | refine lle_up ?_ rfl)) (out_Num _ (outNum (outText (outRaw (outText (outText (outNum (⟨[], 0⟩ : Out) m.id 8) m.shop) m.key) (headBytes m.head)) m.body) m.due 8) m.hops (by omega) 1 (by omega) (by first | omega | (have := hrl (by assumption); omega) | (simp [outNum, outRaw, numB_len, numK] <;> omega) | (have := hrl (by assumption); simp [outNum, outRaw, numB_len, numK] <;> omega))) (en_f cb13 rfl) ?_
  refine vw_qc 8 rfl (by kernel_rfl) (by repeat (first | exact lle_l0 | exact LLe.refl _ | exact lle_none | refine lle_up ?_ rfl)) (out_String _ (outNum (outNum (outText (outRaw (outText (outText (outNum (⟨[], 0⟩ : Out) m.id 8) m.shop) m.key) (headBytes m.head)) m.body) m.due 8) m.hops 1)) (en_f cb19 rfl) ?_
  refine vw_q 9 rfl (by kernel_rfl) (by repeat (first | exact lle_l0 | exact LLe.refl _ | exact lle_none | refine lle_up ?_ rfl)) (fun _ _ hh hl => lo_assign (v := str _) rfl) ?_
  refine vw_q 10 rfl (by kernel_rfl) (by repeat (first | exact lle_l0 | exact LLe.refl _ | exact lle_none | refine lle_up ?_ rfl)) (fun _ _ hh hl => lo_assign (v := .int _ _) rfl) ?_
  refine vw_done (by kernel_rfl) ?_
  refine seqK_n ?_
  refine cw_ret ?_
  refine fnK_r (res2 rfl (rv_t (v := str _) rfl) (rv_t (v := .int _ _) rfl)) (.refl _) ?_
  simp [mailBytes, mailOut, *]
theorem draft_Life (H : Hp) (tick : Int) (tick_r : 0 ≤ tick ∧ tick ≤ 18446744073709551615) (life : Int) (life_r : 0 ≤ life ∧ life ≤ 18446744073709551615) : Pr Tryd.prog 5 #[.int .u64 tick, .int .u64 life] H (.int .u64 (lifeN tick life)) := by
  refine pr_cw Tryd.func5 rfl Tryd.ntmps5 rfl (fun N => ?_)
  refine cw_seq ?_
  refine cw_region ?_
  refine ol rfl (lo_assign (v := .int _ _) rfl) ?_
  refine ow_nil ?_
  refine seqK_n ?_
  refine cw_seq ?_
  refine cw_seq ?_
  refine cw_region ?_
  refine ol rfl (lo_move (v := .int _ _) rfl) ?_
  refine ol rfl (lo_eql rfl rfl) ?_
  refine ol rfl (lo_move (v := .bool _) rfl) ?_
  refine ow_sp (j := 2) rfl (fun h1 => ?_) (fun h1 => ?_)
  · have p2 := dt h1
    refine ow1 (op1_gs rfl h1 rfl ?_)
    refine ow1 (op1_gs rfl h1 rfl ?_)
    refine ow1 (op1_gs rfl h1 rfl ?_)
    refine ow1 (op1_gs rfl h1 rfl ?_)
    refine ol rfl (lo_pick_t (v := .bool _) rfl h1 rfl) ?_
    refine ow_nil ?_
    refine seqK_n ?_
    refine cw_cond_t rfl rfl ?_
    refine cw_seq ?_
    refine cw_region ?_
    refine ol rfl (lo_assign (v := .int _ _) rfl) ?_
    refine ow_nil ?_
    refine seqK_n ?_
    refine cw_ret ?_
    refine seqK_r ?_
    refine fnK_r (res1 rfl (rv_t (v := .int _ _) rfl)) (.refl _) ?_
    refine congrArg (Value.int .u64) ?_
    unfold lifeN
    first | rw [if_pos (by omega)] | rw [if_neg (by omega)]
  have p3 := df h1
  refine ow1 (op1_g rfl h1 rfl (lo_move (v := .int _ _) rfl) ?_)
  refine ow1 (op1_g rfl h1 rfl (lo_move (v := .int _ _) rfl) ?_)
  refine ow1 (op1_g rfl h1 rfl (lo_sub rfl rfl (rg_u64 (by omega))) ?_)
  refine ow1 (op1_g rfl h1 rfl (lo_gtr rfl rfl) ?_)
  refine ol rfl (lo_pick_f (v := .bool _) rfl h1 rfl) ?_
  refine ow_nil ?_
  refine seqK_n ?_
  refine cw_cond rfl (fun h4 => ?_) (fun h4 => ?_)
  · have p5 := dt h4
    refine cw_seq ?_
    refine cw_region ?_
    refine ol rfl (lo_assign (v := .int _ _) rfl) ?_
    refine ow_nil ?_
    refine seqK_n ?_
    refine cw_ret ?_
    refine seqK_r ?_
    refine fnK_r (res1 rfl (rv_t (v := .int _ _) rfl)) (.refl _) ?_
    refine congrArg (Value.int .u64) ?_
    unfold lifeN
    first | rw [if_pos (by omega)] | rw [if_neg (by omega)]
  have p6 := df h4
  refine cw_skip ?_
  refine seqK_n ?_
  refine cw_seq ?_
  refine cw_region ?_
  refine ol rfl (lo_move (v := .int _ _) rfl) ?_
  refine ol rfl (lo_move (v := .int _ _) rfl) ?_
  refine ol rfl (lo_add rfl rfl (rg_u64 (by omega))) ?_
  refine ol rfl (lo_assign (v := .int _ _) rfl) ?_
  refine ow_nil ?_
  refine seqK_n ?_
  refine cw_ret ?_
  refine fnK_r (res1 rfl (rv_t (v := .int _ _) rfl)) (.refl _) ?_
  refine congrArg (Value.int .u64) ?_
  unfold lifeN
  first | rw [if_pos (by omega)] | rw [if_neg (by omega)]
theorem r26_Life (H : Hp) (tick : Int) (tick_r : 0 ≤ tick ∧ tick ≤ 18446744073709551615) (life : Int) (life_r : 0 ≤ life ∧ life ≤ 18446744073709551615) : Pr Tryd.prog 6 #[.int .u64 tick, .int .u64 life] H (.int .u64 (lifeN tick life)) := by
  refine pr_cw Tryd.func6 rfl Tryd.ntmps6 rfl (fun N => ?_)
  refine cw_seq ?_
  refine cw_region ?_
  refine ol rfl (lo_assign (v := .int _ _) rfl) ?_
  refine ow_nil ?_
  refine seqK_n ?_
  refine cw_seq ?_
  refine cw_region ?_
  refine ol rfl (lo_move (v := .int _ _) rfl) ?_
  refine ol rfl (lo_move (v := .int _ _) rfl) ?_
  have := wr_u64 (tick + life)
  refine ol rfl (lo_add_w rfl rfl) ?_
  refine ol rfl (lo_assign (v := .int _ _) rfl) ?_
  refine ow_nil ?_
  refine seqK_n ?_
  refine cw_seq ?_
  refine cw_seq ?_
  refine cw_region ?_
  refine ol rfl (lo_move (v := .int _ _) rfl) ?_
  refine ol rfl (lo_eql rfl rfl) ?_
  refine ol rfl (lo_move (v := .bool _) rfl) ?_
  refine ow_sp (j := 2) rfl (fun h1 => ?_) (fun h1 => ?_)
  · have p2 := dt h1
    refine ow1 (op1_gs rfl h1 rfl ?_)
    refine ow1 (op1_gs rfl h1 rfl ?_)
    refine ow1 (op1_gs rfl h1 rfl ?_)
    refine ol rfl (lo_pick_t (v := .bool _) rfl h1 rfl) ?_
    refine ow_nil ?_
    refine seqK_n ?_
    refine cw_cond_t rfl rfl ?_
    refine cw_seq ?_
    refine cw_region ?_
    refine ol rfl (lo_assign (v := .int _ _) rfl) ?_
    refine ow_nil ?_
    refine seqK_n ?_
    refine cw_ret ?_
    refine seqK_r ?_
    refine fnK_r (res1 rfl (rv_t (v := .int _ _) rfl)) (.refl _) ?_
    refine congrArg (Value.int .u64) ?_
    have hw := life_wrap tick_r.1 tick_r.2 life_r.1 life_r.2
    unfold lifeN
    split at hw <;> first | (rw [if_pos (by omega)]; done) | (rw [if_neg (by omega)]; omega)
  have p3 := df h1
  refine ow1 (op1_g rfl h1 rfl (lo_move (v := .int _ _) rfl) ?_)
  refine ow1 (op1_g rfl h1 rfl (lo_move (v := .int _ _) rfl) ?_)
  refine ow1 (op1_g rfl h1 rfl (lo_lss rfl rfl) ?_)
  refine ol rfl (lo_pick_f (v := .bool _) rfl h1 rfl) ?_
  refine ow_nil ?_
  refine seqK_n ?_
  refine cw_cond rfl (fun h4 => ?_) (fun h4 => ?_)
  · have p5 := dt h4
    refine cw_seq ?_
    refine cw_region ?_
    refine ol rfl (lo_assign (v := .int _ _) rfl) ?_
    refine ow_nil ?_
    refine seqK_n ?_
    refine cw_ret ?_
    refine seqK_r ?_
    refine fnK_r (res1 rfl (rv_t (v := .int _ _) rfl)) (.refl _) ?_
    refine congrArg (Value.int .u64) ?_
    have hw := life_wrap tick_r.1 tick_r.2 life_r.1 life_r.2
    unfold lifeN
    split at hw <;> first | (rw [if_pos (by omega)]; done) | (rw [if_neg (by omega)]; omega)
  have p6 := df h4
  refine cw_skip ?_
  refine seqK_n ?_
  refine cw_seq ?_
  refine cw_region ?_
  refine ol rfl (lo_move (v := .int _ _) rfl) ?_
  refine ol rfl (lo_assign (v := .int _ _) rfl) ?_
  refine ow_nil ?_
  refine seqK_n ?_
  refine cw_ret ?_
  refine fnK_r (res1 rfl (rv_t (v := .int _ _) rfl)) (.refl _) ?_
  refine congrArg (Value.int .u64) ?_
  have hw := life_wrap tick_r.1 tick_r.2 life_r.1 life_r.2
  unfold lifeN
  split at hw <;> first | (rw [if_pos (by omega)]; done) | (rw [if_neg (by omega)]; omega)
theorem l13_awake (H : Hp)  (hML : GInt H 0) : Pr Tryd.prog 20 #[] H (.bool true) := by
  refine pr_cw Tryd.func20 rfl Tryd.ntmps20 rfl (fun N => ?_)
  refine cw_seq ?_
  refine cw_region ?_
  refine ol rfl (lo_assign (v := .bool _) rfl) ?_
  refine ow_nil ?_
  refine seqK_n ?_
  refine cw_seq ?_
  refine cw_region ?_
  refine ol rfl (lo_build (v := .agg #[_, _, _, _, _, _, _]) rfl (bd36_1s _)) ?_
  refine ow1 (op1_pr (mail_Bytes _ (⟨0, [97], [], [], [], 0, 0⟩ : Mail) none 0 slh_nil (by simp only [Mail.wf]; first | omega | (simp; done) | (simp; omega)) hML) (en_f cb14 rfl) rfl ?_)
  refine ol rfl (lo_move (v := .tuple #[_, _]) rfl) ?_
  refine ol rfl (lo_extract (v := str _) rfl rfl) ?_
  refine ol rfl (lo_extract (v := .int _ _) rfl rfl) ?_
  refine ol rfl (lo_assign (v := str _) rfl) ?_
  refine ol rfl (lo_assign (v := .int _ _) rfl) ?_
  refine ow_nil ?_
  refine seqK_n ?_
  refine cw_seq ?_
  refine cw_region ?_
  refine ow1 (op1_pr (l09_Awake _ hML) (en_f cb32 rfl) rfl ?_)
  refine ol rfl (lo_move (v := .bool _) rfl) ?_
  refine ow1 (op1_g rfl rfl rfl (lo_move (v := .int _ _) rfl) ?_)
  refine ow1 (op1_g rfl rfl rfl (lo_eql rfl rfl) ?_)
  refine ol rfl (lo_pick_t (v := .bool _) rfl rfl rfl) ?_
  refine ol rfl (lo_move (v := .bool _) rfl) ?_
  refine ow1 (op1_g rfl (by decide +kernel) rfl (lo_move (v := str _) rfl) ?_)
  refine ow1 (op1_g rfl (by decide +kernel) rfl (lo_len_str rfl Tryd.underlying9) ?_)
  refine ow1 (op1_g rfl (by decide +kernel) rfl (lo_eql rfl rfl) ?_)
  refine ol rfl (lo_pick_t (v := .bool _) rfl (by decide +kernel) rfl) ?_
  refine ol rfl (lo_assign (v := .bool _) rfl) ?_
  refine ow_nil ?_
  refine seqK_n ?_
  refine cw_ret ?_
  refine fnK_r (res1 rfl (rv_t (v := .bool _) rfl)) (.refl _) ?_
  exact congrArg Value.bool (by decide +kernel)
theorem l13_Awake (H : Hp)  (hML : GInt H 0) : Pr Tryd.prog 10 #[] H (.bool true) := by
  refine pr_cw Tryd.func10 rfl Tryd.ntmps10 rfl (fun N => ?_)
  refine cw_seq ?_
  refine cw_region ?_
  refine ol rfl (lo_assign (v := .bool _) rfl) ?_
  refine ow_nil ?_
  refine seqK_n ?_
  refine cw_seq ?_
  refine cw_region ?_
  refine ow1 (op1_pr (l13_awake _ hML) (en_f cb20 rfl) rfl ?_)
  refine ol rfl (lo_assign (v := .bool _) rfl) ?_
  refine ow_nil ?_
  refine seqK_n ?_
  refine cw_ret ?_
  refine fnK_r (res1 rfl (rv_t (v := .bool _) rfl)) (.refl _) ?_
  rfl
end Go.SW
set_option linter.unusedVariables false
set_option maxRecDepth 100000
set_option maxHeartbeats 4000000
namespace Go.SW
open Go.Proofs
theorem deed_maybe (H : Hp) (s : Bs) (hs : s.length ≤ 9223372036854775807) : Pr Tryd.prog 27 #[str s] H (.int .i64 (maybeE s)) := by
  refine pr_cw Tryd.func27 rfl Tryd.ntmps27 rfl (fun N => ?_)
  refine cw_seq ?_
  refine cw_region ?_
  refine ol rfl (lo_assign (v := .int _ _) rfl) ?_
  refine ow_nil ?_
  refine seqK_n ?_
  refine cw_seq ?_
  refine cw_seq ?_
  refine cw_region ?_
  refine ol rfl (lo_move (v := str _) rfl) ?_
  refine ol rfl (lo_seql rfl rfl) ?_
  refine ow_nil ?_
  refine seqK_n ?_
  refine cw_cond rfl (fun h1 => ?_) (fun h1 => ?_)
  · have p2 := dt h1
    refine cw_seq ?_
    refine cw_region ?_
    refine ol rfl (lo_assign (v := .int _ _) rfl) ?_
    refine ow_nil ?_
    refine seqK_n ?_
    refine cw_ret ?_
    refine seqK_r ?_
    refine fnK_r (res1 rfl (rv_t (v := .int _ _) rfl)) (.refl _) ?_
    simp [maybeE, *]
  have p3 := df h1
  refine cw_skip ?_
  refine seqK_n ?_
  refine cw_seq ?_
  refine cw_region ?_
  refine ol rfl (lo_move (v := str _) rfl) ?_
  refine ow1 (op1_pr (words_Name _ s (by first | omega | decide | (simp; done))) (en_f cb25 rfl) rfl ?_)
  refine ol rfl (lo_assign (v := .int _ _) rfl) ?_
  refine ow_nil ?_
  refine seqK_n ?_
  refine cw_ret ?_
  refine fnK_r (res1 rfl (rv_t (v := .int _ _) rfl)) (.refl _) ?_
  simp [maybeE, *]
theorem deed_bound (H : Hp) (b : Bool) (e : Int) (e_r : -9223372036854775808 ≤ e ∧ e ≤ 9223372036854775807) : Pr Tryd.prog 26 #[.bool b, .int .i64 e] H (.int .i64 (boundE b e)) := by
  refine pr_cw Tryd.func26 rfl Tryd.ntmps26 rfl (fun N => ?_)
  refine cw_seq ?_
  refine cw_region ?_
  refine ol rfl (lo_assign (v := .int _ _) rfl) ?_
  refine ow_nil ?_
  refine seqK_n ?_
  refine cw_seq ?_
  refine cw_seq ?_
  refine cw_region ?_
  refine ol rfl (lo_move (v := .bool _) rfl) ?_
  refine ow_nil ?_
  refine seqK_n ?_
  refine cw_cond rfl (fun h1 => ?_) (fun h1 => ?_)
  · refine cw_seq ?_
    refine cw_region ?_
    refine ol rfl (lo_move (v := .int _ _) rfl) ?_
    refine ol rfl (lo_assign (v := .int _ _) rfl) ?_
    refine ow_nil ?_
    refine seqK_n ?_
    refine cw_ret ?_
    refine seqK_r ?_
    refine fnK_r (res1 rfl (rv_t (v := .int _ _) rfl)) (.refl _) ?_
    simp [boundE, *]
  refine cw_skip ?_
  refine seqK_n ?_
  refine cw_seq ?_
  refine cw_region ?_
  refine ol rfl (lo_assign (v := .int _ _) rfl) ?_
  refine ow_nil ?_
  refine seqK_n ?_
  refine cw_ret ?_
  refine fnK_r (res1 rfl (rv_t (v := .int _ _) rfl)) (.refl _) ?_
  simp [boundE, *]
theorem deed_bit (H : Hp) (yes : Bool) : Pr Tryd.prog 17 #[.bool yes] H (.int .u64 (bitN yes)) := by
  refine pr_cw Tryd.func17 rfl Tryd.ntmps17 rfl (fun N => ?_)
  refine cw_seq ?_
  refine cw_region ?_
  refine ol rfl (lo_assign (v := .int _ _) rfl) ?_
  refine ow_nil ?_
  refine seqK_n ?_
  refine cw_seq ?_
  refine cw_seq ?_
  refine cw_region ?_
  refine ol rfl (lo_move (v := .bool _) rfl) ?_
  refine ow_nil ?_
  refine seqK_n ?_
  refine cw_cond rfl (fun h1 => ?_) (fun h1 => ?_)
  · refine cw_seq ?_
    refine cw_region ?_
    refine ol rfl (lo_assign (v := .int _ _) rfl) ?_
    refine ow_nil ?_
    refine seqK_n ?_
    refine cw_ret ?_
    refine seqK_r ?_
    refine fnK_r (res1 rfl (rv_t (v := .int _ _) rfl)) (.refl _) ?_
    simp [bitN, *]
  refine cw_skip ?_
  refine seqK_n ?_
  refine cw_seq ?_
  refine cw_region ?_
  refine ol rfl (lo_assign (v := .int _ _) rfl) ?_
  refine ow_nil ?_
  refine seqK_n ?_
  refine cw_ret ?_
  refine fnK_r (res1 rfl (rv_t (v := .int _ _) rfl)) (.refl _) ?_
  simp [bitN, *]
end Go.SW
set_option linter.unusedVariables false
set_option maxRecDepth 100000
set_option maxHeartbeats 4000000
namespace Go.SW
open Go.Proofs
theorem ag29 : Ag Tryd.prog 29 true := fun w => by kernel_rfl
theorem ag31 : Ag Tryd.prog 31 true := fun w => by kernel_rfl
theorem ag34 : Ag Tryd.prog 34 true := fun w => by kernel_rfl
theorem cb39 : Callable Tryd.prog 39 := callable_of Tryd.func39 (by kernel_rfl) (by kernel_rfl)
theorem cb40 : Callable Tryd.prog 40 := callable_of Tryd.func40 (by kernel_rfl) (by kernel_rfl)
theorem cb58 : Callable Tryd.prog 58 := callable_of Tryd.func58 (by kernel_rfl) (by kernel_rfl)
theorem eqr29 (p q : ShopR) (d : Nat) : EqV Tryd.prog (d + 1 + 1) 29 (.agg (ShopR.cells p).toArray) (.agg (ShopR.cells q).toArray) (decide (p = q)) :=
  EqV.to (eqv_agg Tryd.underlying29 (by kernel_rfl) (eqf_1 (by decide) ag9 rfl rfl (eqv_str Tryd.underlying9) (eqf_1 (by decide) ag5 rfl rfl (eqv_int Tryd.underlying5) (eqf_1 (by decide) ag9 rfl rfl (eqv_str Tryd.underlying9) eqf_nil)))) (by obtain ⟨a0, a1, a2⟩ := p; obtain ⟨b0, b1, b2⟩ := q; rw [Bool.eq_iff_iff]; simp)
theorem eqg29 : Tryd.prog.eqGuardType Tryd.prog.depth 29 = false := by kernel_rfl
theorem eqr31 (p q : QueueR) (d : Nat) : EqV Tryd.prog (d + 1 + 1) 31 (.agg (QueueR.cells p).toArray) (.agg (QueueR.cells q).toArray) (decide (p = q)) :=
  EqV.to (eqv_agg Tryd.underlying31 (by kernel_rfl) (eqf_1 (by decide) ag9 rfl rfl (eqv_str Tryd.underlying9) (eqf_1 (by decide) ag22 rfl rfl (eqv_int Tryd.underlying22) (eqf_1 (by decide) ag22 rfl rfl (eqv_int Tryd.underlying22) (eqf_1 (by decide) ag9 rfl rfl (eqv_str Tryd.underlying9) eqf_nil))))) (by obtain ⟨a0, a1, a2, a3⟩ := p; obtain ⟨b0, b1, b2, b3⟩ := q; rw [Bool.eq_iff_iff]; simp)
theorem eqg31 : Tryd.prog.eqGuardType Tryd.prog.depth 31 = false := by kernel_rfl
theorem fl34_0 : Fld Tryd.prog 34 0 0 := fun b o w => by kernel_rfl
theorem fl34_1 : Fld Tryd.prog 34 1 1 := fun b o w => by kernel_rfl
theorem fl34_2 : Fld Tryd.prog 34 2 2 := fun b o w => by kernel_rfl
theorem fl34_3 : Fld Tryd.prog 34 3 3 := fun b o w => by kernel_rfl
theorem fl34_4 : Fld Tryd.prog 34 4 4 := fun b o w => by kernel_rfl
theorem fl34_5 : Fld Tryd.prog 34 5 5 := fun b o w => by kernel_rfl
theorem fl38_0 : Fld Tryd.prog 38 0 0 := fun b o w => by kernel_rfl
theorem fl38_1 : Fld Tryd.prog 38 1 1 := fun b o w => by kernel_rfl
theorem fl38_10 : Fld Tryd.prog 38 10 20 := fun b o w => by kernel_rfl
theorem fl38_11 : Fld Tryd.prog 38 11 21 := fun b o w => by kernel_rfl
theorem fl38_12 : Fld Tryd.prog 38 12 28 := fun b o w => by kernel_rfl
theorem fl38_2 : Fld Tryd.prog 38 2 2 := fun b o w => by kernel_rfl
theorem fl38_3 : Fld Tryd.prog 38 3 5 := fun b o w => by kernel_rfl
theorem fl38_4 : Fld Tryd.prog 38 4 9 := fun b o w => by kernel_rfl
theorem fl38_5 : Fld Tryd.prog 38 5 15 := fun b o w => by kernel_rfl
theorem fl38_6 : Fld Tryd.prog 38 6 16 := fun b o w => by kernel_rfl
theorem fl38_7 : Fld Tryd.prog 38 7 17 := fun b o w => by kernel_rfl
theorem fl38_8 : Fld Tryd.prog 38 8 18 := fun b o w => by kernel_rfl
theorem fl38_9 : Fld Tryd.prog 38 9 19 := fun b o w => by kernel_rfl
theorem sz29 : Sz Tryd.prog 29 3 := fun w => by kernel_rfl
theorem sz31 : Sz Tryd.prog 31 4 := fun w => by kernel_rfl
theorem sz34 : Sz Tryd.prog 34 6 := fun w => by kernel_rfl
theorem deed_sameBind (H : Hp) (a : BindR) (a_want_a : Option Addr) (a_want_c : Nat) (a_want_h : SlH pairE 4 H (.slice a_want_a a.want.length a_want_c) a.want) (a_w : BindR.wf a) (b : BindR) (b_want_a : Option Addr) (b_want_c : Nat) (b_want_h : SlH pairE 4 H (.slice b_want_a b.want.length b_want_c) b.want) (b_w : BindR.wf b) : Pr Tryd.prog 39 #[.agg (BindR.cells a a_want_a a_want_c).toArray, .agg (BindR.cells b b_want_a b_want_c).toArray] H (.bool (decide (a = b))) := by
  refine pr_cw Tryd.func39 rfl Tryd.ntmps39 rfl (fun N => ?_)
  have a_w' := a_w
  simp only [BindR.wf] at a_w'
  have b_w' := b_w
  simp only [BindR.wf] at b_w'
  refine cw_seq ?_
  refine cw_region ?_
  refine ow1 (op1_box (cs := [_, _, _, _, _, _]) 0 rfl rfl (fun b1 => ?_))
  refine ow1 (op1_box (cs := [_, _, _, _, _, _]) 1 rfl rfl (fun b2 => ?_))
  refine ol rfl (lo_assign (v := .bool _) rfl) ?_
  refine ow_nil ?_
  refine seqK_n ?_
  refine cw_seq ?_
  refine cw_region ?_
  refine ol rfl (lo_fieldAddr rfl fl34_0) ?_
  refine ol rfl (lo_load1 (i := 0) (v := str _) rfl ag9 rfl rfl) ?_
  refine ol rfl (lo_fieldAddr rfl fl34_0) ?_
  refine ol rfl (lo_load1 (i := 1) (v := str _) rfl ag9 rfl rfl) ?_
  refine ol rfl (lo_seql rfl rfl) ?_
  refine ol rfl (lo_move (v := .bool _) rfl) ?_
  refine ow_sp (j := 5) rfl (fun h3 => ?_) (fun h3 => ?_)
  · have p4 := dt h3
    refine ow1 (op1_g rfl h3 rfl (lo_fieldAddr rfl fl34_1) ?_)
    refine ow1 (op1_g rfl h3 rfl (lo_load1 (i := 0) (v := str _) rfl ag9 rfl rfl) ?_)
    refine ow1 (op1_g rfl h3 rfl (lo_fieldAddr rfl fl34_1) ?_)
    refine ow1 (op1_g rfl h3 rfl (lo_load1 (i := 1) (v := str _) rfl ag9 rfl rfl) ?_)
    refine ow1 (op1_g rfl h3 rfl (lo_seql rfl rfl) ?_)
    refine ol rfl (lo_pick_t (v := .bool _) rfl h3 rfl) ?_
    refine ol rfl (lo_move (v := .bool _) rfl) ?_
    refine ow_sp (j := 12) rfl (fun h5 => ?_) (fun h5 => ?_)
    · have p6 := dt h5
      refine ow1 (op1_g rfl h5 rfl (lo_fieldAddr rfl fl34_2) ?_)
      refine ow1 (op1_g rfl h5 rfl (lo_load1 (i := 0) (v := .bool _) rfl ag4 rfl rfl) ?_)
      refine ow1 (op1_g rfl h5 rfl (lo_fieldAddr rfl fl34_2) ?_)
      refine ow1 (op1_g rfl h5 rfl (lo_load1 (i := 1) (v := .bool _) rfl ag4 rfl rfl) ?_)
      refine ow1 (op1_g rfl h5 rfl (lo_beql rfl rfl Tryd.underlying4) ?_)
      refine ol rfl (lo_pick_t (v := .bool _) rfl h5 rfl) ?_
      refine ol rfl (lo_move (v := .bool _) rfl) ?_
      refine ow_sp (j := 19) rfl (fun h7 => ?_) (fun h7 => ?_)
      · have p8 := beqT h7
        refine ow1 (op1_g rfl h7 rfl (lo_fieldAddr rfl fl34_3) ?_)
        refine ow1 (op1_g rfl h7 rfl (lo_load1 (i := 0) (v := str _) rfl ag9 rfl rfl) ?_)
        refine ow1 (op1_g rfl h7 rfl (lo_fieldAddr rfl fl34_3) ?_)
        refine ow1 (op1_g rfl h7 rfl (lo_load1 (i := 1) (v := str _) rfl ag9 rfl rfl) ?_)
        refine ow1 (op1_g rfl h7 rfl (lo_seql rfl rfl) ?_)
        refine ol rfl (lo_pick_t (v := .bool _) rfl h7 rfl) ?_
        refine ol rfl (lo_move (v := .bool _) rfl) ?_
        refine ow_sp (j := 26) rfl (fun h9 => ?_) (fun h9 => ?_)
        · have p10 := dt h9
          refine ow1 (op1_g rfl h9 rfl (lo_fieldAddr rfl fl34_4) ?_)
          refine ow1 (op1_g rfl h9 rfl (lo_load1 (i := 0) (v := .slice _ _ _) rfl ag32 rfl rfl) ?_)
          refine ow1 (op1_g rfl h9 rfl (lo_fieldAddr rfl fl34_4) ?_)
          refine ow1 (op1_g rfl h9 rfl (lo_load1 (i := 1) (v := .slice _ _ _) rfl ag32 rfl rfl) ?_)
          refine ow1 (op1_prg rfl h9 (head_Same _ a_want_a a.want.length a_want_c a.want a_want_h b_want_a b.want.length b_want_c b.want b_want_h (by first | omega | (simp <;> omega))) (en_f cb58 rfl) rfl ?_)
          refine ol rfl (lo_pick_t (v := .bool _) rfl h9 rfl) ?_
          refine ol rfl (lo_move (v := .bool _) rfl) ?_
          refine ow_sp (j := 33) rfl (fun h11 => ?_) (fun h11 => ?_)
          · refine ow1 (op1_g rfl h11 rfl (lo_fieldAddr rfl fl34_5) ?_)
            refine ow1 (op1_g rfl h11 rfl (lo_load1 (i := 0) (v := .bool _) rfl ag4 rfl rfl) ?_)
            refine ow1 (op1_g rfl h11 rfl (lo_fieldAddr rfl fl34_5) ?_)
            refine ow1 (op1_g rfl h11 rfl (lo_load1 (i := 1) (v := .bool _) rfl ag4 rfl rfl) ?_)
            refine ow1 (op1_g rfl h11 rfl (lo_beql rfl rfl Tryd.underlying4) ?_)
            refine ol rfl (lo_pick_t (v := .bool _) rfl h11 rfl) ?_
            refine ol rfl (lo_assign (v := .bool _) rfl) ?_
            refine ow_nil ?_
            refine seqK_n ?_
            refine cw_ret ?_
            refine fnK_r (res1 rfl (rv_t (v := .bool _) rfl)) (.refl _) ?_
            first | (simp [BindR.eq_iff, *]; done) | (simp [BindR.eq_iff, *]; cases a.all <;> cases b.all <;> rfl)
          refine ow1 (op1_gs rfl h11 rfl ?_)
          refine ow1 (op1_gs rfl h11 rfl ?_)
          refine ow1 (op1_gs rfl h11 rfl ?_)
          refine ow1 (op1_gs rfl h11 rfl ?_)
          refine ow1 (op1_gs rfl h11 rfl ?_)
          refine ol rfl (lo_pick_f (v := .bool _) rfl h11 rfl) ?_
          refine ol rfl (lo_assign (v := .bool _) rfl) ?_
          refine ow_nil ?_
          refine seqK_n ?_
          refine cw_ret ?_
          refine fnK_r (res1 rfl (rv_t (v := .bool _) rfl)) (.refl _) ?_
          first | (simp [BindR.eq_iff, *]; done) | (simp [BindR.eq_iff, *]; cases a.all <;> cases b.all <;> rfl)
        have p12 := df h9
        refine ow1 (op1_gs rfl h9 rfl ?_)
        refine ow1 (op1_gs rfl h9 rfl ?_)
        refine ow1 (op1_gs rfl h9 rfl ?_)
        refine ow1 (op1_gs rfl h9 rfl ?_)
        refine ow1 (op1_gs rfl h9 rfl ?_)
        refine ol rfl (lo_pick_f (v := .bool _) rfl h9 rfl) ?_
        refine ol rfl (lo_move (v := .bool _) rfl) ?_
        refine ow1 (op1_gs rfl rfl rfl ?_)
        refine ow1 (op1_gs rfl rfl rfl ?_)
        refine ow1 (op1_gs rfl rfl rfl ?_)
        refine ow1 (op1_gs rfl rfl rfl ?_)
        refine ow1 (op1_gs rfl rfl rfl ?_)
        refine ol rfl (lo_pick_f (v := .bool _) rfl rfl rfl) ?_
        refine ol rfl (lo_assign (v := .bool _) rfl) ?_
        refine ow_nil ?_
        refine seqK_n ?_
        refine cw_ret ?_
        refine fnK_r (res1 rfl (rv_t (v := .bool _) rfl)) (.refl _) ?_
        first | (simp [BindR.eq_iff, *]; done) | (simp [BindR.eq_iff, *]; cases a.all <;> cases b.all <;> rfl)
      have p13 := beqF h7
      refine ow1 (op1_gs rfl h7 rfl ?_)
      refine ow1 (op1_gs rfl h7 rfl ?_)
      refine ow1 (op1_gs rfl h7 rfl ?_)
      refine ow1 (op1_gs rfl h7 rfl ?_)
      refine ow1 (op1_gs rfl h7 rfl ?_)
      refine ol rfl (lo_pick_f (v := .bool _) rfl h7 rfl) ?_
      refine ol rfl (lo_move (v := .bool _) rfl) ?_
      refine ow1 (op1_gs rfl rfl rfl ?_)
      refine ow1 (op1_gs rfl rfl rfl ?_)
      refine ow1 (op1_gs rfl rfl rfl ?_)
      refine ow1 (op1_gs rfl rfl rfl ?_)
      refine ow1 (op1_gs rfl rfl rfl ?_)
      refine ol rfl (lo_pick_f (v := .bool _) rfl rfl rfl) ?_
      refine ol rfl (lo_move (v := .bool _) rfl) ?_
      refine ow1 (op1_gs rfl rfl rfl ?_)
      refine ow1 (op1_gs rfl rfl rfl ?_)
      refine ow1 (op1_gs rfl rfl rfl ?_)
      refine ow1 (op1_gs rfl rfl rfl ?_)
      refine ow1 (op1_gs rfl rfl rfl ?_)
      refine ol rfl (lo_pick_f (v := .bool _) rfl rfl rfl) ?_
      refine ol rfl (lo_assign (v := .bool _) rfl) ?_
      refine ow_nil ?_
      refine seqK_n ?_
      refine cw_ret ?_
      refine fnK_r (res1 rfl (rv_t (v := .bool _) rfl)) (.refl _) ?_
      first | (simp [BindR.eq_iff, *]; done) | (simp [BindR.eq_iff, *]; cases a.all <;> cases b.all <;> rfl)
    have p14 := df h5
    refine ow1 (op1_gs rfl h5 rfl ?_)
    refine ow1 (op1_gs rfl h5 rfl ?_)
    refine ow1 (op1_gs rfl h5 rfl ?_)
    refine ow1 (op1_gs rfl h5 rfl ?_)
    refine ow1 (op1_gs rfl h5 rfl ?_)
    refine ol rfl (lo_pick_f (v := .bool _) rfl h5 rfl) ?_
    refine ol rfl (lo_move (v := .bool _) rfl) ?_
    refine ow1 (op1_gs rfl rfl rfl ?_)
    refine ow1 (op1_gs rfl rfl rfl ?_)
    refine ow1 (op1_gs rfl rfl rfl ?_)
    refine ow1 (op1_gs rfl rfl rfl ?_)
    refine ow1 (op1_gs rfl rfl rfl ?_)
    refine ol rfl (lo_pick_f (v := .bool _) rfl rfl rfl) ?_
    refine ol rfl (lo_move (v := .bool _) rfl) ?_
    refine ow1 (op1_gs rfl rfl rfl ?_)
    refine ow1 (op1_gs rfl rfl rfl ?_)
    refine ow1 (op1_gs rfl rfl rfl ?_)
    refine ow1 (op1_gs rfl rfl rfl ?_)
    refine ow1 (op1_gs rfl rfl rfl ?_)
    refine ol rfl (lo_pick_f (v := .bool _) rfl rfl rfl) ?_
    refine ol rfl (lo_move (v := .bool _) rfl) ?_
    refine ow1 (op1_gs rfl rfl rfl ?_)
    refine ow1 (op1_gs rfl rfl rfl ?_)
    refine ow1 (op1_gs rfl rfl rfl ?_)
    refine ow1 (op1_gs rfl rfl rfl ?_)
    refine ow1 (op1_gs rfl rfl rfl ?_)
    refine ol rfl (lo_pick_f (v := .bool _) rfl rfl rfl) ?_
    refine ol rfl (lo_assign (v := .bool _) rfl) ?_
    refine ow_nil ?_
    refine seqK_n ?_
    refine cw_ret ?_
    refine fnK_r (res1 rfl (rv_t (v := .bool _) rfl)) (.refl _) ?_
    first | (simp [BindR.eq_iff, *]; done) | (simp [BindR.eq_iff, *]; cases a.all <;> cases b.all <;> rfl)
  have p15 := df h3
  refine ow1 (op1_gs rfl h3 rfl ?_)
  refine ow1 (op1_gs rfl h3 rfl ?_)
  refine ow1 (op1_gs rfl h3 rfl ?_)
  refine ow1 (op1_gs rfl h3 rfl ?_)
  refine ow1 (op1_gs rfl h3 rfl ?_)
  refine ol rfl (lo_pick_f (v := .bool _) rfl h3 rfl) ?_
  refine ol rfl (lo_move (v := .bool _) rfl) ?_
  refine ow1 (op1_gs rfl rfl rfl ?_)
  refine ow1 (op1_gs rfl rfl rfl ?_)
  refine ow1 (op1_gs rfl rfl rfl ?_)
  refine ow1 (op1_gs rfl rfl rfl ?_)
  refine ow1 (op1_gs rfl rfl rfl ?_)
  refine ol rfl (lo_pick_f (v := .bool _) rfl rfl rfl) ?_
  refine ol rfl (lo_move (v := .bool _) rfl) ?_
  refine ow1 (op1_gs rfl rfl rfl ?_)
  refine ow1 (op1_gs rfl rfl rfl ?_)
  refine ow1 (op1_gs rfl rfl rfl ?_)
  refine ow1 (op1_gs rfl rfl rfl ?_)
  refine ow1 (op1_gs rfl rfl rfl ?_)
  refine ol rfl (lo_pick_f (v := .bool _) rfl rfl rfl) ?_
  refine ol rfl (lo_move (v := .bool _) rfl) ?_
  refine ow1 (op1_gs rfl rfl rfl ?_)
  refine ow1 (op1_gs rfl rfl rfl ?_)
  refine ow1 (op1_gs rfl rfl rfl ?_)
  refine ow1 (op1_gs rfl rfl rfl ?_)
  refine ow1 (op1_gs rfl rfl rfl ?_)
  refine ol rfl (lo_pick_f (v := .bool _) rfl rfl rfl) ?_
  refine ol rfl (lo_move (v := .bool _) rfl) ?_
  refine ow1 (op1_gs rfl rfl rfl ?_)
  refine ow1 (op1_gs rfl rfl rfl ?_)
  refine ow1 (op1_gs rfl rfl rfl ?_)
  refine ow1 (op1_gs rfl rfl rfl ?_)
  refine ow1 (op1_gs rfl rfl rfl ?_)
  refine ol rfl (lo_pick_f (v := .bool _) rfl rfl rfl) ?_
  refine ol rfl (lo_assign (v := .bool _) rfl) ?_
  refine ow_nil ?_
  refine seqK_n ?_
  refine cw_ret ?_
  refine fnK_r (res1 rfl (rv_t (v := .bool _) rfl)) (.refl _) ?_
  first | (simp [BindR.eq_iff, *]; done) | (simp [BindR.eq_iff, *]; cases a.all <;> cases b.all <;> rfl)
theorem mail_Same (H : Hp) (a : Mail) (a_head_a : Option Addr) (a_head_c : Nat) (a_head_h : SlH pairE 4 H (.slice a_head_a a.head.length a_head_c) a.head) (a_w : Mail.wf a) (b : Mail) (b_head_a : Option Addr) (b_head_c : Nat) (b_head_h : SlH pairE 4 H (.slice b_head_a b.head.length b_head_c) b.head) (b_w : Mail.wf b) : Pr Tryd.prog 40 #[.agg (Mail.cells a a_head_a a_head_c).toArray, .agg (Mail.cells b b_head_a b_head_c).toArray] H (.bool (decide (a = b))) := by
  refine pr_cw Tryd.func40 rfl Tryd.ntmps40 rfl (fun N => ?_)
  have a_w' := a_w
  simp only [Mail.wf] at a_w'
  have b_w' := b_w
  simp only [Mail.wf] at b_w'
  refine cw_seq ?_
  refine cw_region ?_
  refine ow1 (op1_box (cs := [_, _, _, _, _, _, _]) 0 rfl rfl (fun b1 => ?_))
  refine ow1 (op1_box (cs := [_, _, _, _, _, _, _]) 1 rfl rfl (fun b2 => ?_))
  refine ol rfl (lo_assign (v := .bool _) rfl) ?_
  refine ow_nil ?_
  refine seqK_n ?_
  refine cw_seq ?_
  refine cw_region ?_
  refine ol rfl (lo_fieldAddr rfl fl36_0) ?_
  refine ol rfl (lo_load1 (i := 0) (v := .int _ _) rfl ag22 rfl rfl) ?_
  refine ol rfl (lo_fieldAddr rfl fl36_0) ?_
  refine ol rfl (lo_load1 (i := 1) (v := .int _ _) rfl ag22 rfl rfl) ?_
  refine ol rfl (lo_eql rfl rfl) ?_
  refine ol rfl (lo_move (v := .bool _) rfl) ?_
  refine ow_sp (j := 5) rfl (fun h3 => ?_) (fun h3 => ?_)
  · have p4 := dt h3
    refine ow1 (op1_g rfl h3 rfl (lo_fieldAddr rfl fl36_1) ?_)
    refine ow1 (op1_g rfl h3 rfl (lo_load1 (i := 0) (v := str _) rfl ag9 rfl rfl) ?_)
    refine ow1 (op1_g rfl h3 rfl (lo_fieldAddr rfl fl36_1) ?_)
    refine ow1 (op1_g rfl h3 rfl (lo_load1 (i := 1) (v := str _) rfl ag9 rfl rfl) ?_)
    refine ow1 (op1_g rfl h3 rfl (lo_seql rfl rfl) ?_)
    refine ol rfl (lo_pick_t (v := .bool _) rfl h3 rfl) ?_
    refine ol rfl (lo_move (v := .bool _) rfl) ?_
    refine ow_sp (j := 12) rfl (fun h5 => ?_) (fun h5 => ?_)
    · have p6 := dt h5
      refine ow1 (op1_g rfl h5 rfl (lo_fieldAddr rfl fl36_2) ?_)
      refine ow1 (op1_g rfl h5 rfl (lo_load1 (i := 0) (v := str _) rfl ag9 rfl rfl) ?_)
      refine ow1 (op1_g rfl h5 rfl (lo_fieldAddr rfl fl36_2) ?_)
      refine ow1 (op1_g rfl h5 rfl (lo_load1 (i := 1) (v := str _) rfl ag9 rfl rfl) ?_)
      refine ow1 (op1_g rfl h5 rfl (lo_seql rfl rfl) ?_)
      refine ol rfl (lo_pick_t (v := .bool _) rfl h5 rfl) ?_
      refine ol rfl (lo_move (v := .bool _) rfl) ?_
      refine ow_sp (j := 19) rfl (fun h7 => ?_) (fun h7 => ?_)
      · have p8 := dt h7
        refine ow1 (op1_g rfl h7 rfl (lo_fieldAddr rfl fl36_3) ?_)
        refine ow1 (op1_g rfl h7 rfl (lo_load1 (i := 0) (v := .slice _ _ _) rfl ag32 rfl rfl) ?_)
        refine ow1 (op1_g rfl h7 rfl (lo_fieldAddr rfl fl36_3) ?_)
        refine ow1 (op1_g rfl h7 rfl (lo_load1 (i := 1) (v := .slice _ _ _) rfl ag32 rfl rfl) ?_)
        refine ow1 (op1_prg rfl h7 (head_Same _ a_head_a a.head.length a_head_c a.head a_head_h b_head_a b.head.length b_head_c b.head b_head_h (by first | omega | (simp <;> omega))) (en_f cb58 rfl) rfl ?_)
        refine ol rfl (lo_pick_t (v := .bool _) rfl h7 rfl) ?_
        refine ol rfl (lo_move (v := .bool _) rfl) ?_
        refine ow_sp (j := 26) rfl (fun h9 => ?_) (fun h9 => ?_)
        · refine ow1 (op1_g rfl h9 rfl (lo_fieldAddr rfl fl36_4) ?_)
          refine ow1 (op1_g rfl h9 rfl (lo_load1 (i := 0) (v := str _) rfl ag9 rfl rfl) ?_)
          refine ow1 (op1_g rfl h9 rfl (lo_fieldAddr rfl fl36_4) ?_)
          refine ow1 (op1_g rfl h9 rfl (lo_load1 (i := 1) (v := str _) rfl ag9 rfl rfl) ?_)
          refine ow1 (op1_g rfl h9 rfl (lo_seql rfl rfl) ?_)
          refine ol rfl (lo_pick_t (v := .bool _) rfl h9 rfl) ?_
          refine ol rfl (lo_move (v := .bool _) rfl) ?_
          refine ow_sp (j := 33) rfl (fun h10 => ?_) (fun h10 => ?_)
          · have p11 := dt h10
            refine ow1 (op1_g rfl h10 rfl (lo_fieldAddr rfl fl36_5) ?_)
            refine ow1 (op1_g rfl h10 rfl (lo_load1 (i := 0) (v := .int _ _) rfl ag22 rfl rfl) ?_)
            refine ow1 (op1_g rfl h10 rfl (lo_fieldAddr rfl fl36_5) ?_)
            refine ow1 (op1_g rfl h10 rfl (lo_load1 (i := 1) (v := .int _ _) rfl ag22 rfl rfl) ?_)
            refine ow1 (op1_g rfl h10 rfl (lo_eql rfl rfl) ?_)
            refine ol rfl (lo_pick_t (v := .bool _) rfl h10 rfl) ?_
            refine ol rfl (lo_move (v := .bool _) rfl) ?_
            refine ow_sp (j := 40) rfl (fun h12 => ?_) (fun h12 => ?_)
            · have p13 := dt h12
              refine ow1 (op1_g rfl h12 rfl (lo_fieldAddr rfl fl36_6) ?_)
              refine ow1 (op1_g rfl h12 rfl (lo_load1 (i := 0) (v := .int _ _) rfl ag5 rfl rfl) ?_)
              refine ow1 (op1_g rfl h12 rfl (lo_fieldAddr rfl fl36_6) ?_)
              refine ow1 (op1_g rfl h12 rfl (lo_load1 (i := 1) (v := .int _ _) rfl ag5 rfl rfl) ?_)
              refine ow1 (op1_g rfl h12 rfl (lo_eql rfl rfl) ?_)
              refine ol rfl (lo_pick_t (v := .bool _) rfl h12 rfl) ?_
              refine ol rfl (lo_assign (v := .bool _) rfl) ?_
              refine ow_nil ?_
              refine seqK_n ?_
              refine cw_ret ?_
              refine fnK_r (res1 rfl (rv_t (v := .bool _) rfl)) (.refl _) ?_
              first | (simp [Mail.eq_iff, *]; done)
            have p14 := df h12
            refine ow1 (op1_gs rfl h12 rfl ?_)
            refine ow1 (op1_gs rfl h12 rfl ?_)
            refine ow1 (op1_gs rfl h12 rfl ?_)
            refine ow1 (op1_gs rfl h12 rfl ?_)
            refine ow1 (op1_gs rfl h12 rfl ?_)
            refine ol rfl (lo_pick_f (v := .bool _) rfl h12 rfl) ?_
            refine ol rfl (lo_assign (v := .bool _) rfl) ?_
            refine ow_nil ?_
            refine seqK_n ?_
            refine cw_ret ?_
            refine fnK_r (res1 rfl (rv_t (v := .bool _) rfl)) (.refl _) ?_
            first | (simp [Mail.eq_iff, *]; done)
          have p15 := df h10
          refine ow1 (op1_gs rfl h10 rfl ?_)
          refine ow1 (op1_gs rfl h10 rfl ?_)
          refine ow1 (op1_gs rfl h10 rfl ?_)
          refine ow1 (op1_gs rfl h10 rfl ?_)
          refine ow1 (op1_gs rfl h10 rfl ?_)
          refine ol rfl (lo_pick_f (v := .bool _) rfl h10 rfl) ?_
          refine ol rfl (lo_move (v := .bool _) rfl) ?_
          refine ow1 (op1_gs rfl rfl rfl ?_)
          refine ow1 (op1_gs rfl rfl rfl ?_)
          refine ow1 (op1_gs rfl rfl rfl ?_)
          refine ow1 (op1_gs rfl rfl rfl ?_)
          refine ow1 (op1_gs rfl rfl rfl ?_)
          refine ol rfl (lo_pick_f (v := .bool _) rfl rfl rfl) ?_
          refine ol rfl (lo_assign (v := .bool _) rfl) ?_
          refine ow_nil ?_
          refine seqK_n ?_
          refine cw_ret ?_
          refine fnK_r (res1 rfl (rv_t (v := .bool _) rfl)) (.refl _) ?_
          first | (simp [Mail.eq_iff, *]; done)
        refine ow1 (op1_gs rfl h9 rfl ?_)
        refine ow1 (op1_gs rfl h9 rfl ?_)
        refine ow1 (op1_gs rfl h9 rfl ?_)
        refine ow1 (op1_gs rfl h9 rfl ?_)
        refine ow1 (op1_gs rfl h9 rfl ?_)
        refine ol rfl (lo_pick_f (v := .bool _) rfl h9 rfl) ?_
        refine ol rfl (lo_move (v := .bool _) rfl) ?_
        refine ow1 (op1_gs rfl rfl rfl ?_)
        refine ow1 (op1_gs rfl rfl rfl ?_)
        refine ow1 (op1_gs rfl rfl rfl ?_)
        refine ow1 (op1_gs rfl rfl rfl ?_)
        refine ow1 (op1_gs rfl rfl rfl ?_)
        refine ol rfl (lo_pick_f (v := .bool _) rfl rfl rfl) ?_
        refine ol rfl (lo_move (v := .bool _) rfl) ?_
        refine ow1 (op1_gs rfl rfl rfl ?_)
        refine ow1 (op1_gs rfl rfl rfl ?_)
        refine ow1 (op1_gs rfl rfl rfl ?_)
        refine ow1 (op1_gs rfl rfl rfl ?_)
        refine ow1 (op1_gs rfl rfl rfl ?_)
        refine ol rfl (lo_pick_f (v := .bool _) rfl rfl rfl) ?_
        refine ol rfl (lo_assign (v := .bool _) rfl) ?_
        refine ow_nil ?_
        refine seqK_n ?_
        refine cw_ret ?_
        refine fnK_r (res1 rfl (rv_t (v := .bool _) rfl)) (.refl _) ?_
        first | (simp [Mail.eq_iff, *]; done)
      have p16 := df h7
      refine ow1 (op1_gs rfl h7 rfl ?_)
      refine ow1 (op1_gs rfl h7 rfl ?_)
      refine ow1 (op1_gs rfl h7 rfl ?_)
      refine ow1 (op1_gs rfl h7 rfl ?_)
      refine ow1 (op1_gs rfl h7 rfl ?_)
      refine ol rfl (lo_pick_f (v := .bool _) rfl h7 rfl) ?_
      refine ol rfl (lo_move (v := .bool _) rfl) ?_
      refine ow1 (op1_gs rfl rfl rfl ?_)
      refine ow1 (op1_gs rfl rfl rfl ?_)
      refine ow1 (op1_gs rfl rfl rfl ?_)
      refine ow1 (op1_gs rfl rfl rfl ?_)
      refine ow1 (op1_gs rfl rfl rfl ?_)
      refine ol rfl (lo_pick_f (v := .bool _) rfl rfl rfl) ?_
      refine ol rfl (lo_move (v := .bool _) rfl) ?_
      refine ow1 (op1_gs rfl rfl rfl ?_)
      refine ow1 (op1_gs rfl rfl rfl ?_)
      refine ow1 (op1_gs rfl rfl rfl ?_)
      refine ow1 (op1_gs rfl rfl rfl ?_)
      refine ow1 (op1_gs rfl rfl rfl ?_)
      refine ol rfl (lo_pick_f (v := .bool _) rfl rfl rfl) ?_
      refine ol rfl (lo_move (v := .bool _) rfl) ?_
      refine ow1 (op1_gs rfl rfl rfl ?_)
      refine ow1 (op1_gs rfl rfl rfl ?_)
      refine ow1 (op1_gs rfl rfl rfl ?_)
      refine ow1 (op1_gs rfl rfl rfl ?_)
      refine ow1 (op1_gs rfl rfl rfl ?_)
      refine ol rfl (lo_pick_f (v := .bool _) rfl rfl rfl) ?_
      refine ol rfl (lo_assign (v := .bool _) rfl) ?_
      refine ow_nil ?_
      refine seqK_n ?_
      refine cw_ret ?_
      refine fnK_r (res1 rfl (rv_t (v := .bool _) rfl)) (.refl _) ?_
      first | (simp [Mail.eq_iff, *]; done)
    have p17 := df h5
    refine ow1 (op1_gs rfl h5 rfl ?_)
    refine ow1 (op1_gs rfl h5 rfl ?_)
    refine ow1 (op1_gs rfl h5 rfl ?_)
    refine ow1 (op1_gs rfl h5 rfl ?_)
    refine ow1 (op1_gs rfl h5 rfl ?_)
    refine ol rfl (lo_pick_f (v := .bool _) rfl h5 rfl) ?_
    refine ol rfl (lo_move (v := .bool _) rfl) ?_
    refine ow1 (op1_gs rfl rfl rfl ?_)
    refine ow1 (op1_gs rfl rfl rfl ?_)
    refine ow1 (op1_gs rfl rfl rfl ?_)
    refine ow1 (op1_gs rfl rfl rfl ?_)
    refine ow1 (op1_gs rfl rfl rfl ?_)
    refine ol rfl (lo_pick_f (v := .bool _) rfl rfl rfl) ?_
    refine ol rfl (lo_move (v := .bool _) rfl) ?_
    refine ow1 (op1_gs rfl rfl rfl ?_)
    refine ow1 (op1_gs rfl rfl rfl ?_)
    refine ow1 (op1_gs rfl rfl rfl ?_)
    refine ow1 (op1_gs rfl rfl rfl ?_)
    refine ow1 (op1_gs rfl rfl rfl ?_)
    refine ol rfl (lo_pick_f (v := .bool _) rfl rfl rfl) ?_
    refine ol rfl (lo_move (v := .bool _) rfl) ?_
    refine ow1 (op1_gs rfl rfl rfl ?_)
    refine ow1 (op1_gs rfl rfl rfl ?_)
    refine ow1 (op1_gs rfl rfl rfl ?_)
    refine ow1 (op1_gs rfl rfl rfl ?_)
    refine ow1 (op1_gs rfl rfl rfl ?_)
    refine ol rfl (lo_pick_f (v := .bool _) rfl rfl rfl) ?_
    refine ol rfl (lo_move (v := .bool _) rfl) ?_
    refine ow1 (op1_gs rfl rfl rfl ?_)
    refine ow1 (op1_gs rfl rfl rfl ?_)
    refine ow1 (op1_gs rfl rfl rfl ?_)
    refine ow1 (op1_gs rfl rfl rfl ?_)
    refine ow1 (op1_gs rfl rfl rfl ?_)
    refine ol rfl (lo_pick_f (v := .bool _) rfl rfl rfl) ?_
    refine ol rfl (lo_assign (v := .bool _) rfl) ?_
    refine ow_nil ?_
    refine seqK_n ?_
    refine cw_ret ?_
    refine fnK_r (res1 rfl (rv_t (v := .bool _) rfl)) (.refl _) ?_
    first | (simp [Mail.eq_iff, *]; done)
  have p18 := df h3
  refine ow1 (op1_gs rfl h3 rfl ?_)
  refine ow1 (op1_gs rfl h3 rfl ?_)
  refine ow1 (op1_gs rfl h3 rfl ?_)
  refine ow1 (op1_gs rfl h3 rfl ?_)
  refine ow1 (op1_gs rfl h3 rfl ?_)
  refine ol rfl (lo_pick_f (v := .bool _) rfl h3 rfl) ?_
  refine ol rfl (lo_move (v := .bool _) rfl) ?_
  refine ow1 (op1_gs rfl rfl rfl ?_)
  refine ow1 (op1_gs rfl rfl rfl ?_)
  refine ow1 (op1_gs rfl rfl rfl ?_)
  refine ow1 (op1_gs rfl rfl rfl ?_)
  refine ow1 (op1_gs rfl rfl rfl ?_)
  refine ol rfl (lo_pick_f (v := .bool _) rfl rfl rfl) ?_
  refine ol rfl (lo_move (v := .bool _) rfl) ?_
  refine ow1 (op1_gs rfl rfl rfl ?_)
  refine ow1 (op1_gs rfl rfl rfl ?_)
  refine ow1 (op1_gs rfl rfl rfl ?_)
  refine ow1 (op1_gs rfl rfl rfl ?_)
  refine ow1 (op1_gs rfl rfl rfl ?_)
  refine ol rfl (lo_pick_f (v := .bool _) rfl rfl rfl) ?_
  refine ol rfl (lo_move (v := .bool _) rfl) ?_
  refine ow1 (op1_gs rfl rfl rfl ?_)
  refine ow1 (op1_gs rfl rfl rfl ?_)
  refine ow1 (op1_gs rfl rfl rfl ?_)
  refine ow1 (op1_gs rfl rfl rfl ?_)
  refine ow1 (op1_gs rfl rfl rfl ?_)
  refine ol rfl (lo_pick_f (v := .bool _) rfl rfl rfl) ?_
  refine ol rfl (lo_move (v := .bool _) rfl) ?_
  refine ow1 (op1_gs rfl rfl rfl ?_)
  refine ow1 (op1_gs rfl rfl rfl ?_)
  refine ow1 (op1_gs rfl rfl rfl ?_)
  refine ow1 (op1_gs rfl rfl rfl ?_)
  refine ow1 (op1_gs rfl rfl rfl ?_)
  refine ol rfl (lo_pick_f (v := .bool _) rfl rfl rfl) ?_
  refine ol rfl (lo_move (v := .bool _) rfl) ?_
  refine ow1 (op1_gs rfl rfl rfl ?_)
  refine ow1 (op1_gs rfl rfl rfl ?_)
  refine ow1 (op1_gs rfl rfl rfl ?_)
  refine ow1 (op1_gs rfl rfl rfl ?_)
  refine ow1 (op1_gs rfl rfl rfl ?_)
  refine ol rfl (lo_pick_f (v := .bool _) rfl rfl rfl) ?_
  refine ol rfl (lo_assign (v := .bool _) rfl) ?_
  refine ow_nil ?_
  refine seqK_n ?_
  refine cw_ret ?_
  refine fnK_r (res1 rfl (rv_t (v := .bool _) rfl)) (.refl _) ?_
  first | (simp [Mail.eq_iff, *]; done)
theorem deed_Same (H : Hp) (a : DeedR) (a_bind_want_a : Option Addr) (a_bind_want_c : Nat) (a_bind_want_h : SlH pairE 4 H (.slice a_bind_want_a a.bind.want.length a_bind_want_c) a.bind.want) (a_mail_head_a : Option Addr) (a_mail_head_c : Nat) (a_mail_head_h : SlH pairE 4 H (.slice a_mail_head_a a.mail.head.length a_mail_head_c) a.mail.head) (a_w : DeedR.wf a) (b : DeedR) (b_bind_want_a : Option Addr) (b_bind_want_c : Nat) (b_bind_want_h : SlH pairE 4 H (.slice b_bind_want_a b.bind.want.length b_bind_want_c) b.bind.want) (b_mail_head_a : Option Addr) (b_mail_head_c : Nat) (b_mail_head_h : SlH pairE 4 H (.slice b_mail_head_a b.mail.head.length b_mail_head_c) b.mail.head) (b_w : DeedR.wf b) : Pr Tryd.prog 22 #[.agg (DeedR.cells a a_bind_want_a a_bind_want_c a_mail_head_a a_mail_head_c).toArray, .agg (DeedR.cells b b_bind_want_a b_bind_want_c b_mail_head_a b_mail_head_c).toArray] H (.bool (decide (a = b))) := by
  refine pr_cw Tryd.func22 rfl Tryd.ntmps22 rfl (fun N => ?_)
  have a_w' := a_w
  simp only [DeedR.wf, ShopR.wf, QueueR.wf, BindR.wf, Mail.wf] at a_w'
  have b_w' := b_w
  simp only [DeedR.wf, ShopR.wf, QueueR.wf, BindR.wf, Mail.wf] at b_w'
  refine cw_seq ?_
  refine cw_region ?_
  refine ow1 (op1_box (cs := [_, _, _, _, _, _, _, _, _, _, _, _, _, _, _, _, _, _, _, _, _, _, _, _, _, _, _, _, _]) 0 rfl rfl (fun b1 => ?_))
  refine ow1 (op1_box (cs := [_, _, _, _, _, _, _, _, _, _, _, _, _, _, _, _, _, _, _, _, _, _, _, _, _, _, _, _, _]) 1 rfl rfl (fun b2 => ?_))
  refine ol rfl (lo_assign (v := .bool _) rfl) ?_
  refine ow_nil ?_
  refine seqK_n ?_
  refine cw_seq ?_
  refine cw_region ?_
  refine ol rfl (lo_fieldAddr rfl fl38_0) ?_
  refine ol rfl (lo_load1 (i := 0) (v := .int _ _) rfl ag5 rfl rfl) ?_
  refine ol rfl (lo_fieldAddr rfl fl38_0) ?_
  refine ol rfl (lo_load1 (i := 1) (v := .int _ _) rfl ag5 rfl rfl) ?_
  refine ol rfl (lo_eql rfl rfl) ?_
  refine ol rfl (lo_move (v := .bool _) rfl) ?_
  refine ow_sp (j := 5) rfl (fun h3 => ?_) (fun h3 => ?_)
  · have p4 := dt h3
    refine ow1 (op1_g rfl h3 rfl (lo_fieldAddr rfl fl38_1) ?_)
    refine ow1 (op1_g rfl h3 rfl (lo_load1 (i := 0) (v := .int _ _) rfl ag22 rfl rfl) ?_)
    refine ow1 (op1_g rfl h3 rfl (lo_fieldAddr rfl fl38_1) ?_)
    refine ow1 (op1_g rfl h3 rfl (lo_load1 (i := 1) (v := .int _ _) rfl ag22 rfl rfl) ?_)
    refine ow1 (op1_g rfl h3 rfl (lo_eql rfl rfl) ?_)
    refine ol rfl (lo_pick_t (v := .bool _) rfl h3 rfl) ?_
    refine ol rfl (lo_move (v := .bool _) rfl) ?_
    refine ow_sp (j := 12) rfl (fun h5 => ?_) (fun h5 => ?_)
    · have p6 := dt h5
      refine ow1 (op1_g rfl h5 rfl (lo_fieldAddr rfl fl38_2) ?_)
      refine ow1 (op1_g rfl h5 rfl (lo_loadA (i := 0) (vs := [_, _, _]) rfl ag29 sz29 rfl rfl rfl) ?_)
      refine ow1 (op1_g rfl h5 rfl (lo_fieldAddr rfl fl38_2) ?_)
      refine ow1 (op1_g rfl h5 rfl (lo_loadA (i := 1) (vs := [_, _, _]) rfl ag29 sz29 rfl rfl rfl) ?_)
      refine ow1 (op1_g rfl h5 rfl (lo_aeql (u := (ShopR.cells a.shop).toArray) (v := (ShopR.cells b.shop).toArray) rfl rfl eqg29 (eqr29 _ _ 9998)) ?_)
      refine ol rfl (lo_pick_t (v := .bool _) rfl h5 rfl) ?_
      refine ol rfl (lo_move (v := .bool _) rfl) ?_
      refine ow_sp (j := 19) rfl (fun h7 => ?_) (fun h7 => ?_)
      · have p8 := dt h7
        refine ow1 (op1_g rfl h7 rfl (lo_fieldAddr rfl fl38_3) ?_)
        refine ow1 (op1_g rfl h7 rfl (lo_loadA (i := 0) (vs := [_, _, _, _]) rfl ag31 sz31 rfl rfl rfl) ?_)
        refine ow1 (op1_g rfl h7 rfl (lo_fieldAddr rfl fl38_3) ?_)
        refine ow1 (op1_g rfl h7 rfl (lo_loadA (i := 1) (vs := [_, _, _, _]) rfl ag31 sz31 rfl rfl rfl) ?_)
        refine ow1 (op1_g rfl h7 rfl (lo_aeql (u := (QueueR.cells a.queue).toArray) (v := (QueueR.cells b.queue).toArray) rfl rfl eqg31 (eqr31 _ _ 9998)) ?_)
        refine ol rfl (lo_pick_t (v := .bool _) rfl h7 rfl) ?_
        refine ol rfl (lo_move (v := .bool _) rfl) ?_
        refine ow_sp (j := 26) rfl (fun h9 => ?_) (fun h9 => ?_)
        · have p10 := dt h9
          refine ow1 (op1_g rfl h9 rfl (lo_fieldAddr rfl fl38_4) ?_)
          refine ow1 (op1_g rfl h9 rfl (lo_loadA (i := 0) (vs := [_, _, _, _, _, _]) rfl ag34 sz34 rfl rfl rfl) ?_)
          refine ow1 (op1_g rfl h9 rfl (lo_fieldAddr rfl fl38_4) ?_)
          refine ow1 (op1_g rfl h9 rfl (lo_loadA (i := 1) (vs := [_, _, _, _, _, _]) rfl ag34 sz34 rfl rfl rfl) ?_)
          refine ow1 (op1_prg rfl h9 (deed_sameBind _ a.bind a_bind_want_a a_bind_want_c a_bind_want_h (by simp only [BindR.wf]; first | omega | (simp; done) | (simp; omega)) b.bind b_bind_want_a b_bind_want_c b_bind_want_h (by simp only [BindR.wf]; first | omega | (simp; done) | (simp; omega))) (en_f cb39 rfl) rfl ?_)
          refine ol rfl (lo_pick_t (v := .bool _) rfl h9 rfl) ?_
          refine ol rfl (lo_move (v := .bool _) rfl) ?_
          refine ow_sp (j := 33) rfl (fun h11 => ?_) (fun h11 => ?_)
          · refine ow1 (op1_g rfl h11 rfl (lo_fieldAddr rfl fl38_5) ?_)
            refine ow1 (op1_g rfl h11 rfl (lo_load1 (i := 0) (v := str _) rfl ag9 rfl rfl) ?_)
            refine ow1 (op1_g rfl h11 rfl (lo_fieldAddr rfl fl38_5) ?_)
            refine ow1 (op1_g rfl h11 rfl (lo_load1 (i := 1) (v := str _) rfl ag9 rfl rfl) ?_)
            refine ow1 (op1_g rfl h11 rfl (lo_seql rfl rfl) ?_)
            refine ol rfl (lo_pick_t (v := .bool _) rfl h11 rfl) ?_
            refine ol rfl (lo_move (v := .bool _) rfl) ?_
            refine ow_sp (j := 40) rfl (fun h12 => ?_) (fun h12 => ?_)
            · have p13 := dt h12
              refine ow1 (op1_g rfl h12 rfl (lo_fieldAddr rfl fl38_6) ?_)
              refine ow1 (op1_g rfl h12 rfl (lo_load1 (i := 0) (v := .int _ _) rfl ag22 rfl rfl) ?_)
              refine ow1 (op1_g rfl h12 rfl (lo_fieldAddr rfl fl38_6) ?_)
              refine ow1 (op1_g rfl h12 rfl (lo_load1 (i := 1) (v := .int _ _) rfl ag22 rfl rfl) ?_)
              refine ow1 (op1_g rfl h12 rfl (lo_eql rfl rfl) ?_)
              refine ol rfl (lo_pick_t (v := .bool _) rfl h12 rfl) ?_
              refine ol rfl (lo_move (v := .bool _) rfl) ?_
              refine ow_sp (j := 47) rfl (fun h14 => ?_) (fun h14 => ?_)
              · have p15 := dt h14
                refine ow1 (op1_g rfl h14 rfl (lo_fieldAddr rfl fl38_7) ?_)
                refine ow1 (op1_g rfl h14 rfl (lo_load1 (i := 0) (v := .int _ _) rfl ag5 rfl rfl) ?_)
                refine ow1 (op1_g rfl h14 rfl (lo_fieldAddr rfl fl38_7) ?_)
                refine ow1 (op1_g rfl h14 rfl (lo_load1 (i := 1) (v := .int _ _) rfl ag5 rfl rfl) ?_)
                refine ow1 (op1_g rfl h14 rfl (lo_eql rfl rfl) ?_)
                refine ol rfl (lo_pick_t (v := .bool _) rfl h14 rfl) ?_
                refine ol rfl (lo_move (v := .bool _) rfl) ?_
                refine ow_sp (j := 54) rfl (fun h16 => ?_) (fun h16 => ?_)
                · have p17 := dt h16
                  refine ow1 (op1_g rfl h16 rfl (lo_fieldAddr rfl fl38_8) ?_)
                  refine ow1 (op1_g rfl h16 rfl (lo_load1 (i := 0) (v := .int _ _) rfl ag5 rfl rfl) ?_)
                  refine ow1 (op1_g rfl h16 rfl (lo_fieldAddr rfl fl38_8) ?_)
                  refine ow1 (op1_g rfl h16 rfl (lo_load1 (i := 1) (v := .int _ _) rfl ag5 rfl rfl) ?_)
                  refine ow1 (op1_g rfl h16 rfl (lo_eql rfl rfl) ?_)
                  refine ol rfl (lo_pick_t (v := .bool _) rfl h16 rfl) ?_
                  refine ol rfl (lo_move (v := .bool _) rfl) ?_
                  refine ow_sp (j := 61) rfl (fun h18 => ?_) (fun h18 => ?_)
                  · have p19 := dt h18
                    refine ow1 (op1_g rfl h18 rfl (lo_fieldAddr rfl fl38_9) ?_)
                    refine ow1 (op1_g rfl h18 rfl (lo_load1 (i := 0) (v := .int _ _) rfl ag5 rfl rfl) ?_)
                    refine ow1 (op1_g rfl h18 rfl (lo_fieldAddr rfl fl38_9) ?_)
                    refine ow1 (op1_g rfl h18 rfl (lo_load1 (i := 1) (v := .int _ _) rfl ag5 rfl rfl) ?_)
                    refine ow1 (op1_g rfl h18 rfl (lo_eql rfl rfl) ?_)
                    refine ol rfl (lo_pick_t (v := .bool _) rfl h18 rfl) ?_
                    refine ol rfl (lo_move (v := .bool _) rfl) ?_
                    refine ow_sp (j := 68) rfl (fun h20 => ?_) (fun h20 => ?_)
                    · have p21 := dt h20
                      refine ow1 (op1_g rfl h20 rfl (lo_fieldAddr rfl fl38_10) ?_)
                      refine ow1 (op1_g rfl h20 rfl (lo_load1 (i := 0) (v := .int _ _) rfl ag22 rfl rfl) ?_)
                      refine ow1 (op1_g rfl h20 rfl (lo_fieldAddr rfl fl38_10) ?_)
                      refine ow1 (op1_g rfl h20 rfl (lo_load1 (i := 1) (v := .int _ _) rfl ag22 rfl rfl) ?_)
                      refine ow1 (op1_g rfl h20 rfl (lo_eql rfl rfl) ?_)
                      refine ol rfl (lo_pick_t (v := .bool _) rfl h20 rfl) ?_
                      refine ol rfl (lo_move (v := .bool _) rfl) ?_
                      refine ow_sp (j := 75) rfl (fun h22 => ?_) (fun h22 => ?_)
                      · have p23 := dt h22
                        refine ow1 (op1_g rfl h22 rfl (lo_fieldAddr rfl fl38_11) ?_)
                        refine ow1 (op1_g rfl h22 rfl (lo_loadA (i := 0) (vs := [_, _, _, _, _, _, _]) rfl ag36 sz36 rfl rfl rfl) ?_)
                        refine ow1 (op1_g rfl h22 rfl (lo_fieldAddr rfl fl38_11) ?_)
                        refine ow1 (op1_g rfl h22 rfl (lo_loadA (i := 1) (vs := [_, _, _, _, _, _, _]) rfl ag36 sz36 rfl rfl rfl) ?_)
                        refine ow1 (op1_prg rfl h22 (mail_Same _ a.mail a_mail_head_a a_mail_head_c a_mail_head_h (by simp only [Mail.wf]; first | omega | (simp; done) | (simp; omega)) b.mail b_mail_head_a b_mail_head_c b_mail_head_h (by simp only [Mail.wf]; first | omega | (simp; done) | (simp; omega))) (en_f cb40 rfl) rfl ?_)
                        refine ol rfl (lo_pick_t (v := .bool _) rfl h22 rfl) ?_
                        refine ol rfl (lo_move (v := .bool _) rfl) ?_
                        refine ow_sp (j := 82) rfl (fun h24 => ?_) (fun h24 => ?_)
                        · refine ow1 (op1_g rfl h24 rfl (lo_fieldAddr rfl fl38_12) ?_)
                          refine ow1 (op1_g rfl h24 rfl (lo_load1 (i := 0) (v := str _) rfl ag9 rfl rfl) ?_)
                          refine ow1 (op1_g rfl h24 rfl (lo_fieldAddr rfl fl38_12) ?_)
                          refine ow1 (op1_g rfl h24 rfl (lo_load1 (i := 1) (v := str _) rfl ag9 rfl rfl) ?_)
                          refine ow1 (op1_g rfl h24 rfl (lo_seql rfl rfl) ?_)
                          refine ol rfl (lo_pick_t (v := .bool _) rfl h24 rfl) ?_
                          refine ol rfl (lo_assign (v := .bool _) rfl) ?_
                          refine ow_nil ?_
                          refine seqK_n ?_
                          refine cw_ret ?_
                          refine fnK_r (res1 rfl (rv_t (v := .bool _) rfl)) (.refl _) ?_
                          first | (simp [DeedR.eq_iff, *]; done)
                        refine ow1 (op1_gs rfl h24 rfl ?_)
                        refine ow1 (op1_gs rfl h24 rfl ?_)
                        refine ow1 (op1_gs rfl h24 rfl ?_)
                        refine ow1 (op1_gs rfl h24 rfl ?_)
                        refine ow1 (op1_gs rfl h24 rfl ?_)
                        refine ol rfl (lo_pick_f (v := .bool _) rfl h24 rfl) ?_
                        refine ol rfl (lo_assign (v := .bool _) rfl) ?_
                        refine ow_nil ?_
                        refine seqK_n ?_
                        refine cw_ret ?_
                        refine fnK_r (res1 rfl (rv_t (v := .bool _) rfl)) (.refl _) ?_
                        first | (simp [DeedR.eq_iff, *]; done)
                      have p25 := df h22
                      refine ow1 (op1_gs rfl h22 rfl ?_)
                      refine ow1 (op1_gs rfl h22 rfl ?_)
                      refine ow1 (op1_gs rfl h22 rfl ?_)
                      refine ow1 (op1_gs rfl h22 rfl ?_)
                      refine ow1 (op1_gs rfl h22 rfl ?_)
                      refine ol rfl (lo_pick_f (v := .bool _) rfl h22 rfl) ?_
                      refine ol rfl (lo_move (v := .bool _) rfl) ?_
                      refine ow1 (op1_gs rfl rfl rfl ?_)
                      refine ow1 (op1_gs rfl rfl rfl ?_)
                      refine ow1 (op1_gs rfl rfl rfl ?_)
                      refine ow1 (op1_gs rfl rfl rfl ?_)
                      refine ow1 (op1_gs rfl rfl rfl ?_)
                      refine ol rfl (lo_pick_f (v := .bool _) rfl rfl rfl) ?_
                      refine ol rfl (lo_assign (v := .bool _) rfl) ?_
                      refine ow_nil ?_
                      refine seqK_n ?_
                      refine cw_ret ?_
                      refine fnK_r (res1 rfl (rv_t (v := .bool _) rfl)) (.refl _) ?_
                      first | (simp [DeedR.eq_iff, *]; done)
                    have p26 := df h20
                    refine ow1 (op1_gs rfl h20 rfl ?_)
                    refine ow1 (op1_gs rfl h20 rfl ?_)
                    refine ow1 (op1_gs rfl h20 rfl ?_)
                    refine ow1 (op1_gs rfl h20 rfl ?_)
                    refine ow1 (op1_gs rfl h20 rfl ?_)
                    refine ol rfl (lo_pick_f (v := .bool _) rfl h20 rfl) ?_
                    refine ol rfl (lo_move (v := .bool _) rfl) ?_
                    refine ow1 (op1_gs rfl rfl rfl ?_)
                    refine ow1 (op1_gs rfl rfl rfl ?_)
                    refine ow1 (op1_gs rfl rfl rfl ?_)
                    refine ow1 (op1_gs rfl rfl rfl ?_)
                    refine ow1 (op1_gs rfl rfl rfl ?_)
                    refine ol rfl (lo_pick_f (v := .bool _) rfl rfl rfl) ?_
                    refine ol rfl (lo_move (v := .bool _) rfl) ?_
                    refine ow1 (op1_gs rfl rfl rfl ?_)
                    refine ow1 (op1_gs rfl rfl rfl ?_)
                    refine ow1 (op1_gs rfl rfl rfl ?_)
                    refine ow1 (op1_gs rfl rfl rfl ?_)
                    refine ow1 (op1_gs rfl rfl rfl ?_)
                    refine ol rfl (lo_pick_f (v := .bool _) rfl rfl rfl) ?_
                    refine ol rfl (lo_assign (v := .bool _) rfl) ?_
                    refine ow_nil ?_
                    refine seqK_n ?_
                    refine cw_ret ?_
                    refine fnK_r (res1 rfl (rv_t (v := .bool _) rfl)) (.refl _) ?_
                    first | (simp [DeedR.eq_iff, *]; done)
                  have p27 := df h18
                  refine ow1 (op1_gs rfl h18 rfl ?_)
                  refine ow1 (op1_gs rfl h18 rfl ?_)
                  refine ow1 (op1_gs rfl h18 rfl ?_)
                  refine ow1 (op1_gs rfl h18 rfl ?_)
                  refine ow1 (op1_gs rfl h18 rfl ?_)
                  refine ol rfl (lo_pick_f (v := .bool _) rfl h18 rfl) ?_
                  refine ol rfl (lo_move (v := .bool _) rfl) ?_
                  refine ow1 (op1_gs rfl rfl rfl ?_)
                  refine ow1 (op1_gs rfl rfl rfl ?_)
                  refine ow1 (op1_gs rfl rfl rfl ?_)
                  refine ow1 (op1_gs rfl rfl rfl ?_)
                  refine ow1 (op1_gs rfl rfl rfl ?_)
                  refine ol rfl (lo_pick_f (v := .bool _) rfl rfl rfl) ?_
                  refine ol rfl (lo_move (v := .bool _) rfl) ?_
                  refine ow1 (op1_gs rfl rfl rfl ?_)
                  refine ow1 (op1_gs rfl rfl rfl ?_)
                  refine ow1 (op1_gs rfl rfl rfl ?_)
                  refine ow1 (op1_gs rfl rfl rfl ?_)
                  refine ow1 (op1_gs rfl rfl rfl ?_)
                  refine ol rfl (lo_pick_f (v := .bool _) rfl rfl rfl) ?_
                  refine ol rfl (lo_move (v := .bool _) rfl) ?_
                  refine ow1 (op1_gs rfl rfl rfl ?_)
                  refine ow1 (op1_gs rfl rfl rfl ?_)
                  refine ow1 (op1_gs rfl rfl rfl ?_)
                  refine ow1 (op1_gs rfl rfl rfl ?_)
                  refine ow1 (op1_gs rfl rfl rfl ?_)
                  refine ol rfl (lo_pick_f (v := .bool _) rfl rfl rfl) ?_
                  refine ol rfl (lo_assign (v := .bool _) rfl) ?_
                  refine ow_nil ?_
                  refine seqK_n ?_
                  refine cw_ret ?_
                  refine fnK_r (res1 rfl (rv_t (v := .bool _) rfl)) (.refl _) ?_
                  first | (simp [DeedR.eq_iff, *]; done)
                have p28 := df h16
                refine ow1 (op1_gs rfl h16 rfl ?_)
                refine ow1 (op1_gs rfl h16 rfl ?_)
                refine ow1 (op1_gs rfl h16 rfl ?_)
                refine ow1 (op1_gs rfl h16 rfl ?_)
                refine ow1 (op1_gs rfl h16 rfl ?_)
                refine ol rfl (lo_pick_f (v := .bool _) rfl h16 rfl) ?_
                refine ol rfl (lo_move (v := .bool _) rfl) ?_
                refine ow1 (op1_gs rfl rfl rfl ?_)
                refine ow1 (op1_gs rfl rfl rfl ?_)
                refine ow1 (op1_gs rfl rfl rfl ?_)
                refine ow1 (op1_gs rfl rfl rfl ?_)
                refine ow1 (op1_gs rfl rfl rfl ?_)
                refine ol rfl (lo_pick_f (v := .bool _) rfl rfl rfl) ?_
                refine ol rfl (lo_move (v := .bool _) rfl) ?_
                refine ow1 (op1_gs rfl rfl rfl ?_)
                refine ow1 (op1_gs rfl rfl rfl ?_)
                refine ow1 (op1_gs rfl rfl rfl ?_)
                refine ow1 (op1_gs rfl rfl rfl ?_)
                refine ow1 (op1_gs rfl rfl rfl ?_)
                refine ol rfl (lo_pick_f (v := .bool _) rfl rfl rfl) ?_
                refine ol rfl (lo_move (v := .bool _) rfl) ?_
                refine ow1 (op1_gs rfl rfl rfl ?_)
                refine ow1 (op1_gs rfl rfl rfl ?_)
                refine ow1 (op1_gs rfl rfl rfl ?_)
                refine ow1 (op1_gs rfl rfl rfl ?_)
                refine ow1 (op1_gs rfl rfl rfl ?_)
                refine ol rfl (lo_pick_f (v := .bool _) rfl rfl rfl) ?_
                refine ol rfl (lo_move (v := .bool _) rfl) ?_
                refine ow1 (op1_gs rfl rfl rfl ?_)
                refine ow1 (op1_gs rfl rfl rfl ?_)
                refine ow1 (op1_gs rfl rfl rfl ?_)
                refine ow1 (op1_gs rfl rfl rfl ?_)
                refine ow1 (op1_gs rfl rfl rfl ?_)
                refine ol rfl (lo_pick_f (v := .bool _) rfl rfl rfl) ?_
                refine ol rfl (lo_assign (v := .bool _) rfl) ?_
                refine ow_nil ?_
                refine seqK_n ?_
                refine cw_ret ?_
                refine fnK_r (res1 rfl (rv_t (v := .bool _) rfl)) (.refl _) ?_
                first | (simp [DeedR.eq_iff, *]; done)
              have p29 := df h14
              refine ow1 (op1_gs rfl h14 rfl ?_)
              refine ow1 (op1_gs rfl h14 rfl ?_)
              refine ow1 (op1_gs rfl h14 rfl ?_)
              refine ow1 (op1_gs rfl h14 rfl ?_)
              refine ow1 (op1_gs rfl h14 rfl ?_)
              refine ol rfl (lo_pick_f (v := .bool _) rfl h14 rfl) ?_
              refine ol rfl (lo_move (v := .bool _) rfl) ?_
              refine ow1 (op1_gs rfl rfl rfl ?_)
              refine ow1 (op1_gs rfl rfl rfl ?_)
              refine ow1 (op1_gs rfl rfl rfl ?_)
              refine ow1 (op1_gs rfl rfl rfl ?_)
              refine ow1 (op1_gs rfl rfl rfl ?_)
              refine ol rfl (lo_pick_f (v := .bool _) rfl rfl rfl) ?_
              refine ol rfl (lo_move (v := .bool _) rfl) ?_
              refine ow1 (op1_gs rfl rfl rfl ?_)
              refine ow1 (op1_gs rfl rfl rfl ?_)
              refine ow1 (op1_gs rfl rfl rfl ?_)
              refine ow1 (op1_gs rfl rfl rfl ?_)
              refine ow1 (op1_gs rfl rfl rfl ?_)
              refine ol rfl (lo_pick_f (v := .bool _) rfl rfl rfl) ?_
              refine ol rfl (lo_move (v := .bool _) rfl) ?_
              refine ow1 (op1_gs rfl rfl rfl ?_)
              refine ow1 (op1_gs rfl rfl rfl ?_)
              refine ow1 (op1_gs rfl rfl rfl ?_)
              refine ow1 (op1_gs rfl rfl rfl ?_)
              refine ow1 (op1_gs rfl rfl rfl ?_)
              refine ol rfl (lo_pick_f (v := .bool _) rfl rfl rfl) ?_
              refine ol rfl (lo_move (v := .bool _) rfl) ?_
              refine ow1 (op1_gs rfl rfl rfl ?_)
              refine ow1 (op1_gs rfl rfl rfl ?_)
              refine ow1 (op1_gs rfl rfl rfl ?_)
              refine ow1 (op1_gs rfl rfl rfl ?_)
              refine ow1 (op1_gs rfl rfl rfl ?_)
              refine ol rfl (lo_pick_f (v := .bool _) rfl rfl rfl) ?_
              refine ol rfl (lo_move (v := .bool _) rfl) ?_
              refine ow1 (op1_gs rfl rfl rfl ?_)
              refine ow1 (op1_gs rfl rfl rfl ?_)
              refine ow1 (op1_gs rfl rfl rfl ?_)
              refine ow1 (op1_gs rfl rfl rfl ?_)
              refine ow1 (op1_gs rfl rfl rfl ?_)
              refine ol rfl (lo_pick_f (v := .bool _) rfl rfl rfl) ?_
              refine ol rfl (lo_assign (v := .bool _) rfl) ?_
              refine ow_nil ?_
              refine seqK_n ?_
              refine cw_ret ?_
              refine fnK_r (res1 rfl (rv_t (v := .bool _) rfl)) (.refl _) ?_
              first | (simp [DeedR.eq_iff, *]; done)
            have p30 := df h12
            refine ow1 (op1_gs rfl h12 rfl ?_)
            refine ow1 (op1_gs rfl h12 rfl ?_)
            refine ow1 (op1_gs rfl h12 rfl ?_)
            refine ow1 (op1_gs rfl h12 rfl ?_)
            refine ow1 (op1_gs rfl h12 rfl ?_)
            refine ol rfl (lo_pick_f (v := .bool _) rfl h12 rfl) ?_
            refine ol rfl (lo_move (v := .bool _) rfl) ?_
            refine ow1 (op1_gs rfl rfl rfl ?_)
            refine ow1 (op1_gs rfl rfl rfl ?_)
            refine ow1 (op1_gs rfl rfl rfl ?_)
            refine ow1 (op1_gs rfl rfl rfl ?_)
            refine ow1 (op1_gs rfl rfl rfl ?_)
            refine ol rfl (lo_pick_f (v := .bool _) rfl rfl rfl) ?_
            refine ol rfl (lo_move (v := .bool _) rfl) ?_
            refine ow1 (op1_gs rfl rfl rfl ?_)
            refine ow1 (op1_gs rfl rfl rfl ?_)
            refine ow1 (op1_gs rfl rfl rfl ?_)
            refine ow1 (op1_gs rfl rfl rfl ?_)
            refine ow1 (op1_gs rfl rfl rfl ?_)
            refine ol rfl (lo_pick_f (v := .bool _) rfl rfl rfl) ?_
            refine ol rfl (lo_move (v := .bool _) rfl) ?_
            refine ow1 (op1_gs rfl rfl rfl ?_)
            refine ow1 (op1_gs rfl rfl rfl ?_)
            refine ow1 (op1_gs rfl rfl rfl ?_)
            refine ow1 (op1_gs rfl rfl rfl ?_)
            refine ow1 (op1_gs rfl rfl rfl ?_)
            refine ol rfl (lo_pick_f (v := .bool _) rfl rfl rfl) ?_
            refine ol rfl (lo_move (v := .bool _) rfl) ?_
            refine ow1 (op1_gs rfl rfl rfl ?_)
            refine ow1 (op1_gs rfl rfl rfl ?_)
            refine ow1 (op1_gs rfl rfl rfl ?_)
            refine ow1 (op1_gs rfl rfl rfl ?_)
            refine ow1 (op1_gs rfl rfl rfl ?_)
            refine ol rfl (lo_pick_f (v := .bool _) rfl rfl rfl) ?_
            refine ol rfl (lo_move (v := .bool _) rfl) ?_
            refine ow1 (op1_gs rfl rfl rfl ?_)
            refine ow1 (op1_gs rfl rfl rfl ?_)
            refine ow1 (op1_gs rfl rfl rfl ?_)
            refine ow1 (op1_gs rfl rfl rfl ?_)
            refine ow1 (op1_gs rfl rfl rfl ?_)
            refine ol rfl (lo_pick_f (v := .bool _) rfl rfl rfl) ?_
            refine ol rfl (lo_move (v := .bool _) rfl) ?_
            refine ow1 (op1_gs rfl rfl rfl ?_)
            refine ow1 (op1_gs rfl rfl rfl ?_)
            refine ow1 (op1_gs rfl rfl rfl ?_)
            refine ow1 (op1_gs rfl rfl rfl ?_)
            refine ow1 (op1_gs rfl rfl rfl ?_)
            refine ol rfl (lo_pick_f (v := .bool _) rfl rfl rfl) ?_
            refine ol rfl (lo_assign (v := .bool _) rfl) ?_
            refine ow_nil ?_
            refine seqK_n ?_
            refine cw_ret ?_
            refine fnK_r (res1 rfl (rv_t (v := .bool _) rfl)) (.refl _) ?_
            first | (simp [DeedR.eq_iff, *]; done)
          refine ow1 (op1_gs rfl h11 rfl ?_)
          refine ow1 (op1_gs rfl h11 rfl ?_)
          refine ow1 (op1_gs rfl h11 rfl ?_)
          refine ow1 (op1_gs rfl h11 rfl ?_)
          refine ow1 (op1_gs rfl h11 rfl ?_)
          refine ol rfl (lo_pick_f (v := .bool _) rfl h11 rfl) ?_
          refine ol rfl (lo_move (v := .bool _) rfl) ?_
          refine ow1 (op1_gs rfl rfl rfl ?_)
          refine ow1 (op1_gs rfl rfl rfl ?_)
          refine ow1 (op1_gs rfl rfl rfl ?_)
          refine ow1 (op1_gs rfl rfl rfl ?_)
          refine ow1 (op1_gs rfl rfl rfl ?_)
          refine ol rfl (lo_pick_f (v := .bool _) rfl rfl rfl) ?_
          refine ol rfl (lo_move (v := .bool _) rfl) ?_
          refine ow1 (op1_gs rfl rfl rfl ?_)
          refine ow1 (op1_gs rfl rfl rfl ?_)
          refine ow1 (op1_gs rfl rfl rfl ?_)
          refine ow1 (op1_gs rfl rfl rfl ?_)
          refine ow1 (op1_gs rfl rfl rfl ?_)
          refine ol rfl (lo_pick_f (v := .bool _) rfl rfl rfl) ?_
          refine ol rfl (lo_move (v := .bool _) rfl) ?_
          refine ow1 (op1_gs rfl rfl rfl ?_)
          refine ow1 (op1_gs rfl rfl rfl ?_)
          refine ow1 (op1_gs rfl rfl rfl ?_)
          refine ow1 (op1_gs rfl rfl rfl ?_)
          refine ow1 (op1_gs rfl rfl rfl ?_)
          refine ol rfl (lo_pick_f (v := .bool _) rfl rfl rfl) ?_
          refine ol rfl (lo_move (v := .bool _) rfl) ?_
          refine ow1 (op1_gs rfl rfl rfl ?_)
          refine ow1 (op1_gs rfl rfl rfl ?_)
          refine ow1 (op1_gs rfl rfl rfl ?_)
          refine ow1 (op1_gs rfl rfl rfl ?_)
          refine ow1 (op1_gs rfl rfl rfl ?_)
          refine ol rfl (lo_pick_f (v := .bool _) rfl rfl rfl) ?_
          refine ol rfl (lo_move (v := .bool _) rfl) ?_
          refine ow1 (op1_gs rfl rfl rfl ?_)
          refine ow1 (op1_gs rfl rfl rfl ?_)
          refine ow1 (op1_gs rfl rfl rfl ?_)
          refine ow1 (op1_gs rfl rfl rfl ?_)
          refine ow1 (op1_gs rfl rfl rfl ?_)
          refine ol rfl (lo_pick_f (v := .bool _) rfl rfl rfl) ?_
          refine ol rfl (lo_move (v := .bool _) rfl) ?_
          refine ow1 (op1_gs rfl rfl rfl ?_)
          refine ow1 (op1_gs rfl rfl rfl ?_)
          refine ow1 (op1_gs rfl rfl rfl ?_)
          refine ow1 (op1_gs rfl rfl rfl ?_)
          refine ow1 (op1_gs rfl rfl rfl ?_)
          refine ol rfl (lo_pick_f (v := .bool _) rfl rfl rfl) ?_
          refine ol rfl (lo_move (v := .bool _) rfl) ?_
          refine ow1 (op1_gs rfl rfl rfl ?_)
          refine ow1 (op1_gs rfl rfl rfl ?_)
          refine ow1 (op1_gs rfl rfl rfl ?_)
          refine ow1 (op1_gs rfl rfl rfl ?_)
          refine ow1 (op1_gs rfl rfl rfl ?_)
          refine ol rfl (lo_pick_f (v := .bool _) rfl rfl rfl) ?_
          refine ol rfl (lo_assign (v := .bool _) rfl) ?_
          refine ow_nil ?_
          refine seqK_n ?_
          refine cw_ret ?_
          refine fnK_r (res1 rfl (rv_t (v := .bool _) rfl)) (.refl _) ?_
          first | (simp [DeedR.eq_iff, *]; done)
        have p31 := df h9
        refine ow1 (op1_gs rfl h9 rfl ?_)
        refine ow1 (op1_gs rfl h9 rfl ?_)
        refine ow1 (op1_gs rfl h9 rfl ?_)
        refine ow1 (op1_gs rfl h9 rfl ?_)
        refine ow1 (op1_gs rfl h9 rfl ?_)
        refine ol rfl (lo_pick_f (v := .bool _) rfl h9 rfl) ?_
        refine ol rfl (lo_move (v := .bool _) rfl) ?_
        refine ow1 (op1_gs rfl rfl rfl ?_)
        refine ow1 (op1_gs rfl rfl rfl ?_)
        refine ow1 (op1_gs rfl rfl rfl ?_)
        refine ow1 (op1_gs rfl rfl rfl ?_)
        refine ow1 (op1_gs rfl rfl rfl ?_)
        refine ol rfl (lo_pick_f (v := .bool _) rfl rfl rfl) ?_
        refine ol rfl (lo_move (v := .bool _) rfl) ?_
        refine ow1 (op1_gs rfl rfl rfl ?_)
        refine ow1 (op1_gs rfl rfl rfl ?_)
        refine ow1 (op1_gs rfl rfl rfl ?_)
        refine ow1 (op1_gs rfl rfl rfl ?_)
        refine ow1 (op1_gs rfl rfl rfl ?_)
        refine ol rfl (lo_pick_f (v := .bool _) rfl rfl rfl) ?_
        refine ol rfl (lo_move (v := .bool _) rfl) ?_
        refine ow1 (op1_gs rfl rfl rfl ?_)
        refine ow1 (op1_gs rfl rfl rfl ?_)
        refine ow1 (op1_gs rfl rfl rfl ?_)
        refine ow1 (op1_gs rfl rfl rfl ?_)
        refine ow1 (op1_gs rfl rfl rfl ?_)
        refine ol rfl (lo_pick_f (v := .bool _) rfl rfl rfl) ?_
        refine ol rfl (lo_move (v := .bool _) rfl) ?_
        refine ow1 (op1_gs rfl rfl rfl ?_)
        refine ow1 (op1_gs rfl rfl rfl ?_)
        refine ow1 (op1_gs rfl rfl rfl ?_)
        refine ow1 (op1_gs rfl rfl rfl ?_)
        refine ow1 (op1_gs rfl rfl rfl ?_)
        refine ol rfl (lo_pick_f (v := .bool _) rfl rfl rfl) ?_
        refine ol rfl (lo_move (v := .bool _) rfl) ?_
        refine ow1 (op1_gs rfl rfl rfl ?_)
        refine ow1 (op1_gs rfl rfl rfl ?_)
        refine ow1 (op1_gs rfl rfl rfl ?_)
        refine ow1 (op1_gs rfl rfl rfl ?_)
        refine ow1 (op1_gs rfl rfl rfl ?_)
        refine ol rfl (lo_pick_f (v := .bool _) rfl rfl rfl) ?_
        refine ol rfl (lo_move (v := .bool _) rfl) ?_
        refine ow1 (op1_gs rfl rfl rfl ?_)
        refine ow1 (op1_gs rfl rfl rfl ?_)
        refine ow1 (op1_gs rfl rfl rfl ?_)
        refine ow1 (op1_gs rfl rfl rfl ?_)
        refine ow1 (op1_gs rfl rfl rfl ?_)
        refine ol rfl (lo_pick_f (v := .bool _) rfl rfl rfl) ?_
        refine ol rfl (lo_move (v := .bool _) rfl) ?_
        refine ow1 (op1_gs rfl rfl rfl ?_)
        refine ow1 (op1_gs rfl rfl rfl ?_)
        refine ow1 (op1_gs rfl rfl rfl ?_)
        refine ow1 (op1_gs rfl rfl rfl ?_)
        refine ow1 (op1_gs rfl rfl rfl ?_)
        refine ol rfl (lo_pick_f (v := .bool _) rfl rfl rfl) ?_
        refine ol rfl (lo_move (v := .bool _) rfl) ?_
        refine ow1 (op1_gs rfl rfl rfl ?_)
        refine ow1 (op1_gs rfl rfl rfl ?_)
        refine ow1 (op1_gs rfl rfl rfl ?_)
        refine ow1 (op1_gs rfl rfl rfl ?_)
        refine ow1 (op1_gs rfl rfl rfl ?_)
        refine ol rfl (lo_pick_f (v := .bool _) rfl rfl rfl) ?_
        refine ol rfl (lo_assign (v := .bool _) rfl) ?_
        refine ow_nil ?_
        refine seqK_n ?_
        refine cw_ret ?_
        refine fnK_r (res1 rfl (rv_t (v := .bool _) rfl)) (.refl _) ?_
        first | (simp [DeedR.eq_iff, *]; done)
      have p32 := df h7
      refine ow1 (op1_gs rfl h7 rfl ?_)
      refine ow1 (op1_gs rfl h7 rfl ?_)
      refine ow1 (op1_gs rfl h7 rfl ?_)
      refine ow1 (op1_gs rfl h7 rfl ?_)
      refine ow1 (op1_gs rfl h7 rfl ?_)
      refine ol rfl (lo_pick_f (v := .bool _) rfl h7 rfl) ?_
      refine ol rfl (lo_move (v := .bool _) rfl) ?_
      refine ow1 (op1_gs rfl rfl rfl ?_)
      refine ow1 (op1_gs rfl rfl rfl ?_)
      refine ow1 (op1_gs rfl rfl rfl ?_)
      refine ow1 (op1_gs rfl rfl rfl ?_)
      refine ow1 (op1_gs rfl rfl rfl ?_)
      refine ol rfl (lo_pick_f (v := .bool _) rfl rfl rfl) ?_
      refine ol rfl (lo_move (v := .bool _) rfl) ?_
      refine ow1 (op1_gs rfl rfl rfl ?_)
      refine ow1 (op1_gs rfl rfl rfl ?_)
      refine ow1 (op1_gs rfl rfl rfl ?_)
      refine ow1 (op1_gs rfl rfl rfl ?_)
      refine ow1 (op1_gs rfl rfl rfl ?_)
      refine ol rfl (lo_pick_f (v := .bool _) rfl rfl rfl) ?_
      refine ol rfl (lo_move (v := .bool _) rfl) ?_
      refine ow1 (op1_gs rfl rfl rfl ?_)
      refine ow1 (op1_gs rfl rfl rfl ?_)
      refine ow1 (op1_gs rfl rfl rfl ?_)
      refine ow1 (op1_gs rfl rfl rfl ?_)
      refine ow1 (op1_gs rfl rfl rfl ?_)
      refine ol rfl (lo_pick_f (v := .bool _) rfl rfl rfl) ?_
      refine ol rfl (lo_move (v := .bool _) rfl) ?_
      refine ow1 (op1_gs rfl rfl rfl ?_)
      refine ow1 (op1_gs rfl rfl rfl ?_)
      refine ow1 (op1_gs rfl rfl rfl ?_)
      refine ow1 (op1_gs rfl rfl rfl ?_)
      refine ow1 (op1_gs rfl rfl rfl ?_)
      refine ol rfl (lo_pick_f (v := .bool _) rfl rfl rfl) ?_
      refine ol rfl (lo_move (v := .bool _) rfl) ?_
      refine ow1 (op1_gs rfl rfl rfl ?_)
      refine ow1 (op1_gs rfl rfl rfl ?_)
      refine ow1 (op1_gs rfl rfl rfl ?_)
      refine ow1 (op1_gs rfl rfl rfl ?_)
      refine ow1 (op1_gs rfl rfl rfl ?_)
      refine ol rfl (lo_pick_f (v := .bool _) rfl rfl rfl) ?_
      refine ol rfl (lo_move (v := .bool _) rfl) ?_
      refine ow1 (op1_gs rfl rfl rfl ?_)
      refine ow1 (op1_gs rfl rfl rfl ?_)
      refine ow1 (op1_gs rfl rfl rfl ?_)
      refine ow1 (op1_gs rfl rfl rfl ?_)
      refine ow1 (op1_gs rfl rfl rfl ?_)
      refine ol rfl (lo_pick_f (v := .bool _) rfl rfl rfl) ?_
      refine ol rfl (lo_move (v := .bool _) rfl) ?_
      refine ow1 (op1_gs rfl rfl rfl ?_)
      refine ow1 (op1_gs rfl rfl rfl ?_)
      refine ow1 (op1_gs rfl rfl rfl ?_)
      refine ow1 (op1_gs rfl rfl rfl ?_)
      refine ow1 (op1_gs rfl rfl rfl ?_)
      refine ol rfl (lo_pick_f (v := .bool _) rfl rfl rfl) ?_
      refine ol rfl (lo_move (v := .bool _) rfl) ?_
      refine ow1 (op1_gs rfl rfl rfl ?_)
      refine ow1 (op1_gs rfl rfl rfl ?_)
      refine ow1 (op1_gs rfl rfl rfl ?_)
      refine ow1 (op1_gs rfl rfl rfl ?_)
      refine ow1 (op1_gs rfl rfl rfl ?_)
      refine ol rfl (lo_pick_f (v := .bool _) rfl rfl rfl) ?_
      refine ol rfl (lo_move (v := .bool _) rfl) ?_
      refine ow1 (op1_gs rfl rfl rfl ?_)
      refine ow1 (op1_gs rfl rfl rfl ?_)
      refine ow1 (op1_gs rfl rfl rfl ?_)
      refine ow1 (op1_gs rfl rfl rfl ?_)
      refine ow1 (op1_gs rfl rfl rfl ?_)
      refine ol rfl (lo_pick_f (v := .bool _) rfl rfl rfl) ?_
      refine ol rfl (lo_assign (v := .bool _) rfl) ?_
      refine ow_nil ?_
      refine seqK_n ?_
      refine cw_ret ?_
      refine fnK_r (res1 rfl (rv_t (v := .bool _) rfl)) (.refl _) ?_
      first | (simp [DeedR.eq_iff, *]; done)
    have p33 := df h5
    refine ow1 (op1_gs rfl h5 rfl ?_)
    refine ow1 (op1_gs rfl h5 rfl ?_)
    refine ow1 (op1_gs rfl h5 rfl ?_)
    refine ow1 (op1_gs rfl h5 rfl ?_)
    refine ow1 (op1_gs rfl h5 rfl ?_)
    refine ol rfl (lo_pick_f (v := .bool _) rfl h5 rfl) ?_
    refine ol rfl (lo_move (v := .bool _) rfl) ?_
    refine ow1 (op1_gs rfl rfl rfl ?_)
    refine ow1 (op1_gs rfl rfl rfl ?_)
    refine ow1 (op1_gs rfl rfl rfl ?_)
    refine ow1 (op1_gs rfl rfl rfl ?_)
    refine ow1 (op1_gs rfl rfl rfl ?_)
    refine ol rfl (lo_pick_f (v := .bool _) rfl rfl rfl) ?_
    refine ol rfl (lo_move (v := .bool _) rfl) ?_
    refine ow1 (op1_gs rfl rfl rfl ?_)
    refine ow1 (op1_gs rfl rfl rfl ?_)
    refine ow1 (op1_gs rfl rfl rfl ?_)
    refine ow1 (op1_gs rfl rfl rfl ?_)
    refine ow1 (op1_gs rfl rfl rfl ?_)
    refine ol rfl (lo_pick_f (v := .bool _) rfl rfl rfl) ?_
    refine ol rfl (lo_move (v := .bool _) rfl) ?_
    refine ow1 (op1_gs rfl rfl rfl ?_)
    refine ow1 (op1_gs rfl rfl rfl ?_)
    refine ow1 (op1_gs rfl rfl rfl ?_)
    refine ow1 (op1_gs rfl rfl rfl ?_)
    refine ow1 (op1_gs rfl rfl rfl ?_)
    refine ol rfl (lo_pick_f (v := .bool _) rfl rfl rfl) ?_
    refine ol rfl (lo_move (v := .bool _) rfl) ?_
    refine ow1 (op1_gs rfl rfl rfl ?_)
    refine ow1 (op1_gs rfl rfl rfl ?_)
    refine ow1 (op1_gs rfl rfl rfl ?_)
    refine ow1 (op1_gs rfl rfl rfl ?_)
    refine ow1 (op1_gs rfl rfl rfl ?_)
    refine ol rfl (lo_pick_f (v := .bool _) rfl rfl rfl) ?_
    refine ol rfl (lo_move (v := .bool _) rfl) ?_
    refine ow1 (op1_gs rfl rfl rfl ?_)
    refine ow1 (op1_gs rfl rfl rfl ?_)
    refine ow1 (op1_gs rfl rfl rfl ?_)
    refine ow1 (op1_gs rfl rfl rfl ?_)
    refine ow1 (op1_gs rfl rfl rfl ?_)
    refine ol rfl (lo_pick_f (v := .bool _) rfl rfl rfl) ?_
    refine ol rfl (lo_move (v := .bool _) rfl) ?_
    refine ow1 (op1_gs rfl rfl rfl ?_)
    refine ow1 (op1_gs rfl rfl rfl ?_)
    refine ow1 (op1_gs rfl rfl rfl ?_)
    refine ow1 (op1_gs rfl rfl rfl ?_)
    refine ow1 (op1_gs rfl rfl rfl ?_)
    refine ol rfl (lo_pick_f (v := .bool _) rfl rfl rfl) ?_
    refine ol rfl (lo_move (v := .bool _) rfl) ?_
    refine ow1 (op1_gs rfl rfl rfl ?_)
    refine ow1 (op1_gs rfl rfl rfl ?_)
    refine ow1 (op1_gs rfl rfl rfl ?_)
    refine ow1 (op1_gs rfl rfl rfl ?_)
    refine ow1 (op1_gs rfl rfl rfl ?_)
    refine ol rfl (lo_pick_f (v := .bool _) rfl rfl rfl) ?_
    refine ol rfl (lo_move (v := .bool _) rfl) ?_
    refine ow1 (op1_gs rfl rfl rfl ?_)
    refine ow1 (op1_gs rfl rfl rfl ?_)
    refine ow1 (op1_gs rfl rfl rfl ?_)
    refine ow1 (op1_gs rfl rfl rfl ?_)
    refine ow1 (op1_gs rfl rfl rfl ?_)
    refine ol rfl (lo_pick_f (v := .bool _) rfl rfl rfl) ?_
    refine ol rfl (lo_move (v := .bool _) rfl) ?_
    refine ow1 (op1_gs rfl rfl rfl ?_)
    refine ow1 (op1_gs rfl rfl rfl ?_)
    refine ow1 (op1_gs rfl rfl rfl ?_)
    refine ow1 (op1_gs rfl rfl rfl ?_)
    refine ow1 (op1_gs rfl rfl rfl ?_)
    refine ol rfl (lo_pick_f (v := .bool _) rfl rfl rfl) ?_
    refine ol rfl (lo_move (v := .bool _) rfl) ?_
    refine ow1 (op1_gs rfl rfl rfl ?_)
    refine ow1 (op1_gs rfl rfl rfl ?_)
    refine ow1 (op1_gs rfl rfl rfl ?_)
    refine ow1 (op1_gs rfl rfl rfl ?_)
    refine ow1 (op1_gs rfl rfl rfl ?_)
    refine ol rfl (lo_pick_f (v := .bool _) rfl rfl rfl) ?_
    refine ol rfl (lo_assign (v := .bool _) rfl) ?_
    refine ow_nil ?_
    refine seqK_n ?_
    refine cw_ret ?_
    refine fnK_r (res1 rfl (rv_t (v := .bool _) rfl)) (.refl _) ?_
    first | (simp [DeedR.eq_iff, *]; done)
  have p34 := df h3
  refine ow1 (op1_gs rfl h3 rfl ?_)
  refine ow1 (op1_gs rfl h3 rfl ?_)
  refine ow1 (op1_gs rfl h3 rfl ?_)
  refine ow1 (op1_gs rfl h3 rfl ?_)
  refine ow1 (op1_gs rfl h3 rfl ?_)
  refine ol rfl (lo_pick_f (v := .bool _) rfl h3 rfl) ?_
  refine ol rfl (lo_move (v := .bool _) rfl) ?_
  refine ow1 (op1_gs rfl rfl rfl ?_)
  refine ow1 (op1_gs rfl rfl rfl ?_)
  refine ow1 (op1_gs rfl rfl rfl ?_)
  refine ow1 (op1_gs rfl rfl rfl ?_)
  refine ow1 (op1_gs rfl rfl rfl ?_)
  refine ol rfl (lo_pick_f (v := .bool _) rfl rfl rfl) ?_
  refine ol rfl (lo_move (v := .bool _) rfl) ?_
  refine ow1 (op1_gs rfl rfl rfl ?_)
  refine ow1 (op1_gs rfl rfl rfl ?_)
  refine ow1 (op1_gs rfl rfl rfl ?_)
  refine ow1 (op1_gs rfl rfl rfl ?_)
  refine ow1 (op1_gs rfl rfl rfl ?_)
  refine ol rfl (lo_pick_f (v := .bool _) rfl rfl rfl) ?_
  refine ol rfl (lo_move (v := .bool _) rfl) ?_
  refine ow1 (op1_gs rfl rfl rfl ?_)
  refine ow1 (op1_gs rfl rfl rfl ?_)
  refine ow1 (op1_gs rfl rfl rfl ?_)
  refine ow1 (op1_gs rfl rfl rfl ?_)
  refine ow1 (op1_gs rfl rfl rfl ?_)
  refine ol rfl (lo_pick_f (v := .bool _) rfl rfl rfl) ?_
  refine ol rfl (lo_move (v := .bool _) rfl) ?_
  refine ow1 (op1_gs rfl rfl rfl ?_)
  refine ow1 (op1_gs rfl rfl rfl ?_)
  refine ow1 (op1_gs rfl rfl rfl ?_)
  refine ow1 (op1_gs rfl rfl rfl ?_)
  refine ow1 (op1_gs rfl rfl rfl ?_)
  refine ol rfl (lo_pick_f (v := .bool _) rfl rfl rfl) ?_
  refine ol rfl (lo_move (v := .bool _) rfl) ?_
  refine ow1 (op1_gs rfl rfl rfl ?_)
  refine ow1 (op1_gs rfl rfl rfl ?_)
  refine ow1 (op1_gs rfl rfl rfl ?_)
  refine ow1 (op1_gs rfl rfl rfl ?_)
  refine ow1 (op1_gs rfl rfl rfl ?_)
  refine ol rfl (lo_pick_f (v := .bool _) rfl rfl rfl) ?_
  refine ol rfl (lo_move (v := .bool _) rfl) ?_
  refine ow1 (op1_gs rfl rfl rfl ?_)
  refine ow1 (op1_gs rfl rfl rfl ?_)
  refine ow1 (op1_gs rfl rfl rfl ?_)
  refine ow1 (op1_gs rfl rfl rfl ?_)
  refine ow1 (op1_gs rfl rfl rfl ?_)
  refine ol rfl (lo_pick_f (v := .bool _) rfl rfl rfl) ?_
  refine ol rfl (lo_move (v := .bool _) rfl) ?_
  refine ow1 (op1_gs rfl rfl rfl ?_)
  refine ow1 (op1_gs rfl rfl rfl ?_)
  refine ow1 (op1_gs rfl rfl rfl ?_)
  refine ow1 (op1_gs rfl rfl rfl ?_)
  refine ow1 (op1_gs rfl rfl rfl ?_)
  refine ol rfl (lo_pick_f (v := .bool _) rfl rfl rfl) ?_
  refine ol rfl (lo_move (v := .bool _) rfl) ?_
  refine ow1 (op1_gs rfl rfl rfl ?_)
  refine ow1 (op1_gs rfl rfl rfl ?_)
  refine ow1 (op1_gs rfl rfl rfl ?_)
  refine ow1 (op1_gs rfl rfl rfl ?_)
  refine ow1 (op1_gs rfl rfl rfl ?_)
  refine ol rfl (lo_pick_f (v := .bool _) rfl rfl rfl) ?_
  refine ol rfl (lo_move (v := .bool _) rfl) ?_
  refine ow1 (op1_gs rfl rfl rfl ?_)
  refine ow1 (op1_gs rfl rfl rfl ?_)
  refine ow1 (op1_gs rfl rfl rfl ?_)
  refine ow1 (op1_gs rfl rfl rfl ?_)
  refine ow1 (op1_gs rfl rfl rfl ?_)
  refine ol rfl (lo_pick_f (v := .bool _) rfl rfl rfl) ?_
  refine ol rfl (lo_move (v := .bool _) rfl) ?_
  refine ow1 (op1_gs rfl rfl rfl ?_)
  refine ow1 (op1_gs rfl rfl rfl ?_)
  refine ow1 (op1_gs rfl rfl rfl ?_)
  refine ow1 (op1_gs rfl rfl rfl ?_)
  refine ow1 (op1_gs rfl rfl rfl ?_)
  refine ol rfl (lo_pick_f (v := .bool _) rfl rfl rfl) ?_
  refine ol rfl (lo_move (v := .bool _) rfl) ?_
  refine ow1 (op1_gs rfl rfl rfl ?_)
  refine ow1 (op1_gs rfl rfl rfl ?_)
  refine ow1 (op1_gs rfl rfl rfl ?_)
  refine ow1 (op1_gs rfl rfl rfl ?_)
  refine ow1 (op1_gs rfl rfl rfl ?_)
  refine ol rfl (lo_pick_f (v := .bool _) rfl rfl rfl) ?_
  refine ol rfl (lo_assign (v := .bool _) rfl) ?_
  refine ow_nil ?_
  refine seqK_n ?_
  refine cw_ret ?_
  refine fnK_r (res1 rfl (rv_t (v := .bool _) rfl)) (.refl _) ?_
  first | (simp [DeedR.eq_iff, *]; done)
end Go.SW
set_option linter.unusedVariables false
set_option maxRecDepth 100000
set_option maxHeartbeats 4000000
namespace Go.SW
open Go.Proofs
theorem ag38 : Ag Tryd.prog 38 true := fun w => by kernel_rfl
theorem bd38_0u8_1u64 (a1 : Int) (a2 : Int) (w : World) : (Instr.build 38 #[(0, .int .u8 a1), (1, .int .u64 a2)]).run Tryd.prog w = .ok (.agg #[.int .u8 a1, .int .u64 a2, str [], .int .u8 0, str [], str [], .int .u64 0, .int .u64 0, str [], str [], str [], .bool false, str [], .slice none 0 0, .bool false, str [], .int .u64 0, .int .u8 0, .int .u8 0, .int .u8 0, .int .u64 0, .int .u64 0, str [], str [], .slice none 0 0, str [], .int .u64 0, .int .u8 0, str []]) w := by kernel_rfl
theorem sz22 : Sz Tryd.prog 22 1 := fun w => by kernel_rfl
theorem sz38 : Sz Tryd.prog 38 29 := fun w => by kernel_rfl
theorem zr38 : Zr Tryd.prog 38 [.int .u8 0, .int .u64 0, str [], .int .u8 0, str [], str [], .int .u64 0, .int .u64 0, str [], str [], str [], .bool false, str [], .slice none 0 0, .bool false, str [], .int .u64 0, .int .u8 0, .int .u8 0, .int .u8 0, .int .u64 0, .int .u64 0, str [], str [], .slice none 0 0, str [], .int .u64 0, .int .u8 0, str []] := fun w => ⟨.agg #[.int .u8 0, .int .u64 0, str [], .int .u8 0, str [], str [], .int .u64 0, .int .u64 0, str [], str [], str [], .bool false, str [], .slice none 0 0, .bool false, str [], .int .u64 0, .int .u8 0, .int .u8 0, .int .u8 0, .int .u64 0, .int .u64 0, str [], str [], .slice none 0 0, str [], .int .u64 0, .int .u8 0, str []], by kernel_rfl, rfl⟩
theorem deed_told (H : Hp) (d : DeedR) (d_bind_want_a : Option Addr) (d_bind_want_c : Nat) (d_bind_want_h : SlH pairE 4 H (.slice d_bind_want_a d.bind.want.length d_bind_want_c) d.bind.want) (d_mail_head_a : Option Addr) (d_mail_head_c : Nat) (d_mail_head_h : SlH pairE 4 H (.slice d_mail_head_a d.mail.head.length d_mail_head_c) d.mail.head) (d_w : DeedR.wf d) : Ph Tryd.prog 23 #[.agg (DeedR.cells d d_bind_want_a d_bind_want_c d_mail_head_a d_mail_head_c).toArray] H (fun v H' => ∃ (a1 : Option Addr) (c1 : Nat) (a2 : Option Addr) (c2 : Nat), v = .agg (DeedR.cells (toldD d) a1 c1 a2 c2).toArray ∧ SlH pairE 4 H' (.slice a1 ((toldD d).bind.want).length c1) ((toldD d).bind.want) ∧ SlH pairE 4 H' (.slice a2 ((toldD d).mail.head).length c2) ((toldD d).mail.head)) := by
  refine ph_cw Tryd.func23 rfl Tryd.ntmps23 rfl (fun N => ?_)
  have d_w' := d_w
  simp only [DeedR.wf, ShopR.wf, QueueR.wf, BindR.wf, Mail.wf] at d_w'
  refine cw_seq ?_
  refine cw_region ?_
  refine ow1 (op1_box (cs := [_, _, _, _, _, _, _, _, _, _, _, _, _, _, _, _, _, _, _, _, _, _, _, _, _, _, _, _, _]) 0 rfl rfl (fun b1 => ?_))
  refine ow1 (op1_alloc 1 rfl zr38 (fun b2 => ?_))
  refine ow_nil ?_
  refine seqK_n ?_
  refine cw_seq ?_
  refine cw_region ?_
  refine ol rfl (lo_fieldAddr rfl fl38_0) ?_
  refine ol rfl (lo_load1 (i := 0) (v := .int _ _) rfl ag5 rfl rfl) ?_
  refine ol rfl (lo_fieldAddr rfl fl38_1) ?_
  refine ol rfl (lo_load1 (i := 0) (v := .int _ _) rfl ag22 rfl rfl) ?_
  refine ol rfl (lo_build (v := .agg #[_, _, _, _, _, _, _, _, _, _, _, _, _, _, _, _, _, _, _, _, _, _, _, _, _, _, _, _, _]) rfl (bd38_0u8_1u64 _ _)) ?_
  refine ow1 (op1_alloc 2 rfl zr38 (fun b3 => ?_))
  refine ow1 (op1_storeAll (i := 2) (vs := [_, _, _, _, _, _, _, _, _, _, _, _, _, _, _, _, _, _, _, _, _, _, _, _, _, _, _, _, _]) rfl rfl rfl sz38 rfl rfl rfl ?_)
  refine ow_nil ?_
  refine seqK_n ?_
  refine cw_seq ?_
  refine cw_seq ?_
  refine cw_region ?_
  refine ol rfl (lo_fieldAddr rfl fl38_0) ?_
  refine ol rfl (lo_load1 (i := 0) (v := .int _ _) rfl ag5 rfl rfl) ?_
  refine ow_nil ?_
  refine seqK_n ?_
  refine cw_block ?_
  refine cw_seq ?_
  refine cw_region ?_
  refine ol rfl (lo_eql rfl rfl) ?_
  refine ol rfl (lo_assign (v := .bool _) rfl) ?_
  refine ow_nil ?_
  refine seqK_n ?_
  refine cw_cond rfl (fun h4 => ?_) (fun h4 => ?_)
  · have p5 := dt h4
    refine cw_region ?_
    refine ol rfl (lo_fieldAddr rfl fl38_2) ?_
    refine ol rfl (lo_loadA (i := 0) (vs := [_, _, _]) rfl ag29 sz29 rfl rfl rfl) ?_
    refine ol rfl (lo_fieldAddr rfl fl38_2) ?_
    refine ow1 (op1_storeAp (i := 2) (vs := [_, _, _]) [_, _, _, _, _, _, _, _, _, _, _, _, _, _, _, _, _, _, _, _, _, _, _, _, _, _, _, _, _] rfl rfl rfl sz29 rfl rfl rfl rfl ?_)
    refine ow_nil ?_
    refine blkK_n ?_
    refine seqK_n ?_
    refine cw_seq ?_
    refine cw_region ?_
    refine ol rfl (lo_loadA (i := 2) (vs := [_, _, _, _, _, _, _, _, _, _, _, _, _, _, _, _, _, _, _, _, _, _, _, _, _, _, _, _, _]) rfl ag38 sz38 rfl rfl rfl) ?_
    refine ow1 (op1_storeAll (i := 1) (vs := [_, _, _, _, _, _, _, _, _, _, _, _, _, _, _, _, _, _, _, _, _, _, _, _, _, _, _, _, _]) rfl rfl rfl sz38 rfl rfl rfl ?_)
    refine ow_nil ?_
    refine seqK_n ?_
    refine cw_ret ?_
    refine fnK_r (res1 rfl (rv_c (i := 1) (vs := [_, _, _, _, _, _, _, _, _, _, _, _, _, _, _, _, _, _, _, _, _, _, _, _, _, _, _, _, _]) rfl ag38 sz38 rfl rfl rfl)) (.refl _) ?_
    have e : toldD d = (⟨d.kind, d.tick, d.shop, (⟨[], 0, 0, []⟩ : QueueR), (⟨[], [], false, [], [], false⟩ : BindR), [], 0, 0, 0, 0, 0, (⟨0, [], [], [], [], 0, 0⟩ : Mail), []⟩ : DeedR) := by
      unfold toldD
      repeat (first | rw [if_pos (by omega)] | rw [if_neg (by omega)])
      rfl
    rw [e]
    exact ⟨_, _, _, _, rfl, slh_nil, slh_nil⟩
  have p6 := df h4
  refine cw_seq ?_
  refine cw_region ?_
  refine ol rfl (lo_eql rfl rfl) ?_
  refine ol rfl (lo_assign (v := .bool _) rfl) ?_
  refine ow_nil ?_
  refine seqK_n ?_
  refine cw_cond rfl (fun h7 => ?_) (fun h7 => ?_)
  · have p8 := dt h7
    refine cw_region ?_
    refine ol rfl (lo_fieldAddr rfl fl38_3) ?_
    refine ol rfl (lo_loadA (i := 0) (vs := [_, _, _, _]) rfl ag31 sz31 rfl rfl rfl) ?_
    refine ol rfl (lo_fieldAddr rfl fl38_3) ?_
    refine ow1 (op1_storeAp (i := 2) (vs := [_, _, _, _]) [_, _, _, _, _, _, _, _, _, _, _, _, _, _, _, _, _, _, _, _, _, _, _, _, _, _, _, _, _] rfl rfl rfl sz31 rfl rfl rfl rfl ?_)
    refine ow_nil ?_
    refine blkK_n ?_
    refine seqK_n ?_
    refine cw_seq ?_
    refine cw_region ?_
    refine ol rfl (lo_loadA (i := 2) (vs := [_, _, _, _, _, _, _, _, _, _, _, _, _, _, _, _, _, _, _, _, _, _, _, _, _, _, _, _, _]) rfl ag38 sz38 rfl rfl rfl) ?_
    refine ow1 (op1_storeAll (i := 1) (vs := [_, _, _, _, _, _, _, _, _, _, _, _, _, _, _, _, _, _, _, _, _, _, _, _, _, _, _, _, _]) rfl rfl rfl sz38 rfl rfl rfl ?_)
    refine ow_nil ?_
    refine seqK_n ?_
    refine cw_ret ?_
    refine fnK_r (res1 rfl (rv_c (i := 1) (vs := [_, _, _, _, _, _, _, _, _, _, _, _, _, _, _, _, _, _, _, _, _, _, _, _, _, _, _, _, _]) rfl ag38 sz38 rfl rfl rfl)) (.refl _) ?_
    have e : toldD d = (⟨d.kind, d.tick, (⟨[], 0, []⟩ : ShopR), d.queue, (⟨[], [], false, [], [], false⟩ : BindR), [], 0, 0, 0, 0, 0, (⟨0, [], [], [], [], 0, 0⟩ : Mail), []⟩ : DeedR) := by
      unfold toldD
      repeat (first | rw [if_pos (by omega)] | rw [if_neg (by omega)])
      rfl
    rw [e]
    exact ⟨_, _, _, _, rfl, slh_nil, slh_nil⟩
  have p9 := df h7
  refine cw_seq ?_
  refine cw_seq ?_
  refine cw_region ?_
  refine ol rfl (lo_eql rfl rfl) ?_
  refine ol rfl (lo_assign (v := .bool _) rfl) ?_
  refine ow_nil ?_
  refine seqK_n ?_
  refine cw_cond rfl (fun h10 => ?_) (fun h10 => ?_)
  · have p11 := dt h10
    refine cw_skip ?_
    refine seqK_n ?_
    refine cw_cond_t rfl h10 ?_
    refine cw_region ?_
    refine ol rfl (lo_fieldAddr rfl fl38_4) ?_
    refine ol rfl (lo_loadA (i := 0) (vs := [_, _, _, _, _, _]) rfl ag34 sz34 rfl rfl rfl) ?_
    refine ol rfl (lo_fieldAddr rfl fl38_4) ?_
    refine ow1 (op1_storeAp (i := 2) (vs := [_, _, _, _, _, _]) [_, _, _, _, _, _, _, _, _, _, _, _, _, _, _, _, _, _, _, _, _, _, _, _, _, _, _, _, _] rfl rfl rfl sz34 rfl rfl rfl rfl ?_)
    refine ow_nil ?_
    refine blkK_n ?_
    refine seqK_n ?_
    refine cw_seq ?_
    refine cw_region ?_
    refine ol rfl (lo_loadA (i := 2) (vs := [_, _, _, _, _, _, _, _, _, _, _, _, _, _, _, _, _, _, _, _, _, _, _, _, _, _, _, _, _]) rfl ag38 sz38 rfl rfl rfl) ?_
    refine ow1 (op1_storeAll (i := 1) (vs := [_, _, _, _, _, _, _, _, _, _, _, _, _, _, _, _, _, _, _, _, _, _, _, _, _, _, _, _, _]) rfl rfl rfl sz38 rfl rfl rfl ?_)
    refine ow_nil ?_
    refine seqK_n ?_
    refine cw_ret ?_
    refine fnK_r (res1 rfl (rv_c (i := 1) (vs := [_, _, _, _, _, _, _, _, _, _, _, _, _, _, _, _, _, _, _, _, _, _, _, _, _, _, _, _, _]) rfl ag38 sz38 rfl rfl rfl)) (.refl _) ?_
    have e : toldD d = (⟨d.kind, d.tick, (⟨[], 0, []⟩ : ShopR), (⟨[], 0, 0, []⟩ : QueueR), d.bind, [], 0, 0, 0, 0, 0, (⟨0, [], [], [], [], 0, 0⟩ : Mail), []⟩ : DeedR) := by
      unfold toldD
      repeat (first | rw [if_pos (by omega)] | rw [if_neg (by omega)])
      rfl
    rw [e]
    exact ⟨_, _, _, _, rfl, d_bind_want_h, slh_nil⟩
  have p12 := df h10
  refine cw_region ?_
  refine ol rfl (lo_eql rfl rfl) ?_
  refine ol rfl (lo_assign (v := .bool _) rfl) ?_
  refine ow_nil ?_
  refine seqK_n ?_
  refine cw_cond rfl (fun h13 => ?_) (fun h13 => ?_)
  · have p14 := dt h13
    refine cw_region ?_
    refine ol rfl (lo_fieldAddr rfl fl38_4) ?_
    refine ol rfl (lo_loadA (i := 0) (vs := [_, _, _, _, _, _]) rfl ag34 sz34 rfl rfl rfl) ?_
    refine ol rfl (lo_fieldAddr rfl fl38_4) ?_
    refine ow1 (op1_storeAp (i := 2) (vs := [_, _, _, _, _, _]) [_, _, _, _, _, _, _, _, _, _, _, _, _, _, _, _, _, _, _, _, _, _, _, _, _, _, _, _, _] rfl rfl rfl sz34 rfl rfl rfl rfl ?_)
    refine ow_nil ?_
    refine blkK_n ?_
    refine seqK_n ?_
    refine cw_seq ?_
    refine cw_region ?_
    refine ol rfl (lo_loadA (i := 2) (vs := [_, _, _, _, _, _, _, _, _, _, _, _, _, _, _, _, _, _, _, _, _, _, _, _, _, _, _, _, _]) rfl ag38 sz38 rfl rfl rfl) ?_
    refine ow1 (op1_storeAll (i := 1) (vs := [_, _, _, _, _, _, _, _, _, _, _, _, _, _, _, _, _, _, _, _, _, _, _, _, _, _, _, _, _]) rfl rfl rfl sz38 rfl rfl rfl ?_)
    refine ow_nil ?_
    refine seqK_n ?_
    refine cw_ret ?_
    refine fnK_r (res1 rfl (rv_c (i := 1) (vs := [_, _, _, _, _, _, _, _, _, _, _, _, _, _, _, _, _, _, _, _, _, _, _, _, _, _, _, _, _]) rfl ag38 sz38 rfl rfl rfl)) (.refl _) ?_
    have e : toldD d = (⟨d.kind, d.tick, (⟨[], 0, []⟩ : ShopR), (⟨[], 0, 0, []⟩ : QueueR), d.bind, [], 0, 0, 0, 0, 0, (⟨0, [], [], [], [], 0, 0⟩ : Mail), []⟩ : DeedR) := by
      unfold toldD
      repeat (first | rw [if_pos (by omega)] | rw [if_neg (by omega)])
      rfl
    rw [e]
    exact ⟨_, _, _, _, rfl, d_bind_want_h, slh_nil⟩
  have p15 := df h13
  refine cw_seq ?_
  refine cw_region ?_
  refine ol rfl (lo_eql rfl rfl) ?_
  refine ol rfl (lo_assign (v := .bool _) rfl) ?_
  refine ow_nil ?_
  refine seqK_n ?_
  refine cw_cond rfl (fun h16 => ?_) (fun h16 => ?_)
  · have p17 := dt h16
    refine cw_region ?_
    refine ol rfl (lo_fieldAddr rfl fl38_11) ?_
    refine ol rfl (lo_loadA (i := 0) (vs := [_, _, _, _, _, _, _]) rfl ag36 sz36 rfl rfl rfl) ?_
    refine ol rfl (lo_fieldAddr rfl fl38_11) ?_
    refine ow1 (op1_storeAp (i := 2) (vs := [_, _, _, _, _, _, _]) [_, _, _, _, _, _, _, _, _, _, _, _, _, _, _, _, _, _, _, _, _, _, _, _, _, _, _, _, _] rfl rfl rfl sz36 rfl rfl rfl rfl ?_)
    refine ow_nil ?_
    refine blkK_n ?_
    refine seqK_n ?_
    refine cw_seq ?_
    refine cw_region ?_
    refine ol rfl (lo_loadA (i := 2) (vs := [_, _, _, _, _, _, _, _, _, _, _, _, _, _, _, _, _, _, _, _, _, _, _, _, _, _, _, _, _]) rfl ag38 sz38 rfl rfl rfl) ?_
    refine ow1 (op1_storeAll (i := 1) (vs := [_, _, _, _, _, _, _, _, _, _, _, _, _, _, _, _, _, _, _, _, _, _, _, _, _, _, _, _, _]) rfl rfl rfl sz38 rfl rfl rfl ?_)
    refine ow_nil ?_
    refine seqK_n ?_
    refine cw_ret ?_
    refine fnK_r (res1 rfl (rv_c (i := 1) (vs := [_, _, _, _, _, _, _, _, _, _, _, _, _, _, _, _, _, _, _, _, _, _, _, _, _, _, _, _, _]) rfl ag38 sz38 rfl rfl rfl)) (.refl _) ?_
    have e : toldD d = (⟨d.kind, d.tick, (⟨[], 0, []⟩ : ShopR), (⟨[], 0, 0, []⟩ : QueueR), (⟨[], [], false, [], [], false⟩ : BindR), [], 0, 0, 0, 0, 0, d.mail, []⟩ : DeedR) := by
      unfold toldD
      repeat (first | rw [if_pos (by omega)] | rw [if_neg (by omega)])
      rfl
    rw [e]
    exact ⟨_, _, _, _, rfl, slh_nil, d_mail_head_h⟩
  have p18 := df h16
  refine cw_seq ?_
  refine cw_seq ?_
  refine cw_region ?_
  refine ol rfl (lo_eql rfl rfl) ?_
  refine ol rfl (lo_assign (v := .bool _) rfl) ?_
  refine ow_nil ?_
  refine seqK_n ?_
  refine cw_cond rfl (fun h19 => ?_) (fun h19 => ?_)
  · have p20 := dt h19
    refine cw_skip ?_
    refine seqK_n ?_
    refine cw_cond_t rfl h19 ?_
    refine cw_region ?_
    refine ol rfl (lo_fieldAddr rfl fl38_5) ?_
    refine ol rfl (lo_load1 (i := 0) (v := str _) rfl ag9 rfl rfl) ?_
    refine ol rfl (lo_fieldAddr rfl fl38_5) ?_
    refine ow1 (op1_store1n (i := 2) (v := str _) [_, _, _, _, _, _, _, _, _, _, _, _, _, _, _, _, _, _, _, _, _, _, _, _, _, _, _, _, _] rfl rfl rfl sz9 rfl rfl rfl ?_)
    refine ow_nil ?_
    refine blkK_n ?_
    refine seqK_n ?_
    refine cw_seq ?_
    refine cw_region ?_
    refine ol rfl (lo_loadA (i := 2) (vs := [_, _, _, _, _, _, _, _, _, _, _, _, _, _, _, _, _, _, _, _, _, _, _, _, _, _, _, _, _]) rfl ag38 sz38 rfl rfl rfl) ?_
    refine ow1 (op1_storeAll (i := 1) (vs := [_, _, _, _, _, _, _, _, _, _, _, _, _, _, _, _, _, _, _, _, _, _, _, _, _, _, _, _, _]) rfl rfl rfl sz38 rfl rfl rfl ?_)
    refine ow_nil ?_
    refine seqK_n ?_
    refine cw_ret ?_
    refine fnK_r (res1 rfl (rv_c (i := 1) (vs := [_, _, _, _, _, _, _, _, _, _, _, _, _, _, _, _, _, _, _, _, _, _, _, _, _, _, _, _, _]) rfl ag38 sz38 rfl rfl rfl)) (.refl _) ?_
    have e : toldD d = (⟨d.kind, d.tick, (⟨[], 0, []⟩ : ShopR), (⟨[], 0, 0, []⟩ : QueueR), (⟨[], [], false, [], [], false⟩ : BindR), d.name, 0, 0, 0, 0, 0, (⟨0, [], [], [], [], 0, 0⟩ : Mail), []⟩ : DeedR) := by
      unfold toldD
      repeat (first | rw [if_pos (by omega)] | rw [if_neg (by omega)])
      rfl
    rw [e]
    exact ⟨_, _, _, _, rfl, slh_nil, slh_nil⟩
  have p21 := df h19
  refine cw_seq ?_
  refine cw_region ?_
  refine ol rfl (lo_eql rfl rfl) ?_
  refine ol rfl (lo_assign (v := .bool _) rfl) ?_
  refine ow_nil ?_
  refine seqK_n ?_
  refine cw_cond rfl (fun h22 => ?_) (fun h22 => ?_)
  · have p23 := dt h22
    refine cw_skip ?_
    refine seqK_n ?_
    refine cw_cond_t rfl h22 ?_
    refine cw_region ?_
    refine ol rfl (lo_fieldAddr rfl fl38_5) ?_
    refine ol rfl (lo_load1 (i := 0) (v := str _) rfl ag9 rfl rfl) ?_
    refine ol rfl (lo_fieldAddr rfl fl38_5) ?_
    refine ow1 (op1_store1n (i := 2) (v := str _) [_, _, _, _, _, _, _, _, _, _, _, _, _, _, _, _, _, _, _, _, _, _, _, _, _, _, _, _, _] rfl rfl rfl sz9 rfl rfl rfl ?_)
    refine ow_nil ?_
    refine blkK_n ?_
    refine seqK_n ?_
    refine cw_seq ?_
    refine cw_region ?_
    refine ol rfl (lo_loadA (i := 2) (vs := [_, _, _, _, _, _, _, _, _, _, _, _, _, _, _, _, _, _, _, _, _, _, _, _, _, _, _, _, _]) rfl ag38 sz38 rfl rfl rfl) ?_
    refine ow1 (op1_storeAll (i := 1) (vs := [_, _, _, _, _, _, _, _, _, _, _, _, _, _, _, _, _, _, _, _, _, _, _, _, _, _, _, _, _]) rfl rfl rfl sz38 rfl rfl rfl ?_)
    refine ow_nil ?_
    refine seqK_n ?_
    refine cw_ret ?_
    refine fnK_r (res1 rfl (rv_c (i := 1) (vs := [_, _, _, _, _, _, _, _, _, _, _, _, _, _, _, _, _, _, _, _, _, _, _, _, _, _, _, _, _]) rfl ag38 sz38 rfl rfl rfl)) (.refl _) ?_
    have e : toldD d = (⟨d.kind, d.tick, (⟨[], 0, []⟩ : ShopR), (⟨[], 0, 0, []⟩ : QueueR), (⟨[], [], false, [], [], false⟩ : BindR), d.name, 0, 0, 0, 0, 0, (⟨0, [], [], [], [], 0, 0⟩ : Mail), []⟩ : DeedR) := by
      unfold toldD
      repeat (first | rw [if_pos (by omega)] | rw [if_neg (by omega)])
      rfl
    rw [e]
    exact ⟨_, _, _, _, rfl, slh_nil, slh_nil⟩
  have p24 := df h22
  refine cw_region ?_
  refine ol rfl (lo_eql rfl rfl) ?_
  refine ol rfl (lo_assign (v := .bool _) rfl) ?_
  refine ow_nil ?_
  refine seqK_n ?_
  refine cw_cond rfl (fun h25 => ?_) (fun h25 => ?_)
  · have p26 := dt h25
    refine cw_region ?_
    refine ol rfl (lo_fieldAddr rfl fl38_5) ?_
    refine ol rfl (lo_load1 (i := 0) (v := str _) rfl ag9 rfl rfl) ?_
    refine ol rfl (lo_fieldAddr rfl fl38_5) ?_
    refine ow1 (op1_store1n (i := 2) (v := str _) [_, _, _, _, _, _, _, _, _, _, _, _, _, _, _, _, _, _, _, _, _, _, _, _, _, _, _, _, _] rfl rfl rfl sz9 rfl rfl rfl ?_)
    refine ow_nil ?_
    refine blkK_n ?_
    refine seqK_n ?_
    refine cw_seq ?_
    refine cw_region ?_
    refine ol rfl (lo_loadA (i := 2) (vs := [_, _, _, _, _, _, _, _, _, _, _, _, _, _, _, _, _, _, _, _, _, _, _, _, _, _, _, _, _]) rfl ag38 sz38 rfl rfl rfl) ?_
    refine ow1 (op1_storeAll (i := 1) (vs := [_, _, _, _, _, _, _, _, _, _, _, _, _, _, _, _, _, _, _, _, _, _, _, _, _, _, _, _, _]) rfl rfl rfl sz38 rfl rfl rfl ?_)
    refine ow_nil ?_
    refine seqK_n ?_
    refine cw_ret ?_
    refine fnK_r (res1 rfl (rv_c (i := 1) (vs := [_, _, _, _, _, _, _, _, _, _, _, _, _, _, _, _, _, _, _, _, _, _, _, _, _, _, _, _, _]) rfl ag38 sz38 rfl rfl rfl)) (.refl _) ?_
    have e : toldD d = (⟨d.kind, d.tick, (⟨[], 0, []⟩ : ShopR), (⟨[], 0, 0, []⟩ : QueueR), (⟨[], [], false, [], [], false⟩ : BindR), d.name, 0, 0, 0, 0, 0, (⟨0, [], [], [], [], 0, 0⟩ : Mail), []⟩ : DeedR) := by
      unfold toldD
      repeat (first | rw [if_pos (by omega)] | rw [if_neg (by omega)])
      rfl
    rw [e]
    exact ⟨_, _, _, _, rfl, slh_nil, slh_nil⟩
  have p27 := df h25
  refine cw_seq ?_
  refine cw_region ?_
  refine ol rfl (lo_eql rfl rfl) ?_
  refine ol rfl (lo_assign (v := .bool _) rfl) ?_
  refine ow_nil ?_
  refine seqK_n ?_
  refine cw_cond rfl (fun h28 => ?_) (fun h28 => ?_)
  · have p29 := dt h28
    refine cw_anyX 2 mixd ?_
    refine vw_q 0 rfl (by kernel_rfl) (by repeat (first | exact lle_l0 | exact LLe.refl _ | exact lle_none | refine lle_up ?_ rfl)) (fun _ _ hh hl => lo_fieldAddr rfl fl38_5) ?_
    refine vw_q 1 rfl (by kernel_rfl) (by repeat (first | exact lle_l0 | exact LLe.refl _ | exact lle_none | refine lle_up ?_ rfl)) (fun _ _ hh hl => lo_load1 (i := 0) (v := str _) rfl ag9 (hl _ _ rfl) rfl) ?_
    refine vw_q 2 rfl (by kernel_rfl) (by repeat (first | exact lle_l0 | exact LLe.refl _ | exact lle_none | refine lle_up ?_ rfl)) (fun _ _ hh hl => lo_fieldAddr rfl fl38_6) ?_
    refine vw_q 3 rfl (by kernel_rfl) (by repeat (first | exact lle_l0 | exact LLe.refl _ | exact lle_none | refine lle_up ?_ rfl)) (fun _ _ hh hl => lo_load1 (i := 0) (v := .int _ _) rfl ag22 (hl _ _ rfl) rfl) ?_
    refine vw_q 4 rfl (by kernel_rfl) (by repeat (first | exact lle_l0 | exact LLe.refl _ | exact lle_none | refine lle_up ?_ rfl)) (fun _ _ hh hl => lo_fieldAddr rfl fl38_7) ?_
    refine vw_q 5 rfl (by kernel_rfl) (by repeat (first | exact lle_l0 | exact LLe.refl _ | exact lle_none | refine lle_up ?_ rfl)) (fun _ _ hh hl => lo_load1 (i := 0) (v := .int _ _) rfl ag5 (hl _ _ rfl) rfl) ?_
    refine vw_q 6 rfl (by kernel_rfl) (by repeat (first | exact lle_l0 | exact LLe.refl _ | exact lle_none | refine lle_up ?_ rfl)) (fun _ _ hh hl => lo_fieldAddr rfl fl38_5) ?_
    refine vw_e 7 rfl (by kernel_rfl) (op1_store1n (i := 2) (v := str _) [_, _, _, _, _, _, _, _, _, _, _, _, _, _, _, _, _, _, _, _, _, _, _, _, _, _, _, _, _] rfl rfl rfl sz9 rfl rfl rfl ?_)
    refine ⟨⟨(.refl _), (by repeat (first | exact lle_l0 | exact LLe.refl _ | exact lle_none | refine lle_up ?_ rfl))⟩, ?_⟩
    refine vw_q 8 rfl (by kernel_rfl) (by repeat (first | exact lle_l0 | exact LLe.refl _ | exact lle_none | refine lle_up ?_ rfl)) (fun _ _ hh hl => lo_fieldAddr rfl fl38_6) ?_
    refine vw_e 9 rfl (by kernel_rfl) (op1_store1n (i := 2) (v := .int _ _) [_, _, _, _, _, _, _, _, _, _, _, _, _, _, _, _, _, _, _, _, _, _, _, _, _, _, _, _, _] rfl rfl rfl sz22 rfl rfl rfl ?_)
    refine ⟨⟨(.refl _), (by repeat (first | exact lle_l0 | exact LLe.refl _ | exact lle_none | refine lle_up ?_ rfl))⟩, ?_⟩
    refine vw_q 10 rfl (by kernel_rfl) (by repeat (first | exact lle_l0 | exact LLe.refl _ | exact lle_none | refine lle_up ?_ rfl)) (fun _ _ hh hl => lo_fieldAddr rfl fl38_7) ?_
    refine vw_t 11 rfl (by kernel_rfl) (by kernel_rfl) (op1_store1n (i := 2) (v := .int _ _) [_, _, _, _, _, _, _, _, _, _, _, _, _, _, _, _, _, _, _, _, _, _, _, _, _, _, _, _, _] rfl rfl rfl sz5 rfl rfl rfl ?_)
    refine vw_done (by kernel_rfl) ?_
    refine blkK_n ?_
    refine seqK_n ?_
    refine cw_seq ?_
    refine cw_region ?_
    refine ol rfl (lo_loadA (i := 2) (vs := [_, _, _, _, _, _, _, _, _, _, _, _, _, _, _, _, _, _, _, _, _, _, _, _, _, _, _, _, _]) rfl ag38 sz38 rfl rfl rfl) ?_
    refine ow1 (op1_storeAll (i := 1) (vs := [_, _, _, _, _, _, _, _, _, _, _, _, _, _, _, _, _, _, _, _, _, _, _, _, _, _, _, _, _]) rfl rfl rfl sz38 rfl rfl rfl ?_)
    refine ow_nil ?_
    refine seqK_n ?_
    refine cw_ret ?_
    refine fnK_r (res1 rfl (rv_c (i := 1) (vs := [_, _, _, _, _, _, _, _, _, _, _, _, _, _, _, _, _, _, _, _, _, _, _, _, _, _, _, _, _]) rfl ag38 sz38 rfl rfl rfl)) (.refl _) ?_
    have e : toldD d = (⟨d.kind, d.tick, (⟨[], 0, []⟩ : ShopR), (⟨[], 0, 0, []⟩ : QueueR), (⟨[], [], false, [], [], false⟩ : BindR), d.name, d.id, d.how, 0, 0, 0, (⟨0, [], [], [], [], 0, 0⟩ : Mail), []⟩ : DeedR) := by
      unfold toldD
      repeat (first | rw [if_pos (by omega)] | rw [if_neg (by omega)])
      rfl
    rw [e]
    exact ⟨_, _, _, _, rfl, slh_nil, slh_nil⟩
  have p30 := df h28
  refine cw_seq ?_
  refine cw_region ?_
  refine ol rfl (lo_eql rfl rfl) ?_
  refine ol rfl (lo_assign (v := .bool _) rfl) ?_
  refine ow_nil ?_
  refine seqK_n ?_
  refine cw_cond rfl (fun h31 => ?_) (fun h31 => ?_)
  · have p32 := dt h31
    refine cw_anyX 2 mixd ?_
    refine vw_q 0 rfl (by kernel_rfl) (by repeat (first | exact lle_l0 | exact LLe.refl _ | exact lle_none | refine lle_up ?_ rfl)) (fun _ _ hh hl => lo_fieldAddr rfl fl38_8) ?_
    refine vw_q 1 rfl (by kernel_rfl) (by repeat (first | exact lle_l0 | exact LLe.refl _ | exact lle_none | refine lle_up ?_ rfl)) (fun _ _ hh hl => lo_load1 (i := 0) (v := .int _ _) rfl ag5 (hl _ _ rfl) rfl) ?_
    refine vw_q 2 rfl (by kernel_rfl) (by repeat (first | exact lle_l0 | exact LLe.refl _ | exact lle_none | refine lle_up ?_ rfl)) (fun _ _ hh hl => lo_fieldAddr rfl fl38_10) ?_
    refine vw_q 3 rfl (by kernel_rfl) (by repeat (first | exact lle_l0 | exact LLe.refl _ | exact lle_none | refine lle_up ?_ rfl)) (fun _ _ hh hl => lo_load1 (i := 0) (v := .int _ _) rfl ag22 (hl _ _ rfl) rfl) ?_
    refine vw_q 4 rfl (by kernel_rfl) (by repeat (first | exact lle_l0 | exact LLe.refl _ | exact lle_none | refine lle_up ?_ rfl)) (fun _ _ hh hl => lo_fieldAddr rfl fl38_11) ?_
    refine vw_q 5 rfl (by kernel_rfl) (by repeat (first | exact lle_l0 | exact LLe.refl _ | exact lle_none | refine lle_up ?_ rfl)) (fun _ _ hh hl => lo_loadA (i := 0) (vs := [_, _, _, _, _, _, _]) rfl ag36 sz36 (hl _ _ rfl) rfl rfl) ?_
    refine vw_q 6 rfl (by kernel_rfl) (by repeat (first | exact lle_l0 | exact LLe.refl _ | exact lle_none | refine lle_up ?_ rfl)) (fun _ _ hh hl => lo_fieldAddr rfl fl38_8) ?_
    refine vw_e 7 rfl (by kernel_rfl) (op1_store1n (i := 2) (v := .int _ _) [_, _, _, _, _, _, _, _, _, _, _, _, _, _, _, _, _, _, _, _, _, _, _, _, _, _, _, _, _] rfl rfl rfl sz5 rfl rfl rfl ?_)
    refine ⟨⟨(.refl _), (by repeat (first | exact lle_l0 | exact LLe.refl _ | exact lle_none | refine lle_up ?_ rfl))⟩, ?_⟩
    refine vw_q 8 rfl (by kernel_rfl) (by repeat (first | exact lle_l0 | exact LLe.refl _ | exact lle_none | refine lle_up ?_ rfl)) (fun _ _ hh hl => lo_fieldAddr rfl fl38_10) ?_
    refine vw_e 9 rfl (by kernel_rfl) (op1_store1n (i := 2) (v := .int _ _) [_, _, _, _, _, _, _, _, _, _, _, _, _, _, _, _, _, _, _, _, _, _, _, _, _, _, _, _, _] rfl rfl rfl sz22 rfl rfl rfl ?_)
    refine ⟨⟨(.refl _), (by repeat (first | exact lle_l0 | exact LLe.refl _ | exact lle_none | refine lle_up ?_ rfl))⟩, ?_⟩
    refine vw_q 10 rfl (by kernel_rfl) (by repeat (first | exact lle_l0 | exact LLe.refl _ | exact lle_none | refine lle_up ?_ rfl)) (fun _ _ hh hl => lo_fieldAddr rfl fl38_11) ?_
    refine vw_t 11 rfl (by kernel_rfl) (by kernel_rfl) (op1_storeAp (i := 2) (vs := [_, _, _, _, _, _, _]) [_, _, _, _, _, _, _, _, _, _, _, _, _, _, _, _, _, _, _, _, _, _, _, _, _, _, _, _, _] rfl rfl rfl sz36 rfl rfl rfl rfl ?_)
    refine vw_done (by kernel_rfl) ?_
    refine blkK_n ?_
    refine seqK_n ?_
    refine cw_seq ?_
    refine cw_region ?_
    refine ol rfl (lo_loadA (i := 2) (vs := [_, _, _, _, _, _, _, _, _, _, _, _, _, _, _, _, _, _, _, _, _, _, _, _, _, _, _, _, _]) rfl ag38 sz38 rfl rfl rfl) ?_
    refine ow1 (op1_storeAll (i := 1) (vs := [_, _, _, _, _, _, _, _, _, _, _, _, _, _, _, _, _, _, _, _, _, _, _, _, _, _, _, _, _]) rfl rfl rfl sz38 rfl rfl rfl ?_)
    refine ow_nil ?_
    refine seqK_n ?_
    refine cw_ret ?_
    refine fnK_r (res1 rfl (rv_c (i := 1) (vs := [_, _, _, _, _, _, _, _, _, _, _, _, _, _, _, _, _, _, _, _, _, _, _, _, _, _, _, _, _]) rfl ag38 sz38 rfl rfl rfl)) (.refl _) ?_
    have e : toldD d = (⟨d.kind, d.tick, (⟨[], 0, []⟩ : ShopR), (⟨[], 0, 0, []⟩ : QueueR), (⟨[], [], false, [], [], false⟩ : BindR), [], 0, 0, d.frm, 0, d.number, d.mail, []⟩ : DeedR) := by
      unfold toldD
      repeat (first | rw [if_pos (by omega)] | rw [if_neg (by omega)])
      rfl
    rw [e]
    exact ⟨_, _, _, _, rfl, slh_nil, d_mail_head_h⟩
  have p33 := df h31
  refine cw_seq ?_
  refine cw_region ?_
  refine ol rfl (lo_eql rfl rfl) ?_
  refine ol rfl (lo_assign (v := .bool _) rfl) ?_
  refine ow_nil ?_
  refine seqK_n ?_
  refine cw_cond rfl (fun h34 => ?_) (fun h34 => ?_)
  · have p35 := dt h34
    refine cw_anyX 2 mixd ?_
    refine vw_q 0 rfl (by kernel_rfl) (by repeat (first | exact lle_l0 | exact LLe.refl _ | exact lle_none | refine lle_up ?_ rfl)) (fun _ _ hh hl => lo_fieldAddr rfl fl38_9) ?_
    refine vw_q 1 rfl (by kernel_rfl) (by repeat (first | exact lle_l0 | exact LLe.refl _ | exact lle_none | refine lle_up ?_ rfl)) (fun _ _ hh hl => lo_load1 (i := 0) (v := .int _ _) rfl ag5 (hl _ _ rfl) rfl) ?_
    refine vw_q 2 rfl (by kernel_rfl) (by repeat (first | exact lle_l0 | exact LLe.refl _ | exact lle_none | refine lle_up ?_ rfl)) (fun _ _ hh hl => lo_fieldAddr rfl fl38_12) ?_
    refine vw_q 3 rfl (by kernel_rfl) (by repeat (first | exact lle_l0 | exact LLe.refl _ | exact lle_none | refine lle_up ?_ rfl)) (fun _ _ hh hl => lo_load1 (i := 0) (v := str _) rfl ag9 (hl _ _ rfl) rfl) ?_
    refine vw_q 4 rfl (by kernel_rfl) (by repeat (first | exact lle_l0 | exact LLe.refl _ | exact lle_none | refine lle_up ?_ rfl)) (fun _ _ hh hl => lo_fieldAddr rfl fl38_9) ?_
    refine vw_e 5 rfl (by kernel_rfl) (op1_store1n (i := 2) (v := .int _ _) [_, _, _, _, _, _, _, _, _, _, _, _, _, _, _, _, _, _, _, _, _, _, _, _, _, _, _, _, _] rfl rfl rfl sz5 rfl rfl rfl ?_)
    refine ⟨⟨(.refl _), (by repeat (first | exact lle_l0 | exact LLe.refl _ | exact lle_none | refine lle_up ?_ rfl))⟩, ?_⟩
    refine vw_q 6 rfl (by kernel_rfl) (by repeat (first | exact lle_l0 | exact LLe.refl _ | exact lle_none | refine lle_up ?_ rfl)) (fun _ _ hh hl => lo_fieldAddr rfl fl38_12) ?_
    refine vw_t 7 rfl (by kernel_rfl) (by kernel_rfl) (op1_store1n (i := 2) (v := str _) [_, _, _, _, _, _, _, _, _, _, _, _, _, _, _, _, _, _, _, _, _, _, _, _, _, _, _, _, _] rfl rfl rfl sz9 rfl rfl rfl ?_)
    refine vw_done (by kernel_rfl) ?_
    refine blkK_n ?_
    refine seqK_n ?_
    refine cw_seq ?_
    refine cw_region ?_
    refine ol rfl (lo_loadA (i := 2) (vs := [_, _, _, _, _, _, _, _, _, _, _, _, _, _, _, _, _, _, _, _, _, _, _, _, _, _, _, _, _]) rfl ag38 sz38 rfl rfl rfl) ?_
    refine ow1 (op1_storeAll (i := 1) (vs := [_, _, _, _, _, _, _, _, _, _, _, _, _, _, _, _, _, _, _, _, _, _, _, _, _, _, _, _, _]) rfl rfl rfl sz38 rfl rfl rfl ?_)
    refine ow_nil ?_
    refine seqK_n ?_
    refine cw_ret ?_
    refine fnK_r (res1 rfl (rv_c (i := 1) (vs := [_, _, _, _, _, _, _, _, _, _, _, _, _, _, _, _, _, _, _, _, _, _, _, _, _, _, _, _, _]) rfl ag38 sz38 rfl rfl rfl)) (.refl _) ?_
    have e : toldD d = (⟨d.kind, d.tick, (⟨[], 0, []⟩ : ShopR), (⟨[], 0, 0, []⟩ : QueueR), (⟨[], [], false, [], [], false⟩ : BindR), [], 0, 0, 0, d.code, 0, (⟨0, [], [], [], [], 0, 0⟩ : Mail), d.text⟩ : DeedR) := by
      unfold toldD
      repeat (first | rw [if_pos (by omega)] | rw [if_neg (by omega)])
      rfl
    rw [e]
    exact ⟨_, _, _, _, rfl, slh_nil, slh_nil⟩
  have p36 := df h34
  refine cw_skip ?_
  refine blkK_n ?_
  refine seqK_n ?_
  refine cw_seq ?_
  refine cw_region ?_
  refine ol rfl (lo_loadA (i := 2) (vs := [_, _, _, _, _, _, _, _, _, _, _, _, _, _, _, _, _, _, _, _, _, _, _, _, _, _, _, _, _]) rfl ag38 sz38 rfl rfl rfl) ?_
  refine ow1 (op1_storeAll (i := 1) (vs := [_, _, _, _, _, _, _, _, _, _, _, _, _, _, _, _, _, _, _, _, _, _, _, _, _, _, _, _, _]) rfl rfl rfl sz38 rfl rfl rfl ?_)
  refine ow_nil ?_
  refine seqK_n ?_
  refine cw_ret ?_
  refine fnK_r (res1 rfl (rv_c (i := 1) (vs := [_, _, _, _, _, _, _, _, _, _, _, _, _, _, _, _, _, _, _, _, _, _, _, _, _, _, _, _, _]) rfl ag38 sz38 rfl rfl rfl)) (.refl _) ?_
  have e : toldD d = (⟨d.kind, d.tick, (⟨[], 0, []⟩ : ShopR), (⟨[], 0, 0, []⟩ : QueueR), (⟨[], [], false, [], [], false⟩ : BindR), [], 0, 0, 0, 0, 0, (⟨0, [], [], [], [], 0, 0⟩ : Mail), []⟩ : DeedR) := by
    unfold toldD
    repeat (first | rw [if_pos (by omega)] | rw [if_neg (by omega)])
    rfl
  rw [e]
  exact ⟨_, _, _, _, rfl, slh_nil, slh_nil⟩
end Go.SW
set_option linter.unusedVariables false
set_option maxRecDepth 100000
set_option maxHeartbeats 4000000
namespace Go.SW
open Go.Proofs
theorem cb22 : Callable Tryd.prog 22 := callable_of Tryd.func22 (by kernel_rfl) (by kernel_rfl)
theorem cb23 : Callable Tryd.prog 23 := callable_of Tryd.func23 (by kernel_rfl) (by kernel_rfl)
theorem cb24 : Callable Tryd.prog 24 := callable_of Tryd.func24 (by kernel_rfl) (by kernel_rfl)
theorem cb26 : Callable Tryd.prog 26 := callable_of Tryd.func26 (by kernel_rfl) (by kernel_rfl)
theorem cb27 : Callable Tryd.prog 27 := callable_of Tryd.func27 (by kernel_rfl) (by kernel_rfl)
theorem fl29_0 : Fld Tryd.prog 29 0 0 := fun b o w => by kernel_rfl
theorem fl29_1 : Fld Tryd.prog 29 1 1 := fun b o w => by kernel_rfl
theorem fl29_2 : Fld Tryd.prog 29 2 2 := fun b o w => by kernel_rfl
theorem fl31_0 : Fld Tryd.prog 31 0 0 := fun b o w => by kernel_rfl
theorem fl31_3 : Fld Tryd.prog 31 3 3 := fun b o w => by kernel_rfl
theorem zr34 : Zr Tryd.prog 34 [str [], str [], .bool false, str [], .slice none 0 0, .bool false] := fun w => ⟨.agg #[str [], str [], .bool false, str [], .slice none 0 0, .bool false], by kernel_rfl, rfl⟩
theorem zx26 : ∃ z, ∀ w, (zeroValue 26).run Tryd.prog w = .ok z w := ⟨.int .i64 0, fun w => by kernel_rfl⟩
theorem deed_first (H : Hp) (l_a : Option Addr) (l_l l_c : Nat) (l : List Int) (l_h : SlH (FE (fun z => [.int .i64 z]) (fun _ => True)) 1 H (.slice l_a l_l l_c) l) (hl : l.length ≤ 1000) : Pr Tryd.prog 24 #[.slice l_a l_l l_c] H (.int .i64 (firstE l)) := by
  refine pr_cw Tryd.func24 rfl Tryd.ntmps24 rfl (fun N => ?_)
  refine cw_seq ?_
  refine cw_region ?_
  refine ol rfl (lo_assign (v := .int _ _) rfl) ?_
  refine ow_nil ?_
  refine seqK_n ?_
  refine cw_seq ?_
  refine cw_seq ?_
  refine cw_region ?_
  refine ol rfl (lo_move (v := .slice _ _ _) rfl) ?_
  refine ol rfl (lo_len_slh rfl l_h Tryd.underlying78) ?_
  refine ol rfl (lo_move (v := .int _ _) rfl) ?_
  refine ow_nil ?_
  refine seqK_n ?_
  refine cw_block ?_
  refine cw_loop1 [2, 4, 7, 8, 9, 10, 11, 12, 13, 14] [] (fun (k : Nat) G => upd (G) 7 (.int .i64 (k : Int))) (fun (k : Nat) G => G) (fun (k : Nat) H' => k ≤ l.length ∧ firstE l = firstE (l.drop k)) (fun (k : Nat) => l.length - k) 0 (upd_intro (mask_intro (by first | exact off_refl | (repeat (first | exact off_mask | refine off_upd rfl ?_ | refine off_mask2 rfl ?_)))) rfl) (lmask_intro offl_refl) ?_ ?_
  · exact ⟨Nat.zero_le _, rfl⟩
  intro k J2 JL2 H2 hp1 hl2
  obtain ⟨hk1, hk2⟩ := hp1
  refine cw_seq ?_
  refine cw_region ?_
  refine ol rfl (lo_lss rfl rfl) ?_
  refine ow_nil ?_
  refine seqK_n ?_
  refine cw_seq ?_
  refine cw_cond rfl (fun h3 => ?_) (fun h3 => ?_)
  · have p4 := dt h3
    refine cw_skip ?_
    refine seqK_n ?_
    refine cw_seq ?_
    refine cw_block ?_
    refine cw_seq ?_
    refine cw_region ?_
    obtain ⟨c5, hc6⟩ := getE (xs := l) (m := k) (by omega)
    obtain ⟨cs7, hE8, at9⟩ := (l_h.mono ((HLe.refl _).trans hl2) (fun _ _ h => h)).get hc6
    obtain ⟨rfl, c5_w⟩ := hE8
    refine ol rfl (lo_indexAddr rfl rfl (l_h.mono ((HLe.refl _).trans hl2) (fun _ _ h => h)).1 at9 Tryd.underlying78 sz26 (by omega) (by omega)) ?_
    refine ol rfl (lo_loadE1 rfl ag26 at9) ?_
    refine ol rfl (lo_assign (v := .int _ _) rfl) ?_
    refine ow_nil ?_
    refine seqK_n ?_
    refine cw_seq ?_
    refine cw_region ?_
    refine ol rfl (lo_move (v := .int _ _) rfl) ?_
    refine ol rfl (lo_neq rfl rfl) ?_
    refine ow_nil ?_
    refine seqK_n ?_
    refine cw_cond rfl (fun h10 => ?_) (fun h10 => ?_)
    · have h11 := not_t h10
      have p12 := df h11
      refine cw_seq ?_
      refine cw_region ?_
      refine ol rfl (lo_move (v := .int _ _) rfl) ?_
      refine ol rfl (lo_assign (v := .int _ _) rfl) ?_
      refine ow_nil ?_
      refine seqK_n ?_
      refine cw_ret ?_
      refine blkK_r ?_
      refine seqK_r ?_
      refine loopK_r ?_
      refine blkK_r ?_
      refine seqK_r ?_
      refine fnK_r (res1 rfl (rv_t (v := .int _ _) rfl)) ((HLe.refl _).trans hl2) ?_
      refine congrArg (Value.int .i64) ?_
      rw [hk2, dropE hc6]
      unfold firstE
      rw [if_pos (by assumption)]
    have h13 := not_f h10
    have p14 := dt h13
    refine cw_skip ?_
    refine blkK_n ?_
    refine seqK_n ?_
    refine cw_region ?_
    refine ol rfl (lo_add rfl rfl (rg_i64 (by omega))) ?_
    refine ol rfl (lo_move (v := .int _ _) rfl) ?_
    refine ow_nil ?_
    refine next1 (k + 1) (upd_intro (mask_intro (by first | exact off_refl | (repeat (first | exact off_mask | refine off_upd rfl ?_ | refine off_mask2 rfl ?_)))) rfl) (lmask_intro (by first | exact offl_refl | (repeat (first | exact offl_mask | refine offl_upd rfl ?_ | refine offl_mask2 rfl ?_)))) hl2 ?_ ?_
    · refine ⟨by omega, ?_⟩
      rw [hk2, dropE hc6]
      conv => lhs; unfold firstE
      rw [if_neg (by omega)]
    omega
  have p15 := df h3
  refine cw_exit ?_
  refine seqK_e ?_
  refine loopK_e ?_
  refine blkK_hit ?_
  refine seqK_n ?_
  refine cw_seq ?_
  refine cw_region ?_
  refine ol rfl (lo_assign (v := .int _ _) rfl) ?_
  refine ow_nil ?_
  refine seqK_n ?_
  refine cw_ret ?_
  refine fnK_r (res1 rfl (rv_t (v := .int _ _) rfl)) ((HLe.refl _).trans hl2) ?_
  refine congrArg (Value.int .i64) ?_
  rw [hk2, List.drop_of_length_le (by omega)]
  rfl
theorem deed_Check (H : Hp) (d : DeedR) (d_bind_want_a : Option Addr) (d_bind_want_c : Nat) (d_bind_want_h : SlH pairE 4 H (.slice d_bind_want_a d.bind.want.length d_bind_want_c) d.bind.want) (d_mail_head_a : Option Addr) (d_mail_head_c : Nat) (d_mail_head_h : SlH pairE 4 H (.slice d_mail_head_a d.mail.head.length d_mail_head_c) d.mail.head) (d_w : DeedR.wf d) (hML : GInt H 0) : Pr Tryd.prog 12 #[.agg (DeedR.cells d d_bind_want_a d_bind_want_c d_mail_head_a d_mail_head_c).toArray] H (.int .i64 (deedE d)) := by
  refine pr_cw Tryd.func12 rfl Tryd.ntmps12 rfl (fun N => ?_)
  have d_w' := d_w
  simp only [DeedR.wf, ShopR.wf, QueueR.wf, BindR.wf, Mail.wf] at d_w'
  refine cw_seq ?_
  refine cw_region ?_
  refine ow1 (op1_box (cs := [_, _, _, _, _, _, _, _, _, _, _, _, _, _, _, _, _, _, _, _, _, _, _, _, _, _, _, _, _]) 0 rfl rfl (fun b1 => ?_))
  refine ol rfl (lo_assign (v := .int _ _) rfl) ?_
  refine ow_nil ?_
  refine seqK_n ?_
  refine cw_seq ?_
  refine cw_block ?_
  refine cw_seq ?_
  refine cw_region ?_
  refine ol rfl (lo_fieldAddr rfl fl38_0) ?_
  refine ol rfl (lo_load1 (i := 0) (v := .int _ _) rfl ag5 rfl rfl) ?_
  refine ol rfl (lo_gtr rfl rfl) ?_
  refine ol rfl (lo_assign (v := .bool _) rfl) ?_
  refine ow_nil ?_
  refine seqK_n ?_
  refine cw_cond rfl (fun h2 => ?_) (fun h2 => ?_)
  · have p3 := dt h2
    refine cw_seq ?_
    refine cw_region ?_
    refine ol rfl (lo_assign (v := .int _ _) rfl) ?_
    refine ow_nil ?_
    refine seqK_n ?_
    refine cw_ret ?_
    refine blkK_r ?_
    refine seqK_r ?_
    refine fnK_r (res1 rfl (rv_t (v := .int _ _) rfl)) (.refl _) ?_
    refine congrArg (Value.int .i64) ?_
    unfold deedE
    repeat (first | rw [if_pos (by omega)] | rw [if_neg (by omega)] | rw [if_pos (by assumption)] | rw [if_neg (fun q => q (by assumption))])
    all_goals rfl
  have p4 := df h2
  refine cw_seq ?_
  refine cw_anyL mixd ?_
  refine vw_q 0 rfl (by kernel_rfl) (by repeat (first | exact lle_l0 | exact LLe.refl _ | exact lle_none | refine lle_up ?_ rfl)) (fun _ _ hh hl => lo_loadA (i := 0) (vs := [_, _, _, _, _, _, _, _, _, _, _, _, _, _, _, _, _, _, _, _, _, _, _, _, _, _, _, _, _]) rfl ag38 sz38 (hl _ _ rfl) rfl rfl) ?_
  refine vw_q 1 rfl (by kernel_rfl) (by repeat (first | exact lle_l0 | exact LLe.refl _ | exact lle_none | refine lle_up ?_ rfl)) (fun _ _ hh hl => lo_loadA (i := 0) (vs := [_, _, _, _, _, _, _, _, _, _, _, _, _, _, _, _, _, _, _, _, _, _, _, _, _, _, _, _, _]) rfl ag38 sz38 (hl _ _ rfl) rfl rfl) ?_
  refine vw_e 2 rfl (by kernel_rfl) (op1_ph (deed_told _ d d_bind_want_a d_bind_want_c d_bind_want_h d_mail_head_a d_mail_head_c d_mail_head_h d_w) (en_f cb23 rfl) rfl ?_)
  rintro _ H12 ⟨a5, c6, a8, c9, rfl, hs7, hs10⟩ hl11
  refine ⟨⟨((HLe.refl _).trans hl11), (by repeat (first | exact lle_l0 | exact LLe.refl _ | exact lle_none | refine lle_up ?_ rfl))⟩, ?_⟩
  refine vw_qc 3 rfl (by kernel_rfl) (by repeat (first | exact lle_l0 | exact LLe.refl _ | exact lle_none | refine lle_up ?_ rfl)) (deed_Same _ d d_bind_want_a d_bind_want_c (d_bind_want_h.mono ((HLe.refl _).trans hl11) (fun _ _ h => h)) d_mail_head_a d_mail_head_c (d_mail_head_h.mono ((HLe.refl _).trans hl11) (fun _ _ h => h)) d_w (toldD d) a5 c6 hs7 a8 c9 hs10 (toldD_wf d_w)) (en_f cb22 rfl) ?_
  refine vw_q 4 rfl (by kernel_rfl) (by repeat (first | exact lle_l0 | exact LLe.refl _ | exact lle_none | refine lle_up ?_ rfl)) (fun _ _ hh hl => lo_not rfl) ?_
  refine vw_q 5 rfl (by kernel_rfl) (by repeat (first | exact lle_l0 | exact LLe.refl _ | exact lle_none | refine lle_up ?_ rfl)) (fun _ _ hh hl => lo_assign (v := .bool _) rfl) ?_
  refine vw_done (by kernel_rfl) ?_
  refine seqK_n ?_
  refine cw_cond rfl (fun h13 => ?_) (fun h13 => ?_)
  · have h14 := not_t h13
    have p15 := df h14
    refine cw_seq ?_
    refine cw_region ?_
    refine ol rfl (lo_assign (v := .int _ _) rfl) ?_
    refine ow_nil ?_
    refine seqK_n ?_
    refine cw_ret ?_
    refine blkK_r ?_
    refine seqK_r ?_
    refine fnK_r (res1 rfl (rv_t (v := .int _ _) rfl)) ((HLe.refl _).trans hl11) ?_
    refine congrArg (Value.int .i64) ?_
    unfold deedE
    repeat (first | rw [if_pos (by omega)] | rw [if_neg (by omega)] | rw [if_pos (by assumption)] | rw [if_neg (fun q => q (by assumption))])
    all_goals rfl
  have h16 := not_f h13
  have p17 := dt h16
  refine cw_skip ?_
  refine blkK_n ?_
  refine seqK_n ?_
  refine cw_seq ?_
  refine cw_seq ?_
  refine cw_region ?_
  refine ol rfl (lo_fieldAddr rfl fl38_0) ?_
  refine ol rfl (lo_load1 (i := 0) (v := .int _ _) rfl ag5 rfl rfl) ?_
  refine ow_nil ?_
  refine seqK_n ?_
  refine cw_block ?_
  refine cw_seq ?_
  refine cw_region ?_
  refine ol rfl (lo_eql rfl rfl) ?_
  refine ol rfl (lo_assign (v := .bool _) rfl) ?_
  refine ow_nil ?_
  refine seqK_n ?_
  refine cw_cond rfl (fun h18 => ?_) (fun h18 => ?_)
  · have p19 := dt h18
    refine cw_seq ?_
    refine cw_anyL mixd ?_
    refine vw_q 0 rfl (by kernel_rfl) (by repeat (first | exact lle_l0 | exact LLe.refl _ | exact lle_none | refine lle_up ?_ rfl)) (fun _ _ hh hl => lo_fieldAddr rfl fl38_2) ?_
    refine vw_q 1 rfl (by kernel_rfl) (by repeat (first | exact lle_l0 | exact LLe.refl _ | exact lle_none | refine lle_up ?_ rfl)) (fun _ _ hh hl => lo_fieldAddr rfl fl29_0) ?_
    refine vw_q 2 rfl (by kernel_rfl) (by repeat (first | exact lle_l0 | exact LLe.refl _ | exact lle_none | refine lle_up ?_ rfl)) (fun _ _ hh hl => lo_load1 (i := 0) (v := str _) rfl ag9 (hl _ _ rfl) rfl) ?_
    refine vw_qc 3 rfl (by kernel_rfl) (by repeat (first | exact lle_l0 | exact LLe.refl _ | exact lle_none | refine lle_up ?_ rfl)) (words_Name _ d.shop.name (by first | omega | decide | (simp; done))) (en_f cb25 rfl) ?_
    refine vw_q 4 rfl (by kernel_rfl) (by repeat (first | exact lle_l0 | exact LLe.refl _ | exact lle_none | refine lle_up ?_ rfl)) (fun _ _ hh hl => lo_fieldAddr rfl fl38_2) ?_
    refine vw_q 5 rfl (by kernel_rfl) (by repeat (first | exact lle_l0 | exact LLe.refl _ | exact lle_none | refine lle_up ?_ rfl)) (fun _ _ hh hl => lo_fieldAddr rfl fl29_1) ?_
    refine vw_q 6 rfl (by kernel_rfl) (by repeat (first | exact lle_l0 | exact LLe.refl _ | exact lle_none | refine lle_up ?_ rfl)) (fun _ _ hh hl => lo_load1 (i := 0) (v := .int _ _) rfl ag5 (hl _ _ rfl) rfl) ?_
    refine vw_q 7 rfl (by kernel_rfl) (by repeat (first | exact lle_l0 | exact LLe.refl _ | exact lle_none | refine lle_up ?_ rfl)) (fun _ _ hh hl => lo_gtr rfl rfl) ?_
    refine vw_qc 8 rfl (by kernel_rfl) (by repeat (first | exact lle_l0 | exact LLe.refl _ | exact lle_none | refine lle_up ?_ rfl)) (deed_bound _ (decide (4 < d.shop.sort)) 8 (by omega)) (en_f cb26 rfl) ?_
    refine vw_q 9 rfl (by kernel_rfl) (by repeat (first | exact lle_l0 | exact LLe.refl _ | exact lle_none | refine lle_up ?_ rfl)) (fun _ _ hh hl => lo_fieldAddr rfl fl38_2) ?_
    refine vw_q 10 rfl (by kernel_rfl) (by repeat (first | exact lle_l0 | exact LLe.refl _ | exact lle_none | refine lle_up ?_ rfl)) (fun _ _ hh hl => lo_fieldAddr rfl fl29_2) ?_
    refine vw_q 11 rfl (by kernel_rfl) (by repeat (first | exact lle_l0 | exact LLe.refl _ | exact lle_none | refine lle_up ?_ rfl)) (fun _ _ hh hl => lo_load1 (i := 0) (v := str _) rfl ag9 (hl _ _ rfl) rfl) ?_
    have := maybeE_r d.shop.to
    refine vw_qc 12 rfl (by kernel_rfl) (by repeat (first | exact lle_l0 | exact LLe.refl _ | exact lle_none | refine lle_up ?_ rfl)) (deed_maybe _ d.shop.to (by first | omega | decide | (simp; done))) (en_f cb27 rfl) ?_
    refine vw_e 13 rfl (by kernel_rfl) (op1_bslice (cs := [_, _, _]) 1 rfl Tryd.underlying78 sz26 zx26 rfl ⟨rfl, rfl, ⟨rfl, rfl, ⟨rfl, rfl, trivial⟩⟩⟩ rfl rfl (by decide) (fun b20 => ?_))
    refine ⟨⟨(.refl _), (by repeat (first | exact lle_l0 | exact LLe.refl _ | exact lle_none | refine lle_up ?_ rfl))⟩, ?_⟩
    refine vw_giveO 1 rfl (by repeat (first | exact lle_l0 | exact LLe.refl _ | exact lle_none | refine lle_up ?_ rfl)) (by kernel_rfl) (fun _ hl21 hg22 => ?_)
    have hs23 := slh_bx (k := 1) (H := _) (enc := (fun z => [.int .i64 z])) (wf := (fun _ => True)) [nameE d.shop.name, boundE (decide (4 < d.shop.sort)) 8, maybeE d.shop.to] (fun _ => rfl) (hg22 _ _ rfl) rfl rfl (Nat.le_refl _) (fun _ _ => trivial)
    refine vw_qc 14 rfl (by kernel_rfl) (by repeat (first | exact lle_l0 | exact LLe.refl _ | exact lle_none | refine lle_up ?_ rfl)) (deed_first _ (some ⟨b20, 0, none⟩) 3 3 [nameE d.shop.name, boundE (decide (4 < d.shop.sort)) 8, maybeE d.shop.to] hs23 (by first | omega | (simp; done) | decide)) (en_f cb24 rfl) ?_
    refine vw_q 15 rfl (by kernel_rfl) (by repeat (first | exact lle_l0 | exact LLe.refl _ | exact lle_none | refine lle_up ?_ rfl)) (fun _ _ hh hl => lo_assign (v := .int _ _) rfl) ?_
    refine vw_done (by kernel_rfl) ?_
    refine seqK_n ?_
    refine cw_ret ?_
    refine blkK_r ?_
    refine seqK_r ?_
    refine fnK_r (res1 rfl (rv_t (v := .int _ _) rfl)) (((HLe.refl _).trans hl11).trans hl21) ?_
    refine congrArg (Value.int .i64) ?_
    unfold deedE
    repeat (first | rw [if_pos (by omega)] | rw [if_neg (by omega)] | rw [if_pos (by assumption)] | rw [if_neg (fun q => q (by assumption))])
    all_goals rfl
  have p24 := df h18
  refine cw_seq ?_
  refine cw_region ?_
  refine ol rfl (lo_eql rfl rfl) ?_
  refine ol rfl (lo_assign (v := .bool _) rfl) ?_
  refine ow_nil ?_
  refine seqK_n ?_
  refine cw_cond rfl (fun h25 => ?_) (fun h25 => ?_)
  · have p26 := dt h25
    refine cw_seq ?_
    refine cw_anyL mixd ?_
    refine vw_q 0 rfl (by kernel_rfl) (by repeat (first | exact lle_l0 | exact LLe.refl _ | exact lle_none | refine lle_up ?_ rfl)) (fun _ _ hh hl => lo_fieldAddr rfl fl38_3) ?_
    refine vw_q 1 rfl (by kernel_rfl) (by repeat (first | exact lle_l0 | exact LLe.refl _ | exact lle_none | refine lle_up ?_ rfl)) (fun _ _ hh hl => lo_fieldAddr rfl fl31_0) ?_
    refine vw_q 2 rfl (by kernel_rfl) (by repeat (first | exact lle_l0 | exact LLe.refl _ | exact lle_none | refine lle_up ?_ rfl)) (fun _ _ hh hl => lo_load1 (i := 0) (v := str _) rfl ag9 (hl _ _ rfl) rfl) ?_
    refine vw_qc 3 rfl (by kernel_rfl) (by repeat (first | exact lle_l0 | exact LLe.refl _ | exact lle_none | refine lle_up ?_ rfl)) (words_Name _ d.queue.name (by first | omega | decide | (simp; done))) (en_f cb25 rfl) ?_
    refine vw_q 4 rfl (by kernel_rfl) (by repeat (first | exact lle_l0 | exact LLe.refl _ | exact lle_none | refine lle_up ?_ rfl)) (fun _ _ hh hl => lo_fieldAddr rfl fl38_3) ?_
    refine vw_q 5 rfl (by kernel_rfl) (by repeat (first | exact lle_l0 | exact LLe.refl _ | exact lle_none | refine lle_up ?_ rfl)) (fun _ _ hh hl => lo_fieldAddr rfl fl31_3) ?_
    refine vw_q 6 rfl (by kernel_rfl) (by repeat (first | exact lle_l0 | exact LLe.refl _ | exact lle_none | refine lle_up ?_ rfl)) (fun _ _ hh hl => lo_load1 (i := 0) (v := str _) rfl ag9 (hl _ _ rfl) rfl) ?_
    have := maybeE_r d.queue.dead
    refine vw_qc 7 rfl (by kernel_rfl) (by repeat (first | exact lle_l0 | exact LLe.refl _ | exact lle_none | refine lle_up ?_ rfl)) (deed_maybe _ d.queue.dead (by first | omega | decide | (simp; done))) (en_f cb27 rfl) ?_
    refine vw_e 8 rfl (by kernel_rfl) (op1_bslice (cs := [_, _]) 1 rfl Tryd.underlying78 sz26 zx26 rfl ⟨rfl, rfl, ⟨rfl, rfl, trivial⟩⟩ rfl rfl (by decide) (fun b27 => ?_))
    refine ⟨⟨(.refl _), (by repeat (first | exact lle_l0 | exact LLe.refl _ | exact lle_none | refine lle_up ?_ rfl))⟩, ?_⟩
    refine vw_giveO 1 rfl (by repeat (first | exact lle_l0 | exact LLe.refl _ | exact lle_none | refine lle_up ?_ rfl)) (by kernel_rfl) (fun _ hl28 hg29 => ?_)
    have hs30 := slh_bx (k := 1) (H := _) (enc := (fun z => [.int .i64 z])) (wf := (fun _ => True)) [nameE d.queue.name, maybeE d.queue.dead] (fun _ => rfl) (hg29 _ _ rfl) rfl rfl (Nat.le_refl _) (fun _ _ => trivial)
    refine vw_qc 9 rfl (by kernel_rfl) (by repeat (first | exact lle_l0 | exact LLe.refl _ | exact lle_none | refine lle_up ?_ rfl)) (deed_first _ (some ⟨b27, 0, none⟩) 2 2 [nameE d.queue.name, maybeE d.queue.dead] hs30 (by first | omega | (simp; done) | decide)) (en_f cb24 rfl) ?_
    refine vw_q 10 rfl (by kernel_rfl) (by repeat (first | exact lle_l0 | exact LLe.refl _ | exact lle_none | refine lle_up ?_ rfl)) (fun _ _ hh hl => lo_assign (v := .int _ _) rfl) ?_
    refine vw_done (by kernel_rfl) ?_
    refine seqK_n ?_
    refine cw_ret ?_
    refine blkK_r ?_
    refine seqK_r ?_
    refine fnK_r (res1 rfl (rv_t (v := .int _ _) rfl)) (((HLe.refl _).trans hl11).trans hl28) ?_
    refine congrArg (Value.int .i64) ?_
    unfold deedE
    repeat (first | rw [if_pos (by omega)] | rw [if_neg (by omega)] | rw [if_pos (by assumption)] | rw [if_neg (fun q => q (by assumption))])
    all_goals rfl
  have p31 := df h25
  refine cw_seq ?_
  refine cw_seq ?_
  refine cw_region ?_
  refine ol rfl (lo_eql rfl rfl) ?_
  refine ol rfl (lo_assign (v := .bool _) rfl) ?_
  refine ow_nil ?_
  refine seqK_n ?_
  refine cw_cond rfl (fun h32 => ?_) (fun h32 => ?_)
  · have p33 := dt h32
    refine cw_skip ?_
    refine seqK_n ?_
    refine cw_cond_t rfl h32 ?_
    refine cw_seq ?_
    refine cw_region ?_
    refine ol rfl (lo_fieldAddr rfl fl38_4) ?_
    refine ol rfl (lo_loadA (i := 0) (vs := [_, _, _, _, _, _]) rfl ag34 sz34 rfl rfl rfl) ?_
    refine ow1 (op1_alloc 1 rfl zr34 (fun b34 => ?_))
    refine ow1 (op1_storeAll (i := 1) (vs := [_, _, _, _, _, _]) rfl rfl rfl sz34 rfl rfl rfl ?_)
    refine ow_nil ?_
    refine seqK_n ?_
    refine cw_seq ?_
    refine cw_anyL mixd ?_
    refine vw_q 0 rfl (by kernel_rfl) (by repeat (first | exact lle_l0 | exact LLe.refl _ | exact lle_none | refine lle_up ?_ rfl)) (fun _ _ hh hl => lo_fieldAddr rfl fl34_0) ?_
    refine vw_q 1 rfl (by kernel_rfl) (by repeat (first | exact lle_l0 | exact LLe.refl _ | exact lle_none | refine lle_up ?_ rfl)) (fun _ _ hh hl => lo_load1 (i := 1) (v := str _) rfl ag9 (hl _ _ rfl) rfl) ?_
    refine vw_qc 2 rfl (by kernel_rfl) (by repeat (first | exact lle_l0 | exact LLe.refl _ | exact lle_none | refine lle_up ?_ rfl)) (words_Name _ d.bind.shop (by first | omega | decide | (simp; done))) (en_f cb25 rfl) ?_
    refine vw_q 3 rfl (by kernel_rfl) (by repeat (first | exact lle_l0 | exact LLe.refl _ | exact lle_none | refine lle_up ?_ rfl)) (fun _ _ hh hl => lo_fieldAddr rfl fl34_1) ?_
    refine vw_q 4 rfl (by kernel_rfl) (by repeat (first | exact lle_l0 | exact LLe.refl _ | exact lle_none | refine lle_up ?_ rfl)) (fun _ _ hh hl => lo_load1 (i := 1) (v := str _) rfl ag9 (hl _ _ rfl) rfl) ?_
    refine vw_qc 5 rfl (by kernel_rfl) (by repeat (first | exact lle_l0 | exact LLe.refl _ | exact lle_none | refine lle_up ?_ rfl)) (words_Name _ d.bind.to (by first | omega | decide | (simp; done))) (en_f cb25 rfl) ?_
    refine vw_q 6 rfl (by kernel_rfl) (by repeat (first | exact lle_l0 | exact LLe.refl _ | exact lle_none | refine lle_up ?_ rfl)) (fun _ _ hh hl => lo_fieldAddr rfl fl34_3) ?_
    refine vw_q 7 rfl (by kernel_rfl) (by repeat (first | exact lle_l0 | exact LLe.refl _ | exact lle_none | refine lle_up ?_ rfl)) (fun _ _ hh hl => lo_load1 (i := 1) (v := str _) rfl ag9 (hl _ _ rfl) rfl) ?_
    refine vw_q 8 rfl (by kernel_rfl) (by repeat (first | exact lle_l0 | exact LLe.refl _ | exact lle_none | refine lle_up ?_ rfl)) (fun _ _ hh hl => lo_len_str rfl Tryd.underlying9) ?_
    refine vw_q 9 rfl (by kernel_rfl) (by repeat (first | exact lle_l0 | exact LLe.refl _ | exact lle_none | refine lle_up ?_ rfl)) (fun _ _ hh hl => lo_gtr rfl rfl) ?_
    refine vw_qc 10 rfl (by kernel_rfl) (by repeat (first | exact lle_l0 | exact LLe.refl _ | exact lle_none | refine lle_up ?_ rfl)) (deed_bound _ (decide (64 < (d.bind.key.length : Int))) 5 (by omega)) (en_f cb26 rfl) ?_
    refine vw_q 11 rfl (by kernel_rfl) (by repeat (first | exact lle_l0 | exact LLe.refl _ | exact lle_none | refine lle_up ?_ rfl)) (fun _ _ hh hl => lo_fieldAddr rfl fl34_4) ?_
    refine vw_q 12 rfl (by kernel_rfl) (by repeat (first | exact lle_l0 | exact LLe.refl _ | exact lle_none | refine lle_up ?_ rfl)) (fun _ _ hh hl => lo_load1 (i := 1) (v := .slice _ _ _) rfl ag32 (hl _ _ rfl) rfl) ?_
    refine vw_qc 13 rfl (by kernel_rfl) (by repeat (first | exact lle_l0 | exact LLe.refl _ | exact lle_none | refine lle_up ?_ rfl)) (head_Check _ d_bind_want_a d.bind.want.length d_bind_want_c d.bind.want (d_bind_want_h.mono ((HLe.refl _).trans hl11) (fun _ _ h => h)) (by first | omega | (simp <;> omega))) (en_f cb28 rfl) ?_
    refine vw_e 14 rfl (by kernel_rfl) (op1_bslice (cs := [_, _, _, _]) 2 rfl Tryd.underlying78 sz26 zx26 rfl ⟨rfl, rfl, ⟨rfl, rfl, ⟨rfl, rfl, ⟨rfl, rfl, trivial⟩⟩⟩⟩ rfl rfl (by decide) (fun b35 => ?_))
    refine ⟨⟨(.refl _), (by repeat (first | exact lle_l0 | exact LLe.refl _ | exact lle_none | refine lle_up ?_ rfl))⟩, ?_⟩
    refine vw_giveO 2 rfl (by repeat (first | exact lle_l0 | exact LLe.refl _ | exact lle_none | refine lle_up ?_ rfl)) (by kernel_rfl) (fun _ hl36 hg37 => ?_)
    have hs38 := slh_bx (k := 1) (H := _) (enc := (fun z => [.int .i64 z])) (wf := (fun _ => True)) [nameE d.bind.shop, nameE d.bind.to, boundE (decide (64 < (d.bind.key.length : Int))) 5, headE d.bind.want] (fun _ => rfl) (hg37 _ _ rfl) rfl rfl (Nat.le_refl _) (fun _ _ => trivial)
    refine vw_qc 15 rfl (by kernel_rfl) (by repeat (first | exact lle_l0 | exact LLe.refl _ | exact lle_none | refine lle_up ?_ rfl)) (deed_first _ (some ⟨b35, 0, none⟩) 4 4 [nameE d.bind.shop, nameE d.bind.to, boundE (decide (64 < (d.bind.key.length : Int))) 5, headE d.bind.want] hs38 (by first | omega | (simp; done) | decide)) (en_f cb24 rfl) ?_
    refine vw_q 16 rfl (by kernel_rfl) (by repeat (first | exact lle_l0 | exact LLe.refl _ | exact lle_none | refine lle_up ?_ rfl)) (fun _ _ hh hl => lo_assign (v := .int _ _) rfl) ?_
    refine vw_done (by kernel_rfl) ?_
    refine seqK_n ?_
    refine cw_ret ?_
    refine blkK_r ?_
    refine seqK_r ?_
    refine fnK_r (res1 rfl (rv_t (v := .int _ _) rfl)) (((HLe.refl _).trans hl11).trans hl36) ?_
    refine congrArg (Value.int .i64) ?_
    unfold deedE
    repeat (first | rw [if_pos (by omega)] | rw [if_neg (by omega)] | rw [if_pos (by assumption)] | rw [if_neg (fun q => q (by assumption))])
    all_goals rfl
  have p39 := df h32
  refine cw_region ?_
  refine ol rfl (lo_eql rfl rfl) ?_
  refine ol rfl (lo_assign (v := .bool _) rfl) ?_
  refine ow_nil ?_
  refine seqK_n ?_
  refine cw_cond rfl (fun h40 => ?_) (fun h40 => ?_)
  · have p41 := dt h40
    refine cw_seq ?_
    refine cw_region ?_
    refine ol rfl (lo_fieldAddr rfl fl38_4) ?_
    refine ol rfl (lo_loadA (i := 0) (vs := [_, _, _, _, _, _]) rfl ag34 sz34 rfl rfl rfl) ?_
    refine ow1 (op1_alloc 1 rfl zr34 (fun b42 => ?_))
    refine ow1 (op1_storeAll (i := 1) (vs := [_, _, _, _, _, _]) rfl rfl rfl sz34 rfl rfl rfl ?_)
    refine ow_nil ?_
    refine seqK_n ?_
    refine cw_seq ?_
    refine cw_anyL mixd ?_
    refine vw_q 0 rfl (by kernel_rfl) (by repeat (first | exact lle_l0 | exact LLe.refl _ | exact lle_none | refine lle_up ?_ rfl)) (fun _ _ hh hl => lo_fieldAddr rfl fl34_0) ?_
    refine vw_q 1 rfl (by kernel_rfl) (by repeat (first | exact lle_l0 | exact LLe.refl _ | exact lle_none | refine lle_up ?_ rfl)) (fun _ _ hh hl => lo_load1 (i := 1) (v := str _) rfl ag9 (hl _ _ rfl) rfl) ?_
    refine vw_qc 2 rfl (by kernel_rfl) (by repeat (first | exact lle_l0 | exact LLe.refl _ | exact lle_none | refine lle_up ?_ rfl)) (words_Name _ d.bind.shop (by first | omega | decide | (simp; done))) (en_f cb25 rfl) ?_
    refine vw_q 3 rfl (by kernel_rfl) (by repeat (first | exact lle_l0 | exact LLe.refl _ | exact lle_none | refine lle_up ?_ rfl)) (fun _ _ hh hl => lo_fieldAddr rfl fl34_1) ?_
    refine vw_q 4 rfl (by kernel_rfl) (by repeat (first | exact lle_l0 | exact LLe.refl _ | exact lle_none | refine lle_up ?_ rfl)) (fun _ _ hh hl => lo_load1 (i := 1) (v := str _) rfl ag9 (hl _ _ rfl) rfl) ?_
    refine vw_qc 5 rfl (by kernel_rfl) (by repeat (first | exact lle_l0 | exact LLe.refl _ | exact lle_none | refine lle_up ?_ rfl)) (words_Name _ d.bind.to (by first | omega | decide | (simp; done))) (en_f cb25 rfl) ?_
    refine vw_q 6 rfl (by kernel_rfl) (by repeat (first | exact lle_l0 | exact LLe.refl _ | exact lle_none | refine lle_up ?_ rfl)) (fun _ _ hh hl => lo_fieldAddr rfl fl34_3) ?_
    refine vw_q 7 rfl (by kernel_rfl) (by repeat (first | exact lle_l0 | exact LLe.refl _ | exact lle_none | refine lle_up ?_ rfl)) (fun _ _ hh hl => lo_load1 (i := 1) (v := str _) rfl ag9 (hl _ _ rfl) rfl) ?_
    refine vw_q 8 rfl (by kernel_rfl) (by repeat (first | exact lle_l0 | exact LLe.refl _ | exact lle_none | refine lle_up ?_ rfl)) (fun _ _ hh hl => lo_len_str rfl Tryd.underlying9) ?_
    refine vw_q 9 rfl (by kernel_rfl) (by repeat (first | exact lle_l0 | exact LLe.refl _ | exact lle_none | refine lle_up ?_ rfl)) (fun _ _ hh hl => lo_gtr rfl rfl) ?_
    refine vw_qc 10 rfl (by kernel_rfl) (by repeat (first | exact lle_l0 | exact LLe.refl _ | exact lle_none | refine lle_up ?_ rfl)) (deed_bound _ (decide (64 < (d.bind.key.length : Int))) 5 (by omega)) (en_f cb26 rfl) ?_
    refine vw_q 11 rfl (by kernel_rfl) (by repeat (first | exact lle_l0 | exact LLe.refl _ | exact lle_none | refine lle_up ?_ rfl)) (fun _ _ hh hl => lo_fieldAddr rfl fl34_4) ?_
    refine vw_q 12 rfl (by kernel_rfl) (by repeat (first | exact lle_l0 | exact LLe.refl _ | exact lle_none | refine lle_up ?_ rfl)) (fun _ _ hh hl => lo_load1 (i := 1) (v := .slice _ _ _) rfl ag32 (hl _ _ rfl) rfl) ?_
    refine vw_qc 13 rfl (by kernel_rfl) (by repeat (first | exact lle_l0 | exact LLe.refl _ | exact lle_none | refine lle_up ?_ rfl)) (head_Check _ d_bind_want_a d.bind.want.length d_bind_want_c d.bind.want (d_bind_want_h.mono ((HLe.refl _).trans hl11) (fun _ _ h => h)) (by first | omega | (simp <;> omega))) (en_f cb28 rfl) ?_
    refine vw_e 14 rfl (by kernel_rfl) (op1_bslice (cs := [_, _, _, _]) 2 rfl Tryd.underlying78 sz26 zx26 rfl ⟨rfl, rfl, ⟨rfl, rfl, ⟨rfl, rfl, ⟨rfl, rfl, trivial⟩⟩⟩⟩ rfl rfl (by decide) (fun b43 => ?_))
    refine ⟨⟨(.refl _), (by repeat (first | exact lle_l0 | exact LLe.refl _ | exact lle_none | refine lle_up ?_ rfl))⟩, ?_⟩
    refine vw_giveO 2 rfl (by repeat (first | exact lle_l0 | exact LLe.refl _ | exact lle_none | refine lle_up ?_ rfl)) (by kernel_rfl) (fun _ hl44 hg45 => ?_)
    have hs46 := slh_bx (k := 1) (H := _) (enc := (fun z => [.int .i64 z])) (wf := (fun _ => True)) [nameE d.bind.shop, nameE d.bind.to, boundE (decide (64 < (d.bind.key.length : Int))) 5, headE d.bind.want] (fun _ => rfl) (hg45 _ _ rfl) rfl rfl (Nat.le_refl _) (fun _ _ => trivial)
    refine vw_qc 15 rfl (by kernel_rfl) (by repeat (first | exact lle_l0 | exact LLe.refl _ | exact lle_none | refine lle_up ?_ rfl)) (deed_first _ (some ⟨b43, 0, none⟩) 4 4 [nameE d.bind.shop, nameE d.bind.to, boundE (decide (64 < (d.bind.key.length : Int))) 5, headE d.bind.want] hs46 (by first | omega | (simp; done) | decide)) (en_f cb24 rfl) ?_
    refine vw_q 16 rfl (by kernel_rfl) (by repeat (first | exact lle_l0 | exact LLe.refl _ | exact lle_none | refine lle_up ?_ rfl)) (fun _ _ hh hl => lo_assign (v := .int _ _) rfl) ?_
    refine vw_done (by kernel_rfl) ?_
    refine seqK_n ?_
    refine cw_ret ?_
    refine blkK_r ?_
    refine seqK_r ?_
    refine fnK_r (res1 rfl (rv_t (v := .int _ _) rfl)) (((HLe.refl _).trans hl11).trans hl44) ?_
    refine congrArg (Value.int .i64) ?_
    unfold deedE
    repeat (first | rw [if_pos (by omega)] | rw [if_neg (by omega)] | rw [if_pos (by assumption)] | rw [if_neg (fun q => q (by assumption))])
    all_goals rfl
  have p47 := df h40
  refine cw_seq ?_
  refine cw_seq ?_
  refine cw_region ?_
  refine ol rfl (lo_eql rfl rfl) ?_
  refine ol rfl (lo_assign (v := .bool _) rfl) ?_
  refine ow_nil ?_
  refine seqK_n ?_
  refine cw_cond rfl (fun h48 => ?_) (fun h48 => ?_)
  · have p49 := dt h48
    refine cw_skip ?_
    refine seqK_n ?_
    refine cw_cond_t rfl h48 ?_
    refine cw_seq ?_
    refine cw_region ?_
    refine ol rfl (lo_fieldAddr rfl fl38_11) ?_
    refine ol rfl (lo_loadA (i := 0) (vs := [_, _, _, _, _, _, _]) rfl ag36 sz36 rfl rfl rfl) ?_
    refine ow1 (op1_pr (mail_Check _ d.mail d_mail_head_a d_mail_head_c (d_mail_head_h.mono ((HLe.refl _).trans hl11) (fun _ _ h => h)) (by simp only [Mail.wf]; first | omega | (simp; done) | (simp; omega)) (hML.mono ((HLe.refl _).trans hl11))) (en_f cb29 rfl) rfl ?_)
    have := mailC_r d.mail
    have hmo49 := fun h => mailC_ok (m := d.mail) h
    refine ol rfl (lo_assign (v := .int _ _) rfl) ?_
    refine ow_nil ?_
    refine seqK_n ?_
    refine cw_ret ?_
    refine blkK_r ?_
    refine seqK_r ?_
    refine fnK_r (res1 rfl (rv_t (v := .int _ _) rfl)) ((HLe.refl _).trans hl11) ?_
    refine congrArg (Value.int .i64) ?_
    unfold deedE
    repeat (first | rw [if_pos (by omega)] | rw [if_neg (by omega)] | rw [if_pos (by assumption)] | rw [if_neg (fun q => q (by assumption))])
    all_goals rfl
  have p50 := df h48
  refine cw_region ?_
  refine ol rfl (lo_eql rfl rfl) ?_
  refine ol rfl (lo_assign (v := .bool _) rfl) ?_
  refine ow_nil ?_
  refine seqK_n ?_
  refine cw_cond rfl (fun h51 => ?_) (fun h51 => ?_)
  · have p52 := dt h51
    refine cw_seq ?_
    refine cw_region ?_
    refine ol rfl (lo_fieldAddr rfl fl38_11) ?_
    refine ol rfl (lo_loadA (i := 0) (vs := [_, _, _, _, _, _, _]) rfl ag36 sz36 rfl rfl rfl) ?_
    refine ow1 (op1_pr (mail_Check _ d.mail d_mail_head_a d_mail_head_c (d_mail_head_h.mono ((HLe.refl _).trans hl11) (fun _ _ h => h)) (by simp only [Mail.wf]; first | omega | (simp; done) | (simp; omega)) (hML.mono ((HLe.refl _).trans hl11))) (en_f cb29 rfl) rfl ?_)
    have := mailC_r d.mail
    have hmo52 := fun h => mailC_ok (m := d.mail) h
    refine ol rfl (lo_assign (v := .int _ _) rfl) ?_
    refine ow_nil ?_
    refine seqK_n ?_
    refine cw_ret ?_
    refine blkK_r ?_
    refine seqK_r ?_
    refine fnK_r (res1 rfl (rv_t (v := .int _ _) rfl)) ((HLe.refl _).trans hl11) ?_
    refine congrArg (Value.int .i64) ?_
    unfold deedE
    repeat (first | rw [if_pos (by omega)] | rw [if_neg (by omega)] | rw [if_pos (by assumption)] | rw [if_neg (fun q => q (by assumption))])
    all_goals rfl
  have p53 := df h51
  refine cw_seq ?_
  refine cw_seq ?_
  refine cw_region ?_
  refine ol rfl (lo_eql rfl rfl) ?_
  refine ol rfl (lo_assign (v := .bool _) rfl) ?_
  refine ow_nil ?_
  refine seqK_n ?_
  refine cw_cond rfl (fun h54 => ?_) (fun h54 => ?_)
  · have p55 := dt h54
    refine cw_skip ?_
    refine seqK_n ?_
    refine cw_cond_t rfl h54 ?_
    refine cw_seq ?_
    refine cw_region ?_
    refine ol rfl (lo_assign (v := .int _ _) rfl) ?_
    refine ow_nil ?_
    refine seqK_n ?_
    refine cw_ret ?_
    refine blkK_r ?_
    refine seqK_r ?_
    refine fnK_r (res1 rfl (rv_t (v := .int _ _) rfl)) ((HLe.refl _).trans hl11) ?_
    refine congrArg (Value.int .i64) ?_
    unfold deedE
    repeat (first | rw [if_pos (by omega)] | rw [if_neg (by omega)] | rw [if_pos (by assumption)] | rw [if_neg (fun q => q (by assumption))])
    all_goals rfl
  have p56 := df h54
  refine cw_region ?_
  refine ol rfl (lo_eql rfl rfl) ?_
  refine ol rfl (lo_assign (v := .bool _) rfl) ?_
  refine ow_nil ?_
  refine seqK_n ?_
  refine cw_cond rfl (fun h57 => ?_) (fun h57 => ?_)
  · have p58 := dt h57
    refine cw_seq ?_
    refine cw_region ?_
    refine ol rfl (lo_assign (v := .int _ _) rfl) ?_
    refine ow_nil ?_
    refine seqK_n ?_
    refine cw_ret ?_
    refine blkK_r ?_
    refine seqK_r ?_
    refine fnK_r (res1 rfl (rv_t (v := .int _ _) rfl)) ((HLe.refl _).trans hl11) ?_
    refine congrArg (Value.int .i64) ?_
    unfold deedE
    repeat (first | rw [if_pos (by omega)] | rw [if_neg (by omega)] | rw [if_pos (by assumption)] | rw [if_neg (fun q => q (by assumption))])
    all_goals rfl
  have p59 := df h57
  refine cw_seq ?_
  refine cw_region ?_
  refine ol rfl (lo_eql rfl rfl) ?_
  refine ol rfl (lo_assign (v := .bool _) rfl) ?_
  refine ow_nil ?_
  refine seqK_n ?_
  refine cw_cond rfl (fun h60 => ?_) (fun h60 => ?_)
  · have p61 := dt h60
    refine cw_seq ?_
    refine cw_region ?_
    refine ol rfl (lo_fieldAddr rfl fl38_12) ?_
    refine ol rfl (lo_load1 (i := 0) (v := str _) rfl ag9 rfl rfl) ?_
    refine ol rfl (lo_len_str rfl Tryd.underlying9) ?_
    refine ol rfl (lo_gtr rfl rfl) ?_
    refine ow1 (op1_pr (deed_bound _ (decide (64 < (d.text.length : Int))) 5 (by omega)) (en_f cb26 rfl) rfl ?_)
    refine ol rfl (lo_assign (v := .int _ _) rfl) ?_
    refine ow_nil ?_
    refine seqK_n ?_
    refine cw_ret ?_
    refine blkK_r ?_
    refine seqK_r ?_
    refine fnK_r (res1 rfl (rv_t (v := .int _ _) rfl)) ((HLe.refl _).trans hl11) ?_
    refine congrArg (Value.int .i64) ?_
    unfold deedE
    repeat (first | rw [if_pos (by omega)] | rw [if_neg (by omega)] | rw [if_pos (by assumption)] | rw [if_neg (fun q => q (by assumption))])
    all_goals rfl
  have p62 := df h60
  refine cw_skip ?_
  refine blkK_n ?_
  refine seqK_n ?_
  refine cw_seq ?_
  refine cw_anyL mixd ?_
  refine vw_q 0 rfl (by kernel_rfl) (by repeat (first | exact lle_l0 | exact LLe.refl _ | exact lle_none | refine lle_up ?_ rfl)) (fun _ _ hh hl => lo_fieldAddr rfl fl38_5) ?_
  refine vw_q 1 rfl (by kernel_rfl) (by repeat (first | exact lle_l0 | exact LLe.refl _ | exact lle_none | refine lle_up ?_ rfl)) (fun _ _ hh hl => lo_load1 (i := 0) (v := str _) rfl ag9 (hl _ _ rfl) rfl) ?_
  refine vw_qc 2 rfl (by kernel_rfl) (by repeat (first | exact lle_l0 | exact LLe.refl _ | exact lle_none | refine lle_up ?_ rfl)) (words_Name _ d.name (by first | omega | decide | (simp; done))) (en_f cb25 rfl) ?_
  refine vw_q 3 rfl (by kernel_rfl) (by repeat (first | exact lle_l0 | exact LLe.refl _ | exact lle_none | refine lle_up ?_ rfl)) (fun _ _ hh hl => lo_fieldAddr rfl fl38_7) ?_
  refine vw_q 4 rfl (by kernel_rfl) (by repeat (first | exact lle_l0 | exact LLe.refl _ | exact lle_none | refine lle_up ?_ rfl)) (fun _ _ hh hl => lo_load1 (i := 0) (v := .int _ _) rfl ag5 (hl _ _ rfl) rfl) ?_
  refine vw_q 5 rfl (by kernel_rfl) (by repeat (first | exact lle_l0 | exact LLe.refl _ | exact lle_none | refine lle_up ?_ rfl)) (fun _ _ hh hl => lo_gtr rfl rfl) ?_
  refine vw_qc 6 rfl (by kernel_rfl) (by repeat (first | exact lle_l0 | exact LLe.refl _ | exact lle_none | refine lle_up ?_ rfl)) (deed_bound _ (decide (2 < d.how)) 7 (by omega)) (en_f cb26 rfl) ?_
  refine vw_e 7 rfl (by kernel_rfl) (op1_bslice (cs := [_, _]) 1 rfl Tryd.underlying78 sz26 zx26 rfl ⟨rfl, rfl, ⟨rfl, rfl, trivial⟩⟩ rfl rfl (by decide) (fun b63 => ?_))
  refine ⟨⟨(.refl _), (by repeat (first | exact lle_l0 | exact LLe.refl _ | exact lle_none | refine lle_up ?_ rfl))⟩, ?_⟩
  refine vw_giveO 1 rfl (by repeat (first | exact lle_l0 | exact LLe.refl _ | exact lle_none | refine lle_up ?_ rfl)) (by kernel_rfl) (fun _ hl64 hg65 => ?_)
  have hs66 := slh_bx (k := 1) (H := _) (enc := (fun z => [.int .i64 z])) (wf := (fun _ => True)) [nameE d.name, boundE (decide (2 < d.how)) 7] (fun _ => rfl) (hg65 _ _ rfl) rfl rfl (Nat.le_refl _) (fun _ _ => trivial)
  refine vw_qc 8 rfl (by kernel_rfl) (by repeat (first | exact lle_l0 | exact LLe.refl _ | exact lle_none | refine lle_up ?_ rfl)) (deed_first _ (some ⟨b63, 0, none⟩) 2 2 [nameE d.name, boundE (decide (2 < d.how)) 7] hs66 (by first | omega | (simp; done) | decide)) (en_f cb24 rfl) ?_
  refine vw_q 9 rfl (by kernel_rfl) (by repeat (first | exact lle_l0 | exact LLe.refl _ | exact lle_none | refine lle_up ?_ rfl)) (fun _ _ hh hl => lo_assign (v := .int _ _) rfl) ?_
  refine vw_done (by kernel_rfl) ?_
  refine seqK_n ?_
  refine cw_ret ?_
  refine fnK_r (res1 rfl (rv_t (v := .int _ _) rfl)) (((HLe.refl _).trans hl11).trans hl64) ?_
  refine congrArg (Value.int .i64) ?_
  unfold deedE
  repeat (first | rw [if_pos (by omega)] | rw [if_neg (by omega)] | rw [if_pos (by assumption)] | rw [if_neg (fun q => q (by assumption))])
  all_goals rfl
end Go.SW
set_option linter.unusedVariables false
set_option maxRecDepth 100000
set_option maxHeartbeats 4000000
namespace Go.SW
open Go.Proofs
theorem by64 : By Tryd.prog 64 48 := by_of (by kernel_rfl)
theorem zx64 : ∃ z, ∀ w, (zeroValue 64).run Tryd.prog w = .ok z w := ⟨.agg #[str [], .int .u8 0, .int .i64 0, str []], fun w => by kernel_rfl⟩
theorem clone_Pair (H : Hp) (s_a : Option Addr) (s_l s_c : Nat) (s : List Pair) (s_h : SlH pairE 4 H (.slice s_a s_l s_c) s) (hl : s.length ≤ 1000000) : Ph Tryd.prog 68 #[.slice s_a s_l s_c] H (fun v H' => ∃ (a1 : Option Addr) (c1 : Nat), v = .slice a1 s.length c1 ∧ SlH pairE 4 H' (.slice a1 s.length c1) s) := by
  refine ph_cw Tryd.func68 rfl Tryd.ntmps68 rfl (fun N => ?_)
  refine cw_seq ?_
  refine cw_region ?_
  refine ol rfl (lo_assign (v := .slice _ _ _) rfl) ?_
  refine ow_nil ?_
  refine seqK_n ?_
  refine cw_seq ?_
  refine cw_seq ?_
  refine cw_region ?_
  refine ol rfl (lo_move (v := .slice _ _ _) rfl) ?_
  refine ol rfl (lo_sleq_nil rfl rfl Tryd.underlying32) ?_
  refine ow_nil ?_
  refine seqK_n ?_
  refine cw_cond rfl (fun h1 => ?_) (fun h1 => ?_)
  · refine cw_seq ?_
    refine cw_region ?_
    refine ol rfl (lo_assign (v := .slice _ _ _) rfl) ?_
    refine ow_nil ?_
    refine seqK_n ?_
    refine cw_ret ?_
    refine seqK_r ?_
    refine fnK_r (res1 rfl (rv_t (v := .slice _ _ _) rfl)) (.refl _) ?_
    obtain rfl : s_a = none := Option.isNone_iff_eq_none.1 (by assumption)
    rw [slh_none s_h]
    exact ⟨none, 0, rfl, slh_nil⟩
  refine cw_skip ?_
  refine seqK_n ?_
  refine cw_seq ?_
  refine cw_region ?_
  refine ow1 (op1_bslice (cs := []) 0 rfl Tryd.underlying32 sz64 zx64 rfl trivial rfl rfl (by decide) (fun b2 => ?_))
  refine ol rfl (lo_move (v := .slice _ _ _) rfl) ?_
  refine ow1 (op1_app 0 rfl rfl Tryd.underlying32 Tryd.underlying32 rfl sz64 by64 (by decide) zr64 (ownV_bx rfl) (src_slh (enc := Pair.cells) (wf := Pair.wf) (fun _ => rfl) s_h) (one_flat (fun _ => rfl) _) rfl (by omega) rfl (fun v3 en4 ho5 => ?_))
  have ho6 := own_cat0 (enc := Pair.cells) s ho5
  refine ol rfl (lo_assign rfl) ?_
  refine ow_nil ?_
  refine seqK_n ?_
  refine cw_giveO 0 rfl (fun _ hl7 hg8 => ?_)
  have hs9 := slh_own (enc := Pair.cells) (wf := Pair.wf) (fun _ => rfl) ho6 (slh_wf s_h) hg8
  obtain ⟨⟨a10, c11, rfl, -⟩, -⟩ := id hs9
  refine cw_ret ?_
  refine fnK_r (res1 rfl (rv_t (v := .slice _ _ _) rfl)) ((HLe.refl _).trans hl7) ?_
  exact ⟨_, _, rfl, hs9⟩
end Go.SW
