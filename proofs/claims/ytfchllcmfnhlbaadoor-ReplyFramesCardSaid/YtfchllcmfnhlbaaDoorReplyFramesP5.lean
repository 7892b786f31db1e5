/-
  A part of the proof of ReplyFrames: The walks of this seat, printed by program: stairwellref04.Key, stairwellref09.Pair, stairwellref09.Check, stairwellref12.Check, stairwellref01.Num, stairwellref01.Text, stairwellref09.Bytes.
-/
import Derived.Test.YtfchllcmfnhlbaaDoorProg
import Derived.Test.YtfchllcmfnhlbaaDoorReplyFramesP2
import Derived.KernelRfl
import Derived.Test.YtfchllcmfnhlbaaDoorReplyFramesP4
set_option linter.unusedVariables false
set_option linter.unusedSimpArgs false

set_option linter.unusedVariables false
set_option maxRecDepth 100000
set_option maxHeartbeats 4000000
namespace Go.SW
open Go.Proofs
theorem cb39 : Callable Tryd.prog 39 := callable_of Tryd.func39 (by kernel_rfl) (by kernel_rfl)
theorem cb41 : Callable Tryd.prog 41 := callable_of Tryd.func41 (by kernel_rfl) (by kernel_rfl)
theorem cb50 : Callable Tryd.prog 50 := callable_of Tryd.func50 (by kernel_rfl) (by kernel_rfl)
theorem cb51 : Callable Tryd.prog 51 := callable_of Tryd.func51 (by kernel_rfl) (by kernel_rfl)
theorem cb52 : Callable Tryd.prog 52 := callable_of Tryd.func52 (by kernel_rfl) (by kernel_rfl)
theorem cb56 : Callable Tryd.prog 56 := callable_of Tryd.func56 (by kernel_rfl) (by kernel_rfl)
theorem cb57 : Callable Tryd.prog 57 := callable_of Tryd.func57 (by kernel_rfl) (by kernel_rfl)
theorem cb75 : Callable Tryd.prog 75 := callable_of Tryd.func75 (by kernel_rfl) (by kernel_rfl)
theorem cb80 : Callable Tryd.prog 80 := callable_of Tryd.func80 (by kernel_rfl) (by kernel_rfl)
theorem zr25 : Zr Tryd.prog 25 [.int .u64 0, str [], str [], .slice none 0 0, str [], .int .u64 0, .int .u8 0] := fun w => ⟨.agg #[.int .u64 0, str [], str [], .slice none 0 0, str [], .int .u64 0, .int .u8 0], by kernel_rfl, rfl⟩

theorem r4_Key (H : Hp) (s : Bs) (pattern : Bool) : Pr Tryd.prog 51 #[str s, .bool pattern] H (.int .i64 (keyE (besidesOf pattern) s)) := by
  refine pr_cw Tryd.func51 rfl Tryd.ntmps51 rfl (fun N => ?_)
  refine cw_seq ?_
  refine cw_region ?_
  refine ow1 (op1_l rfl (lo_assign (v := .int _ _) rfl) ?_)
  refine ow_nil ?_
  refine seqK_n ?_
  refine cw_seq ?_
  refine cw_seq ?_
  refine cw_region ?_
  refine ow1 (op1_l rfl (lo_move (v := str _) rfl) ?_)
  refine ow1 (op1_l rfl (lo_len_str rfl Tryd.underlying9) ?_)
  refine ow1 (op1_l rfl (lo_gtr rfl rfl) ?_)
  refine ow_nil ?_
  refine seqK_n ?_
  refine cw_cond rfl (fun h1 => ?_) (fun h1 => ?_)
  · have p2 := dt h1
    refine cw_seq ?_
    refine cw_region ?_
    refine ow1 (op1_l rfl (lo_assign (v := .int _ _) rfl) ?_)
    refine ow_nil ?_
    refine seqK_n ?_
    refine cw_ret ?_
    refine seqK_r ?_
    refine fnK_r (res1 rfl (rv_t (v := .int _ _) rfl)) (.refl _) ?_
    unfold keyE
    rw [if_pos (by omega)]
  · have p3 := df h1
    refine cw_skip ?_
    refine seqK_n ?_
    refine cw_seq ?_
    refine cw_seq ?_
    refine cw_region ?_
    refine ow1 (op1_l rfl (lo_move (v := str _) rfl) ?_)
    refine ow1 (op1_ph (r4_Split _ s (by first | omega | (simp; done) | decide)) (en_f cb80 rfl) rfl ?_)
    rintro _ H8 ⟨a4, c5, rfl, hs6⟩ hl7
    refine ow1 (op1_l rfl (lo_len_slh rfl hs6 Tryd.underlying108) ?_)
    refine ow1 (op1_l rfl (lo_move (v := .int _ _) rfl) ?_)
    refine ow_nil ?_
    refine seqK_n ?_
    refine cw_block ?_
    refine cw_loop1 [4, 6, 7, 8, 15, 16, 17, 18, 19, 20, 21, 22, 23, 24, 25, 26, 27, 28, 29, 30, 31, 32, 33, 34, 35, 36, 37, 38, 39, 40, 41, 42, 43, 44, 45, 46, 47, 48, 49] [] (fun (k : Nat) G => upd (G) 15 (.int .i64 (k : Int))) (fun (k : Nat) G => G) (fun (k : Nat) H' => k ≤ (wordsOf s).length ∧ (wordsOf s).any (isBad (besidesOf pattern)) = ((wordsOf s).drop k).any (isBad (besidesOf pattern))) (fun (k : Nat) => (wordsOf s).length - k) 0 (upd_intro (mask_intro (by first | exact off_refl | (repeat (first | exact off_mask | refine off_upd rfl ?_ | refine off_mask2 rfl ?_)))) rfl) (lmask_intro offl_refl) ?_ ?_
    · exact ⟨Nat.zero_le _, by simp⟩
    · intro k J10 JL10 H10 hp9 hl10
      obtain ⟨hk1, hk2⟩ := hp9
      have hwl := words_le s
      refine cw_seq ?_
      refine cw_region ?_
      refine ow1 (op1_l rfl (lo_lss rfl rfl) ?_)
      refine ow_nil ?_
      refine seqK_n ?_
      refine cw_seq ?_
      refine cw_cond rfl (fun h11 => ?_) (fun h11 => ?_)
      · have p12 := dt h11
        refine cw_skip ?_
        refine seqK_n ?_
        refine cw_seq ?_
        refine cw_block ?_
        refine cw_seq ?_
        refine cw_region ?_
        obtain ⟨c13, hc14⟩ := getE (xs := wordsOf s) (m := k) (by omega)
        obtain ⟨cs15, hE16, at17⟩ := (hs6.mono ((HLe.refl _).trans hl10) (fun _ _ h => h)).get hc14
        obtain ⟨rfl, c13_w⟩ := hE16
        have c13_w : c13.length ≤ 9223372036854775807 := c13_w
        refine ow1 (op1_l rfl (lo_indexAddr rfl rfl (hs6.mono ((HLe.refl _).trans hl10) (fun _ _ h => h)).1 at17 Tryd.underlying108 sz9 (by omega) (by omega)) ?_)
        refine ow1 (op1_l rfl (lo_loadE1 rfl ag9 at17) ?_)
        refine ow1 (op1_l rfl (lo_assign (v := str _) rfl) ?_)
        refine ow_nil ?_
        refine seqK_n ?_
        refine cw_seq ?_
        refine cw_region ?_
        refine ow1 (op1_l rfl (lo_move (v := str _) rfl) ?_)
        refine ow1 (op1_l rfl (lo_len_str rfl Tryd.underlying9) ?_)
        refine ow1 (op1_l rfl (lo_eql rfl rfl) ?_)
        refine ow1 (op1_l rfl (lo_assign (v := .bool _) rfl) ?_)
        refine ow_nil ?_
        refine seqK_n ?_
        refine cw_seq ?_
        refine cw_seq ?_
        refine cw_region ?_
        refine ow1 (op1_l rfl (lo_assign (v := .int _ _) rfl) ?_)
        refine ow_nil ?_
        refine seqK_n ?_
        refine cw_block ?_
        refine cw_loop2 [7, 8, 22, 23, 24, 25, 26, 27, 28, 29, 30, 31, 32, 33, 34, 35] [] (fun (j : Nat) (b : Bool) G => upd (upd (G) 8 (.int .i64 (j : Int))) 7 (.bool b)) (fun (j : Nat) (b : Bool) G => G) (fun (j : Nat) (b : Bool) H' => j ≤ c13.length ∧ (decide ((c13.length : Int) = 0) || !plain c13) = (b || !((c13.drop j).all (fun c => letter c.toNat)))) (fun (j : Nat) (b : Bool) => c13.length - j) 0 (decide ((c13.length : Int) = 0)) (upd_intro (upd_intro (mask_intro (by first | exact off_refl | (repeat (first | exact off_mask | refine off_upd rfl ?_ | refine off_mask2 rfl ?_)))) rfl) rfl) (lmask_intro offl_refl) ?_ ?_
        · exact ⟨Nat.zero_le _, rfl⟩
        · intro j b J19 JL19 H19 hp18 hl19
          obtain ⟨hj1, hj2⟩ := hp18
          refine cw_seq ?_
          refine cw_seq ?_
          refine cw_region ?_
          refine ow1 (op1_l rfl (lo_move (v := .int _ _) rfl) ?_)
          refine ow1 (op1_l rfl (lo_move (v := str _) rfl) ?_)
          refine ow1 (op1_l rfl (lo_len_str rfl Tryd.underlying9) ?_)
          refine ow1 (op1_l rfl (lo_lss rfl rfl) ?_)
          refine ow_nil ?_
          refine seqK_n ?_
          refine cw_cond rfl (fun h20 => ?_) (fun h20 => ?_)
          · have p21 := dt h20
            refine cw_skip ?_
            refine seqK_n ?_
            refine cw_seq ?_
            refine cw_block ?_
            refine cw_region ?_
            refine ow1 (op1_l rfl (lo_move (v := .bool _) rfl) ?_)
            refine ow1 (op1_l rfl (lo_move (v := .bool _) rfl) ?_)
            refine ow_sp (j := 1) rfl (fun h22 => ?_) (fun h22 => ?_)
            · refine ow1 (op1_gs rfl h22 rfl ?_)
              refine ow1 (op1_gs rfl h22 rfl ?_)
              refine ow1 (op1_gs rfl h22 rfl ?_)
              refine ow1 (op1_gs rfl h22 rfl ?_)
              refine ow1 (op1_gs rfl h22 rfl ?_)
              refine ow1 (op1_l rfl (lo_pick_t (v := .bool _) rfl h22 rfl) ?_)
              refine ow1 (op1_l rfl (lo_assign (v := .bool _) rfl) ?_)
              refine ow_nil ?_
              refine blkK_n ?_
              refine seqK_n ?_
              refine cw_region ?_
              refine ow1 (op1_l rfl (lo_move (v := .int _ _) rfl) ?_)
              refine ow1 (op1_l rfl (lo_add rfl rfl (rg_i64 (by omega))) ?_)
              refine ow1 (op1_l rfl (lo_assign (v := .int _ _) rfl) ?_)
              refine ow_nil ?_
              refine next2 (j + 1) true (upd_intro (upd_intro (mask_intro (by first | exact off_refl | (repeat (first | exact off_mask | refine off_upd rfl ?_ | refine off_mask2 rfl ?_)))) rfl) rfl) (lmask_intro (by first | exact offl_refl | (repeat (first | exact offl_mask | refine offl_upd rfl ?_ | refine offl_mask2 rfl ?_)))) hl19 ?_ ?_
              · refine ⟨by omega, ?_⟩
                rw [hj2, letter_all (k := j) (by omega)]
                simp only [*, Bool.true_or, Bool.false_or, Bool.not_and, Bool.not_true, Bool.not_false, Bool.false_and, Bool.true_and]
              · omega
            · refine ow1 (op1_g rfl h22 rfl (lo_move (v := str _) rfl) ?_)
              refine ow1 (op1_g rfl h22 rfl (lo_move (v := .int _ _) rfl) ?_)
              have := u8r (c13.getD j 0)
              refine ow1 (op1_g rfl h22 rfl (lo_index_str j rfl rfl Tryd.underlying9 (by omega) (by omega)) ?_)
              refine ow1 (op1_prg rfl h22 (r4_letter _ ((c13.getD j 0).toNat : Int) (by omega)) (en_f cb79 rfl) rfl ?_)
              refine ow1 (op1_g rfl h22 rfl (lo_not rfl) ?_)
              refine ow1 (op1_l rfl (lo_pick_f (v := .bool _) rfl h22 rfl) ?_)
              refine ow1 (op1_l rfl (lo_assign (v := .bool _) rfl) ?_)
              refine ow_nil ?_
              refine blkK_n ?_
              refine seqK_n ?_
              refine cw_region ?_
              refine ow1 (op1_l rfl (lo_move (v := .int _ _) rfl) ?_)
              refine ow1 (op1_l rfl (lo_add rfl rfl (rg_i64 (by omega))) ?_)
              refine ow1 (op1_l rfl (lo_assign (v := .int _ _) rfl) ?_)
              refine ow_nil ?_
              refine next2 (j + 1) (!(letter ((c13.getD j 0).toNat : Int))) (upd_intro (upd_intro (mask_intro (by first | exact off_refl | (repeat (first | exact off_mask | refine off_upd rfl ?_ | refine off_mask2 rfl ?_)))) rfl) rfl) (lmask_intro (by first | exact offl_refl | (repeat (first | exact offl_mask | refine offl_upd rfl ?_ | refine offl_mask2 rfl ?_)))) hl19 ?_ ?_
              · refine ⟨by omega, ?_⟩
                rw [hj2, letter_all (k := j) (by omega)]
                simp only [*, Bool.true_or, Bool.false_or, Bool.not_and, Bool.not_true, Bool.not_false, Bool.false_and, Bool.true_and]
              · omega
          · have p23 := df h20
            refine cw_exit ?_
            refine seqK_e ?_
            refine loopK_e ?_
            refine blkK_hit ?_
            refine seqK_n ?_
            refine cw_seq ?_
            refine cw_region ?_
            refine ow1 (op1_l rfl (lo_move (v := .bool _) rfl) ?_)
            refine ow1 (op1_l rfl (lo_move (v := .bool _) rfl) ?_)
            refine ow_sp (j := 1) rfl (fun h24 => ?_) (fun h24 => ?_)
            · refine ow1 (op1_g rfl h24 rfl (lo_move (v := .bool _) rfl) ?_)
              refine ow1 (op1_g rfl h24 rfl (lo_move (v := .bool _) rfl) ?_)
              refine ow_sp (j := 3) rfl (fun h25 => ?_) (fun h25 => ?_)
              · refine ow1 (op1_g rfl h25 rfl (lo_move (v := str _) rfl) ?_)
                refine ow1 (op1_g rfl h25 rfl (lo_seql rfl rfl) ?_)
                refine ow1 (op1_g rfl h25 rfl (lo_move (v := .bool _) rfl) ?_)
                refine ow_sp (j := 6) rfl (fun h26 => ?_) (fun h26 => ?_)
                · have p27 := dt h26
                  refine ow1 (op1_gs rfl h26 rfl ?_)
                  refine ow1 (op1_gs rfl h26 rfl ?_)
                  refine ow1 (op1_g rfl h25 rfl (lo_pick_t (v := .bool _) rfl h26 rfl) ?_)
                  refine ow1 (op1_g rfl h24 rfl (lo_pick_t (v := .bool _) rfl h25 rfl) ?_)
                  refine ow1 (op1_g rfl h24 rfl (lo_not rfl) ?_)
                  refine ow1 (op1_l rfl (lo_pick_t (v := .bool _) rfl h24 rfl) ?_)
                  refine ow_nil ?_
                  refine seqK_n ?_
                  refine cw_cond_f rfl rfl ?_
                  refine cw_skip ?_
                  refine blkK_n ?_
                  refine seqK_n ?_
                  refine cw_region ?_
                  refine ow1 (op1_l rfl (lo_add rfl rfl (rg_i64 (by omega))) ?_)
                  refine ow1 (op1_l rfl (lo_move (v := .int _ _) rfl) ?_)
                  refine ow_nil ?_
                  refine next1 (k + 1) (upd_intro (mask_intro (by first | exact off_refl | (repeat (first | exact off_mask | refine off_upd rfl ?_ | refine off_mask2 rfl ?_)))) rfl) (lmask_intro (by first | exact offl_refl | (repeat (first | exact offl_mask | refine offl_upd rfl ?_ | refine offl_mask2 rfl ?_)))) (hl10.trans hl19) ?_ ?_
                  · refine ⟨by omega, ?_⟩
                    rw [List.drop_of_length_le (by omega)] at hj2
                    have hX := hj2
                    simp only [List.all_nil, Bool.not_true, Bool.or_false] at hX
                    have hb : isBad (besidesOf pattern) c13 = false := by rw [isBad_doc hX]; simp [*]
                    rw [hk2, dropE hc14, List.any_cons, hb]
                    simp
                  · omega
                · have p28 := df h26
                  refine ow1 (op1_g rfl h26 rfl (lo_move (v := str _) rfl) ?_)
                  refine ow1 (op1_g rfl h26 rfl (lo_seql rfl rfl) ?_)
                  refine ow1 (op1_g rfl h25 rfl (lo_pick_f (v := .bool _) rfl h26 rfl) ?_)
                  refine ow1 (op1_g rfl h24 rfl (lo_pick_t (v := .bool _) rfl h25 rfl) ?_)
                  refine ow1 (op1_g rfl h24 rfl (lo_not rfl) ?_)
                  refine ow1 (op1_l rfl (lo_pick_t (v := .bool _) rfl h24 rfl) ?_)
                  refine ow_nil ?_
                  refine seqK_n ?_
                  refine cw_cond rfl (fun h29 => ?_) (fun h29 => ?_)
                  · have h30 := not_t h29
                    have p31 := df h30
                    refine cw_seq ?_
                    refine cw_region ?_
                    refine ow1 (op1_l rfl (lo_assign (v := .int _ _) rfl) ?_)
                    refine ow_nil ?_
                    refine seqK_n ?_
                    refine cw_ret ?_
                    refine blkK_r ?_
                    refine seqK_r ?_
                    refine loopK_r ?_
                    refine blkK_r ?_
                    refine seqK_r ?_
                    refine fnK_r (res1 rfl (rv_t (v := .int _ _) rfl)) ((((HLe.refl _).trans hl7).trans hl10).trans hl19) ?_
                    rw [List.drop_of_length_le (by omega)] at hj2
                    have hX := hj2
                    simp only [List.all_nil, Bool.not_true, Bool.or_false] at hX
                    have hb : isBad (besidesOf pattern) c13 = true := by rw [isBad_doc hX]; simp [*]
                    unfold keyE
                    rw [if_neg (by omega), hk2, dropE hc14, List.any_cons, hb]
                    rfl
                  · have h32 := not_f h29
                    have p33 := dt h32
                    refine cw_skip ?_
                    refine blkK_n ?_
                    refine seqK_n ?_
                    refine cw_region ?_
                    refine ow1 (op1_l rfl (lo_add rfl rfl (rg_i64 (by omega))) ?_)
                    refine ow1 (op1_l rfl (lo_move (v := .int _ _) rfl) ?_)
                    refine ow_nil ?_
                    refine next1 (k + 1) (upd_intro (mask_intro (by first | exact off_refl | (repeat (first | exact off_mask | refine off_upd rfl ?_ | refine off_mask2 rfl ?_)))) rfl) (lmask_intro (by first | exact offl_refl | (repeat (first | exact offl_mask | refine offl_upd rfl ?_ | refine offl_mask2 rfl ?_)))) (hl10.trans hl19) ?_ ?_
                    · refine ⟨by omega, ?_⟩
                      rw [List.drop_of_length_le (by omega)] at hj2
                      have hX := hj2
                      simp only [List.all_nil, Bool.not_true, Bool.or_false] at hX
                      have hb : isBad (besidesOf pattern) c13 = false := by rw [isBad_doc hX]; simp [*]
                      rw [hk2, dropE hc14, List.any_cons, hb]
                      simp
                    · omega
              · refine ow1 (op1_gs rfl h25 rfl ?_)
                refine ow1 (op1_gs rfl h25 rfl ?_)
                refine ow1 (op1_gs rfl h25 rfl ?_)
                refine ow1 (op1_gx (j := 6) rfl rfl ?_)
                refine ow1 (op1_gx (j := 6) rfl rfl ?_)
                refine ow1 (op1_gs rfl h25 rfl ?_)
                refine ow1 (op1_g rfl h24 rfl (lo_pick_f (v := .bool _) rfl h25 rfl) ?_)
                refine ow1 (op1_g rfl h24 rfl (lo_not rfl) ?_)
                refine ow1 (op1_l rfl (lo_pick_t (v := .bool _) rfl h24 rfl) ?_)
                refine ow_nil ?_
                refine seqK_n ?_
                refine cw_cond_t rfl rfl ?_
                refine cw_seq ?_
                refine cw_region ?_
                refine ow1 (op1_l rfl (lo_assign (v := .int _ _) rfl) ?_)
                refine ow_nil ?_
                refine seqK_n ?_
                refine cw_ret ?_
                refine blkK_r ?_
                refine seqK_r ?_
                refine loopK_r ?_
                refine blkK_r ?_
                refine seqK_r ?_
                refine fnK_r (res1 rfl (rv_t (v := .int _ _) rfl)) ((((HLe.refl _).trans hl7).trans hl10).trans hl19) ?_
                rw [List.drop_of_length_le (by omega)] at hj2
                have hX := hj2
                simp only [List.all_nil, Bool.not_true, Bool.or_false] at hX
                have hb : isBad (besidesOf pattern) c13 = true := by rw [isBad_doc hX]; simp [*]
                unfold keyE
                rw [if_neg (by omega), hk2, dropE hc14, List.any_cons, hb]
                rfl
            · refine ow1 (op1_gs rfl h24 rfl ?_)
              refine ow1 (op1_gs rfl h24 rfl ?_)
              refine ow1 (op1_gx (j := 3) rfl rfl ?_)
              refine ow1 (op1_gx (j := 3) rfl rfl ?_)
              refine ow1 (op1_gx (j := 3) rfl rfl ?_)
              refine ow1 (op1_gx (j := 6) rfl rfl ?_)
              refine ow1 (op1_gx (j := 6) rfl rfl ?_)
              refine ow1 (op1_gx (j := 3) rfl rfl ?_)
              refine ow1 (op1_gs rfl h24 rfl ?_)
              refine ow1 (op1_gs rfl h24 rfl ?_)
              refine ow1 (op1_l rfl (lo_pick_f (v := .bool _) rfl h24 rfl) ?_)
              refine ow_nil ?_
              refine seqK_n ?_
              refine cw_cond_f rfl rfl ?_
              refine cw_skip ?_
              refine blkK_n ?_
              refine seqK_n ?_
              refine cw_region ?_
              refine ow1 (op1_l rfl (lo_add rfl rfl (rg_i64 (by omega))) ?_)
              refine ow1 (op1_l rfl (lo_move (v := .int _ _) rfl) ?_)
              refine ow_nil ?_
              refine next1 (k + 1) (upd_intro (mask_intro (by first | exact off_refl | (repeat (first | exact off_mask | refine off_upd rfl ?_ | refine off_mask2 rfl ?_)))) rfl) (lmask_intro (by first | exact offl_refl | (repeat (first | exact offl_mask | refine offl_upd rfl ?_ | refine offl_mask2 rfl ?_)))) (hl10.trans hl19) ?_ ?_
              · refine ⟨by omega, ?_⟩
                rw [List.drop_of_length_le (by omega)] at hj2
                have hX := hj2
                simp only [List.all_nil, Bool.not_true, Bool.or_false] at hX
                have hb : isBad (besidesOf pattern) c13 = false := by rw [isBad_doc hX]; simp [*]
                rw [hk2, dropE hc14, List.any_cons, hb]
                simp
              · omega
      · have p34 := df h11
        refine cw_exit ?_
        refine seqK_e ?_
        refine loopK_e ?_
        refine blkK_hit ?_
        refine seqK_n ?_
        refine cw_seq ?_
        refine cw_region ?_
        refine ow1 (op1_l rfl (lo_assign (v := .int _ _) rfl) ?_)
        refine ow_nil ?_
        refine seqK_n ?_
        refine cw_ret ?_
        refine fnK_r (res1 rfl (rv_t (v := .int _ _) rfl)) (((HLe.refl _).trans hl7).trans hl10) ?_
        unfold keyE
        rw [if_neg (by omega), hk2, List.drop_of_length_le (by omega)]
        rfl

theorem r9_Pair (H : Hp) (p : Pair) (p_w : Pair.wf p) (ahead_a : Option Addr) (ahead_l ahead_c : Nat) (ahead : List Pair) (ahead_h : SlH pairE 4 H (.slice ahead_a ahead_l ahead_c) ahead) (hl : ahead.length ≤ 9223372036854775807) : Pr Tryd.prog 75 #[.agg (Pair.cells p).toArray, .slice ahead_a ahead_l ahead_c] H (.int .i64 (pairErr p ahead)) := by
  refine pr_cw Tryd.func75 rfl Tryd.ntmps75 rfl (fun N => ?_)
  have p_w' := p_w
  simp only [Pair.wf] at p_w'
  refine cw_seq ?_
  refine cw_region ?_
  refine ow1 (op1_box (cs := [_, _, _, _]) 0 rfl rfl (fun b1 => ?_))
  refine ow1 (op1_l rfl (lo_assign (v := .int _ _) rfl) ?_)
  refine ow_nil ?_
  refine seqK_n ?_
  refine cw_seq ?_
  refine cw_region ?_
  refine ow1 (op1_l rfl (lo_fieldAddr rfl fl94_0) ?_)
  refine ow1 (op1_l rfl (lo_load1 (i := 0) (v := str _) rfl ag9 rfl rfl) ?_)
  refine ow1 (op1_pr (r4_Name _ p.key (by first | omega | decide | (simp; done))) (en_f cb50 rfl) rfl ?_)
  refine ow1 (op1_l rfl (lo_assign (v := .int _ _) rfl) ?_)
  refine ow_nil ?_
  refine seqK_n ?_
  refine cw_seq ?_
  refine cw_seq ?_
  refine cw_region ?_
  refine ow1 (op1_l rfl (lo_move (v := .int _ _) rfl) ?_)
  refine ow1 (op1_l rfl (lo_neq rfl rfl) ?_)
  refine ow_nil ?_
  refine seqK_n ?_
  refine cw_cond rfl (fun h2 => ?_) (fun h2 => ?_)
  · have h3 := not_t h2
    have p4 := df h3
    refine cw_seq ?_
    refine cw_region ?_
    refine ow1 (op1_l rfl (lo_move (v := .int _ _) rfl) ?_)
    refine ow1 (op1_l rfl (lo_assign (v := .int _ _) rfl) ?_)
    refine ow_nil ?_
    refine seqK_n ?_
    refine cw_ret ?_
    refine seqK_r ?_
    refine fnK_r (res1 rfl (rv_t (v := .int _ _) rfl)) (.refl _) ?_
    rw [pairErr_doc]
    first | (simp [*]; done) | (simp [*]; omega) | ((repeat' split) <;> first | rfl | omega | (exfalso; simp_all; done) | (exfalso; simp_all; omega))
  · have h5 := not_f h2
    have p6 := dt h5
    refine cw_skip ?_
    refine seqK_n ?_
    refine cw_seq ?_
    refine cw_seq ?_
    refine cw_region ?_
    refine ow1 (op1_l rfl (lo_fieldAddr rfl fl94_1) ?_)
    refine ow1 (op1_l rfl (lo_load1 (i := 0) (v := .int _ _) rfl ag5 rfl rfl) ?_)
    refine ow1 (op1_l rfl (lo_gtr rfl rfl) ?_)
    refine ow_nil ?_
    refine seqK_n ?_
    refine cw_cond rfl (fun h7 => ?_) (fun h7 => ?_)
    · have p8 := dt h7
      refine cw_seq ?_
      refine cw_region ?_
      refine ow1 (op1_l rfl (lo_assign (v := .int _ _) rfl) ?_)
      refine ow_nil ?_
      refine seqK_n ?_
      refine cw_ret ?_
      refine seqK_r ?_
      refine fnK_r (res1 rfl (rv_t (v := .int _ _) rfl)) (.refl _) ?_
      rw [pairErr_doc]
      first | (simp [*]; done) | (simp [*]; omega) | ((repeat' split) <;> first | rfl | omega | (exfalso; simp_all; done) | (exfalso; simp_all; omega))
    · have p9 := df h7
      refine cw_skip ?_
      refine seqK_n ?_
      refine cw_seq ?_
      refine cw_seq ?_
      refine cw_region ?_
      refine ow1 (op1_l rfl (lo_fieldAddr rfl fl94_1) ?_)
      refine ow1 (op1_l rfl (lo_load1 (i := 0) (v := .int _ _) rfl ag5 rfl rfl) ?_)
      refine ow1 (op1_l rfl (lo_eql rfl rfl) ?_)
      refine ow1 (op1_l rfl (lo_move (v := .bool _) rfl) ?_)
      refine ow_sp (j := 3) rfl (fun h10 => ?_) (fun h10 => ?_)
      · have p11 := dt h10
        refine ow1 (op1_g rfl h10 rfl (lo_fieldAddr rfl fl94_3) ?_)
        refine ow1 (op1_g rfl h10 rfl (lo_load1 (i := 0) (v := str _) rfl ag9 rfl rfl) ?_)
        refine ow1 (op1_g rfl h10 rfl (lo_len_str rfl Tryd.underlying9) ?_)
        refine ow1 (op1_g rfl h10 rfl (lo_gtr rfl rfl) ?_)
        refine ow1 (op1_l rfl (lo_pick_t (v := .bool _) rfl h10 rfl) ?_)
        refine ow_nil ?_
        refine seqK_n ?_
        refine cw_cond rfl (fun h12 => ?_) (fun h12 => ?_)
        · have p13 := dt h12
          refine cw_seq ?_
          refine cw_region ?_
          refine ow1 (op1_l rfl (lo_assign (v := .int _ _) rfl) ?_)
          refine ow_nil ?_
          refine seqK_n ?_
          refine cw_ret ?_
          refine seqK_r ?_
          refine fnK_r (res1 rfl (rv_t (v := .int _ _) rfl)) (.refl _) ?_
          rw [pairErr_doc]
          first | (simp [*]; done) | (simp [*]; omega) | ((repeat' split) <;> first | rfl | omega | (exfalso; simp_all; done) | (exfalso; simp_all; omega))
        · have p14 := df h12
          refine cw_skip ?_
          refine seqK_n ?_
          refine cw_seq ?_
          refine cw_seq ?_
          refine cw_region ?_
          refine ow1 (op1_l rfl (lo_fieldAddr rfl fl94_1) ?_)
          refine ow1 (op1_l rfl (lo_load1 (i := 0) (v := .int _ _) rfl ag5 rfl rfl) ?_)
          refine ow1 (op1_l rfl (lo_eql rfl rfl) ?_)
          refine ow1 (op1_l rfl (lo_move (v := .bool _) rfl) ?_)
          refine ow1 (op1_gs rfl (fd (by omega)) rfl ?_)
          refine ow1 (op1_gs rfl (fd (by omega)) rfl ?_)
          refine ow1 (op1_gs rfl (fd (by omega)) rfl ?_)
          refine ow1 (op1_gs rfl (fd (by omega)) rfl ?_)
          refine ow1 (op1_gx (j := 7) rfl rfl ?_)
          refine ow1 (op1_gx (j := 7) rfl rfl ?_)
          refine ow1 (op1_gx (j := 7) rfl rfl ?_)
          refine ow1 (op1_gs rfl (fd (by omega)) rfl ?_)
          refine ow1 (op1_l rfl (lo_pick_f (v := .bool _) rfl (fd (by omega)) rfl) ?_)
          refine ow_nil ?_
          refine seqK_n ?_
          refine cw_cond_f rfl rfl ?_
          refine cw_skip ?_
          refine seqK_n ?_
          refine cw_seq ?_
          refine cw_seq ?_
          refine cw_region ?_
          refine ow1 (op1_l rfl (lo_fieldAddr rfl fl94_1) ?_)
          refine ow1 (op1_l rfl (lo_load1 (i := 0) (v := .int _ _) rfl ag5 rfl rfl) ?_)
          refine ow1 (op1_l rfl (lo_eql rfl rfl) ?_)
          refine ow1 (op1_l rfl (lo_move (v := .bool _) rfl) ?_)
          refine ow1 (op1_g rfl h10 rfl (lo_fieldAddr rfl fl94_2) ?_)
          refine ow1 (op1_g rfl h10 rfl (lo_load1 (i := 0) (v := .int _ _) rfl ag2 rfl rfl) ?_)
          refine ow1 (op1_g rfl h10 rfl (lo_neq rfl rfl) ?_)
          refine ow1 (op1_l rfl (lo_pick_t (v := .bool _) rfl h10 rfl) ?_)
          refine ow1 (op1_l rfl (lo_move (v := .bool _) rfl) ?_)
          refine ow_sp (j := 8) rfl (fun h15 => ?_) (fun h15 => ?_)
          · have h16 := not_t h15
            have p17 := df h16
            refine ow1 (op1_gs rfl h15 rfl ?_)
            refine ow1 (op1_gs rfl h15 rfl ?_)
            refine ow1 (op1_gs rfl h15 rfl ?_)
            refine ow1 (op1_gs rfl h15 rfl ?_)
            refine ow1 (op1_gx (j := 12) rfl rfl ?_)
            refine ow1 (op1_gx (j := 12) rfl rfl ?_)
            refine ow1 (op1_gx (j := 12) rfl rfl ?_)
            refine ow1 (op1_gs rfl h15 rfl ?_)
            refine ow1 (op1_l rfl (lo_pick_t (v := .bool _) rfl h15 rfl) ?_)
            refine ow_nil ?_
            refine seqK_n ?_
            refine cw_cond_t rfl rfl ?_
            refine cw_seq ?_
            refine cw_region ?_
            refine ow1 (op1_l rfl (lo_assign (v := .int _ _) rfl) ?_)
            refine ow_nil ?_
            refine seqK_n ?_
            refine cw_ret ?_
            refine seqK_r ?_
            refine fnK_r (res1 rfl (rv_t (v := .int _ _) rfl)) (.refl _) ?_
            rw [pairErr_doc]
            first | (simp [*]; done) | (simp [*]; omega) | ((repeat' split) <;> first | rfl | omega | (exfalso; simp_all; done) | (exfalso; simp_all; omega))
          · have h18 := not_f h15
            have p19 := dt h18
            refine ow1 (op1_g rfl h15 rfl (lo_fieldAddr rfl fl94_1) ?_)
            refine ow1 (op1_g rfl h15 rfl (lo_load1 (i := 0) (v := .int _ _) rfl ag5 rfl rfl) ?_)
            refine ow1 (op1_g rfl h15 rfl (lo_neq rfl rfl) ?_)
            refine ow1 (op1_g rfl h15 rfl (lo_move (v := .bool _) rfl) ?_)
            refine ow1 (op1_gs rfl (by rw [h10] <;> rfl) rfl ?_)
            refine ow1 (op1_gs rfl (by rw [h10] <;> rfl) rfl ?_)
            refine ow1 (op1_gs rfl (by rw [h10] <;> rfl) rfl ?_)
            refine ow1 (op1_g rfl h15 rfl (lo_pick_f (v := .bool _) rfl (by rw [h10] <;> rfl) rfl) ?_)
            refine ow1 (op1_l rfl (lo_pick_f (v := .bool _) rfl h15 rfl) ?_)
            refine ow_nil ?_
            refine seqK_n ?_
            refine cw_cond_f rfl rfl ?_
            refine cw_skip ?_
            refine seqK_n ?_
            refine cw_seq ?_
            refine cw_seq ?_
            refine cw_region ?_
            refine ow1 (op1_l rfl (lo_move (v := .slice _ _ _) rfl) ?_)
            refine ow1 (op1_l rfl (lo_len_slh rfl ahead_h Tryd.underlying23) ?_)
            refine ow1 (op1_l rfl (lo_move (v := .int _ _) rfl) ?_)
            refine ow_nil ?_
            refine seqK_n ?_
            refine cw_block ?_
            refine cw_loop1 [4, 7, 59, 60, 61, 62, 63, 64, 65, 66, 67, 68] [1] (fun (k : Nat) G => upd (G) 59 (.int .i64 (k : Int))) (fun (k : Nat) G => G) (fun (k : Nat) H' => k ≤ ahead.length ∧ findP ahead p.key = findP (ahead.drop k) p.key) (fun (k : Nat) => ahead.length - k) 0 (upd_intro (mask_intro (by first | exact off_refl | (repeat (first | exact off_mask | refine off_upd rfl ?_ | refine off_mask2 rfl ?_)))) rfl) (lmask_intro offl_refl) ?_ ?_
            · exact ⟨Nat.zero_le _, rfl⟩
            · intro k J21 JL21 H21 hp20 hl21
              obtain ⟨hk1, hk2⟩ := hp20
              refine cw_seq ?_
              refine cw_region ?_
              refine ow1 (op1_l rfl (lo_lss rfl rfl) ?_)
              refine ow_nil ?_
              refine seqK_n ?_
              refine cw_seq ?_
              refine cw_cond rfl (fun h22 => ?_) (fun h22 => ?_)
              · have p23 := dt h22
                refine cw_skip ?_
                refine seqK_n ?_
                refine cw_seq ?_
                refine cw_block ?_
                refine cw_seq ?_
                refine cw_region ?_
                obtain ⟨c24, hc25⟩ := getE (xs := ahead) (m := k) (by omega)
                obtain ⟨cs26, hE27, at28⟩ := (ahead_h.mono ((HLe.refl _).trans hl21) (fun _ _ h => h)).get hc25
                obtain ⟨rfl, c24_w⟩ := hE27
                have c24_w' := c24_w
                simp only [Pair.wf] at c24_w'
                refine ow1 (op1_l rfl (lo_indexAddr rfl rfl (ahead_h.mono ((HLe.refl _).trans hl21) (fun _ _ h => h)).1 at28 Tryd.underlying23 sz94 (by omega) (by omega)) ?_)
                refine ow1 (op1_l rfl (lo_loadEA rfl ag94 sz94 at28) ?_)
                refine ow1 (op1_alloc 1 rfl zr94 (fun b29 => ?_))
                refine ow1 (op1_storeA (i := 1) (vs := [_, _, _, _]) rfl rfl rfl sz94 rfl rfl rfl ?_)
                refine ow_nil ?_
                refine seqK_n ?_
                refine cw_seq ?_
                refine cw_region ?_
                refine ow1 (op1_l rfl (lo_fieldAddr rfl fl94_0) ?_)
                refine ow1 (op1_l rfl (lo_load1 (i := 1) (v := str _) rfl ag9 rfl rfl) ?_)
                refine ow1 (op1_l rfl (lo_fieldAddr rfl fl94_0) ?_)
                refine ow1 (op1_l rfl (lo_load1 (i := 0) (v := str _) rfl ag9 rfl rfl) ?_)
                refine ow1 (op1_l rfl (lo_seql rfl rfl) ?_)
                refine ow_nil ?_
                refine seqK_n ?_
                refine cw_cond rfl (fun h30 => ?_) (fun h30 => ?_)
                · have p31 := dt h30
                  refine cw_seq ?_
                  refine cw_region ?_
                  refine ow1 (op1_l rfl (lo_assign (v := .int _ _) rfl) ?_)
                  refine ow_nil ?_
                  refine seqK_n ?_
                  refine cw_ret ?_
                  refine blkK_r ?_
                  refine seqK_r ?_
                  refine loopK_r ?_
                  refine blkK_r ?_
                  refine seqK_r ?_
                  refine fnK_r (res1 rfl (rv_t (v := .int _ _) rfl)) ((HLe.refl _).trans hl21) ?_
                  have e9 := findP_hit hk2 (dropE hc25) (by assumption)
                  clear hk2
                  rw [pairErr_doc]
                  first | (simp [*]; done) | (simp [*]; omega) | ((repeat' split) <;> first | rfl | omega | (exfalso; simp_all; done) | (exfalso; simp_all; omega))
                · have p32 := df h30
                  refine cw_skip ?_
                  refine blkK_n ?_
                  refine seqK_n ?_
                  refine cw_region ?_
                  refine ow1 (op1_l rfl (lo_add rfl rfl (rg_i64 (by omega))) ?_)
                  refine ow1 (op1_l rfl (lo_move (v := .int _ _) rfl) ?_)
                  refine ow_nil ?_
                  refine next1 (k + 1) (upd_intro (mask_intro (by first | exact off_refl | (repeat (first | exact off_mask | refine off_upd rfl ?_ | refine off_mask2 rfl ?_)))) rfl) (lmask_intro (by first | exact offl_refl | (repeat (first | exact offl_mask | refine offl_upd rfl ?_ | refine offl_mask2 rfl ?_)))) hl21 ?_ ?_
                  · exact ⟨by omega, findP_miss hk2 (dropE hc25) (by assumption)⟩
                  · omega
              · have p33 := df h22
                refine cw_exit ?_
                refine seqK_e ?_
                refine loopK_e ?_
                refine blkK_hit ?_
                refine seqK_n ?_
                refine cw_seq ?_
                refine cw_region ?_
                refine ow1 (op1_l rfl (lo_assign (v := .int _ _) rfl) ?_)
                refine ow_nil ?_
                refine seqK_n ?_
                refine cw_ret ?_
                refine fnK_r (res1 rfl (rv_t (v := .int _ _) rfl)) ((HLe.refl _).trans hl21) ?_
                have e9 : findP ahead p.key = none := by rw [hk2, List.drop_of_length_le (by omega)]; rfl
                clear hk2
                rw [pairErr_doc]
                first | (simp [*]; done) | (simp [*]; omega) | ((repeat' split) <;> first | rfl | omega | (exfalso; simp_all; done) | (exfalso; simp_all; omega))
      · have p34 := df h10
        refine ow1 (op1_gs rfl h10 rfl ?_)
        refine ow1 (op1_gs rfl h10 rfl ?_)
        refine ow1 (op1_gs rfl h10 rfl ?_)
        refine ow1 (op1_gs rfl h10 rfl ?_)
        refine ow1 (op1_l rfl (lo_pick_f (v := .bool _) rfl h10 rfl) ?_)
        refine ow_nil ?_
        refine seqK_n ?_
        refine cw_cond_f rfl rfl ?_
        refine cw_skip ?_
        refine seqK_n ?_
        refine cw_seq ?_
        refine cw_seq ?_
        refine cw_region ?_
        refine ow1 (op1_l rfl (lo_fieldAddr rfl fl94_1) ?_)
        refine ow1 (op1_l rfl (lo_load1 (i := 0) (v := .int _ _) rfl ag5 rfl rfl) ?_)
        refine ow1 (op1_l rfl (lo_eql rfl rfl) ?_)
        refine ow1 (op1_l rfl (lo_move (v := .bool _) rfl) ?_)
        refine ow_sp (j := 3) rfl (fun h35 => ?_) (fun h35 => ?_)
        · have p36 := dt h35
          refine ow1 (op1_g rfl h35 rfl (lo_fieldAddr rfl fl94_2) ?_)
          refine ow1 (op1_g rfl h35 rfl (lo_load1 (i := 0) (v := .int _ _) rfl ag2 rfl rfl) ?_)
          refine ow1 (op1_g rfl h35 rfl (lo_lss rfl rfl) ?_)
          refine ow1 (op1_g rfl h35 rfl (lo_move (v := .bool _) rfl) ?_)
          refine ow_sp (j := 7) rfl (fun h37 => ?_) (fun h37 => ?_)
          · have p38 := dt h37
            refine ow1 (op1_gs rfl h37 rfl ?_)
            refine ow1 (op1_gs rfl h37 rfl ?_)
            refine ow1 (op1_gs rfl h37 rfl ?_)
            refine ow1 (op1_g rfl h35 rfl (lo_pick_t (v := .bool _) rfl h37 rfl) ?_)
            refine ow1 (op1_l rfl (lo_pick_t (v := .bool _) rfl h35 rfl) ?_)
            refine ow_nil ?_
            refine seqK_n ?_
            refine cw_cond_t rfl rfl ?_
            refine cw_seq ?_
            refine cw_region ?_
            refine ow1 (op1_l rfl (lo_assign (v := .int _ _) rfl) ?_)
            refine ow_nil ?_
            refine seqK_n ?_
            refine cw_ret ?_
            refine seqK_r ?_
            refine fnK_r (res1 rfl (rv_t (v := .int _ _) rfl)) (.refl _) ?_
            rw [pairErr_doc]
            first | (simp [*]; done) | (simp [*]; omega) | ((repeat' split) <;> first | rfl | omega | (exfalso; simp_all; done) | (exfalso; simp_all; omega))
          · have p39 := df h37
            refine ow1 (op1_g rfl h37 rfl (lo_fieldAddr rfl fl94_2) ?_)
            refine ow1 (op1_g rfl h37 rfl (lo_load1 (i := 0) (v := .int _ _) rfl ag2 rfl rfl) ?_)
            refine ow1 (op1_g rfl h37 rfl (lo_gtr rfl rfl) ?_)
            refine ow1 (op1_g rfl h35 rfl (lo_pick_f (v := .bool _) rfl h37 rfl) ?_)
            refine ow1 (op1_l rfl (lo_pick_t (v := .bool _) rfl h35 rfl) ?_)
            refine ow_nil ?_
            refine seqK_n ?_
            refine cw_cond rfl (fun h40 => ?_) (fun h40 => ?_)
            · have p41 := dt h40
              refine cw_seq ?_
              refine cw_region ?_
              refine ow1 (op1_l rfl (lo_assign (v := .int _ _) rfl) ?_)
              refine ow_nil ?_
              refine seqK_n ?_
              refine cw_ret ?_
              refine seqK_r ?_
              refine fnK_r (res1 rfl (rv_t (v := .int _ _) rfl)) (.refl _) ?_
              rw [pairErr_doc]
              first | (simp [*]; done) | (simp [*]; omega) | ((repeat' split) <;> first | rfl | omega | (exfalso; simp_all; done) | (exfalso; simp_all; omega))
            · have p42 := df h40
              refine cw_skip ?_
              refine seqK_n ?_
              refine cw_seq ?_
              refine cw_seq ?_
              refine cw_region ?_
              refine ow1 (op1_l rfl (lo_fieldAddr rfl fl94_1) ?_)
              refine ow1 (op1_l rfl (lo_load1 (i := 0) (v := .int _ _) rfl ag5 rfl rfl) ?_)
              refine ow1 (op1_l rfl (lo_eql rfl rfl) ?_)
              refine ow1 (op1_l rfl (lo_move (v := .bool _) rfl) ?_)
              refine ow1 (op1_gs rfl h10 rfl ?_)
              refine ow1 (op1_gs rfl h10 rfl ?_)
              refine ow1 (op1_gs rfl h10 rfl ?_)
              refine ow1 (op1_l rfl (lo_pick_f (v := .bool _) rfl h10 rfl) ?_)
              refine ow1 (op1_l rfl (lo_move (v := .bool _) rfl) ?_)
              refine ow1 (op1_g rfl rfl rfl (lo_fieldAddr rfl fl94_1) ?_)
              refine ow1 (op1_g rfl rfl rfl (lo_load1 (i := 0) (v := .int _ _) rfl ag5 rfl rfl) ?_)
              refine ow1 (op1_g rfl rfl rfl (lo_neq rfl rfl) ?_)
              refine ow1 (op1_g rfl rfl rfl (lo_move (v := .bool _) rfl) ?_)
              refine ow1 (op1_g rfl (by rw [h10] <;> rfl) rfl (lo_fieldAddr rfl fl94_3) ?_)
              refine ow1 (op1_g rfl (by rw [h10] <;> rfl) rfl (lo_load1 (i := 0) (v := str _) rfl ag9 rfl rfl) ?_)
              refine ow1 (op1_g rfl (by rw [h10] <;> rfl) rfl (lo_sneq rfl rfl) ?_)
              refine ow1 (op1_g rfl rfl rfl (lo_pick_t (v := .bool _) rfl (by rw [h10] <;> rfl) rfl) ?_)
              refine ow1 (op1_l rfl (lo_pick_f (v := .bool _) rfl rfl rfl) ?_)
              refine ow_nil ?_
              refine seqK_n ?_
              refine cw_cond rfl (fun h43 => ?_) (fun h43 => ?_)
              · have h44 := not_t h43
                have p45 := df h44
                refine cw_seq ?_
                refine cw_region ?_
                refine ow1 (op1_l rfl (lo_assign (v := .int _ _) rfl) ?_)
                refine ow_nil ?_
                refine seqK_n ?_
                refine cw_ret ?_
                refine seqK_r ?_
                refine fnK_r (res1 rfl (rv_t (v := .int _ _) rfl)) (.refl _) ?_
                rw [pairErr_doc]
                first | (simp [*]; done) | (simp [*]; omega) | ((repeat' split) <;> first | rfl | omega | (exfalso; simp_all; done) | (exfalso; simp_all; omega))
              · have h46 := not_f h43
                have p47 := dt h46
                refine cw_skip ?_
                refine seqK_n ?_
                refine cw_seq ?_
                refine cw_seq ?_
                refine cw_region ?_
                refine ow1 (op1_l rfl (lo_move (v := .slice _ _ _) rfl) ?_)
                refine ow1 (op1_l rfl (lo_len_slh rfl ahead_h Tryd.underlying23) ?_)
                refine ow1 (op1_l rfl (lo_move (v := .int _ _) rfl) ?_)
                refine ow_nil ?_
                refine seqK_n ?_
                refine cw_block ?_
                refine cw_loop1 [4, 7, 59, 60, 61, 62, 63, 64, 65, 66, 67, 68] [1] (fun (k : Nat) G => upd (G) 59 (.int .i64 (k : Int))) (fun (k : Nat) G => G) (fun (k : Nat) H' => k ≤ ahead.length ∧ findP ahead p.key = findP (ahead.drop k) p.key) (fun (k : Nat) => ahead.length - k) 0 (upd_intro (mask_intro (by first | exact off_refl | (repeat (first | exact off_mask | refine off_upd rfl ?_ | refine off_mask2 rfl ?_)))) rfl) (lmask_intro offl_refl) ?_ ?_
                · exact ⟨Nat.zero_le _, rfl⟩
                · intro k J49 JL49 H49 hp48 hl49
                  obtain ⟨hk1, hk2⟩ := hp48
                  refine cw_seq ?_
                  refine cw_region ?_
                  refine ow1 (op1_l rfl (lo_lss rfl rfl) ?_)
                  refine ow_nil ?_
                  refine seqK_n ?_
                  refine cw_seq ?_
                  refine cw_cond rfl (fun h50 => ?_) (fun h50 => ?_)
                  · have p51 := dt h50
                    refine cw_skip ?_
                    refine seqK_n ?_
                    refine cw_seq ?_
                    refine cw_block ?_
                    refine cw_seq ?_
                    refine cw_region ?_
                    obtain ⟨c52, hc53⟩ := getE (xs := ahead) (m := k) (by omega)
                    obtain ⟨cs54, hE55, at56⟩ := (ahead_h.mono ((HLe.refl _).trans hl49) (fun _ _ h => h)).get hc53
                    obtain ⟨rfl, c52_w⟩ := hE55
                    have c52_w' := c52_w
                    simp only [Pair.wf] at c52_w'
                    refine ow1 (op1_l rfl (lo_indexAddr rfl rfl (ahead_h.mono ((HLe.refl _).trans hl49) (fun _ _ h => h)).1 at56 Tryd.underlying23 sz94 (by omega) (by omega)) ?_)
                    refine ow1 (op1_l rfl (lo_loadEA rfl ag94 sz94 at56) ?_)
                    refine ow1 (op1_alloc 1 rfl zr94 (fun b57 => ?_))
                    refine ow1 (op1_storeA (i := 1) (vs := [_, _, _, _]) rfl rfl rfl sz94 rfl rfl rfl ?_)
                    refine ow_nil ?_
                    refine seqK_n ?_
                    refine cw_seq ?_
                    refine cw_region ?_
                    refine ow1 (op1_l rfl (lo_fieldAddr rfl fl94_0) ?_)
                    refine ow1 (op1_l rfl (lo_load1 (i := 1) (v := str _) rfl ag9 rfl rfl) ?_)
                    refine ow1 (op1_l rfl (lo_fieldAddr rfl fl94_0) ?_)
                    refine ow1 (op1_l rfl (lo_load1 (i := 0) (v := str _) rfl ag9 rfl rfl) ?_)
                    refine ow1 (op1_l rfl (lo_seql rfl rfl) ?_)
                    refine ow_nil ?_
                    refine seqK_n ?_
                    refine cw_cond rfl (fun h58 => ?_) (fun h58 => ?_)
                    · have p59 := dt h58
                      refine cw_seq ?_
                      refine cw_region ?_
                      refine ow1 (op1_l rfl (lo_assign (v := .int _ _) rfl) ?_)
                      refine ow_nil ?_
                      refine seqK_n ?_
                      refine cw_ret ?_
                      refine blkK_r ?_
                      refine seqK_r ?_
                      refine loopK_r ?_
                      refine blkK_r ?_
                      refine seqK_r ?_
                      refine fnK_r (res1 rfl (rv_t (v := .int _ _) rfl)) ((HLe.refl _).trans hl49) ?_
                      have e9 := findP_hit hk2 (dropE hc53) (by assumption)
                      clear hk2
                      rw [pairErr_doc]
                      first | (simp [*]; done) | (simp [*]; omega) | ((repeat' split) <;> first | rfl | omega | (exfalso; simp_all; done) | (exfalso; simp_all; omega))
                    · have p60 := df h58
                      refine cw_skip ?_
                      refine blkK_n ?_
                      refine seqK_n ?_
                      refine cw_region ?_
                      refine ow1 (op1_l rfl (lo_add rfl rfl (rg_i64 (by omega))) ?_)
                      refine ow1 (op1_l rfl (lo_move (v := .int _ _) rfl) ?_)
                      refine ow_nil ?_
                      refine next1 (k + 1) (upd_intro (mask_intro (by first | exact off_refl | (repeat (first | exact off_mask | refine off_upd rfl ?_ | refine off_mask2 rfl ?_)))) rfl) (lmask_intro (by first | exact offl_refl | (repeat (first | exact offl_mask | refine offl_upd rfl ?_ | refine offl_mask2 rfl ?_)))) hl49 ?_ ?_
                      · exact ⟨by omega, findP_miss hk2 (dropE hc53) (by assumption)⟩
                      · omega
                  · have p61 := df h50
                    refine cw_exit ?_
                    refine seqK_e ?_
                    refine loopK_e ?_
                    refine blkK_hit ?_
                    refine seqK_n ?_
                    refine cw_seq ?_
                    refine cw_region ?_
                    refine ow1 (op1_l rfl (lo_assign (v := .int _ _) rfl) ?_)
                    refine ow_nil ?_
                    refine seqK_n ?_
                    refine cw_ret ?_
                    refine fnK_r (res1 rfl (rv_t (v := .int _ _) rfl)) ((HLe.refl _).trans hl49) ?_
                    have e9 : findP ahead p.key = none := by rw [hk2, List.drop_of_length_le (by omega)]; rfl
                    clear hk2
                    rw [pairErr_doc]
                    first | (simp [*]; done) | (simp [*]; omega) | ((repeat' split) <;> first | rfl | omega | (exfalso; simp_all; done) | (exfalso; simp_all; omega))
        · have p62 := df h35
          refine ow1 (op1_gs rfl h35 rfl ?_)
          refine ow1 (op1_gs rfl h35 rfl ?_)
          refine ow1 (op1_gs rfl h35 rfl ?_)
          refine ow1 (op1_gs rfl h35 rfl ?_)
          refine ow1 (op1_gx (j := 7) rfl rfl ?_)
          refine ow1 (op1_gx (j := 7) rfl rfl ?_)
          refine ow1 (op1_gx (j := 7) rfl rfl ?_)
          refine ow1 (op1_gs rfl h35 rfl ?_)
          refine ow1 (op1_l rfl (lo_pick_f (v := .bool _) rfl h35 rfl) ?_)
          refine ow_nil ?_
          refine seqK_n ?_
          refine cw_cond_f rfl rfl ?_
          refine cw_skip ?_
          refine seqK_n ?_
          refine cw_seq ?_
          refine cw_seq ?_
          refine cw_region ?_
          refine ow1 (op1_l rfl (lo_fieldAddr rfl fl94_1) ?_)
          refine ow1 (op1_l rfl (lo_load1 (i := 0) (v := .int _ _) rfl ag5 rfl rfl) ?_)
          refine ow1 (op1_l rfl (lo_eql rfl rfl) ?_)
          refine ow1 (op1_l rfl (lo_move (v := .bool _) rfl) ?_)
          refine ow1 (op1_gs rfl h10 rfl ?_)
          refine ow1 (op1_gs rfl h10 rfl ?_)
          refine ow1 (op1_gs rfl h10 rfl ?_)
          refine ow1 (op1_l rfl (lo_pick_f (v := .bool _) rfl h10 rfl) ?_)
          refine ow1 (op1_l rfl (lo_move (v := .bool _) rfl) ?_)
          refine ow1 (op1_g rfl rfl rfl (lo_fieldAddr rfl fl94_1) ?_)
          refine ow1 (op1_g rfl rfl rfl (lo_load1 (i := 0) (v := .int _ _) rfl ag5 rfl rfl) ?_)
          refine ow1 (op1_g rfl rfl rfl (lo_neq rfl rfl) ?_)
          refine ow1 (op1_g rfl rfl rfl (lo_move (v := .bool _) rfl) ?_)
          refine ow1 (op1_g rfl (by rw [h10] <;> rfl) rfl (lo_fieldAddr rfl fl94_3) ?_)
          refine ow1 (op1_g rfl (by rw [h10] <;> rfl) rfl (lo_load1 (i := 0) (v := str _) rfl ag9 rfl rfl) ?_)
          refine ow1 (op1_g rfl (by rw [h10] <;> rfl) rfl (lo_sneq rfl rfl) ?_)
          refine ow1 (op1_g rfl rfl rfl (lo_pick_t (v := .bool _) rfl (by rw [h10] <;> rfl) rfl) ?_)
          refine ow1 (op1_l rfl (lo_pick_f (v := .bool _) rfl rfl rfl) ?_)
          refine ow_nil ?_
          refine seqK_n ?_
          refine cw_cond rfl (fun h63 => ?_) (fun h63 => ?_)
          · have h64 := not_t h63
            have p65 := df h64
            refine cw_seq ?_
            refine cw_region ?_
            refine ow1 (op1_l rfl (lo_assign (v := .int _ _) rfl) ?_)
            refine ow_nil ?_
            refine seqK_n ?_
            refine cw_ret ?_
            refine seqK_r ?_
            refine fnK_r (res1 rfl (rv_t (v := .int _ _) rfl)) (.refl _) ?_
            rw [pairErr_doc]
            first | (simp [*]; done) | (simp [*]; omega) | ((repeat' split) <;> first | rfl | omega | (exfalso; simp_all; done) | (exfalso; simp_all; omega))
          · have h66 := not_f h63
            have p67 := dt h66
            refine cw_skip ?_
            refine seqK_n ?_
            refine cw_seq ?_
            refine cw_seq ?_
            refine cw_region ?_
            refine ow1 (op1_l rfl (lo_move (v := .slice _ _ _) rfl) ?_)
            refine ow1 (op1_l rfl (lo_len_slh rfl ahead_h Tryd.underlying23) ?_)
            refine ow1 (op1_l rfl (lo_move (v := .int _ _) rfl) ?_)
            refine ow_nil ?_
            refine seqK_n ?_
            refine cw_block ?_
            refine cw_loop1 [4, 7, 59, 60, 61, 62, 63, 64, 65, 66, 67, 68] [1] (fun (k : Nat) G => upd (G) 59 (.int .i64 (k : Int))) (fun (k : Nat) G => G) (fun (k : Nat) H' => k ≤ ahead.length ∧ findP ahead p.key = findP (ahead.drop k) p.key) (fun (k : Nat) => ahead.length - k) 0 (upd_intro (mask_intro (by first | exact off_refl | (repeat (first | exact off_mask | refine off_upd rfl ?_ | refine off_mask2 rfl ?_)))) rfl) (lmask_intro offl_refl) ?_ ?_
            · exact ⟨Nat.zero_le _, rfl⟩
            · intro k J69 JL69 H69 hp68 hl69
              obtain ⟨hk1, hk2⟩ := hp68
              refine cw_seq ?_
              refine cw_region ?_
              refine ow1 (op1_l rfl (lo_lss rfl rfl) ?_)
              refine ow_nil ?_
              refine seqK_n ?_
              refine cw_seq ?_
              refine cw_cond rfl (fun h70 => ?_) (fun h70 => ?_)
              · have p71 := dt h70
                refine cw_skip ?_
                refine seqK_n ?_
                refine cw_seq ?_
                refine cw_block ?_
                refine cw_seq ?_
                refine cw_region ?_
                obtain ⟨c72, hc73⟩ := getE (xs := ahead) (m := k) (by omega)
                obtain ⟨cs74, hE75, at76⟩ := (ahead_h.mono ((HLe.refl _).trans hl69) (fun _ _ h => h)).get hc73
                obtain ⟨rfl, c72_w⟩ := hE75
                have c72_w' := c72_w
                simp only [Pair.wf] at c72_w'
                refine ow1 (op1_l rfl (lo_indexAddr rfl rfl (ahead_h.mono ((HLe.refl _).trans hl69) (fun _ _ h => h)).1 at76 Tryd.underlying23 sz94 (by omega) (by omega)) ?_)
                refine ow1 (op1_l rfl (lo_loadEA rfl ag94 sz94 at76) ?_)
                refine ow1 (op1_alloc 1 rfl zr94 (fun b77 => ?_))
                refine ow1 (op1_storeA (i := 1) (vs := [_, _, _, _]) rfl rfl rfl sz94 rfl rfl rfl ?_)
                refine ow_nil ?_
                refine seqK_n ?_
                refine cw_seq ?_
                refine cw_region ?_
                refine ow1 (op1_l rfl (lo_fieldAddr rfl fl94_0) ?_)
                refine ow1 (op1_l rfl (lo_load1 (i := 1) (v := str _) rfl ag9 rfl rfl) ?_)
                refine ow1 (op1_l rfl (lo_fieldAddr rfl fl94_0) ?_)
                refine ow1 (op1_l rfl (lo_load1 (i := 0) (v := str _) rfl ag9 rfl rfl) ?_)
                refine ow1 (op1_l rfl (lo_seql rfl rfl) ?_)
                refine ow_nil ?_
                refine seqK_n ?_
                refine cw_cond rfl (fun h78 => ?_) (fun h78 => ?_)
                · have p79 := dt h78
                  refine cw_seq ?_
                  refine cw_region ?_
                  refine ow1 (op1_l rfl (lo_assign (v := .int _ _) rfl) ?_)
                  refine ow_nil ?_
                  refine seqK_n ?_
                  refine cw_ret ?_
                  refine blkK_r ?_
                  refine seqK_r ?_
                  refine loopK_r ?_
                  refine blkK_r ?_
                  refine seqK_r ?_
                  refine fnK_r (res1 rfl (rv_t (v := .int _ _) rfl)) ((HLe.refl _).trans hl69) ?_
                  have e9 := findP_hit hk2 (dropE hc73) (by assumption)
                  clear hk2
                  rw [pairErr_doc]
                  first | (simp [*]; done) | (simp [*]; omega) | ((repeat' split) <;> first | rfl | omega | (exfalso; simp_all; done) | (exfalso; simp_all; omega))
                · have p80 := df h78
                  refine cw_skip ?_
                  refine blkK_n ?_
                  refine seqK_n ?_
                  refine cw_region ?_
                  refine ow1 (op1_l rfl (lo_add rfl rfl (rg_i64 (by omega))) ?_)
                  refine ow1 (op1_l rfl (lo_move (v := .int _ _) rfl) ?_)
                  refine ow_nil ?_
                  refine next1 (k + 1) (upd_intro (mask_intro (by first | exact off_refl | (repeat (first | exact off_mask | refine off_upd rfl ?_ | refine off_mask2 rfl ?_)))) rfl) (lmask_intro (by first | exact offl_refl | (repeat (first | exact offl_mask | refine offl_upd rfl ?_ | refine offl_mask2 rfl ?_)))) hl69 ?_ ?_
                  · exact ⟨by omega, findP_miss hk2 (dropE hc73) (by assumption)⟩
                  · omega
              · have p81 := df h70
                refine cw_exit ?_
                refine seqK_e ?_
                refine loopK_e ?_
                refine blkK_hit ?_
                refine seqK_n ?_
                refine cw_seq ?_
                refine cw_region ?_
                refine ow1 (op1_l rfl (lo_assign (v := .int _ _) rfl) ?_)
                refine ow_nil ?_
                refine seqK_n ?_
                refine cw_ret ?_
                refine fnK_r (res1 rfl (rv_t (v := .int _ _) rfl)) ((HLe.refl _).trans hl69) ?_
                have e9 : findP ahead p.key = none := by rw [hk2, List.drop_of_length_le (by omega)]; rfl
                clear hk2
                rw [pairErr_doc]
                first | (simp [*]; done) | (simp [*]; omega) | ((repeat' split) <;> first | rfl | omega | (exfalso; simp_all; done) | (exfalso; simp_all; omega))

theorem r9_Check (H : Hp) (h_a : Option Addr) (h_l h_c : Nat) (h : List Pair) (h_h : SlH pairE 4 H (.slice h_a h_l h_c) h) : Pr Tryd.prog 52 #[.slice h_a h_l h_c] H (.int .i64 (headE h)) := by
  refine pr_cw Tryd.func52 rfl Tryd.ntmps52 rfl (fun N => ?_)
  refine cw_seq ?_
  refine cw_region ?_
  refine ow1 (op1_l rfl (lo_assign (v := .int _ _) rfl) ?_)
  refine ow_nil ?_
  refine seqK_n ?_
  refine cw_seq ?_
  refine cw_seq ?_
  refine cw_region ?_
  refine ow1 (op1_l rfl (lo_move (v := .slice _ _ _) rfl) ?_)
  refine ow1 (op1_l rfl (lo_len_slh rfl h_h Tryd.underlying23) ?_)
  refine ow1 (op1_l rfl (lo_gtr rfl rfl) ?_)
  refine ow_nil ?_
  refine seqK_n ?_
  refine cw_cond rfl (fun h1 => ?_) (fun h1 => ?_)
  · have p2 := dt h1
    refine cw_seq ?_
    refine cw_region ?_
    refine ow1 (op1_l rfl (lo_assign (v := .int _ _) rfl) ?_)
    refine ow_nil ?_
    refine seqK_n ?_
    refine cw_ret ?_
    refine seqK_r ?_
    refine fnK_r (res1 rfl (rv_t (v := .int _ _) rfl)) (.refl _) ?_
    simp [headE, *]
  · have p3 := df h1
    refine cw_skip ?_
    refine seqK_n ?_
    refine cw_seq ?_
    refine cw_seq ?_
    refine cw_region ?_
    refine ow1 (op1_l rfl (lo_move (v := .slice _ _ _) rfl) ?_)
    refine ow1 (op1_l rfl (lo_len_slh rfl h_h Tryd.underlying23) ?_)
    refine ow1 (op1_l rfl (lo_move (v := .int _ _) rfl) ?_)
    refine ow_nil ?_
    refine seqK_n ?_
    refine cw_block ?_
    refine cw_loop1 [2, 3, 4, 5, 11, 12, 13, 14, 15, 16, 17, 18, 19, 20, 21, 22, 23, 24] [0] (fun (k : Nat) G => upd (G) 11 (.int .i64 (k : Int))) (fun (k : Nat) G => G) (fun (k : Nat) H' => k ≤ h.length ∧ headGo [] h = headGo (h.take k) (h.drop k)) (fun (k : Nat) => h.length - k) 0 (upd_intro (mask_intro (by first | exact off_refl | (repeat (first | exact off_mask | refine off_upd rfl ?_ | refine off_mask2 rfl ?_)))) rfl) (lmask_intro offl_refl) ?_ ?_
    · exact ⟨Nat.zero_le _, rfl⟩
    · intro k J5 JL5 H5 hp4 hl5
      obtain ⟨hk1, hk2⟩ := hp4
      refine cw_seq ?_
      refine cw_region ?_
      refine ow1 (op1_l rfl (lo_lss rfl rfl) ?_)
      refine ow_nil ?_
      refine seqK_n ?_
      refine cw_seq ?_
      refine cw_cond rfl (fun h6 => ?_) (fun h6 => ?_)
      · have p7 := dt h6
        refine cw_skip ?_
        refine seqK_n ?_
        refine cw_seq ?_
        refine cw_block ?_
        refine cw_seq ?_
        refine cw_region ?_
        refine ow1 (op1_l rfl (lo_move (v := .int _ _) rfl) ?_)
        obtain ⟨c8, hc9⟩ := getE (xs := h) (m := k) (by omega)
        obtain ⟨cs10, hE11, at12⟩ := (h_h.mono ((HLe.refl _).trans hl5) (fun _ _ h => h)).get hc9
        obtain ⟨rfl, c8_w⟩ := hE11
        have c8_w' := c8_w
        simp only [Pair.wf] at c8_w'
        refine ow1 (op1_l rfl (lo_indexAddr rfl rfl (h_h.mono ((HLe.refl _).trans hl5) (fun _ _ h => h)).1 at12 Tryd.underlying23 sz94 (by omega) (by omega)) ?_)
        refine ow1 (op1_l rfl (lo_loadEA rfl ag94 sz94 at12) ?_)
        refine ow1 (op1_alloc 0 rfl zr94 (fun b13 => ?_))
        refine ow1 (op1_l rfl (lo_assign (v := .int _ _) rfl) ?_)
        refine ow1 (op1_storeA (i := 0) (vs := [_, _, _, _]) rfl rfl rfl sz94 rfl rfl rfl ?_)
        refine ow_nil ?_
        refine seqK_n ?_
        refine cw_seq ?_
        refine cw_anyL mixd ?_
        refine vw_q 0 rfl (by kernel_rfl) (by repeat (first | exact lle_l0 | exact LLe.refl _ | exact lle_none | refine lle_up ?_ rfl)) (fun _ _ hh hl => lo_loadA (i := 0) (vs := [_, _, _, _]) rfl ag94 sz94 (hl _ _ rfl) rfl rfl) ?_
        refine vw_q 1 rfl (by kernel_rfl) (by repeat (first | exact lle_l0 | exact LLe.refl _ | exact lle_none | refine lle_up ?_ rfl)) (fun _ _ hh hl => lo_move (v := .slice _ _ _) rfl) ?_
        refine vw_q 2 rfl (by kernel_rfl) (by repeat (first | exact lle_l0 | exact LLe.refl _ | exact lle_none | refine lle_up ?_ rfl)) (fun _ _ hh hl => lo_move (v := .int _ _) rfl) ?_
        refine vw_q 3 rfl (by kernel_rfl) (by repeat (first | exact lle_l0 | exact LLe.refl _ | exact lle_none | refine lle_up ?_ rfl)) (fun _ _ hh hl => lo_slice_slh_hi k rfl rfl Tryd.underlying23 sz94 (by omega) (Nat.le_trans (by omega) (slh_cap (h_h.mono ((HLe.refl _).trans hl5) (fun _ _ h => h))))) ?_
        have := pairErr_r c8 (h.take k)
        refine vw_qc 4 rfl (by kernel_rfl) (by repeat (first | exact lle_l0 | exact LLe.refl _ | exact lle_none | refine lle_up ?_ rfl)) (r9_Pair _ c8 c8_w (slA h_a h_c 0 4) k h_c (h.take k) (slh_take (q := k) (h_h.mono ((HLe.refl _).trans hl5) (fun _ _ h => h)) (by omega)) (by first | omega | (simp <;> omega))) (en_f cb75 rfl) ?_
        refine vw_q 5 rfl (by kernel_rfl) (by repeat (first | exact lle_l0 | exact LLe.refl _ | exact lle_none | refine lle_up ?_ rfl)) (fun _ _ hh hl => lo_assign (v := .int _ _) rfl) ?_
        refine vw_done (by kernel_rfl) ?_
        refine seqK_n ?_
        refine cw_seq ?_
        refine cw_region ?_
        refine ow1 (op1_l rfl (lo_move (v := .int _ _) rfl) ?_)
        refine ow1 (op1_l rfl (lo_neq rfl rfl) ?_)
        refine ow_nil ?_
        refine seqK_n ?_
        refine cw_cond rfl (fun h14 => ?_) (fun h14 => ?_)
        · have h15 := not_t h14
          have p16 := df h15
          refine cw_seq ?_
          refine cw_region ?_
          refine ow1 (op1_l rfl (lo_move (v := .int _ _) rfl) ?_)
          refine ow1 (op1_l rfl (lo_assign (v := .int _ _) rfl) ?_)
          refine ow_nil ?_
          refine seqK_n ?_
          refine cw_ret ?_
          refine blkK_r ?_
          refine seqK_r ?_
          refine loopK_r ?_
          refine blkK_r ?_
          refine seqK_r ?_
          refine fnK_r (res1 rfl (rv_t (v := .int _ _) rfl)) ((HLe.refl _).trans hl5) ?_
          unfold headE
          rw [if_neg (by omega), hk2, dropE hc9]
          simp only [headGo]
          rw [if_pos (by omega)]
        · have h17 := not_f h14
          have p18 := dt h17
          refine cw_skip ?_
          refine blkK_n ?_
          refine seqK_n ?_
          refine cw_region ?_
          refine ow1 (op1_l rfl (lo_add rfl rfl (rg_i64 (by omega))) ?_)
          refine ow1 (op1_l rfl (lo_move (v := .int _ _) rfl) ?_)
          refine ow_nil ?_
          refine next1 (k + 1) (upd_intro (mask_intro (by first | exact off_refl | (repeat (first | exact off_mask | refine off_upd rfl ?_ | refine off_mask2 rfl ?_)))) rfl) (lmask_intro (by first | exact offl_refl | (repeat (first | exact offl_mask | refine offl_upd rfl ?_ | refine offl_mask2 rfl ?_)))) hl5 ?_ ?_
          · refine ⟨by omega, ?_⟩
            rw [hk2, dropE hc9, takeE hc9]
            simp only [headGo]
            rw [if_neg (by omega)]
          · omega
      · have p19 := df h6
        refine cw_exit ?_
        refine seqK_e ?_
        refine loopK_e ?_
        refine blkK_hit ?_
        refine seqK_n ?_
        refine cw_seq ?_
        refine cw_region ?_
        refine ow1 (op1_l rfl (lo_assign (v := .int _ _) rfl) ?_)
        refine ow_nil ?_
        refine seqK_n ?_
        refine cw_ret ?_
        refine fnK_r (res1 rfl (rv_t (v := .int _ _) rfl)) ((HLe.refl _).trans hl5) ?_
        unfold headE
        rw [if_neg (by omega), hk2, List.drop_of_length_le (by omega)]
        rfl

theorem r12_Check (H : Hp) (r : Reply) (r_mail_head_a : Option Addr) (r_mail_head_c : Nat) (r_mail_head_h : SlH pairE 4 H (.slice r_mail_head_a r.mail.head.length r_mail_head_c) r.mail.head) (r_w : Reply.wf r) : Pr Tryd.prog 17 #[.agg (Reply.cells r r_mail_head_a r_mail_head_c).toArray] H (.int .i64 (replyE r)) := by
  refine pr_cw Tryd.func17 rfl Tryd.ntmps17 rfl (fun N => ?_)
  have r_w' := r_w
  simp only [Reply.wf, Mail.wf] at r_w'
  refine cw_seq ?_
  refine cw_region ?_
  refine ow1 (op1_box (cs := [_, _, _, _, _, _, _, _, _, _, _, _, _]) 0 rfl rfl (fun b1 => ?_))
  refine ow1 (op1_l rfl (lo_assign (v := .int _ _) rfl) ?_)
  refine ow_nil ?_
  refine seqK_n ?_
  refine cw_seq ?_
  refine cw_seq ?_
  refine cw_region ?_
  refine ow1 (op1_l rfl (lo_fieldAddr rfl fl32_1) ?_)
  refine ow1 (op1_l rfl (lo_load1 (i := 0) (v := .int _ _) rfl ag5 rfl rfl) ?_)
  refine ow1 (op1_l rfl (lo_gtr rfl rfl) ?_)
  refine ow_nil ?_
  refine seqK_n ?_
  refine cw_cond rfl (fun h2 => ?_) (fun h2 => ?_)
  · have p3 := dt h2
    refine cw_seq ?_
    refine cw_region ?_
    refine ow1 (op1_l rfl (lo_assign (v := .int _ _) rfl) ?_)
    refine ow_nil ?_
    refine seqK_n ?_
    refine cw_ret ?_
    refine seqK_r ?_
    refine fnK_r (res1 rfl (rv_t (v := .int _ _) rfl)) (.refl _) ?_
    have hbo : besidesOf false = [] := rfl
    simp only [hbo] at *
    rw [replyE_doc]
    simp only [mailE]
    first | (simp [*]; done) | (simp [*]; omega) | ((repeat' split) <;> first | rfl | omega | (exfalso; simp_all; done) | (exfalso; simp_all; omega))
  · have p4 := df h2
    refine cw_skip ?_
    refine seqK_n ?_
    refine cw_seq ?_
    refine cw_region ?_
    refine ow1 (op1_l rfl (lo_fieldAddr rfl fl32_6) ?_)
    refine ow1 (op1_l rfl (lo_loadA (i := 0) (vs := [_, _, _, _, _, _, _]) rfl ag25 sz25 rfl rfl rfl) ?_)
    refine ow1 (op1_alloc 1 rfl zr25 (fun b5 => ?_))
    refine ow1 (op1_storeA (i := 1) (vs := [_, _, _, _, _, _, _]) rfl rfl rfl sz25 rfl rfl rfl ?_)
    refine ow_nil ?_
    refine seqK_n ?_
    refine cw_seq ?_
    refine cw_seq ?_
    refine cw_region ?_
    refine ow1 (op1_l rfl (lo_fieldAddr rfl fl25_0) ?_)
    refine ow1 (op1_l rfl (lo_load1 (i := 1) (v := .int _ _) rfl ag22 rfl rfl) ?_)
    refine ow1 (op1_l rfl (lo_neq rfl rfl) ?_)
    refine ow1 (op1_l rfl (lo_move (v := .bool _) rfl) ?_)
    refine ow_sp (j := 3) rfl (fun h6 => ?_) (fun h6 => ?_)
    · have h7 := not_t h6
      have p8 := df h7
      refine ow1 (op1_gs rfl h6 rfl ?_)
      refine ow1 (op1_gs rfl h6 rfl ?_)
      refine ow1 (op1_gs rfl h6 rfl ?_)
      refine ow1 (op1_l rfl (lo_pick_t (v := .bool _) rfl h6 rfl) ?_)
      refine ow1 (op1_l rfl (lo_move (v := .bool _) rfl) ?_)
      refine ow1 (op1_gs rfl rfl rfl ?_)
      refine ow1 (op1_gs rfl rfl rfl ?_)
      refine ow1 (op1_gs rfl rfl rfl ?_)
      refine ow1 (op1_l rfl (lo_pick_t (v := .bool _) rfl rfl rfl) ?_)
      refine ow1 (op1_l rfl (lo_move (v := .bool _) rfl) ?_)
      refine ow1 (op1_gs rfl rfl rfl ?_)
      refine ow1 (op1_gs rfl rfl rfl ?_)
      refine ow1 (op1_gs rfl rfl rfl ?_)
      refine ow1 (op1_gs rfl rfl rfl ?_)
      refine ow1 (op1_gx (j := 17) rfl rfl ?_)
      refine ow1 (op1_gx (j := 17) rfl rfl ?_)
      refine ow1 (op1_gx (j := 17) rfl rfl ?_)
      refine ow1 (op1_gx (j := 17) rfl rfl ?_)
      refine ow1 (op1_gs rfl rfl rfl ?_)
      refine ow1 (op1_l rfl (lo_pick_t (v := .bool _) rfl rfl rfl) ?_)
      refine ow1 (op1_l rfl (lo_move (v := .bool _) rfl) ?_)
      refine ow1 (op1_gs rfl rfl rfl ?_)
      refine ow1 (op1_gs rfl rfl rfl ?_)
      refine ow1 (op1_gs rfl rfl rfl ?_)
      refine ow1 (op1_gs rfl rfl rfl ?_)
      refine ow1 (op1_gx (j := 28) rfl rfl ?_)
      refine ow1 (op1_gx (j := 28) rfl rfl ?_)
      refine ow1 (op1_gx (j := 28) rfl rfl ?_)
      refine ow1 (op1_gx (j := 28) rfl rfl ?_)
      refine ow1 (op1_gs rfl rfl rfl ?_)
      refine ow1 (op1_l rfl (lo_pick_t (v := .bool _) rfl rfl rfl) ?_)
      refine ow1 (op1_l rfl (lo_move (v := .bool _) rfl) ?_)
      refine ow1 (op1_gs rfl rfl rfl ?_)
      refine ow1 (op1_gs rfl rfl rfl ?_)
      refine ow1 (op1_gs rfl rfl rfl ?_)
      refine ow1 (op1_gs rfl rfl rfl ?_)
      refine ow1 (op1_gx (j := 39) rfl rfl ?_)
      refine ow1 (op1_gx (j := 39) rfl rfl ?_)
      refine ow1 (op1_gx (j := 39) rfl rfl ?_)
      refine ow1 (op1_gs rfl rfl rfl ?_)
      refine ow1 (op1_l rfl (lo_pick_t (v := .bool _) rfl rfl rfl) ?_)
      refine ow_nil ?_
      refine seqK_n ?_
      refine cw_cond_t rfl rfl ?_
      refine cw_seq ?_
      refine cw_region ?_
      refine ow1 (op1_l rfl (lo_assign (v := .int _ _) rfl) ?_)
      refine ow_nil ?_
      refine seqK_n ?_
      refine cw_ret ?_
      refine seqK_r ?_
      refine fnK_r (res1 rfl (rv_t (v := .int _ _) rfl)) (.refl _) ?_
      have hbo : besidesOf false = [] := rfl
      simp only [hbo] at *
      rw [replyE_doc]
      simp only [mailE]
      first | (simp [*]; done) | (simp [*]; omega) | ((repeat' split) <;> first | rfl | omega | (exfalso; simp_all; done) | (exfalso; simp_all; omega))
    · have h9 := not_f h6
      have p10 := dt h9
      refine ow1 (op1_g rfl h6 rfl (lo_fieldAddr rfl fl25_5) ?_)
      refine ow1 (op1_g rfl h6 rfl (lo_load1 (i := 1) (v := .int _ _) rfl ag22 rfl rfl) ?_)
      refine ow1 (op1_g rfl h6 rfl (lo_neq rfl rfl) ?_)
      refine ow1 (op1_l rfl (lo_pick_f (v := .bool _) rfl h6 rfl) ?_)
      refine ow1 (op1_l rfl (lo_move (v := .bool _) rfl) ?_)
      refine ow_sp (j := 8) rfl (fun h11 => ?_) (fun h11 => ?_)
      · have h12 := not_t h11
        have p13 := df h12
        refine ow1 (op1_gs rfl h11 rfl ?_)
        refine ow1 (op1_gs rfl h11 rfl ?_)
        refine ow1 (op1_gs rfl h11 rfl ?_)
        refine ow1 (op1_l rfl (lo_pick_t (v := .bool _) rfl h11 rfl) ?_)
        refine ow1 (op1_l rfl (lo_move (v := .bool _) rfl) ?_)
        refine ow1 (op1_gs rfl rfl rfl ?_)
        refine ow1 (op1_gs rfl rfl rfl ?_)
        refine ow1 (op1_gs rfl rfl rfl ?_)
        refine ow1 (op1_gs rfl rfl rfl ?_)
        refine ow1 (op1_gx (j := 17) rfl rfl ?_)
        refine ow1 (op1_gx (j := 17) rfl rfl ?_)
        refine ow1 (op1_gx (j := 17) rfl rfl ?_)
        refine ow1 (op1_gx (j := 17) rfl rfl ?_)
        refine ow1 (op1_gs rfl rfl rfl ?_)
        refine ow1 (op1_l rfl (lo_pick_t (v := .bool _) rfl rfl rfl) ?_)
        refine ow1 (op1_l rfl (lo_move (v := .bool _) rfl) ?_)
        refine ow1 (op1_gs rfl rfl rfl ?_)
        refine ow1 (op1_gs rfl rfl rfl ?_)
        refine ow1 (op1_gs rfl rfl rfl ?_)
        refine ow1 (op1_gs rfl rfl rfl ?_)
        refine ow1 (op1_gx (j := 28) rfl rfl ?_)
        refine ow1 (op1_gx (j := 28) rfl rfl ?_)
        refine ow1 (op1_gx (j := 28) rfl rfl ?_)
        refine ow1 (op1_gx (j := 28) rfl rfl ?_)
        refine ow1 (op1_gs rfl rfl rfl ?_)
        refine ow1 (op1_l rfl (lo_pick_t (v := .bool _) rfl rfl rfl) ?_)
        refine ow1 (op1_l rfl (lo_move (v := .bool _) rfl) ?_)
        refine ow1 (op1_gs rfl rfl rfl ?_)
        refine ow1 (op1_gs rfl rfl rfl ?_)
        refine ow1 (op1_gs rfl rfl rfl ?_)
        refine ow1 (op1_gs rfl rfl rfl ?_)
        refine ow1 (op1_gx (j := 39) rfl rfl ?_)
        refine ow1 (op1_gx (j := 39) rfl rfl ?_)
        refine ow1 (op1_gx (j := 39) rfl rfl ?_)
        refine ow1 (op1_gs rfl rfl rfl ?_)
        refine ow1 (op1_l rfl (lo_pick_t (v := .bool _) rfl rfl rfl) ?_)
        refine ow_nil ?_
        refine seqK_n ?_
        refine cw_cond_t rfl rfl ?_
        refine cw_seq ?_
        refine cw_region ?_
        refine ow1 (op1_l rfl (lo_assign (v := .int _ _) rfl) ?_)
        refine ow_nil ?_
        refine seqK_n ?_
        refine cw_ret ?_
        refine seqK_r ?_
        refine fnK_r (res1 rfl (rv_t (v := .int _ _) rfl)) (.refl _) ?_
        have hbo : besidesOf false = [] := rfl
        simp only [hbo] at *
        rw [replyE_doc]
        simp only [mailE]
        first | (simp [*]; done) | (simp [*]; omega) | ((repeat' split) <;> first | rfl | omega | (exfalso; simp_all; done) | (exfalso; simp_all; omega))
      · have h14 := not_f h11
        have p15 := dt h14
        refine ow1 (op1_g rfl h11 rfl (lo_fieldAddr rfl fl25_6) ?_)
        refine ow1 (op1_g rfl h11 rfl (lo_load1 (i := 1) (v := .int _ _) rfl ag5 rfl rfl) ?_)
        refine ow1 (op1_g rfl h11 rfl (lo_neq rfl rfl) ?_)
        refine ow1 (op1_l rfl (lo_pick_f (v := .bool _) rfl h11 rfl) ?_)
        refine ow1 (op1_l rfl (lo_move (v := .bool _) rfl) ?_)
        refine ow_sp (j := 13) rfl (fun h16 => ?_) (fun h16 => ?_)
        · have h17 := not_t h16
          have p18 := df h17
          refine ow1 (op1_gs rfl h16 rfl ?_)
          refine ow1 (op1_gs rfl h16 rfl ?_)
          refine ow1 (op1_gs rfl h16 rfl ?_)
          refine ow1 (op1_gs rfl h16 rfl ?_)
          refine ow1 (op1_gx (j := 17) rfl rfl ?_)
          refine ow1 (op1_gx (j := 17) rfl rfl ?_)
          refine ow1 (op1_gx (j := 17) rfl rfl ?_)
          refine ow1 (op1_gx (j := 17) rfl rfl ?_)
          refine ow1 (op1_gs rfl h16 rfl ?_)
          refine ow1 (op1_l rfl (lo_pick_t (v := .bool _) rfl h16 rfl) ?_)
          refine ow1 (op1_l rfl (lo_move (v := .bool _) rfl) ?_)
          refine ow1 (op1_gs rfl rfl rfl ?_)
          refine ow1 (op1_gs rfl rfl rfl ?_)
          refine ow1 (op1_gs rfl rfl rfl ?_)
          refine ow1 (op1_gs rfl rfl rfl ?_)
          refine ow1 (op1_gx (j := 28) rfl rfl ?_)
          refine ow1 (op1_gx (j := 28) rfl rfl ?_)
          refine ow1 (op1_gx (j := 28) rfl rfl ?_)
          refine ow1 (op1_gx (j := 28) rfl rfl ?_)
          refine ow1 (op1_gs rfl rfl rfl ?_)
          refine ow1 (op1_l rfl (lo_pick_t (v := .bool _) rfl rfl rfl) ?_)
          refine ow1 (op1_l rfl (lo_move (v := .bool _) rfl) ?_)
          refine ow1 (op1_gs rfl rfl rfl ?_)
          refine ow1 (op1_gs rfl rfl rfl ?_)
          refine ow1 (op1_gs rfl rfl rfl ?_)
          refine ow1 (op1_gs rfl rfl rfl ?_)
          refine ow1 (op1_gx (j := 39) rfl rfl ?_)
          refine ow1 (op1_gx (j := 39) rfl rfl ?_)
          refine ow1 (op1_gx (j := 39) rfl rfl ?_)
          refine ow1 (op1_gs rfl rfl rfl ?_)
          refine ow1 (op1_l rfl (lo_pick_t (v := .bool _) rfl rfl rfl) ?_)
          refine ow_nil ?_
          refine seqK_n ?_
          refine cw_cond_t rfl rfl ?_
          refine cw_seq ?_
          refine cw_region ?_
          refine ow1 (op1_l rfl (lo_assign (v := .int _ _) rfl) ?_)
          refine ow_nil ?_
          refine seqK_n ?_
          refine cw_ret ?_
          refine seqK_r ?_
          refine fnK_r (res1 rfl (rv_t (v := .int _ _) rfl)) (.refl _) ?_
          have hbo : besidesOf false = [] := rfl
          simp only [hbo] at *
          rw [replyE_doc]
          simp only [mailE]
          first | (simp [*]; done) | (simp [*]; omega) | ((repeat' split) <;> first | rfl | omega | (exfalso; simp_all; done) | (exfalso; simp_all; omega))
        · have h19 := not_f h16
          have p20 := dt h19
          refine ow1 (op1_g rfl h16 rfl (lo_fieldAddr rfl fl32_2) ?_)
          refine ow1 (op1_g rfl h16 rfl (lo_load1 (i := 0) (v := .int _ _) rfl ag22 rfl rfl) ?_)
          refine ow1 (op1_g rfl h16 rfl (lo_neq rfl rfl) ?_)
          refine ow1 (op1_g rfl h16 rfl (lo_move (v := .bool _) rfl) ?_)
          refine ow_sp (j := 17) rfl (fun h21 => ?_) (fun h21 => ?_)
          · have h22 := not_t h21
            have p23 := df h22
            refine ow1 (op1_g rfl h21 rfl (lo_fieldAddr rfl fl32_1) ?_)
            refine ow1 (op1_g rfl h21 rfl (lo_load1 (i := 0) (v := .int _ _) rfl ag5 rfl rfl) ?_)
            refine ow1 (op1_prg rfl h21 (r12_tellsN _ r.kind (by omega)) (en_f cb39 rfl) rfl ?_)
            refine ow1 (op1_g rfl h21 rfl (lo_not rfl) ?_)
            refine ow1 (op1_g rfl h16 rfl (lo_pick_t (v := .bool _) rfl h21 rfl) ?_)
            refine ow1 (op1_l rfl (lo_pick_f (v := .bool _) rfl h16 rfl) ?_)
            refine ow1 (op1_l rfl (lo_move (v := .bool _) rfl) ?_)
            refine ow_sp (j := 24) rfl (fun h24 => ?_) (fun h24 => ?_)
            · have h25 := not_t h24
              have p26 := df h25
              refine ow1 (op1_gs rfl h24 rfl ?_)
              refine ow1 (op1_gs rfl h24 rfl ?_)
              refine ow1 (op1_gs rfl h24 rfl ?_)
              refine ow1 (op1_gs rfl h24 rfl ?_)
              refine ow1 (op1_gx (j := 28) rfl rfl ?_)
              refine ow1 (op1_gx (j := 28) rfl rfl ?_)
              refine ow1 (op1_gx (j := 28) rfl rfl ?_)
              refine ow1 (op1_gx (j := 28) rfl rfl ?_)
              refine ow1 (op1_gs rfl h24 rfl ?_)
              refine ow1 (op1_l rfl (lo_pick_t (v := .bool _) rfl h24 rfl) ?_)
              refine ow1 (op1_l rfl (lo_move (v := .bool _) rfl) ?_)
              refine ow1 (op1_gs rfl rfl rfl ?_)
              refine ow1 (op1_gs rfl rfl rfl ?_)
              refine ow1 (op1_gs rfl rfl rfl ?_)
              refine ow1 (op1_gs rfl rfl rfl ?_)
              refine ow1 (op1_gx (j := 39) rfl rfl ?_)
              refine ow1 (op1_gx (j := 39) rfl rfl ?_)
              refine ow1 (op1_gx (j := 39) rfl rfl ?_)
              refine ow1 (op1_gs rfl rfl rfl ?_)
              refine ow1 (op1_l rfl (lo_pick_t (v := .bool _) rfl rfl rfl) ?_)
              refine ow_nil ?_
              refine seqK_n ?_
              refine cw_cond_t rfl rfl ?_
              refine cw_seq ?_
              refine cw_region ?_
              refine ow1 (op1_l rfl (lo_assign (v := .int _ _) rfl) ?_)
              refine ow_nil ?_
              refine seqK_n ?_
              refine cw_ret ?_
              refine seqK_r ?_
              refine fnK_r (res1 rfl (rv_t (v := .int _ _) rfl)) (.refl _) ?_
              have hbo : besidesOf false = [] := rfl
              simp only [hbo] at *
              rw [replyE_doc]
              simp only [mailE]
              first | (simp [*]; done) | (simp [*]; omega) | ((repeat' split) <;> first | rfl | omega | (exfalso; simp_all; done) | (exfalso; simp_all; omega))
            · have h27 := not_f h24
              have p28 := dt h27
              refine ow1 (op1_g rfl h24 rfl (lo_fieldAddr rfl fl32_3) ?_)
              refine ow1 (op1_g rfl h24 rfl (lo_load1 (i := 0) (v := .int _ _) rfl ag22 rfl rfl) ?_)
              refine ow1 (op1_g rfl h24 rfl (lo_neq rfl rfl) ?_)
              refine ow1 (op1_g rfl h24 rfl (lo_move (v := .bool _) rfl) ?_)
              refine ow_sp (j := 28) rfl (fun h29 => ?_) (fun h29 => ?_)
              · have h30 := not_t h29
                have p31 := df h30
                refine ow1 (op1_g rfl h29 rfl (lo_fieldAddr rfl fl32_1) ?_)
                refine ow1 (op1_g rfl h29 rfl (lo_load1 (i := 0) (v := .int _ _) rfl ag5 rfl rfl) ?_)
                refine ow1 (op1_prg rfl h29 (r12_tellsM _ r.kind (by omega)) (en_f cb41 rfl) rfl ?_)
                refine ow1 (op1_g rfl h29 rfl (lo_not rfl) ?_)
                refine ow1 (op1_g rfl h24 rfl (lo_pick_t (v := .bool _) rfl h29 rfl) ?_)
                refine ow1 (op1_l rfl (lo_pick_f (v := .bool _) rfl h24 rfl) ?_)
                refine ow1 (op1_l rfl (lo_move (v := .bool _) rfl) ?_)
                refine ow_sp (j := 35) rfl (fun h32 => ?_) (fun h32 => ?_)
                · have h33 := not_t h32
                  have p34 := df h33
                  refine ow1 (op1_gs rfl h32 rfl ?_)
                  refine ow1 (op1_gs rfl h32 rfl ?_)
                  refine ow1 (op1_gs rfl h32 rfl ?_)
                  refine ow1 (op1_gs rfl h32 rfl ?_)
                  refine ow1 (op1_gx (j := 39) rfl rfl ?_)
                  refine ow1 (op1_gx (j := 39) rfl rfl ?_)
                  refine ow1 (op1_gx (j := 39) rfl rfl ?_)
                  refine ow1 (op1_gs rfl h32 rfl ?_)
                  refine ow1 (op1_l rfl (lo_pick_t (v := .bool _) rfl h32 rfl) ?_)
                  refine ow_nil ?_
                  refine seqK_n ?_
                  refine cw_cond_t rfl rfl ?_
                  refine cw_seq ?_
                  refine cw_region ?_
                  refine ow1 (op1_l rfl (lo_assign (v := .int _ _) rfl) ?_)
                  refine ow_nil ?_
                  refine seqK_n ?_
                  refine cw_ret ?_
                  refine seqK_r ?_
                  refine fnK_r (res1 rfl (rv_t (v := .int _ _) rfl)) (.refl _) ?_
                  have hbo : besidesOf false = [] := rfl
                  simp only [hbo] at *
                  rw [replyE_doc]
                  simp only [mailE]
                  first | (simp [*]; done) | (simp [*]; omega) | ((repeat' split) <;> first | rfl | omega | (exfalso; simp_all; done) | (exfalso; simp_all; omega))
                · have h35 := not_f h32
                  have p36 := dt h35
                  refine ow1 (op1_g rfl h32 rfl (lo_fieldAddr rfl fl32_5) ?_)
                  refine ow1 (op1_g rfl h32 rfl (lo_load1 (i := 0) (v := str _) rfl ag9 rfl rfl) ?_)
                  refine ow1 (op1_g rfl h32 rfl (lo_sneq rfl rfl) ?_)
                  refine ow1 (op1_g rfl h32 rfl (lo_move (v := .bool _) rfl) ?_)
                  refine ow_sp (j := 39) rfl (fun h37 => ?_) (fun h37 => ?_)
                  · have h38 := not_t h37
                    have p39 := df h38
                    refine ow1 (op1_g rfl h37 rfl (lo_fieldAddr rfl fl32_1) ?_)
                    refine ow1 (op1_g rfl h37 rfl (lo_load1 (i := 0) (v := .int _ _) rfl ag5 rfl rfl) ?_)
                    refine ow1 (op1_g rfl h37 rfl (lo_neq rfl rfl) ?_)
                    refine ow1 (op1_g rfl h32 rfl (lo_pick_t (v := .bool _) rfl h37 rfl) ?_)
                    refine ow1 (op1_l rfl (lo_pick_f (v := .bool _) rfl h32 rfl) ?_)
                    refine ow_nil ?_
                    refine seqK_n ?_
                    refine cw_cond_t rfl (by rw [(fd (by omega))] <;> rfl) ?_
                    refine cw_seq ?_
                    refine cw_region ?_
                    refine ow1 (op1_l rfl (lo_assign (v := .int _ _) rfl) ?_)
                    refine ow_nil ?_
                    refine seqK_n ?_
                    refine cw_ret ?_
                    refine seqK_r ?_
                    refine fnK_r (res1 rfl (rv_t (v := .int _ _) rfl)) (.refl _) ?_
                    have hbo : besidesOf false = [] := rfl
                    simp only [hbo] at *
                    rw [replyE_doc]
                    simp only [mailE]
                    first | (simp [*]; done) | (simp [*]; omega) | ((repeat' split) <;> first | rfl | omega | (exfalso; simp_all; done) | (exfalso; simp_all; omega))
                  · have h40 := not_f h37
                    have p41 := dt h40
                    refine ow1 (op1_gs rfl h37 rfl ?_)
                    refine ow1 (op1_gs rfl h37 rfl ?_)
                    refine ow1 (op1_gs rfl h37 rfl ?_)
                    refine ow1 (op1_g rfl h32 rfl (lo_pick_f (v := .bool _) rfl h37 rfl) ?_)
                    refine ow1 (op1_l rfl (lo_pick_f (v := .bool _) rfl h32 rfl) ?_)
                    refine ow_nil ?_
                    refine seqK_n ?_
                    refine cw_cond_f rfl rfl ?_
                    refine cw_skip ?_
                    refine seqK_n ?_
                    refine cw_seq ?_
                    refine cw_seq ?_
                    refine cw_region ?_
                    refine ow1 (op1_l rfl (lo_fieldAddr rfl fl32_1) ?_)
                    refine ow1 (op1_l rfl (lo_load1 (i := 0) (v := .int _ _) rfl ag5 rfl rfl) ?_)
                    refine ow1 (op1_l rfl (lo_neq rfl rfl) ?_)
                    refine ow_nil ?_
                    refine seqK_n ?_
                    refine cw_cond rfl (fun h42 => ?_) (fun h42 => ?_)
                    · have h43 := not_t h42
                      have p44 := df h43
                      refine cw_seq ?_
                      refine cw_seq ?_
                      refine cw_region ?_
                      refine ow1 (op1_l rfl (lo_fieldAddr rfl fl32_4) ?_)
                      refine ow1 (op1_l rfl (lo_load1 (i := 0) (v := .bool _) rfl ag4 rfl rfl) ?_)
                      refine ow1 (op1_l rfl (lo_move (v := .bool _) rfl) ?_)
                      refine ow_sp (j := 2) rfl (fun h45 => ?_) (fun h45 => ?_)
                      · refine ow1 (op1_gs rfl h45 rfl ?_)
                        refine ow1 (op1_gs rfl h45 rfl ?_)
                        refine ow1 (op1_gs rfl h45 rfl ?_)
                        refine ow1 (op1_l rfl (lo_pick_t (v := .bool _) rfl h45 rfl) ?_)
                        refine ow1 (op1_l rfl (lo_move (v := .bool _) rfl) ?_)
                        refine ow1 (op1_gs rfl rfl rfl ?_)
                        refine ow1 (op1_gs rfl rfl rfl ?_)
                        refine ow1 (op1_gs rfl rfl rfl ?_)
                        refine ow1 (op1_l rfl (lo_pick_t (v := .bool _) rfl rfl rfl) ?_)
                        refine ow1 (op1_l rfl (lo_move (v := .bool _) rfl) ?_)
                        refine ow1 (op1_gs rfl rfl rfl ?_)
                        refine ow1 (op1_gs rfl rfl rfl ?_)
                        refine ow1 (op1_gs rfl rfl rfl ?_)
                        refine ow1 (op1_gs rfl rfl rfl ?_)
                        refine ow1 (op1_l rfl (lo_pick_t (v := .bool _) rfl rfl rfl) ?_)
                        refine ow1 (op1_l rfl (lo_move (v := .bool _) rfl) ?_)
                        refine ow1 (op1_gs rfl rfl rfl ?_)
                        refine ow1 (op1_gs rfl rfl rfl ?_)
                        refine ow1 (op1_gs rfl rfl rfl ?_)
                        refine ow1 (op1_l rfl (lo_pick_t (v := .bool _) rfl rfl rfl) ?_)
                        refine ow_nil ?_
                        refine seqK_n ?_
                        refine cw_cond_t rfl rfl ?_
                        refine cw_seq ?_
                        refine cw_region ?_
                        refine ow1 (op1_l rfl (lo_assign (v := .int _ _) rfl) ?_)
                        refine ow_nil ?_
                        refine seqK_n ?_
                        refine cw_ret ?_
                        refine seqK_r ?_
                        refine seqK_r ?_
                        refine fnK_r (res1 rfl (rv_t (v := .int _ _) rfl)) (.refl _) ?_
                        have hbo : besidesOf false = [] := rfl
                        simp only [hbo] at *
                        rw [replyE_doc]
                        simp only [mailE]
                        first | (simp [*]; done) | (simp [*]; omega) | ((repeat' split) <;> first | rfl | omega | (exfalso; simp_all; done) | (exfalso; simp_all; omega))
                      · refine ow1 (op1_g rfl h45 rfl (lo_fieldAddr rfl fl25_1) ?_)
                        refine ow1 (op1_g rfl h45 rfl (lo_load1 (i := 1) (v := str _) rfl ag9 rfl rfl) ?_)
                        refine ow1 (op1_g rfl h45 rfl (lo_sneq rfl rfl) ?_)
                        refine ow1 (op1_l rfl (lo_pick_f (v := .bool _) rfl h45 rfl) ?_)
                        refine ow1 (op1_l rfl (lo_move (v := .bool _) rfl) ?_)
                        refine ow_sp (j := 7) rfl (fun h46 => ?_) (fun h46 => ?_)
                        · have h47 := not_t h46
                          have p48 := df h47
                          refine ow1 (op1_gs rfl h46 rfl ?_)
                          refine ow1 (op1_gs rfl h46 rfl ?_)
                          refine ow1 (op1_gs rfl h46 rfl ?_)
                          refine ow1 (op1_l rfl (lo_pick_t (v := .bool _) rfl h46 rfl) ?_)
                          refine ow1 (op1_l rfl (lo_move (v := .bool _) rfl) ?_)
                          refine ow1 (op1_gs rfl rfl rfl ?_)
                          refine ow1 (op1_gs rfl rfl rfl ?_)
                          refine ow1 (op1_gs rfl rfl rfl ?_)
                          refine ow1 (op1_gs rfl rfl rfl ?_)
                          refine ow1 (op1_l rfl (lo_pick_t (v := .bool _) rfl rfl rfl) ?_)
                          refine ow1 (op1_l rfl (lo_move (v := .bool _) rfl) ?_)
                          refine ow1 (op1_gs rfl rfl rfl ?_)
                          refine ow1 (op1_gs rfl rfl rfl ?_)
                          refine ow1 (op1_gs rfl rfl rfl ?_)
                          refine ow1 (op1_l rfl (lo_pick_t (v := .bool _) rfl rfl rfl) ?_)
                          refine ow_nil ?_
                          refine seqK_n ?_
                          refine cw_cond_t rfl rfl ?_
                          refine cw_seq ?_
                          refine cw_region ?_
                          refine ow1 (op1_l rfl (lo_assign (v := .int _ _) rfl) ?_)
                          refine ow_nil ?_
                          refine seqK_n ?_
                          refine cw_ret ?_
                          refine seqK_r ?_
                          refine seqK_r ?_
                          refine fnK_r (res1 rfl (rv_t (v := .int _ _) rfl)) (.refl _) ?_
                          have hbo : besidesOf false = [] := rfl
                          simp only [hbo] at *
                          rw [replyE_doc]
                          simp only [mailE]
                          first | (simp [*]; done) | (simp [*]; omega) | ((repeat' split) <;> first | rfl | omega | (exfalso; simp_all; done) | (exfalso; simp_all; omega))
                        · have h49 := not_f h46
                          have p50 := dt h49
                          refine ow1 (op1_g rfl h46 rfl (lo_fieldAddr rfl fl25_2) ?_)
                          refine ow1 (op1_g rfl h46 rfl (lo_load1 (i := 1) (v := str _) rfl ag9 rfl rfl) ?_)
                          refine ow1 (op1_g rfl h46 rfl (lo_sneq rfl rfl) ?_)
                          refine ow1 (op1_l rfl (lo_pick_f (v := .bool _) rfl h46 rfl) ?_)
                          refine ow1 (op1_l rfl (lo_move (v := .bool _) rfl) ?_)
                          refine ow_sp (j := 12) rfl (fun h51 => ?_) (fun h51 => ?_)
                          · have h52 := not_t h51
                            have p53 := df h52
                            refine ow1 (op1_gs rfl h51 rfl ?_)
                            refine ow1 (op1_gs rfl h51 rfl ?_)
                            refine ow1 (op1_gs rfl h51 rfl ?_)
                            refine ow1 (op1_gs rfl h51 rfl ?_)
                            refine ow1 (op1_l rfl (lo_pick_t (v := .bool _) rfl h51 rfl) ?_)
                            refine ow1 (op1_l rfl (lo_move (v := .bool _) rfl) ?_)
                            refine ow1 (op1_gs rfl rfl rfl ?_)
                            refine ow1 (op1_gs rfl rfl rfl ?_)
                            refine ow1 (op1_gs rfl rfl rfl ?_)
                            refine ow1 (op1_l rfl (lo_pick_t (v := .bool _) rfl rfl rfl) ?_)
                            refine ow_nil ?_
                            refine seqK_n ?_
                            refine cw_cond_t rfl rfl ?_
                            refine cw_seq ?_
                            refine cw_region ?_
                            refine ow1 (op1_l rfl (lo_assign (v := .int _ _) rfl) ?_)
                            refine ow_nil ?_
                            refine seqK_n ?_
                            refine cw_ret ?_
                            refine seqK_r ?_
                            refine seqK_r ?_
                            refine fnK_r (res1 rfl (rv_t (v := .int _ _) rfl)) (.refl _) ?_
                            have hbo : besidesOf false = [] := rfl
                            simp only [hbo] at *
                            rw [replyE_doc]
                            simp only [mailE]
                            first | (simp [*]; done) | (simp [*]; omega) | ((repeat' split) <;> first | rfl | omega | (exfalso; simp_all; done) | (exfalso; simp_all; omega))
                          · have h54 := not_f h51
                            have p55 := dt h54
                            refine ow1 (op1_g rfl h51 rfl (lo_fieldAddr rfl fl25_3) ?_)
                            refine ow1 (op1_g rfl h51 rfl (lo_load1 (i := 1) (v := .slice _ _ _) rfl ag23 rfl rfl) ?_)
                            refine ow1 (op1_g rfl h51 rfl (lo_len_slh rfl r_mail_head_h Tryd.underlying23) ?_)
                            refine ow1 (op1_g rfl h51 rfl (lo_gtr rfl rfl) ?_)
                            refine ow1 (op1_l rfl (lo_pick_f (v := .bool _) rfl h51 rfl) ?_)
                            refine ow1 (op1_l rfl (lo_move (v := .bool _) rfl) ?_)
                            refine ow_sp (j := 18) rfl (fun h56 => ?_) (fun h56 => ?_)
                            · have p57 := dt h56
                              refine ow1 (op1_gs rfl h56 rfl ?_)
                              refine ow1 (op1_gs rfl h56 rfl ?_)
                              refine ow1 (op1_gs rfl h56 rfl ?_)
                              refine ow1 (op1_l rfl (lo_pick_t (v := .bool _) rfl h56 rfl) ?_)
                              refine ow_nil ?_
                              refine seqK_n ?_
                              refine cw_cond_t rfl rfl ?_
                              refine cw_seq ?_
                              refine cw_region ?_
                              refine ow1 (op1_l rfl (lo_assign (v := .int _ _) rfl) ?_)
                              refine ow_nil ?_
                              refine seqK_n ?_
                              refine cw_ret ?_
                              refine seqK_r ?_
                              refine seqK_r ?_
                              refine fnK_r (res1 rfl (rv_t (v := .int _ _) rfl)) (.refl _) ?_
                              have hbo : besidesOf false = [] := rfl
                              simp only [hbo] at *
                              rw [replyE_doc]
                              simp only [mailE]
                              first | (simp [*]; done) | (simp [*]; omega) | ((repeat' split) <;> first | rfl | omega | (exfalso; simp_all; done) | (exfalso; simp_all; omega))
                            · have p58 := df h56
                              refine ow1 (op1_g rfl h56 rfl (lo_fieldAddr rfl fl25_4) ?_)
                              refine ow1 (op1_g rfl h56 rfl (lo_load1 (i := 1) (v := str _) rfl ag9 rfl rfl) ?_)
                              refine ow1 (op1_g rfl h56 rfl (lo_sneq rfl rfl) ?_)
                              refine ow1 (op1_l rfl (lo_pick_f (v := .bool _) rfl h56 rfl) ?_)
                              refine ow_nil ?_
                              refine seqK_n ?_
                              refine cw_cond rfl (fun h59 => ?_) (fun h59 => ?_)
                              · have h60 := not_t h59
                                have p61 := df h60
                                refine cw_seq ?_
                                refine cw_region ?_
                                refine ow1 (op1_l rfl (lo_assign (v := .int _ _) rfl) ?_)
                                refine ow_nil ?_
                                refine seqK_n ?_
                                refine cw_ret ?_
                                refine seqK_r ?_
                                refine seqK_r ?_
                                refine fnK_r (res1 rfl (rv_t (v := .int _ _) rfl)) (.refl _) ?_
                                have hbo : besidesOf false = [] := rfl
                                simp only [hbo] at *
                                rw [replyE_doc]
                                simp only [mailE]
                                first | (simp [*]; done) | (simp [*]; omega) | ((repeat' split) <;> first | rfl | omega | (exfalso; simp_all; done) | (exfalso; simp_all; omega))
                              · have h62 := not_f h59
                                have p63 := dt h62
                                refine cw_skip ?_
                                refine seqK_n ?_
                                refine cw_seq ?_
                                refine cw_seq ?_
                                refine cw_region ?_
                                refine ow1 (op1_l rfl (lo_fieldAddr rfl fl32_1) ?_)
                                refine ow1 (op1_l rfl (lo_load1 (i := 0) (v := .int _ _) rfl ag5 rfl rfl) ?_)
                                refine ow1 (op1_l rfl (lo_eql rfl rfl) ?_)
                                refine ow_nil ?_
                                refine seqK_n ?_
                                refine cw_cond_f rfl (fd (by omega)) ?_
                                refine cw_skip ?_
                                refine seqK_n ?_
                                refine cw_seq ?_
                                refine cw_region ?_
                                refine ow1 (op1_l rfl (lo_assign (v := .int _ _) rfl) ?_)
                                refine ow_nil ?_
                                refine seqK_n ?_
                                refine cw_ret ?_
                                refine seqK_r ?_
                                refine fnK_r (res1 rfl (rv_t (v := .int _ _) rfl)) (.refl _) ?_
                                have hbo : besidesOf false = [] := rfl
                                simp only [hbo] at *
                                rw [replyE_doc]
                                simp only [mailE]
                                first | (simp [*]; done) | (simp [*]; omega) | ((repeat' split) <;> first | rfl | omega | (exfalso; simp_all; done) | (exfalso; simp_all; omega))
                    · have h64 := not_f h42
                      have p65 := dt h64
                      refine cw_skip ?_
                      refine seqK_n ?_
                      refine cw_seq ?_
                      refine cw_region ?_
                      refine ow1 (op1_l rfl (lo_fieldAddr rfl fl25_1) ?_)
                      refine ow1 (op1_l rfl (lo_load1 (i := 1) (v := str _) rfl ag9 rfl rfl) ?_)
                      refine ow1 (op1_pr (r4_Name _ r.mail.shop (by first | omega | decide | (simp; done))) (en_f cb50 rfl) rfl ?_)
                      refine ow1 (op1_l rfl (lo_assign (v := .int _ _) rfl) ?_)
                      refine ow_nil ?_
                      refine seqK_n ?_
                      refine cw_seq ?_
                      refine cw_seq ?_
                      refine cw_region ?_
                      refine ow1 (op1_l rfl (lo_move (v := .int _ _) rfl) ?_)
                      refine ow1 (op1_l rfl (lo_eql rfl rfl) ?_)
                      refine ow_nil ?_
                      refine seqK_n ?_
                      refine cw_cond rfl (fun h66 => ?_) (fun h66 => ?_)
                      · have p67 := dt h66
                        refine cw_region ?_
                        refine ow1 (op1_l rfl (lo_fieldAddr rfl fl25_2) ?_)
                        refine ow1 (op1_l rfl (lo_load1 (i := 1) (v := str _) rfl ag9 rfl rfl) ?_)
                        refine ow1 (op1_pr (r4_Key _ r.mail.key false) (en_f cb51 rfl) rfl ?_)
                        refine ow1 (op1_l rfl (lo_assign (v := .int _ _) rfl) ?_)
                        refine ow_nil ?_
                        refine seqK_n ?_
                        refine cw_seq ?_
                        refine cw_seq ?_
                        refine cw_region ?_
                        refine ow1 (op1_l rfl (lo_move (v := .int _ _) rfl) ?_)
                        refine ow1 (op1_l rfl (lo_eql rfl rfl) ?_)
                        refine ow_nil ?_
                        refine seqK_n ?_
                        refine cw_cond rfl (fun h68 => ?_) (fun h68 => ?_)
                        · have p69 := dt h68
                          refine cw_region ?_
                          refine ow1 (op1_l rfl (lo_fieldAddr rfl fl25_3) ?_)
                          refine ow1 (op1_l rfl (lo_load1 (i := 1) (v := .slice _ _ _) rfl ag23 rfl rfl) ?_)
                          refine ow1 (op1_pr (r9_Check _ r_mail_head_a r.mail.head.length r_mail_head_c r.mail.head r_mail_head_h) (en_f cb52 rfl) rfl ?_)
                          refine ow1 (op1_l rfl (lo_assign (v := .int _ _) rfl) ?_)
                          refine ow_nil ?_
                          refine seqK_n ?_
                          refine cw_seq ?_
                          refine cw_seq ?_
                          refine cw_region ?_
                          refine ow1 (op1_l rfl (lo_move (v := .int _ _) rfl) ?_)
                          refine ow1 (op1_l rfl (lo_eql rfl rfl) ?_)
                          refine ow1 (op1_l rfl (lo_move (v := .bool _) rfl) ?_)
                          refine ow_sp (j := 2) rfl (fun h70 => ?_) (fun h70 => ?_)
                          · have p71 := dt h70
                            refine ow1 (op1_g rfl h70 rfl (lo_fieldAddr rfl fl25_4) ?_)
                            refine ow1 (op1_g rfl h70 rfl (lo_load1 (i := 1) (v := str _) rfl ag9 rfl rfl) ?_)
                            refine ow1 (op1_g rfl h70 rfl (lo_len_str rfl Tryd.underlying9) ?_)
                            refine ow1 (op1_g rfl h70 rfl (lo_gtr rfl rfl) ?_)
                            refine ow1 (op1_l rfl (lo_pick_t (v := .bool _) rfl h70 rfl) ?_)
                            refine ow_nil ?_
                            refine seqK_n ?_
                            refine cw_cond rfl (fun h72 => ?_) (fun h72 => ?_)
                            · have p73 := dt h72
                              refine cw_region ?_
                              refine ow1 (op1_l rfl (lo_assign (v := .int _ _) rfl) ?_)
                              refine ow_nil ?_
                              refine seqK_n ?_
                              refine cw_seq ?_
                              refine cw_region ?_
                              refine ow1 (op1_l rfl (lo_move (v := .int _ _) rfl) ?_)
                              refine ow1 (op1_l rfl (lo_assign (v := .int _ _) rfl) ?_)
                              refine ow_nil ?_
                              refine seqK_n ?_
                              refine cw_ret ?_
                              refine fnK_r (res1 rfl (rv_t (v := .int _ _) rfl)) (.refl _) ?_
                              have hbo : besidesOf false = [] := rfl
                              simp only [hbo] at *
                              rw [replyE_doc]
                              simp only [mailE]
                              first | (simp [*]; done) | (simp [*]; omega) | ((repeat' split) <;> first | rfl | omega | (exfalso; simp_all; done) | (exfalso; simp_all; omega))
                            · have p74 := df h72
                              refine cw_skip ?_
                              refine seqK_n ?_
                              refine cw_seq ?_
                              refine cw_region ?_
                              refine ow1 (op1_l rfl (lo_move (v := .int _ _) rfl) ?_)
                              refine ow1 (op1_l rfl (lo_assign (v := .int _ _) rfl) ?_)
                              refine ow_nil ?_
                              refine seqK_n ?_
                              refine cw_ret ?_
                              refine fnK_r (res1 rfl (rv_t (v := .int _ _) rfl)) (.refl _) ?_
                              have hbo : besidesOf false = [] := rfl
                              simp only [hbo] at *
                              rw [replyE_doc]
                              simp only [mailE]
                              first | (simp [*]; done) | (simp [*]; omega) | ((repeat' split) <;> first | rfl | omega | (exfalso; simp_all; done) | (exfalso; simp_all; omega))
                          · have p75 := df h70
                            refine ow1 (op1_gs rfl h70 rfl ?_)
                            refine ow1 (op1_gs rfl h70 rfl ?_)
                            refine ow1 (op1_gs rfl h70 rfl ?_)
                            refine ow1 (op1_gs rfl h70 rfl ?_)
                            refine ow1 (op1_l rfl (lo_pick_f (v := .bool _) rfl h70 rfl) ?_)
                            refine ow_nil ?_
                            refine seqK_n ?_
                            refine cw_cond_f rfl rfl ?_
                            refine cw_skip ?_
                            refine seqK_n ?_
                            refine cw_seq ?_
                            refine cw_region ?_
                            refine ow1 (op1_l rfl (lo_move (v := .int _ _) rfl) ?_)
                            refine ow1 (op1_l rfl (lo_assign (v := .int _ _) rfl) ?_)
                            refine ow_nil ?_
                            refine seqK_n ?_
                            refine cw_ret ?_
                            refine fnK_r (res1 rfl (rv_t (v := .int _ _) rfl)) (.refl _) ?_
                            have hbo : besidesOf false = [] := rfl
                            simp only [hbo] at *
                            rw [replyE_doc]
                            simp only [mailE]
                            first | (simp [*]; done) | (simp [*]; omega) | ((repeat' split) <;> first | rfl | omega | (exfalso; simp_all; done) | (exfalso; simp_all; omega))
                        · have p76 := df h68
                          refine cw_skip ?_
                          refine seqK_n ?_
                          refine cw_seq ?_
                          refine cw_seq ?_
                          refine cw_region ?_
                          refine ow1 (op1_l rfl (lo_move (v := .int _ _) rfl) ?_)
                          refine ow1 (op1_l rfl (lo_eql rfl rfl) ?_)
                          refine ow1 (op1_l rfl (lo_move (v := .bool _) rfl) ?_)
                          refine ow1 (op1_gs rfl h68 rfl ?_)
                          refine ow1 (op1_gs rfl h68 rfl ?_)
                          refine ow1 (op1_gs rfl h68 rfl ?_)
                          refine ow1 (op1_gs rfl h68 rfl ?_)
                          refine ow1 (op1_l rfl (lo_pick_f (v := .bool _) rfl h68 rfl) ?_)
                          refine ow_nil ?_
                          refine seqK_n ?_
                          refine cw_cond_f rfl rfl ?_
                          refine cw_skip ?_
                          refine seqK_n ?_
                          refine cw_seq ?_
                          refine cw_region ?_
                          refine ow1 (op1_l rfl (lo_move (v := .int _ _) rfl) ?_)
                          refine ow1 (op1_l rfl (lo_assign (v := .int _ _) rfl) ?_)
                          refine ow_nil ?_
                          refine seqK_n ?_
                          refine cw_ret ?_
                          refine fnK_r (res1 rfl (rv_t (v := .int _ _) rfl)) (.refl _) ?_
                          have hbo : besidesOf false = [] := rfl
                          simp only [hbo] at *
                          rw [replyE_doc]
                          simp only [mailE]
                          first | (simp [*]; done) | (simp [*]; omega) | ((repeat' split) <;> first | rfl | omega | (exfalso; simp_all; done) | (exfalso; simp_all; omega))
                      · have p77 := df h66
                        refine cw_skip ?_
                        refine seqK_n ?_
                        refine cw_seq ?_
                        refine cw_seq ?_
                        refine cw_region ?_
                        refine ow1 (op1_l rfl (lo_move (v := .int _ _) rfl) ?_)
                        refine ow1 (op1_l rfl (lo_eql rfl rfl) ?_)
                        refine ow_nil ?_
                        refine seqK_n ?_
                        refine cw_cond_f rfl h66 ?_
                        refine cw_skip ?_
                        refine seqK_n ?_
                        refine cw_seq ?_
                        refine cw_seq ?_
                        refine cw_region ?_
                        refine ow1 (op1_l rfl (lo_move (v := .int _ _) rfl) ?_)
                        refine ow1 (op1_l rfl (lo_eql rfl rfl) ?_)
                        refine ow1 (op1_l rfl (lo_move (v := .bool _) rfl) ?_)
                        refine ow1 (op1_gs rfl h66 rfl ?_)
                        refine ow1 (op1_gs rfl h66 rfl ?_)
                        refine ow1 (op1_gs rfl h66 rfl ?_)
                        refine ow1 (op1_gs rfl h66 rfl ?_)
                        refine ow1 (op1_l rfl (lo_pick_f (v := .bool _) rfl h66 rfl) ?_)
                        refine ow_nil ?_
                        refine seqK_n ?_
                        refine cw_cond_f rfl rfl ?_
                        refine cw_skip ?_
                        refine seqK_n ?_
                        refine cw_seq ?_
                        refine cw_region ?_
                        refine ow1 (op1_l rfl (lo_move (v := .int _ _) rfl) ?_)
                        refine ow1 (op1_l rfl (lo_assign (v := .int _ _) rfl) ?_)
                        refine ow_nil ?_
                        refine seqK_n ?_
                        refine cw_ret ?_
                        refine fnK_r (res1 rfl (rv_t (v := .int _ _) rfl)) (.refl _) ?_
                        have hbo : besidesOf false = [] := rfl
                        simp only [hbo] at *
                        rw [replyE_doc]
                        simp only [mailE]
                        first | (simp [*]; done) | (simp [*]; omega) | ((repeat' split) <;> first | rfl | omega | (exfalso; simp_all; done) | (exfalso; simp_all; omega))
              · have h78 := not_f h29
                have p79 := dt h78
                refine ow1 (op1_gs rfl h29 rfl ?_)
                refine ow1 (op1_gs rfl h29 rfl ?_)
                refine ow1 (op1_gs rfl h29 rfl ?_)
                refine ow1 (op1_gs rfl h29 rfl ?_)
                refine ow1 (op1_g rfl h24 rfl (lo_pick_f (v := .bool _) rfl h29 rfl) ?_)
                refine ow1 (op1_l rfl (lo_pick_f (v := .bool _) rfl h24 rfl) ?_)
                refine ow1 (op1_l rfl (lo_move (v := .bool _) rfl) ?_)
                refine ow1 (op1_g rfl rfl rfl (lo_fieldAddr rfl fl32_5) ?_)
                refine ow1 (op1_g rfl rfl rfl (lo_load1 (i := 0) (v := str _) rfl ag9 rfl rfl) ?_)
                refine ow1 (op1_g rfl rfl rfl (lo_sneq rfl rfl) ?_)
                refine ow1 (op1_g rfl rfl rfl (lo_move (v := .bool _) rfl) ?_)
                refine ow_sp (j := 39) rfl (fun h80 => ?_) (fun h80 => ?_)
                · have h81 := not_t h80
                  have p82 := df h81
                  refine ow1 (op1_g rfl h80 rfl (lo_fieldAddr rfl fl32_1) ?_)
                  refine ow1 (op1_g rfl h80 rfl (lo_load1 (i := 0) (v := .int _ _) rfl ag5 rfl rfl) ?_)
                  refine ow1 (op1_g rfl h80 rfl (lo_neq rfl rfl) ?_)
                  refine ow1 (op1_g rfl rfl rfl (lo_pick_t (v := .bool _) rfl h80 rfl) ?_)
                  refine ow1 (op1_l rfl (lo_pick_f (v := .bool _) rfl rfl rfl) ?_)
                  refine ow_nil ?_
                  refine seqK_n ?_
                  refine cw_cond_t rfl (by rw [(fd (by omega))] <;> rfl) ?_
                  refine cw_seq ?_
                  refine cw_region ?_
                  refine ow1 (op1_l rfl (lo_assign (v := .int _ _) rfl) ?_)
                  refine ow_nil ?_
                  refine seqK_n ?_
                  refine cw_ret ?_
                  refine seqK_r ?_
                  refine fnK_r (res1 rfl (rv_t (v := .int _ _) rfl)) (.refl _) ?_
                  have hbo : besidesOf false = [] := rfl
                  simp only [hbo] at *
                  rw [replyE_doc]
                  simp only [mailE]
                  first | (simp [*]; done) | (simp [*]; omega) | ((repeat' split) <;> first | rfl | omega | (exfalso; simp_all; done) | (exfalso; simp_all; omega))
                · have h83 := not_f h80
                  have p84 := dt h83
                  refine ow1 (op1_gs rfl h80 rfl ?_)
                  refine ow1 (op1_gs rfl h80 rfl ?_)
                  refine ow1 (op1_gs rfl h80 rfl ?_)
                  refine ow1 (op1_g rfl rfl rfl (lo_pick_f (v := .bool _) rfl h80 rfl) ?_)
                  refine ow1 (op1_l rfl (lo_pick_f (v := .bool _) rfl rfl rfl) ?_)
                  refine ow_nil ?_
                  refine seqK_n ?_
                  refine cw_cond_f rfl rfl ?_
                  refine cw_skip ?_
                  refine seqK_n ?_
                  refine cw_seq ?_
                  refine cw_seq ?_
                  refine cw_region ?_
                  refine ow1 (op1_l rfl (lo_fieldAddr rfl fl32_1) ?_)
                  refine ow1 (op1_l rfl (lo_load1 (i := 0) (v := .int _ _) rfl ag5 rfl rfl) ?_)
                  refine ow1 (op1_l rfl (lo_neq rfl rfl) ?_)
                  refine ow_nil ?_
                  refine seqK_n ?_
                  refine cw_cond rfl (fun h85 => ?_) (fun h85 => ?_)
                  · have h86 := not_t h85
                    have p87 := df h86
                    refine cw_seq ?_
                    refine cw_seq ?_
                    refine cw_region ?_
                    refine ow1 (op1_l rfl (lo_fieldAddr rfl fl32_4) ?_)
                    refine ow1 (op1_l rfl (lo_load1 (i := 0) (v := .bool _) rfl ag4 rfl rfl) ?_)
                    refine ow1 (op1_l rfl (lo_move (v := .bool _) rfl) ?_)
                    refine ow_sp (j := 2) rfl (fun h88 => ?_) (fun h88 => ?_)
                    · refine ow1 (op1_gs rfl h88 rfl ?_)
                      refine ow1 (op1_gs rfl h88 rfl ?_)
                      refine ow1 (op1_gs rfl h88 rfl ?_)
                      refine ow1 (op1_l rfl (lo_pick_t (v := .bool _) rfl h88 rfl) ?_)
                      refine ow1 (op1_l rfl (lo_move (v := .bool _) rfl) ?_)
                      refine ow1 (op1_gs rfl rfl rfl ?_)
                      refine ow1 (op1_gs rfl rfl rfl ?_)
                      refine ow1 (op1_gs rfl rfl rfl ?_)
                      refine ow1 (op1_l rfl (lo_pick_t (v := .bool _) rfl rfl rfl) ?_)
                      refine ow1 (op1_l rfl (lo_move (v := .bool _) rfl) ?_)
                      refine ow1 (op1_gs rfl rfl rfl ?_)
                      refine ow1 (op1_gs rfl rfl rfl ?_)
                      refine ow1 (op1_gs rfl rfl rfl ?_)
                      refine ow1 (op1_gs rfl rfl rfl ?_)
                      refine ow1 (op1_l rfl (lo_pick_t (v := .bool _) rfl rfl rfl) ?_)
                      refine ow1 (op1_l rfl (lo_move (v := .bool _) rfl) ?_)
                      refine ow1 (op1_gs rfl rfl rfl ?_)
                      refine ow1 (op1_gs rfl rfl rfl ?_)
                      refine ow1 (op1_gs rfl rfl rfl ?_)
                      refine ow1 (op1_l rfl (lo_pick_t (v := .bool _) rfl rfl rfl) ?_)
                      refine ow_nil ?_
                      refine seqK_n ?_
                      refine cw_cond_t rfl rfl ?_
                      refine cw_seq ?_
                      refine cw_region ?_
                      refine ow1 (op1_l rfl (lo_assign (v := .int _ _) rfl) ?_)
                      refine ow_nil ?_
                      refine seqK_n ?_
                      refine cw_ret ?_
                      refine seqK_r ?_
                      refine seqK_r ?_
                      refine fnK_r (res1 rfl (rv_t (v := .int _ _) rfl)) (.refl _) ?_
                      have hbo : besidesOf false = [] := rfl
                      simp only [hbo] at *
                      rw [replyE_doc]
                      simp only [mailE]
                      first | (simp [*]; done) | (simp [*]; omega) | ((repeat' split) <;> first | rfl | omega | (exfalso; simp_all; done) | (exfalso; simp_all; omega))
                    · refine ow1 (op1_g rfl h88 rfl (lo_fieldAddr rfl fl25_1) ?_)
                      refine ow1 (op1_g rfl h88 rfl (lo_load1 (i := 1) (v := str _) rfl ag9 rfl rfl) ?_)
                      refine ow1 (op1_g rfl h88 rfl (lo_sneq rfl rfl) ?_)
                      refine ow1 (op1_l rfl (lo_pick_f (v := .bool _) rfl h88 rfl) ?_)
                      refine ow1 (op1_l rfl (lo_move (v := .bool _) rfl) ?_)
                      refine ow_sp (j := 7) rfl (fun h89 => ?_) (fun h89 => ?_)
                      · have h90 := not_t h89
                        have p91 := df h90
                        refine ow1 (op1_gs rfl h89 rfl ?_)
                        refine ow1 (op1_gs rfl h89 rfl ?_)
                        refine ow1 (op1_gs rfl h89 rfl ?_)
                        refine ow1 (op1_l rfl (lo_pick_t (v := .bool _) rfl h89 rfl) ?_)
                        refine ow1 (op1_l rfl (lo_move (v := .bool _) rfl) ?_)
                        refine ow1 (op1_gs rfl rfl rfl ?_)
                        refine ow1 (op1_gs rfl rfl rfl ?_)
                        refine ow1 (op1_gs rfl rfl rfl ?_)
                        refine ow1 (op1_gs rfl rfl rfl ?_)
                        refine ow1 (op1_l rfl (lo_pick_t (v := .bool _) rfl rfl rfl) ?_)
                        refine ow1 (op1_l rfl (lo_move (v := .bool _) rfl) ?_)
                        refine ow1 (op1_gs rfl rfl rfl ?_)
                        refine ow1 (op1_gs rfl rfl rfl ?_)
                        refine ow1 (op1_gs rfl rfl rfl ?_)
                        refine ow1 (op1_l rfl (lo_pick_t (v := .bool _) rfl rfl rfl) ?_)
                        refine ow_nil ?_
                        refine seqK_n ?_
                        refine cw_cond_t rfl rfl ?_
                        refine cw_seq ?_
                        refine cw_region ?_
                        refine ow1 (op1_l rfl (lo_assign (v := .int _ _) rfl) ?_)
                        refine ow_nil ?_
                        refine seqK_n ?_
                        refine cw_ret ?_
                        refine seqK_r ?_
                        refine seqK_r ?_
                        refine fnK_r (res1 rfl (rv_t (v := .int _ _) rfl)) (.refl _) ?_
                        have hbo : besidesOf false = [] := rfl
                        simp only [hbo] at *
                        rw [replyE_doc]
                        simp only [mailE]
                        first | (simp [*]; done) | (simp [*]; omega) | ((repeat' split) <;> first | rfl | omega | (exfalso; simp_all; done) | (exfalso; simp_all; omega))
                      · have h92 := not_f h89
                        have p93 := dt h92
                        refine ow1 (op1_g rfl h89 rfl (lo_fieldAddr rfl fl25_2) ?_)
                        refine ow1 (op1_g rfl h89 rfl (lo_load1 (i := 1) (v := str _) rfl ag9 rfl rfl) ?_)
                        refine ow1 (op1_g rfl h89 rfl (lo_sneq rfl rfl) ?_)
                        refine ow1 (op1_l rfl (lo_pick_f (v := .bool _) rfl h89 rfl) ?_)
                        refine ow1 (op1_l rfl (lo_move (v := .bool _) rfl) ?_)
                        refine ow_sp (j := 12) rfl (fun h94 => ?_) (fun h94 => ?_)
                        · have h95 := not_t h94
                          have p96 := df h95
                          refine ow1 (op1_gs rfl h94 rfl ?_)
                          refine ow1 (op1_gs rfl h94 rfl ?_)
                          refine ow1 (op1_gs rfl h94 rfl ?_)
                          refine ow1 (op1_gs rfl h94 rfl ?_)
                          refine ow1 (op1_l rfl (lo_pick_t (v := .bool _) rfl h94 rfl) ?_)
                          refine ow1 (op1_l rfl (lo_move (v := .bool _) rfl) ?_)
                          refine ow1 (op1_gs rfl rfl rfl ?_)
                          refine ow1 (op1_gs rfl rfl rfl ?_)
                          refine ow1 (op1_gs rfl rfl rfl ?_)
                          refine ow1 (op1_l rfl (lo_pick_t (v := .bool _) rfl rfl rfl) ?_)
                          refine ow_nil ?_
                          refine seqK_n ?_
                          refine cw_cond_t rfl rfl ?_
                          refine cw_seq ?_
                          refine cw_region ?_
                          refine ow1 (op1_l rfl (lo_assign (v := .int _ _) rfl) ?_)
                          refine ow_nil ?_
                          refine seqK_n ?_
                          refine cw_ret ?_
                          refine seqK_r ?_
                          refine seqK_r ?_
                          refine fnK_r (res1 rfl (rv_t (v := .int _ _) rfl)) (.refl _) ?_
                          have hbo : besidesOf false = [] := rfl
                          simp only [hbo] at *
                          rw [replyE_doc]
                          simp only [mailE]
                          first | (simp [*]; done) | (simp [*]; omega) | ((repeat' split) <;> first | rfl | omega | (exfalso; simp_all; done) | (exfalso; simp_all; omega))
                        · have h97 := not_f h94
                          have p98 := dt h97
                          refine ow1 (op1_g rfl h94 rfl (lo_fieldAddr rfl fl25_3) ?_)
                          refine ow1 (op1_g rfl h94 rfl (lo_load1 (i := 1) (v := .slice _ _ _) rfl ag23 rfl rfl) ?_)
                          refine ow1 (op1_g rfl h94 rfl (lo_len_slh rfl r_mail_head_h Tryd.underlying23) ?_)
                          refine ow1 (op1_g rfl h94 rfl (lo_gtr rfl rfl) ?_)
                          refine ow1 (op1_l rfl (lo_pick_f (v := .bool _) rfl h94 rfl) ?_)
                          refine ow1 (op1_l rfl (lo_move (v := .bool _) rfl) ?_)
                          refine ow_sp (j := 18) rfl (fun h99 => ?_) (fun h99 => ?_)
                          · have p100 := dt h99
                            refine ow1 (op1_gs rfl h99 rfl ?_)
                            refine ow1 (op1_gs rfl h99 rfl ?_)
                            refine ow1 (op1_gs rfl h99 rfl ?_)
                            refine ow1 (op1_l rfl (lo_pick_t (v := .bool _) rfl h99 rfl) ?_)
                            refine ow_nil ?_
                            refine seqK_n ?_
                            refine cw_cond_t rfl rfl ?_
                            refine cw_seq ?_
                            refine cw_region ?_
                            refine ow1 (op1_l rfl (lo_assign (v := .int _ _) rfl) ?_)
                            refine ow_nil ?_
                            refine seqK_n ?_
                            refine cw_ret ?_
                            refine seqK_r ?_
                            refine seqK_r ?_
                            refine fnK_r (res1 rfl (rv_t (v := .int _ _) rfl)) (.refl _) ?_
                            have hbo : besidesOf false = [] := rfl
                            simp only [hbo] at *
                            rw [replyE_doc]
                            simp only [mailE]
                            first | (simp [*]; done) | (simp [*]; omega) | ((repeat' split) <;> first | rfl | omega | (exfalso; simp_all; done) | (exfalso; simp_all; omega))
                          · have p101 := df h99
                            refine ow1 (op1_g rfl h99 rfl (lo_fieldAddr rfl fl25_4) ?_)
                            refine ow1 (op1_g rfl h99 rfl (lo_load1 (i := 1) (v := str _) rfl ag9 rfl rfl) ?_)
                            refine ow1 (op1_g rfl h99 rfl (lo_sneq rfl rfl) ?_)
                            refine ow1 (op1_l rfl (lo_pick_f (v := .bool _) rfl h99 rfl) ?_)
                            refine ow_nil ?_
                            refine seqK_n ?_
                            refine cw_cond rfl (fun h102 => ?_) (fun h102 => ?_)
                            · have h103 := not_t h102
                              have p104 := df h103
                              refine cw_seq ?_
                              refine cw_region ?_
                              refine ow1 (op1_l rfl (lo_assign (v := .int _ _) rfl) ?_)
                              refine ow_nil ?_
                              refine seqK_n ?_
                              refine cw_ret ?_
                              refine seqK_r ?_
                              refine seqK_r ?_
                              refine fnK_r (res1 rfl (rv_t (v := .int _ _) rfl)) (.refl _) ?_
                              have hbo : besidesOf false = [] := rfl
                              simp only [hbo] at *
                              rw [replyE_doc]
                              simp only [mailE]
                              first | (simp [*]; done) | (simp [*]; omega) | ((repeat' split) <;> first | rfl | omega | (exfalso; simp_all; done) | (exfalso; simp_all; omega))
                            · have h105 := not_f h102
                              have p106 := dt h105
                              refine cw_skip ?_
                              refine seqK_n ?_
                              refine cw_seq ?_
                              refine cw_seq ?_
                              refine cw_region ?_
                              refine ow1 (op1_l rfl (lo_fieldAddr rfl fl32_1) ?_)
                              refine ow1 (op1_l rfl (lo_load1 (i := 0) (v := .int _ _) rfl ag5 rfl rfl) ?_)
                              refine ow1 (op1_l rfl (lo_eql rfl rfl) ?_)
                              refine ow_nil ?_
                              refine seqK_n ?_
                              refine cw_cond_f rfl (fd (by omega)) ?_
                              refine cw_skip ?_
                              refine seqK_n ?_
                              refine cw_seq ?_
                              refine cw_region ?_
                              refine ow1 (op1_l rfl (lo_assign (v := .int _ _) rfl) ?_)
                              refine ow_nil ?_
                              refine seqK_n ?_
                              refine cw_ret ?_
                              refine seqK_r ?_
                              refine fnK_r (res1 rfl (rv_t (v := .int _ _) rfl)) (.refl _) ?_
                              have hbo : besidesOf false = [] := rfl
                              simp only [hbo] at *
                              rw [replyE_doc]
                              simp only [mailE]
                              first | (simp [*]; done) | (simp [*]; omega) | ((repeat' split) <;> first | rfl | omega | (exfalso; simp_all; done) | (exfalso; simp_all; omega))
                  · have h107 := not_f h85
                    have p108 := dt h107
                    refine cw_skip ?_
                    refine seqK_n ?_
                    refine cw_seq ?_
                    refine cw_region ?_
                    refine ow1 (op1_l rfl (lo_fieldAddr rfl fl25_1) ?_)
                    refine ow1 (op1_l rfl (lo_load1 (i := 1) (v := str _) rfl ag9 rfl rfl) ?_)
                    refine ow1 (op1_pr (r4_Name _ r.mail.shop (by first | omega | decide | (simp; done))) (en_f cb50 rfl) rfl ?_)
                    refine ow1 (op1_l rfl (lo_assign (v := .int _ _) rfl) ?_)
                    refine ow_nil ?_
                    refine seqK_n ?_
                    refine cw_seq ?_
                    refine cw_seq ?_
                    refine cw_region ?_
                    refine ow1 (op1_l rfl (lo_move (v := .int _ _) rfl) ?_)
                    refine ow1 (op1_l rfl (lo_eql rfl rfl) ?_)
                    refine ow_nil ?_
                    refine seqK_n ?_
                    refine cw_cond rfl (fun h109 => ?_) (fun h109 => ?_)
                    · have p110 := dt h109
                      refine cw_region ?_
                      refine ow1 (op1_l rfl (lo_fieldAddr rfl fl25_2) ?_)
                      refine ow1 (op1_l rfl (lo_load1 (i := 1) (v := str _) rfl ag9 rfl rfl) ?_)
                      refine ow1 (op1_pr (r4_Key _ r.mail.key false) (en_f cb51 rfl) rfl ?_)
                      refine ow1 (op1_l rfl (lo_assign (v := .int _ _) rfl) ?_)
                      refine ow_nil ?_
                      refine seqK_n ?_
                      refine cw_seq ?_
                      refine cw_seq ?_
                      refine cw_region ?_
                      refine ow1 (op1_l rfl (lo_move (v := .int _ _) rfl) ?_)
                      refine ow1 (op1_l rfl (lo_eql rfl rfl) ?_)
                      refine ow_nil ?_
                      refine seqK_n ?_
                      refine cw_cond rfl (fun h111 => ?_) (fun h111 => ?_)
                      · have p112 := dt h111
                        refine cw_region ?_
                        refine ow1 (op1_l rfl (lo_fieldAddr rfl fl25_3) ?_)
                        refine ow1 (op1_l rfl (lo_load1 (i := 1) (v := .slice _ _ _) rfl ag23 rfl rfl) ?_)
                        refine ow1 (op1_pr (r9_Check _ r_mail_head_a r.mail.head.length r_mail_head_c r.mail.head r_mail_head_h) (en_f cb52 rfl) rfl ?_)
                        refine ow1 (op1_l rfl (lo_assign (v := .int _ _) rfl) ?_)
                        refine ow_nil ?_
                        refine seqK_n ?_
                        refine cw_seq ?_
                        refine cw_seq ?_
                        refine cw_region ?_
                        refine ow1 (op1_l rfl (lo_move (v := .int _ _) rfl) ?_)
                        refine ow1 (op1_l rfl (lo_eql rfl rfl) ?_)
                        refine ow1 (op1_l rfl (lo_move (v := .bool _) rfl) ?_)
                        refine ow_sp (j := 2) rfl (fun h113 => ?_) (fun h113 => ?_)
                        · have p114 := dt h113
                          refine ow1 (op1_g rfl h113 rfl (lo_fieldAddr rfl fl25_4) ?_)
                          refine ow1 (op1_g rfl h113 rfl (lo_load1 (i := 1) (v := str _) rfl ag9 rfl rfl) ?_)
                          refine ow1 (op1_g rfl h113 rfl (lo_len_str rfl Tryd.underlying9) ?_)
                          refine ow1 (op1_g rfl h113 rfl (lo_gtr rfl rfl) ?_)
                          refine ow1 (op1_l rfl (lo_pick_t (v := .bool _) rfl h113 rfl) ?_)
                          refine ow_nil ?_
                          refine seqK_n ?_
                          refine cw_cond rfl (fun h115 => ?_) (fun h115 => ?_)
                          · have p116 := dt h115
                            refine cw_region ?_
                            refine ow1 (op1_l rfl (lo_assign (v := .int _ _) rfl) ?_)
                            refine ow_nil ?_
                            refine seqK_n ?_
                            refine cw_seq ?_
                            refine cw_region ?_
                            refine ow1 (op1_l rfl (lo_move (v := .int _ _) rfl) ?_)
                            refine ow1 (op1_l rfl (lo_assign (v := .int _ _) rfl) ?_)
                            refine ow_nil ?_
                            refine seqK_n ?_
                            refine cw_ret ?_
                            refine fnK_r (res1 rfl (rv_t (v := .int _ _) rfl)) (.refl _) ?_
                            have hbo : besidesOf false = [] := rfl
                            simp only [hbo] at *
                            rw [replyE_doc]
                            simp only [mailE]
                            first | (simp [*]; done) | (simp [*]; omega) | ((repeat' split) <;> first | rfl | omega | (exfalso; simp_all; done) | (exfalso; simp_all; omega))
                          · have p117 := df h115
                            refine cw_skip ?_
                            refine seqK_n ?_
                            refine cw_seq ?_
                            refine cw_region ?_
                            refine ow1 (op1_l rfl (lo_move (v := .int _ _) rfl) ?_)
                            refine ow1 (op1_l rfl (lo_assign (v := .int _ _) rfl) ?_)
                            refine ow_nil ?_
                            refine seqK_n ?_
                            refine cw_ret ?_
                            refine fnK_r (res1 rfl (rv_t (v := .int _ _) rfl)) (.refl _) ?_
                            have hbo : besidesOf false = [] := rfl
                            simp only [hbo] at *
                            rw [replyE_doc]
                            simp only [mailE]
                            first | (simp [*]; done) | (simp [*]; omega) | ((repeat' split) <;> first | rfl | omega | (exfalso; simp_all; done) | (exfalso; simp_all; omega))
                        · have p118 := df h113
                          refine ow1 (op1_gs rfl h113 rfl ?_)
                          refine ow1 (op1_gs rfl h113 rfl ?_)
                          refine ow1 (op1_gs rfl h113 rfl ?_)
                          refine ow1 (op1_gs rfl h113 rfl ?_)
                          refine ow1 (op1_l rfl (lo_pick_f (v := .bool _) rfl h113 rfl) ?_)
                          refine ow_nil ?_
                          refine seqK_n ?_
                          refine cw_cond_f rfl rfl ?_
                          refine cw_skip ?_
                          refine seqK_n ?_
                          refine cw_seq ?_
                          refine cw_region ?_
                          refine ow1 (op1_l rfl (lo_move (v := .int _ _) rfl) ?_)
                          refine ow1 (op1_l rfl (lo_assign (v := .int _ _) rfl) ?_)
                          refine ow_nil ?_
                          refine seqK_n ?_
                          refine cw_ret ?_
                          refine fnK_r (res1 rfl (rv_t (v := .int _ _) rfl)) (.refl _) ?_
                          have hbo : besidesOf false = [] := rfl
                          simp only [hbo] at *
                          rw [replyE_doc]
                          simp only [mailE]
                          first | (simp [*]; done) | (simp [*]; omega) | ((repeat' split) <;> first | rfl | omega | (exfalso; simp_all; done) | (exfalso; simp_all; omega))
                      · have p119 := df h111
                        refine cw_skip ?_
                        refine seqK_n ?_
                        refine cw_seq ?_
                        refine cw_seq ?_
                        refine cw_region ?_
                        refine ow1 (op1_l rfl (lo_move (v := .int _ _) rfl) ?_)
                        refine ow1 (op1_l rfl (lo_eql rfl rfl) ?_)
                        refine ow1 (op1_l rfl (lo_move (v := .bool _) rfl) ?_)
                        refine ow1 (op1_gs rfl h111 rfl ?_)
                        refine ow1 (op1_gs rfl h111 rfl ?_)
                        refine ow1 (op1_gs rfl h111 rfl ?_)
                        refine ow1 (op1_gs rfl h111 rfl ?_)
                        refine ow1 (op1_l rfl (lo_pick_f (v := .bool _) rfl h111 rfl) ?_)
                        refine ow_nil ?_
                        refine seqK_n ?_
                        refine cw_cond_f rfl rfl ?_
                        refine cw_skip ?_
                        refine seqK_n ?_
                        refine cw_seq ?_
                        refine cw_region ?_
                        refine ow1 (op1_l rfl (lo_move (v := .int _ _) rfl) ?_)
                        refine ow1 (op1_l rfl (lo_assign (v := .int _ _) rfl) ?_)
                        refine ow_nil ?_
                        refine seqK_n ?_
                        refine cw_ret ?_
                        refine fnK_r (res1 rfl (rv_t (v := .int _ _) rfl)) (.refl _) ?_
                        have hbo : besidesOf false = [] := rfl
                        simp only [hbo] at *
                        rw [replyE_doc]
                        simp only [mailE]
                        first | (simp [*]; done) | (simp [*]; omega) | ((repeat' split) <;> first | rfl | omega | (exfalso; simp_all; done) | (exfalso; simp_all; omega))
                    · have p120 := df h109
                      refine cw_skip ?_
                      refine seqK_n ?_
                      refine cw_seq ?_
                      refine cw_seq ?_
                      refine cw_region ?_
                      refine ow1 (op1_l rfl (lo_move (v := .int _ _) rfl) ?_)
                      refine ow1 (op1_l rfl (lo_eql rfl rfl) ?_)
                      refine ow_nil ?_
                      refine seqK_n ?_
                      refine cw_cond_f rfl h109 ?_
                      refine cw_skip ?_
                      refine seqK_n ?_
                      refine cw_seq ?_
                      refine cw_seq ?_
                      refine cw_region ?_
                      refine ow1 (op1_l rfl (lo_move (v := .int _ _) rfl) ?_)
                      refine ow1 (op1_l rfl (lo_eql rfl rfl) ?_)
                      refine ow1 (op1_l rfl (lo_move (v := .bool _) rfl) ?_)
                      refine ow1 (op1_gs rfl h109 rfl ?_)
                      refine ow1 (op1_gs rfl h109 rfl ?_)
                      refine ow1 (op1_gs rfl h109 rfl ?_)
                      refine ow1 (op1_gs rfl h109 rfl ?_)
                      refine ow1 (op1_l rfl (lo_pick_f (v := .bool _) rfl h109 rfl) ?_)
                      refine ow_nil ?_
                      refine seqK_n ?_
                      refine cw_cond_f rfl rfl ?_
                      refine cw_skip ?_
                      refine seqK_n ?_
                      refine cw_seq ?_
                      refine cw_region ?_
                      refine ow1 (op1_l rfl (lo_move (v := .int _ _) rfl) ?_)
                      refine ow1 (op1_l rfl (lo_assign (v := .int _ _) rfl) ?_)
                      refine ow_nil ?_
                      refine seqK_n ?_
                      refine cw_ret ?_
                      refine fnK_r (res1 rfl (rv_t (v := .int _ _) rfl)) (.refl _) ?_
                      have hbo : besidesOf false = [] := rfl
                      simp only [hbo] at *
                      rw [replyE_doc]
                      simp only [mailE]
                      first | (simp [*]; done) | (simp [*]; omega) | ((repeat' split) <;> first | rfl | omega | (exfalso; simp_all; done) | (exfalso; simp_all; omega))
          · have h121 := not_f h21
            have p122 := dt h121
            refine ow1 (op1_gs rfl h21 rfl ?_)
            refine ow1 (op1_gs rfl h21 rfl ?_)
            refine ow1 (op1_gs rfl h21 rfl ?_)
            refine ow1 (op1_gs rfl h21 rfl ?_)
            refine ow1 (op1_g rfl h16 rfl (lo_pick_f (v := .bool _) rfl h21 rfl) ?_)
            refine ow1 (op1_l rfl (lo_pick_f (v := .bool _) rfl h16 rfl) ?_)
            refine ow1 (op1_l rfl (lo_move (v := .bool _) rfl) ?_)
            refine ow1 (op1_g rfl rfl rfl (lo_fieldAddr rfl fl32_3) ?_)
            refine ow1 (op1_g rfl rfl rfl (lo_load1 (i := 0) (v := .int _ _) rfl ag22 rfl rfl) ?_)
            refine ow1 (op1_g rfl rfl rfl (lo_neq rfl rfl) ?_)
            refine ow1 (op1_g rfl rfl rfl (lo_move (v := .bool _) rfl) ?_)
            refine ow_sp (j := 28) rfl (fun h123 => ?_) (fun h123 => ?_)
            · have h124 := not_t h123
              have p125 := df h124
              refine ow1 (op1_g rfl h123 rfl (lo_fieldAddr rfl fl32_1) ?_)
              refine ow1 (op1_g rfl h123 rfl (lo_load1 (i := 0) (v := .int _ _) rfl ag5 rfl rfl) ?_)
              refine ow1 (op1_prg rfl h123 (r12_tellsM _ r.kind (by omega)) (en_f cb41 rfl) rfl ?_)
              refine ow1 (op1_g rfl h123 rfl (lo_not rfl) ?_)
              refine ow1 (op1_g rfl rfl rfl (lo_pick_t (v := .bool _) rfl h123 rfl) ?_)
              refine ow1 (op1_l rfl (lo_pick_f (v := .bool _) rfl rfl rfl) ?_)
              refine ow1 (op1_l rfl (lo_move (v := .bool _) rfl) ?_)
              refine ow_sp (j := 35) rfl (fun h126 => ?_) (fun h126 => ?_)
              · have h127 := not_t h126
                have p128 := df h127
                refine ow1 (op1_gs rfl h126 rfl ?_)
                refine ow1 (op1_gs rfl h126 rfl ?_)
                refine ow1 (op1_gs rfl h126 rfl ?_)
                refine ow1 (op1_gs rfl h126 rfl ?_)
                refine ow1 (op1_gx (j := 39) rfl rfl ?_)
                refine ow1 (op1_gx (j := 39) rfl rfl ?_)
                refine ow1 (op1_gx (j := 39) rfl rfl ?_)
                refine ow1 (op1_gs rfl h126 rfl ?_)
                refine ow1 (op1_l rfl (lo_pick_t (v := .bool _) rfl h126 rfl) ?_)
                refine ow_nil ?_
                refine seqK_n ?_
                refine cw_cond_t rfl rfl ?_
                refine cw_seq ?_
                refine cw_region ?_
                refine ow1 (op1_l rfl (lo_assign (v := .int _ _) rfl) ?_)
                refine ow_nil ?_
                refine seqK_n ?_
                refine cw_ret ?_
                refine seqK_r ?_
                refine fnK_r (res1 rfl (rv_t (v := .int _ _) rfl)) (.refl _) ?_
                have hbo : besidesOf false = [] := rfl
                simp only [hbo] at *
                rw [replyE_doc]
                simp only [mailE]
                first | (simp [*]; done) | (simp [*]; omega) | ((repeat' split) <;> first | rfl | omega | (exfalso; simp_all; done) | (exfalso; simp_all; omega))
              · have h129 := not_f h126
                have p130 := dt h129
                refine ow1 (op1_g rfl h126 rfl (lo_fieldAddr rfl fl32_5) ?_)
                refine ow1 (op1_g rfl h126 rfl (lo_load1 (i := 0) (v := str _) rfl ag9 rfl rfl) ?_)
                refine ow1 (op1_g rfl h126 rfl (lo_sneq rfl rfl) ?_)
                refine ow1 (op1_g rfl h126 rfl (lo_move (v := .bool _) rfl) ?_)
                refine ow_sp (j := 39) rfl (fun h131 => ?_) (fun h131 => ?_)
                · have h132 := not_t h131
                  have p133 := df h132
                  refine ow1 (op1_g rfl h131 rfl (lo_fieldAddr rfl fl32_1) ?_)
                  refine ow1 (op1_g rfl h131 rfl (lo_load1 (i := 0) (v := .int _ _) rfl ag5 rfl rfl) ?_)
                  refine ow1 (op1_g rfl h131 rfl (lo_neq rfl rfl) ?_)
                  refine ow1 (op1_g rfl h126 rfl (lo_pick_t (v := .bool _) rfl h131 rfl) ?_)
                  refine ow1 (op1_l rfl (lo_pick_f (v := .bool _) rfl h126 rfl) ?_)
                  refine ow_nil ?_
                  refine seqK_n ?_
                  refine cw_cond_t rfl (by rw [(fd (by omega))] <;> rfl) ?_
                  refine cw_seq ?_
                  refine cw_region ?_
                  refine ow1 (op1_l rfl (lo_assign (v := .int _ _) rfl) ?_)
                  refine ow_nil ?_
                  refine seqK_n ?_
                  refine cw_ret ?_
                  refine seqK_r ?_
                  refine fnK_r (res1 rfl (rv_t (v := .int _ _) rfl)) (.refl _) ?_
                  have hbo : besidesOf false = [] := rfl
                  simp only [hbo] at *
                  rw [replyE_doc]
                  simp only [mailE]
                  first | (simp [*]; done) | (simp [*]; omega) | ((repeat' split) <;> first | rfl | omega | (exfalso; simp_all; done) | (exfalso; simp_all; omega))
                · have h134 := not_f h131
                  have p135 := dt h134
                  refine ow1 (op1_gs rfl h131 rfl ?_)
                  refine ow1 (op1_gs rfl h131 rfl ?_)
                  refine ow1 (op1_gs rfl h131 rfl ?_)
                  refine ow1 (op1_g rfl h126 rfl (lo_pick_f (v := .bool _) rfl h131 rfl) ?_)
                  refine ow1 (op1_l rfl (lo_pick_f (v := .bool _) rfl h126 rfl) ?_)
                  refine ow_nil ?_
                  refine seqK_n ?_
                  refine cw_cond_f rfl rfl ?_
                  refine cw_skip ?_
                  refine seqK_n ?_
                  refine cw_seq ?_
                  refine cw_seq ?_
                  refine cw_region ?_
                  refine ow1 (op1_l rfl (lo_fieldAddr rfl fl32_1) ?_)
                  refine ow1 (op1_l rfl (lo_load1 (i := 0) (v := .int _ _) rfl ag5 rfl rfl) ?_)
                  refine ow1 (op1_l rfl (lo_neq rfl rfl) ?_)
                  refine ow_nil ?_
                  refine seqK_n ?_
                  refine cw_cond rfl (fun h136 => ?_) (fun h136 => ?_)
                  · have h137 := not_t h136
                    have p138 := df h137
                    refine cw_seq ?_
                    refine cw_seq ?_
                    refine cw_region ?_
                    refine ow1 (op1_l rfl (lo_fieldAddr rfl fl32_4) ?_)
                    refine ow1 (op1_l rfl (lo_load1 (i := 0) (v := .bool _) rfl ag4 rfl rfl) ?_)
                    refine ow1 (op1_l rfl (lo_move (v := .bool _) rfl) ?_)
                    refine ow_sp (j := 2) rfl (fun h139 => ?_) (fun h139 => ?_)
                    · refine ow1 (op1_gs rfl h139 rfl ?_)
                      refine ow1 (op1_gs rfl h139 rfl ?_)
                      refine ow1 (op1_gs rfl h139 rfl ?_)
                      refine ow1 (op1_l rfl (lo_pick_t (v := .bool _) rfl h139 rfl) ?_)
                      refine ow1 (op1_l rfl (lo_move (v := .bool _) rfl) ?_)
                      refine ow1 (op1_gs rfl rfl rfl ?_)
                      refine ow1 (op1_gs rfl rfl rfl ?_)
                      refine ow1 (op1_gs rfl rfl rfl ?_)
                      refine ow1 (op1_l rfl (lo_pick_t (v := .bool _) rfl rfl rfl) ?_)
                      refine ow1 (op1_l rfl (lo_move (v := .bool _) rfl) ?_)
                      refine ow1 (op1_gs rfl rfl rfl ?_)
                      refine ow1 (op1_gs rfl rfl rfl ?_)
                      refine ow1 (op1_gs rfl rfl rfl ?_)
                      refine ow1 (op1_gs rfl rfl rfl ?_)
                      refine ow1 (op1_l rfl (lo_pick_t (v := .bool _) rfl rfl rfl) ?_)
                      refine ow1 (op1_l rfl (lo_move (v := .bool _) rfl) ?_)
                      refine ow1 (op1_gs rfl rfl rfl ?_)
                      refine ow1 (op1_gs rfl rfl rfl ?_)
                      refine ow1 (op1_gs rfl rfl rfl ?_)
                      refine ow1 (op1_l rfl (lo_pick_t (v := .bool _) rfl rfl rfl) ?_)
                      refine ow_nil ?_
                      refine seqK_n ?_
                      refine cw_cond_t rfl rfl ?_
                      refine cw_seq ?_
                      refine cw_region ?_
                      refine ow1 (op1_l rfl (lo_assign (v := .int _ _) rfl) ?_)
                      refine ow_nil ?_
                      refine seqK_n ?_
                      refine cw_ret ?_
                      refine seqK_r ?_
                      refine seqK_r ?_
                      refine fnK_r (res1 rfl (rv_t (v := .int _ _) rfl)) (.refl _) ?_
                      have hbo : besidesOf false = [] := rfl
                      simp only [hbo] at *
                      rw [replyE_doc]
                      simp only [mailE]
                      first | (simp [*]; done) | (simp [*]; omega) | ((repeat' split) <;> first | rfl | omega | (exfalso; simp_all; done) | (exfalso; simp_all; omega))
                    · refine ow1 (op1_g rfl h139 rfl (lo_fieldAddr rfl fl25_1) ?_)
                      refine ow1 (op1_g rfl h139 rfl (lo_load1 (i := 1) (v := str _) rfl ag9 rfl rfl) ?_)
                      refine ow1 (op1_g rfl h139 rfl (lo_sneq rfl rfl) ?_)
                      refine ow1 (op1_l rfl (lo_pick_f (v := .bool _) rfl h139 rfl) ?_)
                      refine ow1 (op1_l rfl (lo_move (v := .bool _) rfl) ?_)
                      refine ow_sp (j := 7) rfl (fun h140 => ?_) (fun h140 => ?_)
                      · have h141 := not_t h140
                        have p142 := df h141
                        refine ow1 (op1_gs rfl h140 rfl ?_)
                        refine ow1 (op1_gs rfl h140 rfl ?_)
                        refine ow1 (op1_gs rfl h140 rfl ?_)
                        refine ow1 (op1_l rfl (lo_pick_t (v := .bool _) rfl h140 rfl) ?_)
                        refine ow1 (op1_l rfl (lo_move (v := .bool _) rfl) ?_)
                        refine ow1 (op1_gs rfl rfl rfl ?_)
                        refine ow1 (op1_gs rfl rfl rfl ?_)
                        refine ow1 (op1_gs rfl rfl rfl ?_)
                        refine ow1 (op1_gs rfl rfl rfl ?_)
                        refine ow1 (op1_l rfl (lo_pick_t (v := .bool _) rfl rfl rfl) ?_)
                        refine ow1 (op1_l rfl (lo_move (v := .bool _) rfl) ?_)
                        refine ow1 (op1_gs rfl rfl rfl ?_)
                        refine ow1 (op1_gs rfl rfl rfl ?_)
                        refine ow1 (op1_gs rfl rfl rfl ?_)
                        refine ow1 (op1_l rfl (lo_pick_t (v := .bool _) rfl rfl rfl) ?_)
                        refine ow_nil ?_
                        refine seqK_n ?_
                        refine cw_cond_t rfl rfl ?_
                        refine cw_seq ?_
                        refine cw_region ?_
                        refine ow1 (op1_l rfl (lo_assign (v := .int _ _) rfl) ?_)
                        refine ow_nil ?_
                        refine seqK_n ?_
                        refine cw_ret ?_
                        refine seqK_r ?_
                        refine seqK_r ?_
                        refine fnK_r (res1 rfl (rv_t (v := .int _ _) rfl)) (.refl _) ?_
                        have hbo : besidesOf false = [] := rfl
                        simp only [hbo] at *
                        rw [replyE_doc]
                        simp only [mailE]
                        first | (simp [*]; done) | (simp [*]; omega) | ((repeat' split) <;> first | rfl | omega | (exfalso; simp_all; done) | (exfalso; simp_all; omega))
                      · have h143 := not_f h140
                        have p144 := dt h143
                        refine ow1 (op1_g rfl h140 rfl (lo_fieldAddr rfl fl25_2) ?_)
                        refine ow1 (op1_g rfl h140 rfl (lo_load1 (i := 1) (v := str _) rfl ag9 rfl rfl) ?_)
                        refine ow1 (op1_g rfl h140 rfl (lo_sneq rfl rfl) ?_)
                        refine ow1 (op1_l rfl (lo_pick_f (v := .bool _) rfl h140 rfl) ?_)
                        refine ow1 (op1_l rfl (lo_move (v := .bool _) rfl) ?_)
                        refine ow_sp (j := 12) rfl (fun h145 => ?_) (fun h145 => ?_)
                        · have h146 := not_t h145
                          have p147 := df h146
                          refine ow1 (op1_gs rfl h145 rfl ?_)
                          refine ow1 (op1_gs rfl h145 rfl ?_)
                          refine ow1 (op1_gs rfl h145 rfl ?_)
                          refine ow1 (op1_gs rfl h145 rfl ?_)
                          refine ow1 (op1_l rfl (lo_pick_t (v := .bool _) rfl h145 rfl) ?_)
                          refine ow1 (op1_l rfl (lo_move (v := .bool _) rfl) ?_)
                          refine ow1 (op1_gs rfl rfl rfl ?_)
                          refine ow1 (op1_gs rfl rfl rfl ?_)
                          refine ow1 (op1_gs rfl rfl rfl ?_)
                          refine ow1 (op1_l rfl (lo_pick_t (v := .bool _) rfl rfl rfl) ?_)
                          refine ow_nil ?_
                          refine seqK_n ?_
                          refine cw_cond_t rfl rfl ?_
                          refine cw_seq ?_
                          refine cw_region ?_
                          refine ow1 (op1_l rfl (lo_assign (v := .int _ _) rfl) ?_)
                          refine ow_nil ?_
                          refine seqK_n ?_
                          refine cw_ret ?_
                          refine seqK_r ?_
                          refine seqK_r ?_
                          refine fnK_r (res1 rfl (rv_t (v := .int _ _) rfl)) (.refl _) ?_
                          have hbo : besidesOf false = [] := rfl
                          simp only [hbo] at *
                          rw [replyE_doc]
                          simp only [mailE]
                          first | (simp [*]; done) | (simp [*]; omega) | ((repeat' split) <;> first | rfl | omega | (exfalso; simp_all; done) | (exfalso; simp_all; omega))
                        · have h148 := not_f h145
                          have p149 := dt h148
                          refine ow1 (op1_g rfl h145 rfl (lo_fieldAddr rfl fl25_3) ?_)
                          refine ow1 (op1_g rfl h145 rfl (lo_load1 (i := 1) (v := .slice _ _ _) rfl ag23 rfl rfl) ?_)
                          refine ow1 (op1_g rfl h145 rfl (lo_len_slh rfl r_mail_head_h Tryd.underlying23) ?_)
                          refine ow1 (op1_g rfl h145 rfl (lo_gtr rfl rfl) ?_)
                          refine ow1 (op1_l rfl (lo_pick_f (v := .bool _) rfl h145 rfl) ?_)
                          refine ow1 (op1_l rfl (lo_move (v := .bool _) rfl) ?_)
                          refine ow_sp (j := 18) rfl (fun h150 => ?_) (fun h150 => ?_)
                          · have p151 := dt h150
                            refine ow1 (op1_gs rfl h150 rfl ?_)
                            refine ow1 (op1_gs rfl h150 rfl ?_)
                            refine ow1 (op1_gs rfl h150 rfl ?_)
                            refine ow1 (op1_l rfl (lo_pick_t (v := .bool _) rfl h150 rfl) ?_)
                            refine ow_nil ?_
                            refine seqK_n ?_
                            refine cw_cond_t rfl rfl ?_
                            refine cw_seq ?_
                            refine cw_region ?_
                            refine ow1 (op1_l rfl (lo_assign (v := .int _ _) rfl) ?_)
                            refine ow_nil ?_
                            refine seqK_n ?_
                            refine cw_ret ?_
                            refine seqK_r ?_
                            refine seqK_r ?_
                            refine fnK_r (res1 rfl (rv_t (v := .int _ _) rfl)) (.refl _) ?_
                            have hbo : besidesOf false = [] := rfl
                            simp only [hbo] at *
                            rw [replyE_doc]
                            simp only [mailE]
                            first | (simp [*]; done) | (simp [*]; omega) | ((repeat' split) <;> first | rfl | omega | (exfalso; simp_all; done) | (exfalso; simp_all; omega))
                          · have p152 := df h150
                            refine ow1 (op1_g rfl h150 rfl (lo_fieldAddr rfl fl25_4) ?_)
                            refine ow1 (op1_g rfl h150 rfl (lo_load1 (i := 1) (v := str _) rfl ag9 rfl rfl) ?_)
                            refine ow1 (op1_g rfl h150 rfl (lo_sneq rfl rfl) ?_)
                            refine ow1 (op1_l rfl (lo_pick_f (v := .bool _) rfl h150 rfl) ?_)
                            refine ow_nil ?_
                            refine seqK_n ?_
                            refine cw_cond rfl (fun h153 => ?_) (fun h153 => ?_)
                            · have h154 := not_t h153
                              have p155 := df h154
                              refine cw_seq ?_
                              refine cw_region ?_
                              refine ow1 (op1_l rfl (lo_assign (v := .int _ _) rfl) ?_)
                              refine ow_nil ?_
                              refine seqK_n ?_
                              refine cw_ret ?_
                              refine seqK_r ?_
                              refine seqK_r ?_
                              refine fnK_r (res1 rfl (rv_t (v := .int _ _) rfl)) (.refl _) ?_
                              have hbo : besidesOf false = [] := rfl
                              simp only [hbo] at *
                              rw [replyE_doc]
                              simp only [mailE]
                              first | (simp [*]; done) | (simp [*]; omega) | ((repeat' split) <;> first | rfl | omega | (exfalso; simp_all; done) | (exfalso; simp_all; omega))
                            · have h156 := not_f h153
                              have p157 := dt h156
                              refine cw_skip ?_
                              refine seqK_n ?_
                              refine cw_seq ?_
                              refine cw_seq ?_
                              refine cw_region ?_
                              refine ow1 (op1_l rfl (lo_fieldAddr rfl fl32_1) ?_)
                              refine ow1 (op1_l rfl (lo_load1 (i := 0) (v := .int _ _) rfl ag5 rfl rfl) ?_)
                              refine ow1 (op1_l rfl (lo_eql rfl rfl) ?_)
                              refine ow_nil ?_
                              refine seqK_n ?_
                              refine cw_cond_f rfl (fd (by omega)) ?_
                              refine cw_skip ?_
                              refine seqK_n ?_
                              refine cw_seq ?_
                              refine cw_region ?_
                              refine ow1 (op1_l rfl (lo_assign (v := .int _ _) rfl) ?_)
                              refine ow_nil ?_
                              refine seqK_n ?_
                              refine cw_ret ?_
                              refine seqK_r ?_
                              refine fnK_r (res1 rfl (rv_t (v := .int _ _) rfl)) (.refl _) ?_
                              have hbo : besidesOf false = [] := rfl
                              simp only [hbo] at *
                              rw [replyE_doc]
                              simp only [mailE]
                              first | (simp [*]; done) | (simp [*]; omega) | ((repeat' split) <;> first | rfl | omega | (exfalso; simp_all; done) | (exfalso; simp_all; omega))
                  · have h158 := not_f h136
                    have p159 := dt h158
                    refine cw_skip ?_
                    refine seqK_n ?_
                    refine cw_seq ?_
                    refine cw_region ?_
                    refine ow1 (op1_l rfl (lo_fieldAddr rfl fl25_1) ?_)
                    refine ow1 (op1_l rfl (lo_load1 (i := 1) (v := str _) rfl ag9 rfl rfl) ?_)
                    refine ow1 (op1_pr (r4_Name _ r.mail.shop (by first | omega | decide | (simp; done))) (en_f cb50 rfl) rfl ?_)
                    refine ow1 (op1_l rfl (lo_assign (v := .int _ _) rfl) ?_)
                    refine ow_nil ?_
                    refine seqK_n ?_
                    refine cw_seq ?_
                    refine cw_seq ?_
                    refine cw_region ?_
                    refine ow1 (op1_l rfl (lo_move (v := .int _ _) rfl) ?_)
                    refine ow1 (op1_l rfl (lo_eql rfl rfl) ?_)
                    refine ow_nil ?_
                    refine seqK_n ?_
                    refine cw_cond rfl (fun h160 => ?_) (fun h160 => ?_)
                    · have p161 := dt h160
                      refine cw_region ?_
                      refine ow1 (op1_l rfl (lo_fieldAddr rfl fl25_2) ?_)
                      refine ow1 (op1_l rfl (lo_load1 (i := 1) (v := str _) rfl ag9 rfl rfl) ?_)
                      refine ow1 (op1_pr (r4_Key _ r.mail.key false) (en_f cb51 rfl) rfl ?_)
                      refine ow1 (op1_l rfl (lo_assign (v := .int _ _) rfl) ?_)
                      refine ow_nil ?_
                      refine seqK_n ?_
                      refine cw_seq ?_
                      refine cw_seq ?_
                      refine cw_region ?_
                      refine ow1 (op1_l rfl (lo_move (v := .int _ _) rfl) ?_)
                      refine ow1 (op1_l rfl (lo_eql rfl rfl) ?_)
                      refine ow_nil ?_
                      refine seqK_n ?_
                      refine cw_cond rfl (fun h162 => ?_) (fun h162 => ?_)
                      · have p163 := dt h162
                        refine cw_region ?_
                        refine ow1 (op1_l rfl (lo_fieldAddr rfl fl25_3) ?_)
                        refine ow1 (op1_l rfl (lo_load1 (i := 1) (v := .slice _ _ _) rfl ag23 rfl rfl) ?_)
                        refine ow1 (op1_pr (r9_Check _ r_mail_head_a r.mail.head.length r_mail_head_c r.mail.head r_mail_head_h) (en_f cb52 rfl) rfl ?_)
                        refine ow1 (op1_l rfl (lo_assign (v := .int _ _) rfl) ?_)
                        refine ow_nil ?_
                        refine seqK_n ?_
                        refine cw_seq ?_
                        refine cw_seq ?_
                        refine cw_region ?_
                        refine ow1 (op1_l rfl (lo_move (v := .int _ _) rfl) ?_)
                        refine ow1 (op1_l rfl (lo_eql rfl rfl) ?_)
                        refine ow1 (op1_l rfl (lo_move (v := .bool _) rfl) ?_)
                        refine ow_sp (j := 2) rfl (fun h164 => ?_) (fun h164 => ?_)
                        · have p165 := dt h164
                          refine ow1 (op1_g rfl h164 rfl (lo_fieldAddr rfl fl25_4) ?_)
                          refine ow1 (op1_g rfl h164 rfl (lo_load1 (i := 1) (v := str _) rfl ag9 rfl rfl) ?_)
                          refine ow1 (op1_g rfl h164 rfl (lo_len_str rfl Tryd.underlying9) ?_)
                          refine ow1 (op1_g rfl h164 rfl (lo_gtr rfl rfl) ?_)
                          refine ow1 (op1_l rfl (lo_pick_t (v := .bool _) rfl h164 rfl) ?_)
                          refine ow_nil ?_
                          refine seqK_n ?_
                          refine cw_cond rfl (fun h166 => ?_) (fun h166 => ?_)
                          · have p167 := dt h166
                            refine cw_region ?_
                            refine ow1 (op1_l rfl (lo_assign (v := .int _ _) rfl) ?_)
                            refine ow_nil ?_
                            refine seqK_n ?_
                            refine cw_seq ?_
                            refine cw_region ?_
                            refine ow1 (op1_l rfl (lo_move (v := .int _ _) rfl) ?_)
                            refine ow1 (op1_l rfl (lo_assign (v := .int _ _) rfl) ?_)
                            refine ow_nil ?_
                            refine seqK_n ?_
                            refine cw_ret ?_
                            refine fnK_r (res1 rfl (rv_t (v := .int _ _) rfl)) (.refl _) ?_
                            have hbo : besidesOf false = [] := rfl
                            simp only [hbo] at *
                            rw [replyE_doc]
                            simp only [mailE]
                            first | (simp [*]; done) | (simp [*]; omega) | ((repeat' split) <;> first | rfl | omega | (exfalso; simp_all; done) | (exfalso; simp_all; omega))
                          · have p168 := df h166
                            refine cw_skip ?_
                            refine seqK_n ?_
                            refine cw_seq ?_
                            refine cw_region ?_
                            refine ow1 (op1_l rfl (lo_move (v := .int _ _) rfl) ?_)
                            refine ow1 (op1_l rfl (lo_assign (v := .int _ _) rfl) ?_)
                            refine ow_nil ?_
                            refine seqK_n ?_
                            refine cw_ret ?_
                            refine fnK_r (res1 rfl (rv_t (v := .int _ _) rfl)) (.refl _) ?_
                            have hbo : besidesOf false = [] := rfl
                            simp only [hbo] at *
                            rw [replyE_doc]
                            simp only [mailE]
                            first | (simp [*]; done) | (simp [*]; omega) | ((repeat' split) <;> first | rfl | omega | (exfalso; simp_all; done) | (exfalso; simp_all; omega))
                        · have p169 := df h164
                          refine ow1 (op1_gs rfl h164 rfl ?_)
                          refine ow1 (op1_gs rfl h164 rfl ?_)
                          refine ow1 (op1_gs rfl h164 rfl ?_)
                          refine ow1 (op1_gs rfl h164 rfl ?_)
                          refine ow1 (op1_l rfl (lo_pick_f (v := .bool _) rfl h164 rfl) ?_)
                          refine ow_nil ?_
                          refine seqK_n ?_
                          refine cw_cond_f rfl rfl ?_
                          refine cw_skip ?_
                          refine seqK_n ?_
                          refine cw_seq ?_
                          refine cw_region ?_
                          refine ow1 (op1_l rfl (lo_move (v := .int _ _) rfl) ?_)
                          refine ow1 (op1_l rfl (lo_assign (v := .int _ _) rfl) ?_)
                          refine ow_nil ?_
                          refine seqK_n ?_
                          refine cw_ret ?_
                          refine fnK_r (res1 rfl (rv_t (v := .int _ _) rfl)) (.refl _) ?_
                          have hbo : besidesOf false = [] := rfl
                          simp only [hbo] at *
                          rw [replyE_doc]
                          simp only [mailE]
                          first | (simp [*]; done) | (simp [*]; omega) | ((repeat' split) <;> first | rfl | omega | (exfalso; simp_all; done) | (exfalso; simp_all; omega))
                      · have p170 := df h162
                        refine cw_skip ?_
                        refine seqK_n ?_
                        refine cw_seq ?_
                        refine cw_seq ?_
                        refine cw_region ?_
                        refine ow1 (op1_l rfl (lo_move (v := .int _ _) rfl) ?_)
                        refine ow1 (op1_l rfl (lo_eql rfl rfl) ?_)
                        refine ow1 (op1_l rfl (lo_move (v := .bool _) rfl) ?_)
                        refine ow1 (op1_gs rfl h162 rfl ?_)
                        refine ow1 (op1_gs rfl h162 rfl ?_)
                        refine ow1 (op1_gs rfl h162 rfl ?_)
                        refine ow1 (op1_gs rfl h162 rfl ?_)
                        refine ow1 (op1_l rfl (lo_pick_f (v := .bool _) rfl h162 rfl) ?_)
                        refine ow_nil ?_
                        refine seqK_n ?_
                        refine cw_cond_f rfl rfl ?_
                        refine cw_skip ?_
                        refine seqK_n ?_
                        refine cw_seq ?_
                        refine cw_region ?_
                        refine ow1 (op1_l rfl (lo_move (v := .int _ _) rfl) ?_)
                        refine ow1 (op1_l rfl (lo_assign (v := .int _ _) rfl) ?_)
                        refine ow_nil ?_
                        refine seqK_n ?_
                        refine cw_ret ?_
                        refine fnK_r (res1 rfl (rv_t (v := .int _ _) rfl)) (.refl _) ?_
                        have hbo : besidesOf false = [] := rfl
                        simp only [hbo] at *
                        rw [replyE_doc]
                        simp only [mailE]
                        first | (simp [*]; done) | (simp [*]; omega) | ((repeat' split) <;> first | rfl | omega | (exfalso; simp_all; done) | (exfalso; simp_all; omega))
                    · have p171 := df h160
                      refine cw_skip ?_
                      refine seqK_n ?_
                      refine cw_seq ?_
                      refine cw_seq ?_
                      refine cw_region ?_
                      refine ow1 (op1_l rfl (lo_move (v := .int _ _) rfl) ?_)
                      refine ow1 (op1_l rfl (lo_eql rfl rfl) ?_)
                      refine ow_nil ?_
                      refine seqK_n ?_
                      refine cw_cond_f rfl h160 ?_
                      refine cw_skip ?_
                      refine seqK_n ?_
                      refine cw_seq ?_
                      refine cw_seq ?_
                      refine cw_region ?_
                      refine ow1 (op1_l rfl (lo_move (v := .int _ _) rfl) ?_)
                      refine ow1 (op1_l rfl (lo_eql rfl rfl) ?_)
                      refine ow1 (op1_l rfl (lo_move (v := .bool _) rfl) ?_)
                      refine ow1 (op1_gs rfl h160 rfl ?_)
                      refine ow1 (op1_gs rfl h160 rfl ?_)
                      refine ow1 (op1_gs rfl h160 rfl ?_)
                      refine ow1 (op1_gs rfl h160 rfl ?_)
                      refine ow1 (op1_l rfl (lo_pick_f (v := .bool _) rfl h160 rfl) ?_)
                      refine ow_nil ?_
                      refine seqK_n ?_
                      refine cw_cond_f rfl rfl ?_
                      refine cw_skip ?_
                      refine seqK_n ?_
                      refine cw_seq ?_
                      refine cw_region ?_
                      refine ow1 (op1_l rfl (lo_move (v := .int _ _) rfl) ?_)
                      refine ow1 (op1_l rfl (lo_assign (v := .int _ _) rfl) ?_)
                      refine ow_nil ?_
                      refine seqK_n ?_
                      refine cw_ret ?_
                      refine fnK_r (res1 rfl (rv_t (v := .int _ _) rfl)) (.refl _) ?_
                      have hbo : besidesOf false = [] := rfl
                      simp only [hbo] at *
                      rw [replyE_doc]
                      simp only [mailE]
                      first | (simp [*]; done) | (simp [*]; omega) | ((repeat' split) <;> first | rfl | omega | (exfalso; simp_all; done) | (exfalso; simp_all; omega))
            · have h172 := not_f h123
              have p173 := dt h172
              refine ow1 (op1_gs rfl h123 rfl ?_)
              refine ow1 (op1_gs rfl h123 rfl ?_)
              refine ow1 (op1_gs rfl h123 rfl ?_)
              refine ow1 (op1_gs rfl h123 rfl ?_)
              refine ow1 (op1_g rfl rfl rfl (lo_pick_f (v := .bool _) rfl h123 rfl) ?_)
              refine ow1 (op1_l rfl (lo_pick_f (v := .bool _) rfl rfl rfl) ?_)
              refine ow1 (op1_l rfl (lo_move (v := .bool _) rfl) ?_)
              refine ow1 (op1_g rfl rfl rfl (lo_fieldAddr rfl fl32_5) ?_)
              refine ow1 (op1_g rfl rfl rfl (lo_load1 (i := 0) (v := str _) rfl ag9 rfl rfl) ?_)
              refine ow1 (op1_g rfl rfl rfl (lo_sneq rfl rfl) ?_)
              refine ow1 (op1_g rfl rfl rfl (lo_move (v := .bool _) rfl) ?_)
              refine ow_sp (j := 39) rfl (fun h174 => ?_) (fun h174 => ?_)
              · have h175 := not_t h174
                have p176 := df h175
                refine ow1 (op1_g rfl h174 rfl (lo_fieldAddr rfl fl32_1) ?_)
                refine ow1 (op1_g rfl h174 rfl (lo_load1 (i := 0) (v := .int _ _) rfl ag5 rfl rfl) ?_)
                refine ow1 (op1_g rfl h174 rfl (lo_neq rfl rfl) ?_)
                refine ow1 (op1_g rfl rfl rfl (lo_pick_t (v := .bool _) rfl h174 rfl) ?_)
                refine ow1 (op1_l rfl (lo_pick_f (v := .bool _) rfl rfl rfl) ?_)
                refine ow_nil ?_
                refine seqK_n ?_
                refine cw_cond rfl (fun h177 => ?_) (fun h177 => ?_)
                · have h178 := not_t h177
                  have p179 := df h178
                  refine cw_seq ?_
                  refine cw_region ?_
                  refine ow1 (op1_l rfl (lo_assign (v := .int _ _) rfl) ?_)
                  refine ow_nil ?_
                  refine seqK_n ?_
                  refine cw_ret ?_
                  refine seqK_r ?_
                  refine fnK_r (res1 rfl (rv_t (v := .int _ _) rfl)) (.refl _) ?_
                  have hbo : besidesOf false = [] := rfl
                  simp only [hbo] at *
                  rw [replyE_doc]
                  simp only [mailE]
                  first | (simp [*]; done) | (simp [*]; omega) | ((repeat' split) <;> first | rfl | omega | (exfalso; simp_all; done) | (exfalso; simp_all; omega))
                · have h180 := not_f h177
                  have p181 := dt h180
                  refine cw_skip ?_
                  refine seqK_n ?_
                  refine cw_seq ?_
                  refine cw_seq ?_
                  refine cw_region ?_
                  refine ow1 (op1_l rfl (lo_fieldAddr rfl fl32_1) ?_)
                  refine ow1 (op1_l rfl (lo_load1 (i := 0) (v := .int _ _) rfl ag5 rfl rfl) ?_)
                  refine ow1 (op1_l rfl (lo_neq rfl rfl) ?_)
                  refine ow_nil ?_
                  refine seqK_n ?_
                  refine cw_cond_t rfl (by rw [(fd (by omega))] <;> rfl) ?_
                  refine cw_seq ?_
                  refine cw_seq ?_
                  refine cw_region ?_
                  refine ow1 (op1_l rfl (lo_fieldAddr rfl fl32_4) ?_)
                  refine ow1 (op1_l rfl (lo_load1 (i := 0) (v := .bool _) rfl ag4 rfl rfl) ?_)
                  refine ow1 (op1_l rfl (lo_move (v := .bool _) rfl) ?_)
                  refine ow_sp (j := 2) rfl (fun h182 => ?_) (fun h182 => ?_)
                  · refine ow1 (op1_gs rfl h182 rfl ?_)
                    refine ow1 (op1_gs rfl h182 rfl ?_)
                    refine ow1 (op1_gs rfl h182 rfl ?_)
                    refine ow1 (op1_l rfl (lo_pick_t (v := .bool _) rfl h182 rfl) ?_)
                    refine ow1 (op1_l rfl (lo_move (v := .bool _) rfl) ?_)
                    refine ow1 (op1_gs rfl rfl rfl ?_)
                    refine ow1 (op1_gs rfl rfl rfl ?_)
                    refine ow1 (op1_gs rfl rfl rfl ?_)
                    refine ow1 (op1_l rfl (lo_pick_t (v := .bool _) rfl rfl rfl) ?_)
                    refine ow1 (op1_l rfl (lo_move (v := .bool _) rfl) ?_)
                    refine ow1 (op1_gs rfl rfl rfl ?_)
                    refine ow1 (op1_gs rfl rfl rfl ?_)
                    refine ow1 (op1_gs rfl rfl rfl ?_)
                    refine ow1 (op1_gs rfl rfl rfl ?_)
                    refine ow1 (op1_l rfl (lo_pick_t (v := .bool _) rfl rfl rfl) ?_)
                    refine ow1 (op1_l rfl (lo_move (v := .bool _) rfl) ?_)
                    refine ow1 (op1_gs rfl rfl rfl ?_)
                    refine ow1 (op1_gs rfl rfl rfl ?_)
                    refine ow1 (op1_gs rfl rfl rfl ?_)
                    refine ow1 (op1_l rfl (lo_pick_t (v := .bool _) rfl rfl rfl) ?_)
                    refine ow_nil ?_
                    refine seqK_n ?_
                    refine cw_cond_t rfl rfl ?_
                    refine cw_seq ?_
                    refine cw_region ?_
                    refine ow1 (op1_l rfl (lo_assign (v := .int _ _) rfl) ?_)
                    refine ow_nil ?_
                    refine seqK_n ?_
                    refine cw_ret ?_
                    refine seqK_r ?_
                    refine seqK_r ?_
                    refine fnK_r (res1 rfl (rv_t (v := .int _ _) rfl)) (.refl _) ?_
                    have hbo : besidesOf false = [] := rfl
                    simp only [hbo] at *
                    rw [replyE_doc]
                    simp only [mailE]
                    first | (simp [*]; done) | (simp [*]; omega) | ((repeat' split) <;> first | rfl | omega | (exfalso; simp_all; done) | (exfalso; simp_all; omega))
                  · refine ow1 (op1_g rfl h182 rfl (lo_fieldAddr rfl fl25_1) ?_)
                    refine ow1 (op1_g rfl h182 rfl (lo_load1 (i := 1) (v := str _) rfl ag9 rfl rfl) ?_)
                    refine ow1 (op1_g rfl h182 rfl (lo_sneq rfl rfl) ?_)
                    refine ow1 (op1_l rfl (lo_pick_f (v := .bool _) rfl h182 rfl) ?_)
                    refine ow1 (op1_l rfl (lo_move (v := .bool _) rfl) ?_)
                    refine ow_sp (j := 7) rfl (fun h183 => ?_) (fun h183 => ?_)
                    · have h184 := not_t h183
                      have p185 := df h184
                      refine ow1 (op1_gs rfl h183 rfl ?_)
                      refine ow1 (op1_gs rfl h183 rfl ?_)
                      refine ow1 (op1_gs rfl h183 rfl ?_)
                      refine ow1 (op1_l rfl (lo_pick_t (v := .bool _) rfl h183 rfl) ?_)
                      refine ow1 (op1_l rfl (lo_move (v := .bool _) rfl) ?_)
                      refine ow1 (op1_gs rfl rfl rfl ?_)
                      refine ow1 (op1_gs rfl rfl rfl ?_)
                      refine ow1 (op1_gs rfl rfl rfl ?_)
                      refine ow1 (op1_gs rfl rfl rfl ?_)
                      refine ow1 (op1_l rfl (lo_pick_t (v := .bool _) rfl rfl rfl) ?_)
                      refine ow1 (op1_l rfl (lo_move (v := .bool _) rfl) ?_)
                      refine ow1 (op1_gs rfl rfl rfl ?_)
                      refine ow1 (op1_gs rfl rfl rfl ?_)
                      refine ow1 (op1_gs rfl rfl rfl ?_)
                      refine ow1 (op1_l rfl (lo_pick_t (v := .bool _) rfl rfl rfl) ?_)
                      refine ow_nil ?_
                      refine seqK_n ?_
                      refine cw_cond_t rfl rfl ?_
                      refine cw_seq ?_
                      refine cw_region ?_
                      refine ow1 (op1_l rfl (lo_assign (v := .int _ _) rfl) ?_)
                      refine ow_nil ?_
                      refine seqK_n ?_
                      refine cw_ret ?_
                      refine seqK_r ?_
                      refine seqK_r ?_
                      refine fnK_r (res1 rfl (rv_t (v := .int _ _) rfl)) (.refl _) ?_
                      have hbo : besidesOf false = [] := rfl
                      simp only [hbo] at *
                      rw [replyE_doc]
                      simp only [mailE]
                      first | (simp [*]; done) | (simp [*]; omega) | ((repeat' split) <;> first | rfl | omega | (exfalso; simp_all; done) | (exfalso; simp_all; omega))
                    · have h186 := not_f h183
                      have p187 := dt h186
                      refine ow1 (op1_g rfl h183 rfl (lo_fieldAddr rfl fl25_2) ?_)
                      refine ow1 (op1_g rfl h183 rfl (lo_load1 (i := 1) (v := str _) rfl ag9 rfl rfl) ?_)
                      refine ow1 (op1_g rfl h183 rfl (lo_sneq rfl rfl) ?_)
                      refine ow1 (op1_l rfl (lo_pick_f (v := .bool _) rfl h183 rfl) ?_)
                      refine ow1 (op1_l rfl (lo_move (v := .bool _) rfl) ?_)
                      refine ow_sp (j := 12) rfl (fun h188 => ?_) (fun h188 => ?_)
                      · have h189 := not_t h188
                        have p190 := df h189
                        refine ow1 (op1_gs rfl h188 rfl ?_)
                        refine ow1 (op1_gs rfl h188 rfl ?_)
                        refine ow1 (op1_gs rfl h188 rfl ?_)
                        refine ow1 (op1_gs rfl h188 rfl ?_)
                        refine ow1 (op1_l rfl (lo_pick_t (v := .bool _) rfl h188 rfl) ?_)
                        refine ow1 (op1_l rfl (lo_move (v := .bool _) rfl) ?_)
                        refine ow1 (op1_gs rfl rfl rfl ?_)
                        refine ow1 (op1_gs rfl rfl rfl ?_)
                        refine ow1 (op1_gs rfl rfl rfl ?_)
                        refine ow1 (op1_l rfl (lo_pick_t (v := .bool _) rfl rfl rfl) ?_)
                        refine ow_nil ?_
                        refine seqK_n ?_
                        refine cw_cond_t rfl rfl ?_
                        refine cw_seq ?_
                        refine cw_region ?_
                        refine ow1 (op1_l rfl (lo_assign (v := .int _ _) rfl) ?_)
                        refine ow_nil ?_
                        refine seqK_n ?_
                        refine cw_ret ?_
                        refine seqK_r ?_
                        refine seqK_r ?_
                        refine fnK_r (res1 rfl (rv_t (v := .int _ _) rfl)) (.refl _) ?_
                        have hbo : besidesOf false = [] := rfl
                        simp only [hbo] at *
                        rw [replyE_doc]
                        simp only [mailE]
                        first | (simp [*]; done) | (simp [*]; omega) | ((repeat' split) <;> first | rfl | omega | (exfalso; simp_all; done) | (exfalso; simp_all; omega))
                      · have h191 := not_f h188
                        have p192 := dt h191
                        refine ow1 (op1_g rfl h188 rfl (lo_fieldAddr rfl fl25_3) ?_)
                        refine ow1 (op1_g rfl h188 rfl (lo_load1 (i := 1) (v := .slice _ _ _) rfl ag23 rfl rfl) ?_)
                        refine ow1 (op1_g rfl h188 rfl (lo_len_slh rfl r_mail_head_h Tryd.underlying23) ?_)
                        refine ow1 (op1_g rfl h188 rfl (lo_gtr rfl rfl) ?_)
                        refine ow1 (op1_l rfl (lo_pick_f (v := .bool _) rfl h188 rfl) ?_)
                        refine ow1 (op1_l rfl (lo_move (v := .bool _) rfl) ?_)
                        refine ow_sp (j := 18) rfl (fun h193 => ?_) (fun h193 => ?_)
                        · have p194 := dt h193
                          refine ow1 (op1_gs rfl h193 rfl ?_)
                          refine ow1 (op1_gs rfl h193 rfl ?_)
                          refine ow1 (op1_gs rfl h193 rfl ?_)
                          refine ow1 (op1_l rfl (lo_pick_t (v := .bool _) rfl h193 rfl) ?_)
                          refine ow_nil ?_
                          refine seqK_n ?_
                          refine cw_cond_t rfl rfl ?_
                          refine cw_seq ?_
                          refine cw_region ?_
                          refine ow1 (op1_l rfl (lo_assign (v := .int _ _) rfl) ?_)
                          refine ow_nil ?_
                          refine seqK_n ?_
                          refine cw_ret ?_
                          refine seqK_r ?_
                          refine seqK_r ?_
                          refine fnK_r (res1 rfl (rv_t (v := .int _ _) rfl)) (.refl _) ?_
                          have hbo : besidesOf false = [] := rfl
                          simp only [hbo] at *
                          rw [replyE_doc]
                          simp only [mailE]
                          first | (simp [*]; done) | (simp [*]; omega) | ((repeat' split) <;> first | rfl | omega | (exfalso; simp_all; done) | (exfalso; simp_all; omega))
                        · have p195 := df h193
                          refine ow1 (op1_g rfl h193 rfl (lo_fieldAddr rfl fl25_4) ?_)
                          refine ow1 (op1_g rfl h193 rfl (lo_load1 (i := 1) (v := str _) rfl ag9 rfl rfl) ?_)
                          refine ow1 (op1_g rfl h193 rfl (lo_sneq rfl rfl) ?_)
                          refine ow1 (op1_l rfl (lo_pick_f (v := .bool _) rfl h193 rfl) ?_)
                          refine ow_nil ?_
                          refine seqK_n ?_
                          refine cw_cond rfl (fun h196 => ?_) (fun h196 => ?_)
                          · have h197 := not_t h196
                            have p198 := df h197
                            refine cw_seq ?_
                            refine cw_region ?_
                            refine ow1 (op1_l rfl (lo_assign (v := .int _ _) rfl) ?_)
                            refine ow_nil ?_
                            refine seqK_n ?_
                            refine cw_ret ?_
                            refine seqK_r ?_
                            refine seqK_r ?_
                            refine fnK_r (res1 rfl (rv_t (v := .int _ _) rfl)) (.refl _) ?_
                            have hbo : besidesOf false = [] := rfl
                            simp only [hbo] at *
                            rw [replyE_doc]
                            simp only [mailE]
                            first | (simp [*]; done) | (simp [*]; omega) | ((repeat' split) <;> first | rfl | omega | (exfalso; simp_all; done) | (exfalso; simp_all; omega))
                          · have h199 := not_f h196
                            have p200 := dt h199
                            refine cw_skip ?_
                            refine seqK_n ?_
                            refine cw_seq ?_
                            refine cw_seq ?_
                            refine cw_region ?_
                            refine ow1 (op1_l rfl (lo_fieldAddr rfl fl32_1) ?_)
                            refine ow1 (op1_l rfl (lo_load1 (i := 0) (v := .int _ _) rfl ag5 rfl rfl) ?_)
                            refine ow1 (op1_l rfl (lo_eql rfl rfl) ?_)
                            refine ow_nil ?_
                            refine seqK_n ?_
                            refine cw_cond_t rfl h180 ?_
                            refine cw_seq ?_
                            refine cw_region ?_
                            refine ow1 (op1_l rfl (lo_fieldAddr rfl fl32_5) ?_)
                            refine ow1 (op1_l rfl (lo_load1 (i := 0) (v := str _) rfl ag9 rfl rfl) ?_)
                            refine ow1 (op1_pr (r4_Name _ r.name (by first | omega | decide | (simp; done))) (en_f cb50 rfl) rfl ?_)
                            refine ow1 (op1_l rfl (lo_assign (v := .int _ _) rfl) ?_)
                            refine ow_nil ?_
                            refine seqK_n ?_
                            refine cw_ret ?_
                            refine seqK_r ?_
                            refine seqK_r ?_
                            refine fnK_r (res1 rfl (rv_t (v := .int _ _) rfl)) (.refl _) ?_
                            have hbo : besidesOf false = [] := rfl
                            simp only [hbo] at *
                            rw [replyE_doc]
                            simp only [mailE]
                            first | (simp [*]; done) | (simp [*]; omega) | ((repeat' split) <;> first | rfl | omega | (exfalso; simp_all; done) | (exfalso; simp_all; omega))
              · have h201 := not_f h174
                have p202 := dt h201
                refine ow1 (op1_gs rfl h174 rfl ?_)
                refine ow1 (op1_gs rfl h174 rfl ?_)
                refine ow1 (op1_gs rfl h174 rfl ?_)
                refine ow1 (op1_g rfl rfl rfl (lo_pick_f (v := .bool _) rfl h174 rfl) ?_)
                refine ow1 (op1_l rfl (lo_pick_f (v := .bool _) rfl rfl rfl) ?_)
                refine ow_nil ?_
                refine seqK_n ?_
                refine cw_cond_f rfl rfl ?_
                refine cw_skip ?_
                refine seqK_n ?_
                refine cw_seq ?_
                refine cw_seq ?_
                refine cw_region ?_
                refine ow1 (op1_l rfl (lo_fieldAddr rfl fl32_1) ?_)
                refine ow1 (op1_l rfl (lo_load1 (i := 0) (v := .int _ _) rfl ag5 rfl rfl) ?_)
                refine ow1 (op1_l rfl (lo_neq rfl rfl) ?_)
                refine ow_nil ?_
                refine seqK_n ?_
                refine cw_cond rfl (fun h203 => ?_) (fun h203 => ?_)
                · have h204 := not_t h203
                  have p205 := df h204
                  refine cw_seq ?_
                  refine cw_seq ?_
                  refine cw_region ?_
                  refine ow1 (op1_l rfl (lo_fieldAddr rfl fl32_4) ?_)
                  refine ow1 (op1_l rfl (lo_load1 (i := 0) (v := .bool _) rfl ag4 rfl rfl) ?_)
                  refine ow1 (op1_l rfl (lo_move (v := .bool _) rfl) ?_)
                  refine ow_sp (j := 2) rfl (fun h206 => ?_) (fun h206 => ?_)
                  · refine ow1 (op1_gs rfl h206 rfl ?_)
                    refine ow1 (op1_gs rfl h206 rfl ?_)
                    refine ow1 (op1_gs rfl h206 rfl ?_)
                    refine ow1 (op1_l rfl (lo_pick_t (v := .bool _) rfl h206 rfl) ?_)
                    refine ow1 (op1_l rfl (lo_move (v := .bool _) rfl) ?_)
                    refine ow1 (op1_gs rfl rfl rfl ?_)
                    refine ow1 (op1_gs rfl rfl rfl ?_)
                    refine ow1 (op1_gs rfl rfl rfl ?_)
                    refine ow1 (op1_l rfl (lo_pick_t (v := .bool _) rfl rfl rfl) ?_)
                    refine ow1 (op1_l rfl (lo_move (v := .bool _) rfl) ?_)
                    refine ow1 (op1_gs rfl rfl rfl ?_)
                    refine ow1 (op1_gs rfl rfl rfl ?_)
                    refine ow1 (op1_gs rfl rfl rfl ?_)
                    refine ow1 (op1_gs rfl rfl rfl ?_)
                    refine ow1 (op1_l rfl (lo_pick_t (v := .bool _) rfl rfl rfl) ?_)
                    refine ow1 (op1_l rfl (lo_move (v := .bool _) rfl) ?_)
                    refine ow1 (op1_gs rfl rfl rfl ?_)
                    refine ow1 (op1_gs rfl rfl rfl ?_)
                    refine ow1 (op1_gs rfl rfl rfl ?_)
                    refine ow1 (op1_l rfl (lo_pick_t (v := .bool _) rfl rfl rfl) ?_)
                    refine ow_nil ?_
                    refine seqK_n ?_
                    refine cw_cond_t rfl rfl ?_
                    refine cw_seq ?_
                    refine cw_region ?_
                    refine ow1 (op1_l rfl (lo_assign (v := .int _ _) rfl) ?_)
                    refine ow_nil ?_
                    refine seqK_n ?_
                    refine cw_ret ?_
                    refine seqK_r ?_
                    refine seqK_r ?_
                    refine fnK_r (res1 rfl (rv_t (v := .int _ _) rfl)) (.refl _) ?_
                    have hbo : besidesOf false = [] := rfl
                    simp only [hbo] at *
                    rw [replyE_doc]
                    simp only [mailE]
                    first | (simp [*]; done) | (simp [*]; omega) | ((repeat' split) <;> first | rfl | omega | (exfalso; simp_all; done) | (exfalso; simp_all; omega))
                  · refine ow1 (op1_g rfl h206 rfl (lo_fieldAddr rfl fl25_1) ?_)
                    refine ow1 (op1_g rfl h206 rfl (lo_load1 (i := 1) (v := str _) rfl ag9 rfl rfl) ?_)
                    refine ow1 (op1_g rfl h206 rfl (lo_sneq rfl rfl) ?_)
                    refine ow1 (op1_l rfl (lo_pick_f (v := .bool _) rfl h206 rfl) ?_)
                    refine ow1 (op1_l rfl (lo_move (v := .bool _) rfl) ?_)
                    refine ow_sp (j := 7) rfl (fun h207 => ?_) (fun h207 => ?_)
                    · have h208 := not_t h207
                      have p209 := df h208
                      refine ow1 (op1_gs rfl h207 rfl ?_)
                      refine ow1 (op1_gs rfl h207 rfl ?_)
                      refine ow1 (op1_gs rfl h207 rfl ?_)
                      refine ow1 (op1_l rfl (lo_pick_t (v := .bool _) rfl h207 rfl) ?_)
                      refine ow1 (op1_l rfl (lo_move (v := .bool _) rfl) ?_)
                      refine ow1 (op1_gs rfl rfl rfl ?_)
                      refine ow1 (op1_gs rfl rfl rfl ?_)
                      refine ow1 (op1_gs rfl rfl rfl ?_)
                      refine ow1 (op1_gs rfl rfl rfl ?_)
                      refine ow1 (op1_l rfl (lo_pick_t (v := .bool _) rfl rfl rfl) ?_)
                      refine ow1 (op1_l rfl (lo_move (v := .bool _) rfl) ?_)
                      refine ow1 (op1_gs rfl rfl rfl ?_)
                      refine ow1 (op1_gs rfl rfl rfl ?_)
                      refine ow1 (op1_gs rfl rfl rfl ?_)
                      refine ow1 (op1_l rfl (lo_pick_t (v := .bool _) rfl rfl rfl) ?_)
                      refine ow_nil ?_
                      refine seqK_n ?_
                      refine cw_cond_t rfl rfl ?_
                      refine cw_seq ?_
                      refine cw_region ?_
                      refine ow1 (op1_l rfl (lo_assign (v := .int _ _) rfl) ?_)
                      refine ow_nil ?_
                      refine seqK_n ?_
                      refine cw_ret ?_
                      refine seqK_r ?_
                      refine seqK_r ?_
                      refine fnK_r (res1 rfl (rv_t (v := .int _ _) rfl)) (.refl _) ?_
                      have hbo : besidesOf false = [] := rfl
                      simp only [hbo] at *
                      rw [replyE_doc]
                      simp only [mailE]
                      first | (simp [*]; done) | (simp [*]; omega) | ((repeat' split) <;> first | rfl | omega | (exfalso; simp_all; done) | (exfalso; simp_all; omega))
                    · have h210 := not_f h207
                      have p211 := dt h210
                      refine ow1 (op1_g rfl h207 rfl (lo_fieldAddr rfl fl25_2) ?_)
                      refine ow1 (op1_g rfl h207 rfl (lo_load1 (i := 1) (v := str _) rfl ag9 rfl rfl) ?_)
                      refine ow1 (op1_g rfl h207 rfl (lo_sneq rfl rfl) ?_)
                      refine ow1 (op1_l rfl (lo_pick_f (v := .bool _) rfl h207 rfl) ?_)
                      refine ow1 (op1_l rfl (lo_move (v := .bool _) rfl) ?_)
                      refine ow_sp (j := 12) rfl (fun h212 => ?_) (fun h212 => ?_)
                      · have h213 := not_t h212
                        have p214 := df h213
                        refine ow1 (op1_gs rfl h212 rfl ?_)
                        refine ow1 (op1_gs rfl h212 rfl ?_)
                        refine ow1 (op1_gs rfl h212 rfl ?_)
                        refine ow1 (op1_gs rfl h212 rfl ?_)
                        refine ow1 (op1_l rfl (lo_pick_t (v := .bool _) rfl h212 rfl) ?_)
                        refine ow1 (op1_l rfl (lo_move (v := .bool _) rfl) ?_)
                        refine ow1 (op1_gs rfl rfl rfl ?_)
                        refine ow1 (op1_gs rfl rfl rfl ?_)
                        refine ow1 (op1_gs rfl rfl rfl ?_)
                        refine ow1 (op1_l rfl (lo_pick_t (v := .bool _) rfl rfl rfl) ?_)
                        refine ow_nil ?_
                        refine seqK_n ?_
                        refine cw_cond_t rfl rfl ?_
                        refine cw_seq ?_
                        refine cw_region ?_
                        refine ow1 (op1_l rfl (lo_assign (v := .int _ _) rfl) ?_)
                        refine ow_nil ?_
                        refine seqK_n ?_
                        refine cw_ret ?_
                        refine seqK_r ?_
                        refine seqK_r ?_
                        refine fnK_r (res1 rfl (rv_t (v := .int _ _) rfl)) (.refl _) ?_
                        have hbo : besidesOf false = [] := rfl
                        simp only [hbo] at *
                        rw [replyE_doc]
                        simp only [mailE]
                        first | (simp [*]; done) | (simp [*]; omega) | ((repeat' split) <;> first | rfl | omega | (exfalso; simp_all; done) | (exfalso; simp_all; omega))
                      · have h215 := not_f h212
                        have p216 := dt h215
                        refine ow1 (op1_g rfl h212 rfl (lo_fieldAddr rfl fl25_3) ?_)
                        refine ow1 (op1_g rfl h212 rfl (lo_load1 (i := 1) (v := .slice _ _ _) rfl ag23 rfl rfl) ?_)
                        refine ow1 (op1_g rfl h212 rfl (lo_len_slh rfl r_mail_head_h Tryd.underlying23) ?_)
                        refine ow1 (op1_g rfl h212 rfl (lo_gtr rfl rfl) ?_)
                        refine ow1 (op1_l rfl (lo_pick_f (v := .bool _) rfl h212 rfl) ?_)
                        refine ow1 (op1_l rfl (lo_move (v := .bool _) rfl) ?_)
                        refine ow_sp (j := 18) rfl (fun h217 => ?_) (fun h217 => ?_)
                        · have p218 := dt h217
                          refine ow1 (op1_gs rfl h217 rfl ?_)
                          refine ow1 (op1_gs rfl h217 rfl ?_)
                          refine ow1 (op1_gs rfl h217 rfl ?_)
                          refine ow1 (op1_l rfl (lo_pick_t (v := .bool _) rfl h217 rfl) ?_)
                          refine ow_nil ?_
                          refine seqK_n ?_
                          refine cw_cond_t rfl rfl ?_
                          refine cw_seq ?_
                          refine cw_region ?_
                          refine ow1 (op1_l rfl (lo_assign (v := .int _ _) rfl) ?_)
                          refine ow_nil ?_
                          refine seqK_n ?_
                          refine cw_ret ?_
                          refine seqK_r ?_
                          refine seqK_r ?_
                          refine fnK_r (res1 rfl (rv_t (v := .int _ _) rfl)) (.refl _) ?_
                          have hbo : besidesOf false = [] := rfl
                          simp only [hbo] at *
                          rw [replyE_doc]
                          simp only [mailE]
                          first | (simp [*]; done) | (simp [*]; omega) | ((repeat' split) <;> first | rfl | omega | (exfalso; simp_all; done) | (exfalso; simp_all; omega))
                        · have p219 := df h217
                          refine ow1 (op1_g rfl h217 rfl (lo_fieldAddr rfl fl25_4) ?_)
                          refine ow1 (op1_g rfl h217 rfl (lo_load1 (i := 1) (v := str _) rfl ag9 rfl rfl) ?_)
                          refine ow1 (op1_g rfl h217 rfl (lo_sneq rfl rfl) ?_)
                          refine ow1 (op1_l rfl (lo_pick_f (v := .bool _) rfl h217 rfl) ?_)
                          refine ow_nil ?_
                          refine seqK_n ?_
                          refine cw_cond rfl (fun h220 => ?_) (fun h220 => ?_)
                          · have h221 := not_t h220
                            have p222 := df h221
                            refine cw_seq ?_
                            refine cw_region ?_
                            refine ow1 (op1_l rfl (lo_assign (v := .int _ _) rfl) ?_)
                            refine ow_nil ?_
                            refine seqK_n ?_
                            refine cw_ret ?_
                            refine seqK_r ?_
                            refine seqK_r ?_
                            refine fnK_r (res1 rfl (rv_t (v := .int _ _) rfl)) (.refl _) ?_
                            have hbo : besidesOf false = [] := rfl
                            simp only [hbo] at *
                            rw [replyE_doc]
                            simp only [mailE]
                            first | (simp [*]; done) | (simp [*]; omega) | ((repeat' split) <;> first | rfl | omega | (exfalso; simp_all; done) | (exfalso; simp_all; omega))
                          · have h223 := not_f h220
                            have p224 := dt h223
                            refine cw_skip ?_
                            refine seqK_n ?_
                            refine cw_seq ?_
                            refine cw_seq ?_
                            refine cw_region ?_
                            refine ow1 (op1_l rfl (lo_fieldAddr rfl fl32_1) ?_)
                            refine ow1 (op1_l rfl (lo_load1 (i := 0) (v := .int _ _) rfl ag5 rfl rfl) ?_)
                            refine ow1 (op1_l rfl (lo_eql rfl rfl) ?_)
                            refine ow_nil ?_
                            refine seqK_n ?_
                            refine cw_cond rfl (fun h225 => ?_) (fun h225 => ?_)
                            · have p226 := dt h225
                              refine cw_seq ?_
                              refine cw_region ?_
                              refine ow1 (op1_l rfl (lo_fieldAddr rfl fl32_5) ?_)
                              refine ow1 (op1_l rfl (lo_load1 (i := 0) (v := str _) rfl ag9 rfl rfl) ?_)
                              refine ow1 (op1_pr (r4_Name _ r.name (by first | omega | decide | (simp; done))) (en_f cb50 rfl) rfl ?_)
                              refine ow1 (op1_l rfl (lo_assign (v := .int _ _) rfl) ?_)
                              refine ow_nil ?_
                              refine seqK_n ?_
                              refine cw_ret ?_
                              refine seqK_r ?_
                              refine seqK_r ?_
                              refine fnK_r (res1 rfl (rv_t (v := .int _ _) rfl)) (.refl _) ?_
                              have hbo : besidesOf false = [] := rfl
                              simp only [hbo] at *
                              rw [replyE_doc]
                              simp only [mailE]
                              first | (simp [*]; done) | (simp [*]; omega) | ((repeat' split) <;> first | rfl | omega | (exfalso; simp_all; done) | (exfalso; simp_all; omega))
                            · have p227 := df h225
                              refine cw_skip ?_
                              refine seqK_n ?_
                              refine cw_seq ?_
                              refine cw_region ?_
                              refine ow1 (op1_l rfl (lo_assign (v := .int _ _) rfl) ?_)
                              refine ow_nil ?_
                              refine seqK_n ?_
                              refine cw_ret ?_
                              refine seqK_r ?_
                              refine fnK_r (res1 rfl (rv_t (v := .int _ _) rfl)) (.refl _) ?_
                              have hbo : besidesOf false = [] := rfl
                              simp only [hbo] at *
                              rw [replyE_doc]
                              simp only [mailE]
                              first | (simp [*]; done) | (simp [*]; omega) | ((repeat' split) <;> first | rfl | omega | (exfalso; simp_all; done) | (exfalso; simp_all; omega))
                · have h228 := not_f h203
                  have p229 := dt h228
                  refine cw_skip ?_
                  refine seqK_n ?_
                  refine cw_seq ?_
                  refine cw_region ?_
                  refine ow1 (op1_l rfl (lo_fieldAddr rfl fl25_1) ?_)
                  refine ow1 (op1_l rfl (lo_load1 (i := 1) (v := str _) rfl ag9 rfl rfl) ?_)
                  refine ow1 (op1_pr (r4_Name _ r.mail.shop (by first | omega | decide | (simp; done))) (en_f cb50 rfl) rfl ?_)
                  refine ow1 (op1_l rfl (lo_assign (v := .int _ _) rfl) ?_)
                  refine ow_nil ?_
                  refine seqK_n ?_
                  refine cw_seq ?_
                  refine cw_seq ?_
                  refine cw_region ?_
                  refine ow1 (op1_l rfl (lo_move (v := .int _ _) rfl) ?_)
                  refine ow1 (op1_l rfl (lo_eql rfl rfl) ?_)
                  refine ow_nil ?_
                  refine seqK_n ?_
                  refine cw_cond rfl (fun h230 => ?_) (fun h230 => ?_)
                  · have p231 := dt h230
                    refine cw_region ?_
                    refine ow1 (op1_l rfl (lo_fieldAddr rfl fl25_2) ?_)
                    refine ow1 (op1_l rfl (lo_load1 (i := 1) (v := str _) rfl ag9 rfl rfl) ?_)
                    refine ow1 (op1_pr (r4_Key _ r.mail.key false) (en_f cb51 rfl) rfl ?_)
                    refine ow1 (op1_l rfl (lo_assign (v := .int _ _) rfl) ?_)
                    refine ow_nil ?_
                    refine seqK_n ?_
                    refine cw_seq ?_
                    refine cw_seq ?_
                    refine cw_region ?_
                    refine ow1 (op1_l rfl (lo_move (v := .int _ _) rfl) ?_)
                    refine ow1 (op1_l rfl (lo_eql rfl rfl) ?_)
                    refine ow_nil ?_
                    refine seqK_n ?_
                    refine cw_cond rfl (fun h232 => ?_) (fun h232 => ?_)
                    · have p233 := dt h232
                      refine cw_region ?_
                      refine ow1 (op1_l rfl (lo_fieldAddr rfl fl25_3) ?_)
                      refine ow1 (op1_l rfl (lo_load1 (i := 1) (v := .slice _ _ _) rfl ag23 rfl rfl) ?_)
                      refine ow1 (op1_pr (r9_Check _ r_mail_head_a r.mail.head.length r_mail_head_c r.mail.head r_mail_head_h) (en_f cb52 rfl) rfl ?_)
                      refine ow1 (op1_l rfl (lo_assign (v := .int _ _) rfl) ?_)
                      refine ow_nil ?_
                      refine seqK_n ?_
                      refine cw_seq ?_
                      refine cw_seq ?_
                      refine cw_region ?_
                      refine ow1 (op1_l rfl (lo_move (v := .int _ _) rfl) ?_)
                      refine ow1 (op1_l rfl (lo_eql rfl rfl) ?_)
                      refine ow1 (op1_l rfl (lo_move (v := .bool _) rfl) ?_)
                      refine ow_sp (j := 2) rfl (fun h234 => ?_) (fun h234 => ?_)
                      · have p235 := dt h234
                        refine ow1 (op1_g rfl h234 rfl (lo_fieldAddr rfl fl25_4) ?_)
                        refine ow1 (op1_g rfl h234 rfl (lo_load1 (i := 1) (v := str _) rfl ag9 rfl rfl) ?_)
                        refine ow1 (op1_g rfl h234 rfl (lo_len_str rfl Tryd.underlying9) ?_)
                        refine ow1 (op1_g rfl h234 rfl (lo_gtr rfl rfl) ?_)
                        refine ow1 (op1_l rfl (lo_pick_t (v := .bool _) rfl h234 rfl) ?_)
                        refine ow_nil ?_
                        refine seqK_n ?_
                        refine cw_cond rfl (fun h236 => ?_) (fun h236 => ?_)
                        · have p237 := dt h236
                          refine cw_region ?_
                          refine ow1 (op1_l rfl (lo_assign (v := .int _ _) rfl) ?_)
                          refine ow_nil ?_
                          refine seqK_n ?_
                          refine cw_seq ?_
                          refine cw_region ?_
                          refine ow1 (op1_l rfl (lo_move (v := .int _ _) rfl) ?_)
                          refine ow1 (op1_l rfl (lo_assign (v := .int _ _) rfl) ?_)
                          refine ow_nil ?_
                          refine seqK_n ?_
                          refine cw_ret ?_
                          refine fnK_r (res1 rfl (rv_t (v := .int _ _) rfl)) (.refl _) ?_
                          have hbo : besidesOf false = [] := rfl
                          simp only [hbo] at *
                          rw [replyE_doc]
                          simp only [mailE]
                          first | (simp [*]; done) | (simp [*]; omega) | ((repeat' split) <;> first | rfl | omega | (exfalso; simp_all; done) | (exfalso; simp_all; omega))
                        · have p238 := df h236
                          refine cw_skip ?_
                          refine seqK_n ?_
                          refine cw_seq ?_
                          refine cw_region ?_
                          refine ow1 (op1_l rfl (lo_move (v := .int _ _) rfl) ?_)
                          refine ow1 (op1_l rfl (lo_assign (v := .int _ _) rfl) ?_)
                          refine ow_nil ?_
                          refine seqK_n ?_
                          refine cw_ret ?_
                          refine fnK_r (res1 rfl (rv_t (v := .int _ _) rfl)) (.refl _) ?_
                          have hbo : besidesOf false = [] := rfl
                          simp only [hbo] at *
                          rw [replyE_doc]
                          simp only [mailE]
                          first | (simp [*]; done) | (simp [*]; omega) | ((repeat' split) <;> first | rfl | omega | (exfalso; simp_all; done) | (exfalso; simp_all; omega))
                      · have p239 := df h234
                        refine ow1 (op1_gs rfl h234 rfl ?_)
                        refine ow1 (op1_gs rfl h234 rfl ?_)
                        refine ow1 (op1_gs rfl h234 rfl ?_)
                        refine ow1 (op1_gs rfl h234 rfl ?_)
                        refine ow1 (op1_l rfl (lo_pick_f (v := .bool _) rfl h234 rfl) ?_)
                        refine ow_nil ?_
                        refine seqK_n ?_
                        refine cw_cond_f rfl rfl ?_
                        refine cw_skip ?_
                        refine seqK_n ?_
                        refine cw_seq ?_
                        refine cw_region ?_
                        refine ow1 (op1_l rfl (lo_move (v := .int _ _) rfl) ?_)
                        refine ow1 (op1_l rfl (lo_assign (v := .int _ _) rfl) ?_)
                        refine ow_nil ?_
                        refine seqK_n ?_
                        refine cw_ret ?_
                        refine fnK_r (res1 rfl (rv_t (v := .int _ _) rfl)) (.refl _) ?_
                        have hbo : besidesOf false = [] := rfl
                        simp only [hbo] at *
                        rw [replyE_doc]
                        simp only [mailE]
                        first | (simp [*]; done) | (simp [*]; omega) | ((repeat' split) <;> first | rfl | omega | (exfalso; simp_all; done) | (exfalso; simp_all; omega))
                    · have p240 := df h232
                      refine cw_skip ?_
                      refine seqK_n ?_
                      refine cw_seq ?_
                      refine cw_seq ?_
                      refine cw_region ?_
                      refine ow1 (op1_l rfl (lo_move (v := .int _ _) rfl) ?_)
                      refine ow1 (op1_l rfl (lo_eql rfl rfl) ?_)
                      refine ow1 (op1_l rfl (lo_move (v := .bool _) rfl) ?_)
                      refine ow1 (op1_gs rfl h232 rfl ?_)
                      refine ow1 (op1_gs rfl h232 rfl ?_)
                      refine ow1 (op1_gs rfl h232 rfl ?_)
                      refine ow1 (op1_gs rfl h232 rfl ?_)
                      refine ow1 (op1_l rfl (lo_pick_f (v := .bool _) rfl h232 rfl) ?_)
                      refine ow_nil ?_
                      refine seqK_n ?_
                      refine cw_cond_f rfl rfl ?_
                      refine cw_skip ?_
                      refine seqK_n ?_
                      refine cw_seq ?_
                      refine cw_region ?_
                      refine ow1 (op1_l rfl (lo_move (v := .int _ _) rfl) ?_)
                      refine ow1 (op1_l rfl (lo_assign (v := .int _ _) rfl) ?_)
                      refine ow_nil ?_
                      refine seqK_n ?_
                      refine cw_ret ?_
                      refine fnK_r (res1 rfl (rv_t (v := .int _ _) rfl)) (.refl _) ?_
                      have hbo : besidesOf false = [] := rfl
                      simp only [hbo] at *
                      rw [replyE_doc]
                      simp only [mailE]
                      first | (simp [*]; done) | (simp [*]; omega) | ((repeat' split) <;> first | rfl | omega | (exfalso; simp_all; done) | (exfalso; simp_all; omega))
                  · have p241 := df h230
                    refine cw_skip ?_
                    refine seqK_n ?_
                    refine cw_seq ?_
                    refine cw_seq ?_
                    refine cw_region ?_
                    refine ow1 (op1_l rfl (lo_move (v := .int _ _) rfl) ?_)
                    refine ow1 (op1_l rfl (lo_eql rfl rfl) ?_)
                    refine ow_nil ?_
                    refine seqK_n ?_
                    refine cw_cond_f rfl h230 ?_
                    refine cw_skip ?_
                    refine seqK_n ?_
                    refine cw_seq ?_
                    refine cw_seq ?_
                    refine cw_region ?_
                    refine ow1 (op1_l rfl (lo_move (v := .int _ _) rfl) ?_)
                    refine ow1 (op1_l rfl (lo_eql rfl rfl) ?_)
                    refine ow1 (op1_l rfl (lo_move (v := .bool _) rfl) ?_)
                    refine ow1 (op1_gs rfl h230 rfl ?_)
                    refine ow1 (op1_gs rfl h230 rfl ?_)
                    refine ow1 (op1_gs rfl h230 rfl ?_)
                    refine ow1 (op1_gs rfl h230 rfl ?_)
                    refine ow1 (op1_l rfl (lo_pick_f (v := .bool _) rfl h230 rfl) ?_)
                    refine ow_nil ?_
                    refine seqK_n ?_
                    refine cw_cond_f rfl rfl ?_
                    refine cw_skip ?_
                    refine seqK_n ?_
                    refine cw_seq ?_
                    refine cw_region ?_
                    refine ow1 (op1_l rfl (lo_move (v := .int _ _) rfl) ?_)
                    refine ow1 (op1_l rfl (lo_assign (v := .int _ _) rfl) ?_)
                    refine ow_nil ?_
                    refine seqK_n ?_
                    refine cw_ret ?_
                    refine fnK_r (res1 rfl (rv_t (v := .int _ _) rfl)) (.refl _) ?_
                    have hbo : besidesOf false = [] := rfl
                    simp only [hbo] at *
                    rw [replyE_doc]
                    simp only [mailE]
                    first | (simp [*]; done) | (simp [*]; omega) | ((repeat' split) <;> first | rfl | omega | (exfalso; simp_all; done) | (exfalso; simp_all; omega))

theorem r1_Num (H : Hp) (n : Int) (n_r : 0 ≤ n ∧ n ≤ 18446744073709551615) (bytes : Int) (bytes_r : -9223372036854775808 ≤ bytes ∧ bytes ≤ 9223372036854775807) : Pr Tryd.prog 57 #[.int .u64 n, .int .i64 bytes] H (str (numB (numK bytes) n.toNat)) := by
  refine pr_cw Tryd.func57 rfl Tryd.ntmps57 rfl (fun N => ?_)
  refine cw_seq ?_
  refine cw_region ?_
  refine ow1 (op1_l rfl (lo_assign (v := str _) rfl) ?_)
  refine ow_nil ?_
  refine seqK_n ?_
  refine cw_seq ?_
  refine cw_seq ?_
  refine cw_region ?_
  refine ow1 (op1_l rfl (lo_move (v := .int _ _) rfl) ?_)
  refine ow1 (op1_l rfl (lo_gtr rfl rfl) ?_)
  refine ow_nil ?_
  refine seqK_n ?_
  refine cw_cond rfl (fun h1 => ?_) (fun h1 => ?_)
  · have p2 := dt h1
    refine cw_region ?_
    refine ow1 (op1_l rfl (lo_assign (v := .int _ _) rfl) ?_)
    refine ow_nil ?_
    refine seqK_n ?_
    refine cw_seq ?_
    refine cw_seq ?_
    refine cw_region ?_
    refine ow1 (op1_l rfl (lo_move (v := .int _ _) rfl) ?_)
    refine ow1 (op1_l rfl (lo_leq rfl rfl) ?_)
    refine ow_nil ?_
    refine seqK_n ?_
    refine cw_cond_f rfl (by decide) ?_
    refine cw_skip ?_
    refine seqK_n ?_
    refine cw_seq ?_
    refine cw_anyL mixd ?_
    refine vw_q 0 rfl (by kernel_rfl) (by repeat (first | exact lle_l0 | exact LLe.refl _ | exact lle_none | refine lle_up ?_ rfl)) (fun _ _ hh hl => lo_move (v := .int _ _) rfl) ?_
    refine vw_q 1 rfl (by kernel_rfl) (by repeat (first | exact lle_l0 | exact LLe.refl _ | exact lle_none | refine lle_up ?_ rfl)) (fun _ _ hh hl => lo_quo rfl rfl (by omega) ((rg_u64 (by omega))).2 (by omega)) ?_
    refine vw_q 2 rfl (by kernel_rfl) (by repeat (first | exact lle_l0 | exact LLe.refl _ | exact lle_none | refine lle_up ?_ rfl)) (fun _ _ hh hl => lo_move (v := .int _ _) rfl) ?_
    refine vw_q 3 rfl (by kernel_rfl) (by repeat (first | exact lle_l0 | exact LLe.refl _ | exact lle_none | refine lle_up ?_ rfl)) (fun _ _ hh hl => lo_sub rfl rfl (rg_i64 (by omega))) ?_
    have := numB_len (numK (8 - 1)) ((n / 256)).toNat
    have := numK_le (8 - 1)
    refine vw_qc 4 rfl (by kernel_rfl) (by repeat (first | exact lle_l0 | exact LLe.refl _ | exact lle_none | refine lle_up ?_ rfl)) (r1_Num _ (n / 256) (by omega) (8 - 1) (by omega)) (en_f cb57 rfl) ?_
    refine vw_q 5 rfl (by kernel_rfl) (by repeat (first | exact lle_l0 | exact LLe.refl _ | exact lle_none | refine lle_up ?_ rfl)) (fun _ _ hh hl => lo_move (v := .int _ _) rfl) ?_
    refine vw_q 6 rfl (by kernel_rfl) (by repeat (first | exact lle_l0 | exact LLe.refl _ | exact lle_none | refine lle_up ?_ rfl)) (fun _ _ hh hl => lo_rem rfl rfl (by omega) (by omega)) ?_
    refine vw_q 7 rfl (by kernel_rfl) (by repeat (first | exact lle_l0 | exact LLe.refl _ | exact lle_none | refine lle_up ?_ rfl)) (fun _ _ hh hl => lo_conv_in rfl (by rw [Tryd.underlying22]; rfl) Tryd.underlying5 (rg_u8 (by omega))) ?_
    refine vw_tp 8 rfl (by kernel_rfl) (by kernel_rfl) (op1_bslice (cs := [_]) 0 rfl Tryd.underlying101 sz5 zx5 rfl ⟨rfl, rfl, trivial⟩ rfl rfl (by decide) (fun b3 => ?_))
    refine ⟨(.refl _), ?_⟩
    refine vw_e 9 rfl (by kernel_rfl) (op1_l rfl (lo_b2s (i := 0) [UInt8.ofNat ((n % 256)).toNat] rfl Tryd.underlying101 Tryd.underlying9 Tryd.underlying5 rfl (by simp only [List.map_cons, List.map_nil]; rw [u8v_of (by omega) (by omega)]; rfl)) ?_)
    refine ⟨⟨(.refl _), (by repeat (first | exact lle_l0 | exact LLe.refl _ | exact lle_none | refine lle_up ?_ rfl))⟩, ?_⟩
    refine vw_q 10 rfl (by kernel_rfl) (by repeat (first | exact lle_l0 | exact LLe.refl _ | exact lle_none | refine lle_up ?_ rfl)) (fun _ _ hh hl => lo_cat rfl rfl (by first | omega | (simp only [List.length_append, List.length_cons, List.length_nil]; omega))) ?_
    refine vw_q 11 rfl (by kernel_rfl) (by repeat (first | exact lle_l0 | exact LLe.refl _ | exact lle_none | refine lle_up ?_ rfl)) (fun _ _ hh hl => lo_assign (v := str _) rfl) ?_
    refine vw_done (by kernel_rfl) ?_
    refine seqK_n ?_
    refine cw_ret ?_
    refine fnK_r (res1 rfl (rv_t (v := str _) rfl)) (.refl _) ?_
    first
      | (rw [num_doc n_r.1 (by omega) (by omega)]; done)
      | (rw [show numK bytes = numK 8 by unfold numK; omega, num_doc (b := 8) n_r.1 (by omega) (by omega)]; done)
      | (rw [show numK bytes = 0 by unfold numK; omega]; rfl)
  · have p4 := df h1
    refine cw_skip ?_
    refine seqK_n ?_
    refine cw_seq ?_
    refine cw_seq ?_
    refine cw_region ?_
    refine ow1 (op1_l rfl (lo_move (v := .int _ _) rfl) ?_)
    refine ow1 (op1_l rfl (lo_leq rfl rfl) ?_)
    refine ow_nil ?_
    refine seqK_n ?_
    refine cw_cond rfl (fun h5 => ?_) (fun h5 => ?_)
    · have p6 := dt h5
      refine cw_seq ?_
      refine cw_region ?_
      refine ow1 (op1_l rfl (lo_assign (v := str _) rfl) ?_)
      refine ow_nil ?_
      refine seqK_n ?_
      refine cw_ret ?_
      refine seqK_r ?_
      refine fnK_r (res1 rfl (rv_t (v := str _) rfl)) (.refl _) ?_
      first
        | (rw [num_doc n_r.1 (by omega) (by omega)]; done)
        | (rw [show numK bytes = numK 8 by unfold numK; omega, num_doc (b := 8) n_r.1 (by omega) (by omega)]; done)
        | (rw [show numK bytes = 0 by unfold numK; omega]; rfl)
    · have p7 := df h5
      refine cw_skip ?_
      refine seqK_n ?_
      refine cw_seq ?_
      refine cw_anyL mixd ?_
      refine vw_q 0 rfl (by kernel_rfl) (by repeat (first | exact lle_l0 | exact LLe.refl _ | exact lle_none | refine lle_up ?_ rfl)) (fun _ _ hh hl => lo_move (v := .int _ _) rfl) ?_
      refine vw_q 1 rfl (by kernel_rfl) (by repeat (first | exact lle_l0 | exact LLe.refl _ | exact lle_none | refine lle_up ?_ rfl)) (fun _ _ hh hl => lo_quo rfl rfl (by omega) ((rg_u64 (by omega))).2 (by omega)) ?_
      refine vw_q 2 rfl (by kernel_rfl) (by repeat (first | exact lle_l0 | exact LLe.refl _ | exact lle_none | refine lle_up ?_ rfl)) (fun _ _ hh hl => lo_move (v := .int _ _) rfl) ?_
      refine vw_q 3 rfl (by kernel_rfl) (by repeat (first | exact lle_l0 | exact LLe.refl _ | exact lle_none | refine lle_up ?_ rfl)) (fun _ _ hh hl => lo_sub rfl rfl (rg_i64 (by omega))) ?_
      have := numB_len (numK (bytes - 1)) ((n / 256)).toNat
      have := numK_le (bytes - 1)
      refine vw_qc 4 rfl (by kernel_rfl) (by repeat (first | exact lle_l0 | exact LLe.refl _ | exact lle_none | refine lle_up ?_ rfl)) (r1_Num _ (n / 256) (by omega) (bytes - 1) (by omega)) (en_f cb57 rfl) ?_
      refine vw_q 5 rfl (by kernel_rfl) (by repeat (first | exact lle_l0 | exact LLe.refl _ | exact lle_none | refine lle_up ?_ rfl)) (fun _ _ hh hl => lo_move (v := .int _ _) rfl) ?_
      refine vw_q 6 rfl (by kernel_rfl) (by repeat (first | exact lle_l0 | exact LLe.refl _ | exact lle_none | refine lle_up ?_ rfl)) (fun _ _ hh hl => lo_rem rfl rfl (by omega) (by omega)) ?_
      refine vw_q 7 rfl (by kernel_rfl) (by repeat (first | exact lle_l0 | exact LLe.refl _ | exact lle_none | refine lle_up ?_ rfl)) (fun _ _ hh hl => lo_conv_in rfl (by rw [Tryd.underlying22]; rfl) Tryd.underlying5 (rg_u8 (by omega))) ?_
      refine vw_tp 8 rfl (by kernel_rfl) (by kernel_rfl) (op1_bslice (cs := [_]) 0 rfl Tryd.underlying101 sz5 zx5 rfl ⟨rfl, rfl, trivial⟩ rfl rfl (by decide) (fun b8 => ?_))
      refine ⟨(.refl _), ?_⟩
      refine vw_e 9 rfl (by kernel_rfl) (op1_l rfl (lo_b2s (i := 0) [UInt8.ofNat ((n % 256)).toNat] rfl Tryd.underlying101 Tryd.underlying9 Tryd.underlying5 rfl (by simp only [List.map_cons, List.map_nil]; rw [u8v_of (by omega) (by omega)]; rfl)) ?_)
      refine ⟨⟨(.refl _), (by repeat (first | exact lle_l0 | exact LLe.refl _ | exact lle_none | refine lle_up ?_ rfl))⟩, ?_⟩
      refine vw_q 10 rfl (by kernel_rfl) (by repeat (first | exact lle_l0 | exact LLe.refl _ | exact lle_none | refine lle_up ?_ rfl)) (fun _ _ hh hl => lo_cat rfl rfl (by first | omega | (simp only [List.length_append, List.length_cons, List.length_nil]; omega))) ?_
      refine vw_q 11 rfl (by kernel_rfl) (by repeat (first | exact lle_l0 | exact LLe.refl _ | exact lle_none | refine lle_up ?_ rfl)) (fun _ _ hh hl => lo_assign (v := str _) rfl) ?_
      refine vw_done (by kernel_rfl) ?_
      refine seqK_n ?_
      refine cw_ret ?_
      refine fnK_r (res1 rfl (rv_t (v := str _) rfl)) (.refl _) ?_
      first
        | (rw [num_doc n_r.1 (by omega) (by omega)]; done)
        | (rw [show numK bytes = numK 8 by unfold numK; omega, num_doc (b := 8) n_r.1 (by omega) (by omega)]; done)
        | (rw [show numK bytes = 0 by unfold numK; omega]; rfl)
termination_by numK bytes
decreasing_by all_goals (unfold numK; omega)

theorem r1_Text (H : Hp) (s : Bs) (hs : s.length ≤ 4611686018427387904) : Pr Tryd.prog 56 #[str s] H (str (txtB s)) := by
  refine pr_cw Tryd.func56 rfl Tryd.ntmps56 rfl (fun N => ?_)
  refine cw_seq ?_
  refine cw_region ?_
  refine ow1 (op1_l rfl (lo_assign (v := str _) rfl) ?_)
  refine ow_nil ?_
  refine seqK_n ?_
  refine cw_seq ?_
  refine cw_region ?_
  refine ow1 (op1_l rfl (lo_move (v := str _) rfl) ?_)
  refine ow1 (op1_l rfl (lo_len_str rfl Tryd.underlying9) ?_)
  refine ow1 (op1_l rfl (lo_conv_in rfl (by rw [Tryd.underlying3]; rfl) Tryd.underlying22 (rg_u64 (by omega))) ?_)
  refine ow1 (op1_pr (r1_Num _ (s.length : Int) (by omega) 2 (by omega)) (en_f cb57 rfl) rfl ?_)
  have := numB_len (numK 2) ((s.length : Int)).toNat
  have := numK_le 2
  have : numK 2 = 2 := by decide
  refine ow1 (op1_l rfl (lo_move (v := str _) rfl) ?_)
  refine ow1 (op1_l rfl (lo_cat rfl rfl (by first | omega | (simp <;> omega))) ?_)
  refine ow1 (op1_l rfl (lo_assign (v := str _) rfl) ?_)
  refine ow_nil ?_
  refine seqK_n ?_
  refine cw_ret ?_
  refine fnK_r (res1 rfl (rv_t (v := str _) rfl)) (.refl _) ?_
  unfold txtB
  rw [show numK 2 = 2 by decide, Int.toNat_natCast]

theorem r9_Bytes (H : Hp) (h_a : Option Addr) (h_l h_c : Nat) (h : List Pair) (h_h : SlH pairE 4 H (.slice h_a h_l h_c) h) (hs : smallH h) : Pr Tryd.prog 58 #[.slice h_a h_l h_c] H (str (r9B h)) := by
  refine pr_cw Tryd.func58 rfl Tryd.ntmps58 rfl (fun N => ?_)
  have hs1 := hs.1
  refine cw_seq ?_
  refine cw_region ?_
  refine ow1 (op1_l rfl (lo_assign (v := str _) rfl) ?_)
  refine ow_nil ?_
  refine seqK_n ?_
  refine cw_seq ?_
  refine cw_region ?_
  refine ow1 (op1_l rfl (lo_move (v := .slice _ _ _) rfl) ?_)
  refine ow1 (op1_l rfl (lo_len_slh rfl h_h Tryd.underlying23) ?_)
  refine ow1 (op1_l rfl (lo_conv_in rfl (by rw [Tryd.underlying3]; rfl) Tryd.underlying22 (rg_u64 (by omega))) ?_)
  refine ow1 (op1_pr (r1_Num _ (h.length : Int) (by omega) 1 (by omega)) (en_f cb57 rfl) rfl ?_)
  have := numB_len (numK 1) ((h.length : Int)).toNat
  have := numK_le 1
  have : numK 1 = 1 := by decide
  refine ow1 (op1_l rfl (lo_assign (v := str _) rfl) ?_)
  refine ow_nil ?_
  refine seqK_n ?_
  refine cw_seq ?_
  refine cw_seq ?_
  refine cw_region ?_
  refine ow1 (op1_l rfl (lo_move (v := .slice _ _ _) rfl) ?_)
  refine ow1 (op1_l rfl (lo_len_slh rfl h_h Tryd.underlying23) ?_)
  refine ow1 (op1_l rfl (lo_move (v := .int _ _) rfl) ?_)
  refine ow_nil ?_
  refine seqK_n ?_
  refine cw_block ?_
  refine cw_loop2 [3, 5, 12, 13, 14, 15, 16, 17, 18, 19, 20, 21, 22, 23, 24, 25, 26, 27, 28, 29, 30, 31, 32, 33, 34, 35, 36, 37, 38, 39, 40, 41, 42, 43, 44, 45, 46, 47, 48, 49] [0] (fun (k : Nat) (acc : Bs) G => upd (upd (G) 12 (.int .i64 (k : Int))) 3 (str acc)) (fun (k : Nat) (acc : Bs) G => G) (fun (k : Nat) (acc : Bs) H' => k ≤ h.length ∧ r9B h = acc ++ (h.drop k).flatMap pairB ∧ acc.length ≤ 1 + 2100 * k) (fun (k : Nat) (acc : Bs) => h.length - k) 0 (numB (numK 1) (h.length : Int).toNat) (upd_intro (upd_intro (mask_intro (by first | exact off_refl | (repeat (first | exact off_mask | refine off_upd rfl ?_ | refine off_mask2 rfl ?_)))) rfl) rfl) (lmask_intro offl_refl) ?_ ?_
  · exact ⟨Nat.zero_le _, by unfold r9B; rw [show numK 1 = 1 by decide, Int.toNat_natCast]; simp, by omega⟩
  · intro k acc J2 JL2 H2 hp1 hl2
    obtain ⟨hk1, hk2, hk3⟩ := hp1
    refine cw_seq ?_
    refine cw_region ?_
    refine ow1 (op1_l rfl (lo_lss rfl rfl) ?_)
    refine ow_nil ?_
    refine seqK_n ?_
    refine cw_seq ?_
    refine cw_cond rfl (fun h3 => ?_) (fun h3 => ?_)
    · have p4 := dt h3
      refine cw_skip ?_
      refine seqK_n ?_
      refine cw_seq ?_
      refine cw_block ?_
      refine cw_seq ?_
      refine cw_region ?_
      obtain ⟨c5, hc6⟩ := getE (xs := h) (m := k) (by omega)
      obtain ⟨cs7, hE8, at9⟩ := (h_h.mono ((HLe.refl _).trans hl2) (fun _ _ h => h)).get hc6
      obtain ⟨rfl, c5_w⟩ := hE8
      have c5_w' := c5_w
      simp only [Pair.wf] at c5_w'
      have hsm0 := hs.2 c5 (List.mem_of_getElem? hc6)
      refine ow1 (op1_l rfl (lo_indexAddr rfl rfl (h_h.mono ((HLe.refl _).trans hl2) (fun _ _ h => h)).1 at9 Tryd.underlying23 sz94 (by omega) (by omega)) ?_)
      refine ow1 (op1_l rfl (lo_loadEA rfl ag94 sz94 at9) ?_)
      refine ow1 (op1_alloc 0 rfl zr94 (fun b10 => ?_))
      refine ow1 (op1_storeA (i := 0) (vs := [_, _, _, _]) rfl rfl rfl sz94 rfl rfl rfl ?_)
      refine ow_nil ?_
      refine seqK_n ?_
      refine cw_seq ?_
      refine cw_anyL mixd ?_
      refine vw_q 0 rfl (by kernel_rfl) (by repeat (first | exact lle_l0 | exact LLe.refl _ | exact lle_none | refine lle_up ?_ rfl)) (fun _ _ hh hl => lo_move (v := str _) rfl) ?_
      refine vw_q 1 rfl (by kernel_rfl) (by repeat (first | exact lle_l0 | exact LLe.refl _ | exact lle_none | refine lle_up ?_ rfl)) (fun _ _ hh hl => lo_fieldAddr rfl fl94_0) ?_
      refine vw_q 2 rfl (by kernel_rfl) (by repeat (first | exact lle_l0 | exact LLe.refl _ | exact lle_none | refine lle_up ?_ rfl)) (fun _ _ hh hl => lo_load1 (i := 0) (v := str _) rfl ag9 (hl _ _ rfl) rfl) ?_
      have := txtB_len c5.key
      refine vw_qc 3 rfl (by kernel_rfl) (by repeat (first | exact lle_l0 | exact LLe.refl _ | exact lle_none | refine lle_up ?_ rfl)) (r1_Text _ c5.key (by first | omega | (simp; done) | (simp; omega))) (en_f cb56 rfl) ?_
      refine vw_q 4 rfl (by kernel_rfl) (by repeat (first | exact lle_l0 | exact LLe.refl _ | exact lle_none | refine lle_up ?_ rfl)) (fun _ _ hh hl => lo_cat rfl rfl (by first | omega | (simp <;> omega))) ?_
      refine vw_q 5 rfl (by kernel_rfl) (by repeat (first | exact lle_l0 | exact LLe.refl _ | exact lle_none | refine lle_up ?_ rfl)) (fun _ _ hh hl => lo_fieldAddr rfl fl94_1) ?_
      refine vw_q 6 rfl (by kernel_rfl) (by repeat (first | exact lle_l0 | exact LLe.refl _ | exact lle_none | refine lle_up ?_ rfl)) (fun _ _ hh hl => lo_load1 (i := 0) (v := .int _ _) rfl ag5 (hl _ _ rfl) rfl) ?_
      refine vw_q 7 rfl (by kernel_rfl) (by repeat (first | exact lle_l0 | exact LLe.refl _ | exact lle_none | refine lle_up ?_ rfl)) (fun _ _ hh hl => lo_conv_in rfl (by rw [Tryd.underlying5]; rfl) Tryd.underlying22 (rg_u64 (by omega))) ?_
      have := numB_len (numK 1) (c5.kind).toNat
      have := numK_le 1
      have : numK 1 = 1 := by decide
      refine vw_qc 8 rfl (by kernel_rfl) (by repeat (first | exact lle_l0 | exact LLe.refl _ | exact lle_none | refine lle_up ?_ rfl)) (r1_Num _ c5.kind (by omega) 1 (by omega)) (en_f cb57 rfl) ?_
      refine vw_q 9 rfl (by kernel_rfl) (by repeat (first | exact lle_l0 | exact LLe.refl _ | exact lle_none | refine lle_up ?_ rfl)) (fun _ _ hh hl => lo_cat rfl rfl (by first | omega | (simp <;> omega))) ?_
      refine vw_q 10 rfl (by kernel_rfl) (by repeat (first | exact lle_l0 | exact LLe.refl _ | exact lle_none | refine lle_up ?_ rfl)) (fun _ _ hh hl => lo_assign (v := str _) rfl) ?_
      refine vw_done (by kernel_rfl) ?_
      refine seqK_n ?_
      refine cw_seq ?_
      refine cw_region ?_
      refine ow1 (op1_l rfl (lo_fieldAddr rfl fl94_1) ?_)
      refine ow1 (op1_l rfl (lo_load1 (i := 0) (v := .int _ _) rfl ag5 rfl rfl) ?_)
      refine ow1 (op1_l rfl (lo_eql rfl rfl) ?_)
      refine ow_nil ?_
      refine seqK_n ?_
      refine cw_cond rfl (fun h11 => ?_) (fun h11 => ?_)
      · have p12 := dt h11
        refine cw_region ?_
        refine ow1 (op1_l rfl (lo_move (v := str _) rfl) ?_)
        refine ow1 (op1_l rfl (lo_fieldAddr rfl fl94_2) ?_)
        refine ow1 (op1_l rfl (lo_load1 (i := 0) (v := .int _ _) rfl ag2 rfl rfl) ?_)
        have := wr_u64 c5.num
        refine ow1 (op1_l rfl (lo_conv rfl (by rw [Tryd.underlying2]; rfl) Tryd.underlying22) ?_)
        refine ow1 (op1_pr (r1_Num _ (IntKind.wrap .u64 c5.num) (by omega) 8 (by omega)) (en_f cb57 rfl) rfl ?_)
        have := numB_len (numK 8) ((IntKind.wrap .u64 c5.num)).toNat
        have := numK_le 8
        have : numK 8 = 8 := by decide
        refine ow1 (op1_l rfl (lo_cat rfl rfl (by first | omega | (simp <;> omega))) ?_)
        refine ow1 (op1_l rfl (lo_assign (v := str _) rfl) ?_)
        refine ow_nil ?_
        refine blkK_n ?_
        refine seqK_n ?_
        refine cw_region ?_
        refine ow1 (op1_l rfl (lo_add rfl rfl (rg_i64 (by omega))) ?_)
        refine ow1 (op1_l rfl (lo_move (v := .int _ _) rfl) ?_)
        refine ow_nil ?_
        refine next2 (k + 1) (((acc ++ (txtB c5.key)) ++ (numB (numK 1) c5.kind.toNat)) ++ (numB (numK 8) (IntKind.wrap .u64 c5.num).toNat)) (upd_intro (upd_intro (mask_intro (by first | exact off_refl | (repeat (first | exact off_mask | refine off_upd rfl ?_ | refine off_mask2 rfl ?_)))) rfl) rfl) (lmask_intro (by first | exact offl_refl | (repeat (first | exact offl_mask | refine offl_upd rfl ?_ | refine offl_mask2 rfl ?_)))) hl2 ?_ ?_
        · have hsm := hs.2 c5 (List.mem_of_getElem? hc6)
          have hpl := pairB_len hsm
          have e : (((acc ++ (txtB c5.key)) ++ (numB (numK 1) c5.kind.toNat)) ++ (numB (numK 8) (IntKind.wrap .u64 c5.num).toNat)) = acc ++ pairB c5 := by
            unfold pairB
            have k1 : numK 1 = 1 := by decide
            have k8 : numK 8 = 8 := by decide
            rw [k1]
            first | (rw [if_pos (by omega), k8]; simp; done) | (rw [if_neg (by omega), if_pos (by omega)]; simp; done) | (rw [if_neg (by omega), if_neg (by omega)]; simp; done)
          rw [e]
          refine ⟨by omega, ?_, by rw [List.length_append]; omega⟩
          rw [hk2, dropE hc6, List.flatMap_cons, List.append_assoc]
        · omega
      · have p13 := df h11
        refine cw_seq ?_
        refine cw_region ?_
        refine ow1 (op1_l rfl (lo_fieldAddr rfl fl94_1) ?_)
        refine ow1 (op1_l rfl (lo_load1 (i := 0) (v := .int _ _) rfl ag5 rfl rfl) ?_)
        refine ow1 (op1_l rfl (lo_eql rfl rfl) ?_)
        refine ow_nil ?_
        refine seqK_n ?_
        refine cw_cond rfl (fun h14 => ?_) (fun h14 => ?_)
        · have p15 := dt h14
          refine cw_region ?_
          refine ow1 (op1_l rfl (lo_move (v := str _) rfl) ?_)
          refine ow1 (op1_l rfl (lo_fieldAddr rfl fl94_3) ?_)
          refine ow1 (op1_l rfl (lo_load1 (i := 0) (v := str _) rfl ag9 rfl rfl) ?_)
          refine ow1 (op1_pr (r1_Text _ c5.text (by first | omega | (simp; done) | (simp; omega))) (en_f cb56 rfl) rfl ?_)
          have := txtB_len c5.text
          refine ow1 (op1_l rfl (lo_cat rfl rfl (by first | omega | (simp <;> omega))) ?_)
          refine ow1 (op1_l rfl (lo_assign (v := str _) rfl) ?_)
          refine ow_nil ?_
          refine blkK_n ?_
          refine seqK_n ?_
          refine cw_region ?_
          refine ow1 (op1_l rfl (lo_add rfl rfl (rg_i64 (by omega))) ?_)
          refine ow1 (op1_l rfl (lo_move (v := .int _ _) rfl) ?_)
          refine ow_nil ?_
          refine next2 (k + 1) (((acc ++ (txtB c5.key)) ++ (numB (numK 1) c5.kind.toNat)) ++ (txtB c5.text)) (upd_intro (upd_intro (mask_intro (by first | exact off_refl | (repeat (first | exact off_mask | refine off_upd rfl ?_ | refine off_mask2 rfl ?_)))) rfl) rfl) (lmask_intro (by first | exact offl_refl | (repeat (first | exact offl_mask | refine offl_upd rfl ?_ | refine offl_mask2 rfl ?_)))) hl2 ?_ ?_
          · have hsm := hs.2 c5 (List.mem_of_getElem? hc6)
            have hpl := pairB_len hsm
            have e : (((acc ++ (txtB c5.key)) ++ (numB (numK 1) c5.kind.toNat)) ++ (txtB c5.text)) = acc ++ pairB c5 := by
              unfold pairB
              have k1 : numK 1 = 1 := by decide
              have k8 : numK 8 = 8 := by decide
              rw [k1]
              first | (rw [if_pos (by omega), k8]; simp; done) | (rw [if_neg (by omega), if_pos (by omega)]; simp; done) | (rw [if_neg (by omega), if_neg (by omega)]; simp; done)
            rw [e]
            refine ⟨by omega, ?_, by rw [List.length_append]; omega⟩
            rw [hk2, dropE hc6, List.flatMap_cons, List.append_assoc]
          · omega
        · have p16 := df h14
          refine cw_region ?_
          refine ow1 (op1_l rfl (lo_move (v := str _) rfl) ?_)
          refine ow1 (op1_l rfl (lo_fieldAddr rfl fl94_2) ?_)
          refine ow1 (op1_l rfl (lo_load1 (i := 0) (v := .int _ _) rfl ag2 rfl rfl) ?_)
          have := wr_u64 c5.num
          refine ow1 (op1_l rfl (lo_conv rfl (by rw [Tryd.underlying2]; rfl) Tryd.underlying22) ?_)
          refine ow1 (op1_pr (r1_Num _ (IntKind.wrap .u64 c5.num) (by omega) 1 (by omega)) (en_f cb57 rfl) rfl ?_)
          have := numB_len (numK 1) ((IntKind.wrap .u64 c5.num)).toNat
          have := numK_le 1
          have : numK 1 = 1 := by decide
          refine ow1 (op1_l rfl (lo_cat rfl rfl (by first | omega | (simp <;> omega))) ?_)
          refine ow1 (op1_l rfl (lo_assign (v := str _) rfl) ?_)
          refine ow_nil ?_
          refine blkK_n ?_
          refine seqK_n ?_
          refine cw_region ?_
          refine ow1 (op1_l rfl (lo_add rfl rfl (rg_i64 (by omega))) ?_)
          refine ow1 (op1_l rfl (lo_move (v := .int _ _) rfl) ?_)
          refine ow_nil ?_
          refine next2 (k + 1) (((acc ++ (txtB c5.key)) ++ (numB (numK 1) c5.kind.toNat)) ++ (numB (numK 1) (IntKind.wrap .u64 c5.num).toNat)) (upd_intro (upd_intro (mask_intro (by first | exact off_refl | (repeat (first | exact off_mask | refine off_upd rfl ?_ | refine off_mask2 rfl ?_)))) rfl) rfl) (lmask_intro (by first | exact offl_refl | (repeat (first | exact offl_mask | refine offl_upd rfl ?_ | refine offl_mask2 rfl ?_)))) hl2 ?_ ?_
          · have hsm := hs.2 c5 (List.mem_of_getElem? hc6)
            have hpl := pairB_len hsm
            have e : (((acc ++ (txtB c5.key)) ++ (numB (numK 1) c5.kind.toNat)) ++ (numB (numK 1) (IntKind.wrap .u64 c5.num).toNat)) = acc ++ pairB c5 := by
              unfold pairB
              have k1 : numK 1 = 1 := by decide
              have k8 : numK 8 = 8 := by decide
              rw [k1]
              first | (rw [if_pos (by omega), k8]; simp; done) | (rw [if_neg (by omega), if_pos (by omega)]; simp; done) | (rw [if_neg (by omega), if_neg (by omega)]; simp; done)
            rw [e]
            refine ⟨by omega, ?_, by rw [List.length_append]; omega⟩
            rw [hk2, dropE hc6, List.flatMap_cons, List.append_assoc]
          · omega
    · have p17 := df h3
      refine cw_exit ?_
      refine seqK_e ?_
      refine loopK_e ?_
      refine blkK_hit ?_
      refine seqK_n ?_
      refine cw_seq ?_
      refine cw_region ?_
      refine ow1 (op1_l rfl (lo_move (v := str _) rfl) ?_)
      refine ow1 (op1_l rfl (lo_assign (v := str _) rfl) ?_)
      refine ow_nil ?_
      refine seqK_n ?_
      refine cw_ret ?_
      refine fnK_r (res1 rfl (rv_t (v := str _) rfl)) ((HLe.refl _).trans hl2) ?_
      rw [hk2, List.drop_of_length_le (by omega)]
      simp

end Go.SW
