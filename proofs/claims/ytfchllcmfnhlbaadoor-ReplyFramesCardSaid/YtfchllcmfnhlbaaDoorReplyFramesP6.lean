/-
  A part of the proof of ReplyFrames: The walks of this seat, printed by program: head.one, head.Read, stairwellref09.Read, frame.Same.
-/
import Derived.Test.YtfchllcmfnhlbaaDoorProg
import Derived.Test.YtfchllcmfnhlbaaDoorReplyFramesP2
import Derived.KernelRfl
import Derived.Test.YtfchllcmfnhlbaaDoorReplyFramesP5
set_option linter.unusedVariables false
set_option linter.unusedSimpArgs false

set_option linter.unusedVariables false
set_option maxRecDepth 100000
set_option maxHeartbeats 4000000
namespace Go.SW
open Go.Proofs
theorem bd94_0s (a1 : Bs) (w : World) : (Instr.build 94 #[(0, str a1)]).run Tryd.prog w = .ok (.agg #[str a1, .int .u8 0, .int .i64 0, str []]) w := by kernel_rfl
theorem bd94_0s_1u8 (a1 : Bs) (a2 : Int) (w : World) : (Instr.build 94 #[(0, str a1), (1, .int .u8 a2)]).run Tryd.prog w = .ok (.agg #[str a1, .int .u8 a2, .int .i64 0, str []]) w := by kernel_rfl
theorem cb38 : Callable Tryd.prog 38 := callable_of Tryd.func38 (by kernel_rfl) (by kernel_rfl)
theorem cb95 : Callable Tryd.prog 95 := callable_of Tryd.func95 (by kernel_rfl) (by kernel_rfl)
theorem eqr35 (p q : Frame) (d : Nat) : EqV Tryd.prog (d + 1 + 1) 35 (.agg (Frame.cells p).toArray) (.agg (Frame.cells q).toArray) (decide (p = q)) :=
  EqV.to (eqv_agg Tryd.underlying35 (by kernel_rfl) (eqf_1 (by decide) ag5 rfl rfl (eqv_int Tryd.underlying5) (eqf_1 (by decide) ag5 rfl rfl (eqv_int Tryd.underlying5) (eqf_1 (by decide) ag9 rfl rfl (eqv_str Tryd.underlying9) eqf_nil)))) (by obtain ⟨a0, a1, a2⟩ := p; obtain ⟨b0, b1, b2⟩ := q; rw [Bool.eq_iff_iff]; simp)
theorem eqg35 : Tryd.prog.eqGuardType Tryd.prog.depth 35 = false := by kernel_rfl
theorem sz2 : Sz Tryd.prog 2 1 := fun w => by kernel_rfl

theorem head_one (H : Hp) (i_b : Nat) (i : In) : Pm Tryd.prog 95 #[.pointer (some ⟨i_b, 0, none⟩)] H i_b (bx 95 (In.cells i)) (fun v H' o' => v = .agg (Pair.cells ((readOne i).1)).toArray ∧ H = H' ∧ o' = bx 95 (In.cells ((readOne i).2))) := by
  refine pm_cw Tryd.func95 rfl Tryd.ntmps95 rfl (fun N => ?_)
  refine cw_seq ?_
  refine cw_region ?_
  refine ow1 (op1_alloc 1 rfl zr94 (fun b1 => ?_))
  refine ow_nil ?_
  refine seqK_n ?_
  refine cw_seq ?_
  refine cw_region ?_
  refine ow1 (op1_l rfl (lo_move (v := .pointer (some ⟨_, _, none⟩)) rfl) ?_)
  refine ow1 (op1_pm 0 rfl (in_Text _ i_b i 16 (by omega)) (en_f cb68 rfl) rfl ?_)
  rintro _ _ _ ⟨rfl, rfl, rfl⟩ _
  generalize hq5 : inText i 16 = q2
  have hf6 := inText_len i 16
  simp only [hq5] at hf6
  refine ow1 (op1_l rfl (lo_move (v := .pointer (some ⟨_, _, none⟩)) rfl) ?_)
  refine ow1 (op1_pm 0 rfl (in_Num _ i_b q2.2 1 (by omega)) (en_f cb69 rfl) rfl ?_)
  rintro _ _ _ ⟨rfl, rfl, rfl⟩ _
  generalize hq10 : inNum q2.2 1 = q7
  have hf11 := inNum_r q2.2 1
  simp only [hq10] at hf11
  refine ow1 (op1_l rfl (lo_conv_in rfl (by rw [Tryd.underlying22]; rfl) Tryd.underlying5 (rg_u8 (by omega))) ?_)
  refine ow1 (op1_l rfl (lo_build (v := .agg #[_, _, _, _]) rfl (bd94_0s_1u8 _ _)) ?_)
  refine ow1 (op1_alloc 2 rfl zr94 (fun b12 => ?_))
  refine ow1 (op1_storeA (i := 2) (vs := [_, _, _, _]) rfl rfl rfl sz94 rfl rfl rfl ?_)
  refine ow_nil ?_
  refine seqK_n ?_
  refine cw_seq ?_
  refine cw_seq ?_
  refine cw_region ?_
  refine ow1 (op1_l rfl (lo_fieldAddr rfl fl94_1) ?_)
  refine ow1 (op1_l rfl (lo_load1 (i := 2) (v := .int _ _) rfl ag5 rfl rfl) ?_)
  refine ow_nil ?_
  refine seqK_n ?_
  refine cw_block ?_
  refine cw_seq ?_
  refine cw_region ?_
  refine ow1 (op1_l rfl (lo_eql rfl rfl) ?_)
  refine ow1 (op1_l rfl (lo_assign (v := .bool _) rfl) ?_)
  refine ow_nil ?_
  refine seqK_n ?_
  refine cw_cond rfl (fun h13 => ?_) (fun h13 => ?_)
  · have p14 := dt h13
    refine cw_region ?_
    refine ow1 (op1_l rfl (lo_move (v := .pointer (some ⟨_, _, none⟩)) rfl) ?_)
    refine ow1 (op1_pm 0 rfl (in_Num _ i_b q7.2 8 (by omega)) (en_f cb69 rfl) rfl ?_)
    rintro _ _ _ ⟨rfl, rfl, rfl⟩ _
    generalize hq18 : inNum q7.2 8 = q15
    have hf19 := inNum_r q7.2 8
    simp only [hq18] at hf19
    have := wr_i64 q15.1
    refine ow1 (op1_l rfl (lo_conv rfl (by rw [Tryd.underlying22]; rfl) Tryd.underlying2) ?_)
    refine ow1 (op1_l rfl (lo_fieldAddr rfl fl94_2) ?_)
    refine ow1 (op1_store1 (i := 2) (v := .int _ _) rfl rfl rfl sz2 rfl rfl ?_)
    refine ow_nil ?_
    refine blkK_n ?_
    refine seqK_n ?_
    refine cw_seq ?_
    refine cw_region ?_
    refine ow1 (op1_l rfl (lo_loadA (i := 2) (vs := [_, _, _, _]) rfl ag94 sz94 rfl rfl rfl) ?_)
    refine ow1 (op1_storeA (i := 1) (vs := [_, _, _, _]) rfl rfl rfl sz94 rfl rfl rfl ?_)
    refine ow_nil ?_
    refine seqK_n ?_
    refine cw_ret ?_
    refine fnK_r (res1 rfl (rv_c (i := 1) (vs := [_, _, _, _]) rfl ag94 sz94 rfl rfl rfl)) (.refl _) ?_
    refine ⟨_, rfl, ?_⟩
    have e : readOne i = ((⟨q2.1, q7.1, (IntKind.wrap .i64 q15.1), []⟩ : Pair), q15.2) := by unfold readOne; simp only; (repeat first | simp only [hq5, hq10, hq18] | rw [if_pos (by omega)] | rw [if_neg (by omega)]); all_goals first | rfl | (rw [wrap_i64s (by omega) (by omega)]; done) | (simp [*]; done) | (rw [wrap_i64s (by omega) (by omega)]; simp [*]; done)
    rw [e]
    exact ⟨rfl, rfl, rfl⟩
  · have p20 := df h13
    refine cw_seq ?_
    refine cw_region ?_
    refine ow1 (op1_l rfl (lo_eql rfl rfl) ?_)
    refine ow1 (op1_l rfl (lo_assign (v := .bool _) rfl) ?_)
    refine ow_nil ?_
    refine seqK_n ?_
    refine cw_cond rfl (fun h21 => ?_) (fun h21 => ?_)
    · have p22 := dt h21
      refine cw_region ?_
      refine ow1 (op1_l rfl (lo_move (v := .pointer (some ⟨_, _, none⟩)) rfl) ?_)
      refine ow1 (op1_pm 0 rfl (in_Text _ i_b q7.2 64 (by omega)) (en_f cb68 rfl) rfl ?_)
      rintro _ _ _ ⟨rfl, rfl, rfl⟩ _
      generalize hq26 : inText q7.2 64 = q23
      have hf27 := inText_len q7.2 64
      simp only [hq26] at hf27
      refine ow1 (op1_l rfl (lo_fieldAddr rfl fl94_3) ?_)
      refine ow1 (op1_store1 (i := 2) (v := str _) rfl rfl rfl sz9 rfl rfl ?_)
      refine ow_nil ?_
      refine blkK_n ?_
      refine seqK_n ?_
      refine cw_seq ?_
      refine cw_region ?_
      refine ow1 (op1_l rfl (lo_loadA (i := 2) (vs := [_, _, _, _]) rfl ag94 sz94 rfl rfl rfl) ?_)
      refine ow1 (op1_storeA (i := 1) (vs := [_, _, _, _]) rfl rfl rfl sz94 rfl rfl rfl ?_)
      refine ow_nil ?_
      refine seqK_n ?_
      refine cw_ret ?_
      refine fnK_r (res1 rfl (rv_c (i := 1) (vs := [_, _, _, _]) rfl ag94 sz94 rfl rfl rfl)) (.refl _) ?_
      refine ⟨_, rfl, ?_⟩
      have e : readOne i = ((⟨q2.1, q7.1, 0, q23.1⟩ : Pair), q23.2) := by unfold readOne; simp only; (repeat first | simp only [hq5, hq10, hq26] | rw [if_pos (by omega)] | rw [if_neg (by omega)]); all_goals first | rfl | (rw [wrap_i64s (by omega) (by omega)]; done) | (simp [*]; done) | (rw [wrap_i64s (by omega) (by omega)]; simp [*]; done)
      rw [e]
      exact ⟨rfl, rfl, rfl⟩
    · have p28 := df h21
      refine cw_seq ?_
      refine cw_region ?_
      refine ow1 (op1_l rfl (lo_eql rfl rfl) ?_)
      refine ow1 (op1_l rfl (lo_assign (v := .bool _) rfl) ?_)
      refine ow_nil ?_
      refine seqK_n ?_
      refine cw_cond rfl (fun h29 => ?_) (fun h29 => ?_)
      · have p30 := dt h29
        refine cw_region ?_
        refine ow1 (op1_l rfl (lo_move (v := .pointer (some ⟨_, _, none⟩)) rfl) ?_)
        refine ow1 (op1_pm 0 rfl (in_Num _ i_b q7.2 1 (by omega)) (en_f cb69 rfl) rfl ?_)
        rintro _ _ _ ⟨rfl, rfl, rfl⟩ _
        generalize hq34 : inNum q7.2 1 = q31
        have hf35 := inNum_r q7.2 1
        simp only [hq34] at hf35
        refine ow1 (op1_l rfl (lo_conv_in rfl (by rw [Tryd.underlying22]; rfl) Tryd.underlying2 (rg_i64 (by omega))) ?_)
        refine ow1 (op1_l rfl (lo_fieldAddr rfl fl94_2) ?_)
        refine ow1 (op1_store1 (i := 2) (v := .int _ _) rfl rfl rfl sz2 rfl rfl ?_)
        refine ow_nil ?_
        refine blkK_n ?_
        refine seqK_n ?_
        refine cw_seq ?_
        refine cw_region ?_
        refine ow1 (op1_l rfl (lo_loadA (i := 2) (vs := [_, _, _, _]) rfl ag94 sz94 rfl rfl rfl) ?_)
        refine ow1 (op1_storeA (i := 1) (vs := [_, _, _, _]) rfl rfl rfl sz94 rfl rfl rfl ?_)
        refine ow_nil ?_
        refine seqK_n ?_
        refine cw_ret ?_
        refine fnK_r (res1 rfl (rv_c (i := 1) (vs := [_, _, _, _]) rfl ag94 sz94 rfl rfl rfl)) (.refl _) ?_
        refine ⟨_, rfl, ?_⟩
        have e : readOne i = ((⟨q2.1, q7.1, q31.1, []⟩ : Pair), q31.2) := by unfold readOne; simp only; (repeat first | simp only [hq5, hq10, hq34] | rw [if_pos (by omega)] | rw [if_neg (by omega)]); all_goals first | rfl | (rw [wrap_i64s (by omega) (by omega)]; done) | (simp [*]; done) | (rw [wrap_i64s (by omega) (by omega)]; simp [*]; done)
        rw [e]
        exact ⟨rfl, rfl, rfl⟩
      · have p36 := df h29
        refine cw_region ?_
        refine ow1 (op1_l rfl (lo_move (v := .pointer (some ⟨_, _, none⟩)) rfl) ?_)
        refine ow1 (op1_pm 0 rfl (in_Fail _ i_b q7.2 8 (by omega)) (en_f cb70 rfl) rfl ?_)
        rintro _ _ _ ⟨rfl, rfl, rfl⟩ _
        generalize hq40 : inFail q7.2 8 = q37
        refine ow_nil ?_
        refine blkK_n ?_
        refine seqK_n ?_
        refine cw_seq ?_
        refine cw_region ?_
        refine ow1 (op1_l rfl (lo_loadA (i := 2) (vs := [_, _, _, _]) rfl ag94 sz94 rfl rfl rfl) ?_)
        refine ow1 (op1_storeA (i := 1) (vs := [_, _, _, _]) rfl rfl rfl sz94 rfl rfl rfl ?_)
        refine ow_nil ?_
        refine seqK_n ?_
        refine cw_ret ?_
        refine fnK_r (res1 rfl (rv_c (i := 1) (vs := [_, _, _, _]) rfl ag94 sz94 rfl rfl rfl)) (.refl _) ?_
        refine ⟨_, rfl, ?_⟩
        have e : readOne i = ((⟨q2.1, q7.1, 0, []⟩ : Pair), q37) := by unfold readOne; simp only; (repeat first | simp only [hq5, hq10, hq40] | rw [if_pos (by omega)] | rw [if_neg (by omega)]); all_goals first | rfl | (rw [wrap_i64s (by omega) (by omega)]; done) | (simp [*]; done) | (rw [wrap_i64s (by omega) (by omega)]; simp [*]; done)
        rw [e]
        exact ⟨rfl, rfl, rfl⟩

theorem head_Read (H : Hp) (i_b : Nat) (i : In) : Pm Tryd.prog 71 #[.pointer (some ⟨i_b, 0, none⟩)] H i_b (bx 95 (In.cells i)) (fun v H' o' => ∃ (a1 : Option Addr) (c1 : Nat), v = .slice a1 ((headRead i).1).length c1 ∧ o' = bx 95 (In.cells ((headRead i).2)) ∧ SlH pairE 4 H' (.slice a1 ((headRead i).1).length c1) ((headRead i).1)) := by
  refine pm_cw Tryd.func71 rfl Tryd.ntmps71 rfl (fun N => ?_)
  refine cw_seq ?_
  refine cw_region ?_
  refine ow1 (op1_l rfl (lo_assign (v := .slice _ _ _) rfl) ?_)
  refine ow_nil ?_
  refine seqK_n ?_
  refine cw_seq ?_
  refine cw_region ?_
  refine ow1 (op1_l rfl (lo_move (v := .pointer (some ⟨_, _, none⟩)) rfl) ?_)
  refine ow1 (op1_pm 0 rfl (in_Num _ i_b i 1 (by omega)) (en_f cb69 rfl) rfl ?_)
  rintro _ _ _ ⟨rfl, rfl, rfl⟩ _
  generalize hq4 : inNum i 1 = q1
  have hf5 := inNum_r i 1
  simp only [hq4] at hf5
  refine ow1 (op1_l rfl (lo_conv_in rfl (by rw [Tryd.underlying22]; rfl) Tryd.underlying3 (rg_i64 (by omega))) ?_)
  refine ow1 (op1_l rfl (lo_assign (v := .int _ _) rfl) ?_)
  refine ow_nil ?_
  refine seqK_n ?_
  refine cw_seq ?_
  refine cw_seq ?_
  refine cw_region ?_
  refine ow1 (op1_l rfl (lo_move (v := .int _ _) rfl) ?_)
  refine ow1 (op1_l rfl (lo_gtr rfl rfl) ?_)
  refine ow_nil ?_
  refine seqK_n ?_
  refine cw_cond rfl (fun h6 => ?_) (fun h6 => ?_)
  · have p7 := dt h6
    refine cw_region ?_
    refine ow1 (op1_l rfl (lo_move (v := .pointer (some ⟨_, _, none⟩)) rfl) ?_)
    refine ow1 (op1_pm 0 rfl (in_Fail _ i_b q1.2 6 (by omega)) (en_f cb70 rfl) rfl ?_)
    rintro _ _ _ ⟨rfl, rfl, rfl⟩ _
    generalize hq11 : inFail q1.2 6 = q8
    refine ow_nil ?_
    refine seqK_n ?_
    refine cw_seq ?_
    refine cw_region ?_
    refine ow1 (op1_l rfl (lo_assign (v := .slice _ _ _) rfl) ?_)
    refine ow_nil ?_
    refine seqK_n ?_
    refine cw_seq ?_
    refine cw_seq ?_
    refine cw_region ?_
    refine ow1 (op1_l rfl (lo_move (v := .int _ _) rfl) ?_)
    refine ow1 (op1_l rfl (lo_move (v := .int _ _) rfl) ?_)
    refine ow_nil ?_
    refine seqK_n ?_
    refine cw_block ?_
    refine cw_loop5 [2, 4, 5, 14, 15, 16, 17, 18, 19, 20, 21, 22, 23, 24, 25, 26, 27, 28, 29, 30, 31, 32, 33] [0, 1, 2, 7] (fun (k : Nat) (j : In) (h : List Pair) (v : Value) (en : Option (Nat × Obj)) G => upd (upd (G) 14 (.int .i64 (k : Int))) 4 (v)) (fun (k : Nat) (j : In) (h : List Pair) (v : Value) (en : Option (Nat × Obj)) G => lupd (lupd (G) 0 (some (i_b, bx 95 (In.cells j)))) 7 (en)) (fun (k : Nat) (j : In) (h : List Pair) (v : Value) (en : Option (Nat × Obj)) H' => k ≤ q1.1.toNat ∧ headRead i = readGo (q1.1.toNat - k) j h ∧ h.length ≤ k ∧ OwnV 4 94 v en h.length (h.flatMap Pair.cells) ∧ (∀ x ∈ h, Pair.wf x)) (fun (k : Nat) (j : In) (h : List Pair) (v : Value) (en : Option (Nat × Obj)) => q1.1.toNat - k) 0 q8 [] (.slice none 0 0) none (upd_intro (upd_intro (mask_intro (by first | exact off_refl | (repeat (first | exact off_mask | refine off_upd rfl ?_ | refine off_mask2 rfl ?_)))) rfl) rfl) (lupd_intro (lupd_intro (lmask_intro offl_refl) rfl) rfl) ?_ ?_
    · exact ⟨Nat.zero_le _, by unfold headRead; (repeat first | simp only [hq4, hq11] | rw [if_pos (by omega)] | rw [if_neg (by omega)]); all_goals rfl, Nat.zero_le _, ownV_nil, wf_nil⟩
    · intro k j h v en J13 JL13 H13 hp12 hl13
      obtain ⟨hk1, hk2, hk3, ho, hw⟩ := hp12
      refine cw_seq ?_
      refine cw_region ?_
      refine ow1 (op1_l rfl (lo_lss rfl rfl) ?_)
      refine ow_nil ?_
      refine seqK_n ?_
      refine cw_seq ?_
      refine cw_cond rfl (fun h14 => ?_) (fun h14 => ?_)
      · have p15 := dt h14
        refine cw_skip ?_
        refine seqK_n ?_
        refine cw_seq ?_
        refine cw_block ?_
        refine cw_seq ?_
        refine cw_region ?_
        refine ow1 (op1_l rfl (lo_move (v := .pointer (some ⟨_, _, none⟩)) rfl) ?_)
        refine ow1 (op1_pm 0 rfl (head_one _ i_b j) (en_f cb95 rfl) rfl ?_)
        rintro _ _ _ ⟨rfl, rfl, rfl⟩ _
        generalize hq19 : readOne j = q16
        have hf20 := readOne_wf j
        simp only [hq19] at hf20
        refine ow1 (op1_alloc 1 rfl zr94 (fun b21 => ?_))
        refine ow1 (op1_storeA (i := 1) (vs := [_, _, _, _]) rfl rfl rfl sz94 rfl rfl rfl ?_)
        refine ow_nil ?_
        refine seqK_n ?_
        refine cw_seq ?_
        refine cw_seq ?_
        refine cw_region ?_
        refine ow1 (op1_l rfl (lo_move (v := .pointer (some ⟨_, _, none⟩)) rfl) ?_)
        refine ow1 (op1_pm 0 rfl (in_Err _ i_b q16.2) (en_f cb72 rfl) rfl ?_)
        rintro _ _ _ ⟨rfl, rfl, rfl⟩ _
        refine ow1 (op1_l rfl (lo_eql rfl rfl) ?_)
        refine ow_nil ?_
        refine seqK_n ?_
        refine cw_cond rfl (fun h24 => ?_) (fun h24 => ?_)
        · have p25 := dt h24
          refine cw_region ?_
          refine ow1 (op1_l rfl (lo_move (v := .pointer (some ⟨_, _, none⟩)) rfl) ?_)
          refine ow1 (op1_l rfl (lo_loadA (i := 1) (vs := [_, _, _, _]) rfl ag94 sz94 rfl rfl rfl) ?_)
          refine ow1 (op1_l rfl (lo_move rfl) ?_)
          obtain ⟨a26, c27, rfl⟩ := own_shape ho
          refine ow1 (op1_prl 7 rfl (fun _ hl28 hg29 => (head_pair _ q16.1 hf20 a26 h.length c27 h (slh_own (enc := Pair.cells) (wf := Pair.wf) (fun _ => rfl) ho hw hg29) (by first | omega | (simp <;> omega)))) (en_f cb96 rfl) rfl ?_)
          have := pairErr_r q16.1 h
          refine ow1 (op1_pm 0 rfl (in_Fail _ i_b q16.2 (pairErr q16.1 h) (by omega)) (en_f cb70 rfl) rfl ?_)
          rintro _ _ _ ⟨rfl, rfl, rfl⟩ _
          generalize hq33 : inFail q16.2 (pairErr q16.1 h) = q30
          refine ow_nil ?_
          refine seqK_n ?_
          refine cw_seq ?_
          refine cw_seq ?_
          refine cw_region ?_
          refine ow1 (op1_l rfl (lo_move (v := .pointer (some ⟨_, _, none⟩)) rfl) ?_)
          refine ow1 (op1_pm 0 rfl (in_Err _ i_b q30) (en_f cb72 rfl) rfl ?_)
          rintro _ _ _ ⟨rfl, rfl, rfl⟩ _
          refine ow1 (op1_l rfl (lo_neq rfl rfl) ?_)
          refine ow_nil ?_
          refine seqK_n ?_
          refine cw_cond rfl (fun h36 => ?_) (fun h36 => ?_)
          · have h37 := not_t h36
            have p38 := df h37
            refine cw_seq ?_
            refine cw_region ?_
            refine ow1 (op1_l rfl (lo_assign (v := .slice _ _ _) rfl) ?_)
            refine ow_nil ?_
            refine seqK_n ?_
            refine cw_ret ?_
            refine seqK_r ?_
            refine blkK_r ?_
            refine seqK_r ?_
            refine loopK_r ?_
            refine blkK_r ?_
            refine seqK_r ?_
            refine fnK_r (res1 rfl (rv_t (v := .slice _ _ _) rfl)) ((HLe.refl _).trans hl13) ?_
            refine ⟨_, rfl, ?_⟩
            have e : headRead i = ([], q30) := by
              rw [hk2, show q1.1.toNat - k = (q1.1.toNat - (k + 1)) + 1 by omega]
              have z := fun k => readGo_er1 (k := k) (h := h) (show readOne j = (q16.1, q16.2) from hq19) (by omega) (by rw [hq33]; omega)
              rw [hq33] at z
              exact z _
            rw [e]
            exact ⟨none, 0, rfl, rfl, slh_nil⟩
          · have h39 := not_f h36
            have p40 := dt h39
            refine cw_skip ?_
            refine seqK_n ?_
            refine cw_region ?_
            refine ow1 (op1_l rfl (lo_move rfl) ?_)
            refine ow1 (op1_l rfl (lo_loadA (i := 1) (vs := [_, _, _, _]) rfl ag94 sz94 rfl rfl rfl) ?_)
            refine ow1 (op1_bslice (cs := [_, _, _, _]) 2 rfl Tryd.underlying23 sz94 zx94 rfl ⟨rfl, rfl, trivial⟩ rfl rfl (by decide) (fun b41 => ?_))
            refine ow1 (op1_app 7 rfl rfl Tryd.underlying23 Tryd.underlying23 rfl sz94 by94 (by decide) zr94 ho (src_bx (i := 2) rfl rfl) (List.all_eq_true.1 rfl) rfl (by omega) rfl (fun v42 en43 ho44 => ?_))
            have ho45 := own_push (enc := Pair.cells) h q16.1 ho44 rfl
            refine ow1 (op1_l rfl (lo_assign rfl) ?_)
            refine ow_nil ?_
            refine blkK_n ?_
            refine seqK_n ?_
            refine cw_region ?_
            refine ow1 (op1_l rfl (lo_add rfl rfl (rg_i64 (by omega))) ?_)
            refine ow1 (op1_l rfl (lo_move (v := .int _ _) rfl) ?_)
            refine ow_nil ?_
            refine next5 (k + 1) q30 (h ++ [q16.1]) _ _ (upd_intro (upd_intro (mask_intro (by first | exact off_refl | (repeat (first | exact off_mask | refine off_upd rfl ?_ | refine off_mask2 rfl ?_)))) rfl) rfl) (lupd_intro (lupd_intro (lmask_intro (by first | exact offl_refl | (repeat (first | exact offl_mask | refine offl_upd rfl ?_ | refine offl_mask2 rfl ?_)))) rfl) rfl) hl13 ?_ ?_
            · refine ⟨by omega, ?_, by simp; omega, ho45, (wf_push hw hf20)⟩
              rw [hk2, show q1.1.toNat - k = (q1.1.toNat - (k + 1)) + 1 by omega]
              have z := fun k => readGo_ok (k := k) (h := h) (show readOne j = (q16.1, q16.2) from hq19) (by omega) (by rw [hq33]; omega)
              rw [hq33] at z
              exact z _
            · omega
        · have p46 := df h24
          refine cw_skip ?_
          refine seqK_n ?_
          refine cw_seq ?_
          refine cw_seq ?_
          refine cw_region ?_
          refine ow1 (op1_l rfl (lo_move (v := .pointer (some ⟨_, _, none⟩)) rfl) ?_)
          refine ow1 (op1_pm 0 rfl (in_Err _ i_b q16.2) (en_f cb72 rfl) rfl ?_)
          rintro _ _ _ ⟨rfl, rfl, rfl⟩ _
          refine ow1 (op1_l rfl (lo_neq rfl rfl) ?_)
          refine ow_nil ?_
          refine seqK_n ?_
          refine cw_cond_t rfl (by rw [h24] <;> rfl) ?_
          refine cw_seq ?_
          refine cw_region ?_
          refine ow1 (op1_l rfl (lo_assign (v := .slice _ _ _) rfl) ?_)
          refine ow_nil ?_
          refine seqK_n ?_
          refine cw_ret ?_
          refine seqK_r ?_
          refine blkK_r ?_
          refine seqK_r ?_
          refine loopK_r ?_
          refine blkK_r ?_
          refine seqK_r ?_
          refine fnK_r (res1 rfl (rv_t (v := .slice _ _ _) rfl)) ((HLe.refl _).trans hl13) ?_
          refine ⟨_, rfl, ?_⟩
          have e : headRead i = ([], q16.2) := by
            rw [hk2, show q1.1.toNat - k = (q1.1.toNat - (k + 1)) + 1 by omega]
            exact readGo_er0 (show readOne j = (q16.1, q16.2) from hq19) (by omega)
          rw [e]
          exact ⟨none, 0, rfl, rfl, slh_nil⟩
      · have p49 := df h14
        refine cw_exit ?_
        refine seqK_e ?_
        refine loopK_e ?_
        refine blkK_hit ?_
        refine seqK_n ?_
        refine cw_seq ?_
        refine cw_region ?_
        refine ow1 (op1_l rfl (lo_move rfl) ?_)
        refine ow1 (op1_l rfl (lo_assign rfl) ?_)
        refine ow_nil ?_
        refine seqK_n ?_
        refine cw_giveO 7 rfl (fun _ hl50 hg51 => ?_)
        have hs52 := slh_own (enc := Pair.cells) (wf := Pair.wf) (fun _ => rfl) ho hw hg51
        obtain ⟨⟨a53, c54, rfl, -⟩, -⟩ := id hs52
        refine cw_ret ?_
        refine fnK_r (res1 rfl (rv_t (v := .slice _ _ _) rfl)) (((HLe.refl _).trans hl13).trans hl50) ?_
        refine ⟨_, rfl, ?_⟩
        have e : headRead i = (h, j) := by
          rw [hk2, show q1.1.toNat - k = 0 by omega]
          rfl
        rw [e]
        exact ⟨_, _, rfl, rfl, hs52⟩
  · have p55 := df h6
    refine cw_skip ?_
    refine seqK_n ?_
    refine cw_seq ?_
    refine cw_region ?_
    refine ow1 (op1_l rfl (lo_assign (v := .slice _ _ _) rfl) ?_)
    refine ow_nil ?_
    refine seqK_n ?_
    refine cw_seq ?_
    refine cw_seq ?_
    refine cw_region ?_
    refine ow1 (op1_l rfl (lo_move (v := .int _ _) rfl) ?_)
    refine ow1 (op1_l rfl (lo_move (v := .int _ _) rfl) ?_)
    refine ow_nil ?_
    refine seqK_n ?_
    refine cw_block ?_
    refine cw_loop5 [2, 4, 5, 14, 15, 16, 17, 18, 19, 20, 21, 22, 23, 24, 25, 26, 27, 28, 29, 30, 31, 32, 33] [0, 1, 2, 7] (fun (k : Nat) (j : In) (h : List Pair) (v : Value) (en : Option (Nat × Obj)) G => upd (upd (G) 14 (.int .i64 (k : Int))) 4 (v)) (fun (k : Nat) (j : In) (h : List Pair) (v : Value) (en : Option (Nat × Obj)) G => lupd (lupd (G) 0 (some (i_b, bx 95 (In.cells j)))) 7 (en)) (fun (k : Nat) (j : In) (h : List Pair) (v : Value) (en : Option (Nat × Obj)) H' => k ≤ q1.1.toNat ∧ headRead i = readGo (q1.1.toNat - k) j h ∧ h.length ≤ k ∧ OwnV 4 94 v en h.length (h.flatMap Pair.cells) ∧ (∀ x ∈ h, Pair.wf x)) (fun (k : Nat) (j : In) (h : List Pair) (v : Value) (en : Option (Nat × Obj)) => q1.1.toNat - k) 0 q1.2 [] (.slice none 0 0) none (upd_intro (upd_intro (mask_intro (by first | exact off_refl | (repeat (first | exact off_mask | refine off_upd rfl ?_ | refine off_mask2 rfl ?_)))) rfl) rfl) (lupd_intro (lupd_intro (lmask_intro offl_refl) rfl) rfl) ?_ ?_
    · exact ⟨Nat.zero_le _, by unfold headRead; (repeat first | simp only [hq4] | rw [if_pos (by omega)] | rw [if_neg (by omega)]); all_goals rfl, Nat.zero_le _, ownV_nil, wf_nil⟩
    · intro k j h v en J57 JL57 H57 hp56 hl57
      obtain ⟨hk1, hk2, hk3, ho, hw⟩ := hp56
      refine cw_seq ?_
      refine cw_region ?_
      refine ow1 (op1_l rfl (lo_lss rfl rfl) ?_)
      refine ow_nil ?_
      refine seqK_n ?_
      refine cw_seq ?_
      refine cw_cond rfl (fun h58 => ?_) (fun h58 => ?_)
      · have p59 := dt h58
        refine cw_skip ?_
        refine seqK_n ?_
        refine cw_seq ?_
        refine cw_block ?_
        refine cw_seq ?_
        refine cw_region ?_
        refine ow1 (op1_l rfl (lo_move (v := .pointer (some ⟨_, _, none⟩)) rfl) ?_)
        refine ow1 (op1_pm 0 rfl (head_one _ i_b j) (en_f cb95 rfl) rfl ?_)
        rintro _ _ _ ⟨rfl, rfl, rfl⟩ _
        generalize hq63 : readOne j = q60
        have hf64 := readOne_wf j
        simp only [hq63] at hf64
        refine ow1 (op1_alloc 1 rfl zr94 (fun b65 => ?_))
        refine ow1 (op1_storeA (i := 1) (vs := [_, _, _, _]) rfl rfl rfl sz94 rfl rfl rfl ?_)
        refine ow_nil ?_
        refine seqK_n ?_
        refine cw_seq ?_
        refine cw_seq ?_
        refine cw_region ?_
        refine ow1 (op1_l rfl (lo_move (v := .pointer (some ⟨_, _, none⟩)) rfl) ?_)
        refine ow1 (op1_pm 0 rfl (in_Err _ i_b q60.2) (en_f cb72 rfl) rfl ?_)
        rintro _ _ _ ⟨rfl, rfl, rfl⟩ _
        refine ow1 (op1_l rfl (lo_eql rfl rfl) ?_)
        refine ow_nil ?_
        refine seqK_n ?_
        refine cw_cond rfl (fun h68 => ?_) (fun h68 => ?_)
        · have p69 := dt h68
          refine cw_region ?_
          refine ow1 (op1_l rfl (lo_move (v := .pointer (some ⟨_, _, none⟩)) rfl) ?_)
          refine ow1 (op1_l rfl (lo_loadA (i := 1) (vs := [_, _, _, _]) rfl ag94 sz94 rfl rfl rfl) ?_)
          refine ow1 (op1_l rfl (lo_move rfl) ?_)
          obtain ⟨a70, c71, rfl⟩ := own_shape ho
          refine ow1 (op1_prl 7 rfl (fun _ hl72 hg73 => (head_pair _ q60.1 hf64 a70 h.length c71 h (slh_own (enc := Pair.cells) (wf := Pair.wf) (fun _ => rfl) ho hw hg73) (by first | omega | (simp <;> omega)))) (en_f cb96 rfl) rfl ?_)
          have := pairErr_r q60.1 h
          refine ow1 (op1_pm 0 rfl (in_Fail _ i_b q60.2 (pairErr q60.1 h) (by omega)) (en_f cb70 rfl) rfl ?_)
          rintro _ _ _ ⟨rfl, rfl, rfl⟩ _
          generalize hq77 : inFail q60.2 (pairErr q60.1 h) = q74
          refine ow_nil ?_
          refine seqK_n ?_
          refine cw_seq ?_
          refine cw_seq ?_
          refine cw_region ?_
          refine ow1 (op1_l rfl (lo_move (v := .pointer (some ⟨_, _, none⟩)) rfl) ?_)
          refine ow1 (op1_pm 0 rfl (in_Err _ i_b q74) (en_f cb72 rfl) rfl ?_)
          rintro _ _ _ ⟨rfl, rfl, rfl⟩ _
          refine ow1 (op1_l rfl (lo_neq rfl rfl) ?_)
          refine ow_nil ?_
          refine seqK_n ?_
          refine cw_cond rfl (fun h80 => ?_) (fun h80 => ?_)
          · have h81 := not_t h80
            have p82 := df h81
            refine cw_seq ?_
            refine cw_region ?_
            refine ow1 (op1_l rfl (lo_assign (v := .slice _ _ _) rfl) ?_)
            refine ow_nil ?_
            refine seqK_n ?_
            refine cw_ret ?_
            refine seqK_r ?_
            refine blkK_r ?_
            refine seqK_r ?_
            refine loopK_r ?_
            refine blkK_r ?_
            refine seqK_r ?_
            refine fnK_r (res1 rfl (rv_t (v := .slice _ _ _) rfl)) ((HLe.refl _).trans hl57) ?_
            refine ⟨_, rfl, ?_⟩
            have e : headRead i = ([], q74) := by
              rw [hk2, show q1.1.toNat - k = (q1.1.toNat - (k + 1)) + 1 by omega]
              have z := fun k => readGo_er1 (k := k) (h := h) (show readOne j = (q60.1, q60.2) from hq63) (by omega) (by rw [hq77]; omega)
              rw [hq77] at z
              exact z _
            rw [e]
            exact ⟨none, 0, rfl, rfl, slh_nil⟩
          · have h83 := not_f h80
            have p84 := dt h83
            refine cw_skip ?_
            refine seqK_n ?_
            refine cw_region ?_
            refine ow1 (op1_l rfl (lo_move rfl) ?_)
            refine ow1 (op1_l rfl (lo_loadA (i := 1) (vs := [_, _, _, _]) rfl ag94 sz94 rfl rfl rfl) ?_)
            refine ow1 (op1_bslice (cs := [_, _, _, _]) 2 rfl Tryd.underlying23 sz94 zx94 rfl ⟨rfl, rfl, trivial⟩ rfl rfl (by decide) (fun b85 => ?_))
            refine ow1 (op1_app 7 rfl rfl Tryd.underlying23 Tryd.underlying23 rfl sz94 by94 (by decide) zr94 ho (src_bx (i := 2) rfl rfl) (List.all_eq_true.1 rfl) rfl (by omega) rfl (fun v86 en87 ho88 => ?_))
            have ho89 := own_push (enc := Pair.cells) h q60.1 ho88 rfl
            refine ow1 (op1_l rfl (lo_assign rfl) ?_)
            refine ow_nil ?_
            refine blkK_n ?_
            refine seqK_n ?_
            refine cw_region ?_
            refine ow1 (op1_l rfl (lo_add rfl rfl (rg_i64 (by omega))) ?_)
            refine ow1 (op1_l rfl (lo_move (v := .int _ _) rfl) ?_)
            refine ow_nil ?_
            refine next5 (k + 1) q74 (h ++ [q60.1]) _ _ (upd_intro (upd_intro (mask_intro (by first | exact off_refl | (repeat (first | exact off_mask | refine off_upd rfl ?_ | refine off_mask2 rfl ?_)))) rfl) rfl) (lupd_intro (lupd_intro (lmask_intro (by first | exact offl_refl | (repeat (first | exact offl_mask | refine offl_upd rfl ?_ | refine offl_mask2 rfl ?_)))) rfl) rfl) hl57 ?_ ?_
            · refine ⟨by omega, ?_, by simp; omega, ho89, (wf_push hw hf64)⟩
              rw [hk2, show q1.1.toNat - k = (q1.1.toNat - (k + 1)) + 1 by omega]
              have z := fun k => readGo_ok (k := k) (h := h) (show readOne j = (q60.1, q60.2) from hq63) (by omega) (by rw [hq77]; omega)
              rw [hq77] at z
              exact z _
            · omega
        · have p90 := df h68
          refine cw_skip ?_
          refine seqK_n ?_
          refine cw_seq ?_
          refine cw_seq ?_
          refine cw_region ?_
          refine ow1 (op1_l rfl (lo_move (v := .pointer (some ⟨_, _, none⟩)) rfl) ?_)
          refine ow1 (op1_pm 0 rfl (in_Err _ i_b q60.2) (en_f cb72 rfl) rfl ?_)
          rintro _ _ _ ⟨rfl, rfl, rfl⟩ _
          refine ow1 (op1_l rfl (lo_neq rfl rfl) ?_)
          refine ow_nil ?_
          refine seqK_n ?_
          refine cw_cond_t rfl (by rw [h68] <;> rfl) ?_
          refine cw_seq ?_
          refine cw_region ?_
          refine ow1 (op1_l rfl (lo_assign (v := .slice _ _ _) rfl) ?_)
          refine ow_nil ?_
          refine seqK_n ?_
          refine cw_ret ?_
          refine seqK_r ?_
          refine blkK_r ?_
          refine seqK_r ?_
          refine loopK_r ?_
          refine blkK_r ?_
          refine seqK_r ?_
          refine fnK_r (res1 rfl (rv_t (v := .slice _ _ _) rfl)) ((HLe.refl _).trans hl57) ?_
          refine ⟨_, rfl, ?_⟩
          have e : headRead i = ([], q60.2) := by
            rw [hk2, show q1.1.toNat - k = (q1.1.toNat - (k + 1)) + 1 by omega]
            exact readGo_er0 (show readOne j = (q60.1, q60.2) from hq63) (by omega)
          rw [e]
          exact ⟨none, 0, rfl, rfl, slh_nil⟩
      · have p93 := df h58
        refine cw_exit ?_
        refine seqK_e ?_
        refine loopK_e ?_
        refine blkK_hit ?_
        refine seqK_n ?_
        refine cw_seq ?_
        refine cw_region ?_
        refine ow1 (op1_l rfl (lo_move rfl) ?_)
        refine ow1 (op1_l rfl (lo_assign rfl) ?_)
        refine ow_nil ?_
        refine seqK_n ?_
        refine cw_giveO 7 rfl (fun _ hl94 hg95 => ?_)
        have hs96 := slh_own (enc := Pair.cells) (wf := Pair.wf) (fun _ => rfl) ho hw hg95
        obtain ⟨⟨a97, c98, rfl, -⟩, -⟩ := id hs96
        refine cw_ret ?_
        refine fnK_r (res1 rfl (rv_t (v := .slice _ _ _) rfl)) (((HLe.refl _).trans hl57).trans hl94) ?_
        refine ⟨_, rfl, ?_⟩
        have e : headRead i = (h, j) := by
          rw [hk2, show q1.1.toNat - k = 0 by omega]
          rfl
        rw [e]
        exact ⟨_, _, rfl, rfl, hs96⟩

theorem r9_Read (H : Hp) (i_b : Nat) (i_r : RIn) (i : In) (i_R : RSt i_r i) : Pm Tryd.prog 43 #[.pointer (some ⟨i_b, 0, none⟩)] H i_b (bx 70 (RIn.cells i_r)) (fun v H' o' => ∃ (a1 : Option Addr) (c1 : Nat) (j : RIn), v = .slice a1 ((headRead i).1).length c1 ∧ o' = bx 70 (RIn.cells j) ∧ SlH pairE 4 H' (.slice a1 ((headRead i).1).length c1) ((headRead i).1) ∧ RSt j ((headRead i).2)) := by
  refine pm_cw Tryd.func43 rfl Tryd.ntmps43 rfl (fun N => ?_)
  have := i_R.err
  have := i_R.lo
  have := i_R.hi
  have := i_R.len
  refine cw_seq ?_
  refine cw_region ?_
  refine ow1 (op1_l rfl (lo_assign (v := .slice _ _ _) rfl) ?_)
  refine ow_nil ?_
  refine seqK_n ?_
  refine cw_seq ?_
  refine cw_region ?_
  refine ow1 (op1_l rfl (lo_move (v := .pointer (some ⟨_, _, none⟩)) rfl) ?_)
  refine ow1 (op1_pm 0 rfl (rin_Num _ i_b i_r i i_R 1 (by omega)) (en_f cb40 rfl) rfl ?_)
  rintro _ _ _ ⟨j4, rfl, rfl, rfl, hj5⟩ _
  generalize hq6 : inNum i 1 = q1 at hj5 ⊢
  have := hj5.err
  have := hj5.lo
  have := hj5.hi
  have := hj5.len
  have hf7 := inNum_r i 1
  simp only [hq6] at hf7
  refine ow1 (op1_l rfl (lo_conv_in rfl (by rw [Tryd.underlying22]; rfl) Tryd.underlying3 (rg_i64 (by omega))) ?_)
  refine ow1 (op1_l rfl (lo_assign (v := .int _ _) rfl) ?_)
  refine ow_nil ?_
  refine seqK_n ?_
  refine cw_seq ?_
  refine cw_seq ?_
  refine cw_region ?_
  refine ow1 (op1_l rfl (lo_move (v := .int _ _) rfl) ?_)
  refine ow1 (op1_l rfl (lo_gtr rfl rfl) ?_)
  refine ow_nil ?_
  refine seqK_n ?_
  refine cw_cond rfl (fun h8 => ?_) (fun h8 => ?_)
  · have p9 := dt h8
    refine cw_region ?_
    refine ow1 (op1_l rfl (lo_move (v := .pointer (some ⟨_, _, none⟩)) rfl) ?_)
    refine ow1 (op1_pm 0 rfl (rin_Fail _ i_b j4 q1.2 hj5 6 (by omega)) (en_f cb42 rfl) rfl ?_)
    rintro _ _ _ ⟨j13, rfl, rfl, rfl, hj14⟩ _
    generalize hq15 : inFail q1.2 6 = q10 at hj14 ⊢
    have := hj14.err
    have := hj14.lo
    have := hj14.hi
    have := hj14.len
    refine ow_nil ?_
    refine seqK_n ?_
    refine cw_seq ?_
    refine cw_region ?_
    refine ow1 (op1_l rfl (lo_assign (v := .slice _ _ _) rfl) ?_)
    refine ow_nil ?_
    refine seqK_n ?_
    refine cw_seq ?_
    refine cw_seq ?_
    refine cw_region ?_
    refine ow1 (op1_l rfl (lo_assign (v := .int _ _) rfl) ?_)
    refine ow_nil ?_
    refine seqK_n ?_
    refine cw_block ?_
    refine cw_loop6 [4, 5, 6, 14, 15, 16, 17, 18, 19, 20, 21, 22, 23, 24, 25, 26, 27, 28, 29, 30, 31, 32, 33, 34, 35, 36, 37, 38, 39, 40, 41, 42, 43, 44, 45, 46, 47, 48, 49, 50, 51, 52, 53, 54, 55, 56, 57, 58, 59, 60, 61, 62, 63, 64, 65, 66, 67, 68] [0, 1, 2, 7] (fun (k : Nat) (jr : RIn) (j : In) (h : List Pair) (v : Value) (en : Option (Nat × Obj)) G => upd (upd (G) 5 (.int .i64 (k : Int))) 4 (v)) (fun (k : Nat) (jr : RIn) (j : In) (h : List Pair) (v : Value) (en : Option (Nat × Obj)) G => lupd (lupd (G) 0 (some (i_b, bx 70 (RIn.cells jr)))) 7 (en)) (fun (k : Nat) (jr : RIn) (j : In) (h : List Pair) (v : Value) (en : Option (Nat × Obj)) H' => k ≤ q1.1.toNat ∧ (j.err = 0 → headRead i = readGo (q1.1.toNat - k) j h) ∧ (¬ j.err = 0 → headRead i = ([], j)) ∧ h.length ≤ k ∧ RSt jr j ∧ OwnV 4 94 v en h.length (h.flatMap Pair.cells) ∧ (∀ x ∈ h, Pair.wf x)) (fun (k : Nat) (jr : RIn) (j : In) (h : List Pair) (v : Value) (en : Option (Nat × Obj)) => q1.1.toNat - k) 0 j13 q10 [] (.slice none 0 0) none (upd_intro (upd_intro (mask_intro (by first | exact off_refl | (repeat (first | exact off_mask | refine off_upd rfl ?_ | refine off_mask2 rfl ?_)))) rfl) rfl) (lupd_intro (lupd_intro (lmask_intro offl_refl) rfl) rfl) ?_ ?_
    · refine ⟨Nat.zero_le _, fun _ => by unfold headRead; (repeat first | simp only [hq6, hq15] | rw [if_pos (by omega)] | rw [if_neg (by omega)]); all_goals rfl, fun hz => ?_, Nat.zero_le _, hj14, ownV_nil, wf_nil⟩
      unfold headRead
      (repeat first | simp only [hq6, hq15] | rw [if_pos (by omega)] | rw [if_neg (by omega)])
      exact readGo_bad hz _
    · intro k jr j h v en J17 JL17 H17 hp16 hl17
      obtain ⟨hk1, hk2, hk2b, hk3, hj, ho, hw⟩ := hp16
      have := hj.err
      have := hj.lo
      have := hj.hi
      have := hj.len
      refine cw_seq ?_
      refine cw_seq ?_
      refine cw_region ?_
      refine ow1 (op1_l rfl (lo_move (v := .int _ _) rfl) ?_)
      refine ow1 (op1_l rfl (lo_move (v := .int _ _) rfl) ?_)
      refine ow1 (op1_l rfl (lo_lss rfl rfl) ?_)
      refine ow1 (op1_l rfl (lo_move (v := .bool _) rfl) ?_)
      refine ow_sp (j := 3) rfl (fun h18 => ?_) (fun h18 => ?_)
      · have p19 := dt h18
        refine ow1 (op1_g rfl h18 rfl (lo_move (v := .pointer (some ⟨_, _, none⟩)) rfl) ?_)
        refine ow1 (op1_g rfl h18 rfl (lo_nilCheck rfl) ?_)
        refine ow1 (op1_g rfl h18 rfl (lo_fieldAddr rfl fl70_2) ?_)
        refine ow1 (op1_g rfl h18 rfl (lo_load1 (i := 0) (v := .int _ _) rfl ag3 rfl rfl) ?_)
        refine ow1 (op1_g rfl h18 rfl (lo_eql rfl rfl) ?_)
        refine ow1 (op1_l rfl (lo_pick_t (v := .bool _) rfl h18 rfl) ?_)
        refine ow_nil ?_
        refine seqK_n ?_
        refine cw_cond rfl (fun h20 => ?_) (fun h20 => ?_)
        · have p21 := dt h20
          refine cw_skip ?_
          refine seqK_n ?_
          refine cw_seq ?_
          refine cw_block ?_
          refine cw_seq ?_
          refine cw_region ?_
          refine ow1 (op1_l rfl (lo_move (v := .pointer (some ⟨_, _, none⟩)) rfl) ?_)
          refine ow1 (op1_pm 0 rfl (rin_Text _ i_b jr j hj 16 (by omega)) (en_f cb38 rfl) rfl ?_)
          rintro _ _ _ ⟨j25, rfl, rfl, rfl, hj26⟩ _
          generalize hq27 : inText j 16 = q22 at hj26 ⊢
          have := hj26.err
          have := hj26.lo
          have := hj26.hi
          have := hj26.len
          have hf28 := inText_len j 16
          simp only [hq27] at hf28
          refine ow1 (op1_l rfl (lo_build (v := .agg #[_, _, _, _]) rfl (bd94_0s _)) ?_)
          refine ow1 (op1_alloc 1 rfl zr94 (fun b29 => ?_))
          refine ow1 (op1_storeA (i := 1) (vs := [_, _, _, _]) rfl rfl rfl sz94 rfl rfl rfl ?_)
          refine ow_nil ?_
          refine seqK_n ?_
          refine cw_seq ?_
          refine cw_region ?_
          refine ow1 (op1_l rfl (lo_move (v := .pointer (some ⟨_, _, none⟩)) rfl) ?_)
          refine ow1 (op1_pm 0 rfl (rin_Num _ i_b j25 q22.2 hj26 1 (by omega)) (en_f cb40 rfl) rfl ?_)
          rintro _ _ _ ⟨j33, rfl, rfl, rfl, hj34⟩ _
          generalize hq35 : inNum q22.2 1 = q30 at hj34 ⊢
          have := hj34.err
          have := hj34.lo
          have := hj34.hi
          have := hj34.len
          have hf36 := inNum_r q22.2 1
          simp only [hq35] at hf36
          refine ow1 (op1_l rfl (lo_conv_in rfl (by rw [Tryd.underlying22]; rfl) Tryd.underlying5 (rg_u8 (by omega))) ?_)
          refine ow1 (op1_l rfl (lo_fieldAddr rfl fl94_1) ?_)
          refine ow1 (op1_store1 (i := 1) (v := .int _ _) rfl rfl rfl sz5 rfl rfl ?_)
          refine ow_nil ?_
          refine seqK_n ?_
          refine cw_seq ?_
          refine cw_seq ?_
          refine cw_region ?_
          refine ow1 (op1_l rfl (lo_fieldAddr rfl fl94_1) ?_)
          refine ow1 (op1_l rfl (lo_load1 (i := 1) (v := .int _ _) rfl ag5 rfl rfl) ?_)
          refine ow1 (op1_l rfl (lo_eql rfl rfl) ?_)
          refine ow_nil ?_
          refine seqK_n ?_
          refine cw_cond rfl (fun h37 => ?_) (fun h37 => ?_)
          · have p38 := dt h37
            refine cw_region ?_
            refine ow1 (op1_l rfl (lo_move (v := .pointer (some ⟨_, _, none⟩)) rfl) ?_)
            refine ow1 (op1_pm 0 rfl (rin_Num _ i_b j33 q30.2 hj34 8 (by omega)) (en_f cb40 rfl) rfl ?_)
            rintro _ _ _ ⟨j42, rfl, rfl, rfl, hj43⟩ _
            generalize hq44 : inNum q30.2 8 = q39 at hj43 ⊢
            have := hj43.err
            have := hj43.lo
            have := hj43.hi
            have := hj43.len
            have hf45 := inNum_r q30.2 8
            simp only [hq44] at hf45
            have := wr_i64 q39.1
            refine ow1 (op1_l rfl (lo_conv rfl (by rw [Tryd.underlying22]; rfl) Tryd.underlying2) ?_)
            refine ow1 (op1_l rfl (lo_fieldAddr rfl fl94_2) ?_)
            refine ow1 (op1_store1 (i := 1) (v := .int _ _) rfl rfl rfl sz2 rfl rfl ?_)
            refine ow_nil ?_
            refine seqK_n ?_
            refine cw_seq ?_
            refine cw_seq ?_
            refine cw_region ?_
            refine ow1 (op1_l rfl (lo_move (v := .pointer (some ⟨_, _, none⟩)) rfl) ?_)
            refine ow1 (op1_l rfl (lo_nilCheck rfl) ?_)
            refine ow1 (op1_l rfl (lo_fieldAddr rfl fl70_2) ?_)
            refine ow1 (op1_l rfl (lo_load1 (i := 0) (v := .int _ _) rfl ag3 rfl rfl) ?_)
            refine ow1 (op1_l rfl (lo_eql rfl rfl) ?_)
            refine ow_nil ?_
            refine seqK_n ?_
            refine cw_cond rfl (fun h46 => ?_) (fun h46 => ?_)
            · have p47 := dt h46
              refine cw_region ?_
              refine ow1 (op1_l rfl (lo_move (v := .pointer (some ⟨_, _, none⟩)) rfl) ?_)
              refine ow1 (op1_l rfl (lo_loadA (i := 1) (vs := [_, _, _, _]) rfl ag94 sz94 rfl rfl rfl) ?_)
              refine ow1 (op1_l rfl (lo_move rfl) ?_)
              obtain ⟨a48, c49, rfl⟩ := own_shape ho
              refine ow1 (op1_prl 7 rfl (fun _ hl50 hg51 => (r9_Pair _ (⟨q22.1, q30.1, (IntKind.wrap .i64 q39.1), []⟩ : Pair) (by simp only [Pair.wf]; first | omega | (simp; done) | (simp; omega)) a48 h.length c49 h (slh_own (enc := Pair.cells) (wf := Pair.wf) (fun _ => rfl) ho hw hg51) (by first | omega | (simp <;> omega)))) (en_f cb75 rfl) rfl ?_)
              have := pairErr_r (⟨q22.1, q30.1, (IntKind.wrap .i64 q39.1), []⟩ : Pair) h
              refine ow1 (op1_pm 0 rfl (rin_Fail _ i_b j42 q39.2 hj43 (pairErr (⟨q22.1, q30.1, (IntKind.wrap .i64 q39.1), []⟩ : Pair) h) (by omega)) (en_f cb42 rfl) rfl ?_)
              rintro _ _ _ ⟨j55, rfl, rfl, rfl, hj56⟩ _
              generalize hq57 : inFail q39.2 (pairErr (⟨q22.1, q30.1, (IntKind.wrap .i64 q39.1), []⟩ : Pair) h) = q52 at hj56 ⊢
              have := hj56.err
              have := hj56.lo
              have := hj56.hi
              have := hj56.len
              refine ow_nil ?_
              refine seqK_n ?_
              refine cw_region ?_
              refine ow1 (op1_l rfl (lo_move rfl) ?_)
              refine ow1 (op1_l rfl (lo_loadA (i := 1) (vs := [_, _, _, _]) rfl ag94 sz94 rfl rfl rfl) ?_)
              refine ow1 (op1_bslice (cs := [_, _, _, _]) 2 rfl Tryd.underlying23 sz94 zx94 rfl ⟨rfl, rfl, trivial⟩ rfl rfl (by decide) (fun b58 => ?_))
              refine ow1 (op1_app 7 rfl rfl Tryd.underlying23 Tryd.underlying23 rfl sz94 by94 (by decide) zr94 ho (src_bx (i := 2) rfl rfl) (List.all_eq_true.1 rfl) rfl (by omega) rfl (fun v59 en60 ho61 => ?_))
              have ho62 := own_push (enc := Pair.cells) h (⟨q22.1, q30.1, (IntKind.wrap .i64 q39.1), []⟩ : Pair) ho61 rfl
              refine ow1 (op1_l rfl (lo_assign rfl) ?_)
              refine ow_nil ?_
              refine blkK_n ?_
              refine seqK_n ?_
              refine cw_region ?_
              refine ow1 (op1_l rfl (lo_move (v := .int _ _) rfl) ?_)
              refine ow1 (op1_l rfl (lo_add rfl rfl (rg_i64 (by omega))) ?_)
              refine ow1 (op1_l rfl (lo_assign (v := .int _ _) rfl) ?_)
              refine ow_nil ?_
              refine next6 (k + 1) j55 q52 (h ++ [(⟨q22.1, q30.1, (IntKind.wrap .i64 q39.1), []⟩ : Pair)]) _ _ (upd_intro (upd_intro (mask_intro (by first | exact off_refl | (repeat (first | exact off_mask | refine off_upd rfl ?_ | refine off_mask2 rfl ?_)))) rfl) rfl) (lupd_intro (lupd_intro (lmask_intro (by first | exact offl_refl | (repeat (first | exact offl_mask | refine offl_upd rfl ?_ | refine offl_mask2 rfl ?_)))) rfl) rfl) hl17 ?_ ?_
              · have e1 : readOne j = ((⟨q22.1, q30.1, (IntKind.wrap .i64 q39.1), []⟩ : Pair), q39.2) := by unfold readOne; simp only; (repeat first | simp only [hq6, hq15, hq27, hq35, hq44, hq57] | rw [if_pos (by omega)] | rw [if_neg (by omega)]); all_goals first | rfl | (rw [wrap_i64s (by omega) (by omega)]; done) | (simp [*]; done) | (rw [wrap_i64s (by omega) (by omega)]; simp [*]; done)
                have hj0 : j.err = 0 := by omega
                have hst := hk2 hj0
                rw [show q1.1.toNat - k = (q1.1.toNat - (k + 1)) + 1 by omega] at hst
                refine ⟨by omega, ?_, ?_, by simp; omega, hj56, ho62, (wf_push hw (by simp only [Pair.wf]; first | omega | (simp; done) | (simp; omega)))⟩
                · intro hz; have hz2 := hz; rw [← hq57] at hz2; have q := hst.trans (readGo_ok e1 (by omega) hz2); rw [hq57] at q; exact q
                · intro hz; have hz2 := hz; rw [← hq57] at hz2; have q := hst.trans (readGo_er1 e1 (by omega) hz2); rw [hq57] at q; exact q
              · omega
            · have p63 := df h46
              refine cw_skip ?_
              refine seqK_n ?_
              refine cw_region ?_
              refine ow1 (op1_l rfl (lo_move rfl) ?_)
              refine ow1 (op1_l rfl (lo_loadA (i := 1) (vs := [_, _, _, _]) rfl ag94 sz94 rfl rfl rfl) ?_)
              refine ow1 (op1_bslice (cs := [_, _, _, _]) 2 rfl Tryd.underlying23 sz94 zx94 rfl ⟨rfl, rfl, trivial⟩ rfl rfl (by decide) (fun b64 => ?_))
              refine ow1 (op1_app 7 rfl rfl Tryd.underlying23 Tryd.underlying23 rfl sz94 by94 (by decide) zr94 ho (src_bx (i := 2) rfl rfl) (List.all_eq_true.1 rfl) rfl (by omega) rfl (fun v65 en66 ho67 => ?_))
              have ho68 := own_push (enc := Pair.cells) h (⟨q22.1, q30.1, (IntKind.wrap .i64 q39.1), []⟩ : Pair) ho67 rfl
              refine ow1 (op1_l rfl (lo_assign rfl) ?_)
              refine ow_nil ?_
              refine blkK_n ?_
              refine seqK_n ?_
              refine cw_region ?_
              refine ow1 (op1_l rfl (lo_move (v := .int _ _) rfl) ?_)
              refine ow1 (op1_l rfl (lo_add rfl rfl (rg_i64 (by omega))) ?_)
              refine ow1 (op1_l rfl (lo_assign (v := .int _ _) rfl) ?_)
              refine ow_nil ?_
              refine next6 (k + 1) j42 q39.2 (h ++ [(⟨q22.1, q30.1, (IntKind.wrap .i64 q39.1), []⟩ : Pair)]) _ _ (upd_intro (upd_intro (mask_intro (by first | exact off_refl | (repeat (first | exact off_mask | refine off_upd rfl ?_ | refine off_mask2 rfl ?_)))) rfl) rfl) (lupd_intro (lupd_intro (lmask_intro (by first | exact offl_refl | (repeat (first | exact offl_mask | refine offl_upd rfl ?_ | refine offl_mask2 rfl ?_)))) rfl) rfl) hl17 ?_ ?_
              · have e1 : readOne j = ((⟨q22.1, q30.1, (IntKind.wrap .i64 q39.1), []⟩ : Pair), q39.2) := by unfold readOne; simp only; (repeat first | simp only [hq6, hq15, hq27, hq35, hq44] | rw [if_pos (by omega)] | rw [if_neg (by omega)]); all_goals first | rfl | (rw [wrap_i64s (by omega) (by omega)]; done) | (simp [*]; done) | (rw [wrap_i64s (by omega) (by omega)]; simp [*]; done)
                have hj0 : j.err = 0 := by omega
                have hst := hk2 hj0
                rw [show q1.1.toNat - k = (q1.1.toNat - (k + 1)) + 1 by omega] at hst
                refine ⟨by omega, ?_, ?_, by simp; omega, hj43, ho68, (wf_push hw (by simp only [Pair.wf]; first | omega | (simp; done) | (simp; omega)))⟩
                · intro hz; exfalso; omega
                · intro hz; exact hst.trans (readGo_er0 e1 (by omega))
              · omega
          · have p69 := df h37
            refine cw_seq ?_
            refine cw_region ?_
            refine ow1 (op1_l rfl (lo_fieldAddr rfl fl94_1) ?_)
            refine ow1 (op1_l rfl (lo_load1 (i := 1) (v := .int _ _) rfl ag5 rfl rfl) ?_)
            refine ow1 (op1_l rfl (lo_eql rfl rfl) ?_)
            refine ow_nil ?_
            refine seqK_n ?_
            refine cw_cond rfl (fun h70 => ?_) (fun h70 => ?_)
            · have p71 := dt h70
              refine cw_region ?_
              refine ow1 (op1_l rfl (lo_move (v := .pointer (some ⟨_, _, none⟩)) rfl) ?_)
              refine ow1 (op1_pm 0 rfl (rin_Text _ i_b j33 q30.2 hj34 64 (by omega)) (en_f cb38 rfl) rfl ?_)
              rintro _ _ _ ⟨j75, rfl, rfl, rfl, hj76⟩ _
              generalize hq77 : inText q30.2 64 = q72 at hj76 ⊢
              have := hj76.err
              have := hj76.lo
              have := hj76.hi
              have := hj76.len
              have hf78 := inText_len q30.2 64
              simp only [hq77] at hf78
              refine ow1 (op1_l rfl (lo_fieldAddr rfl fl94_3) ?_)
              refine ow1 (op1_store1 (i := 1) (v := str _) rfl rfl rfl sz9 rfl rfl ?_)
              refine ow_nil ?_
              refine seqK_n ?_
              refine cw_seq ?_
              refine cw_seq ?_
              refine cw_region ?_
              refine ow1 (op1_l rfl (lo_move (v := .pointer (some ⟨_, _, none⟩)) rfl) ?_)
              refine ow1 (op1_l rfl (lo_nilCheck rfl) ?_)
              refine ow1 (op1_l rfl (lo_fieldAddr rfl fl70_2) ?_)
              refine ow1 (op1_l rfl (lo_load1 (i := 0) (v := .int _ _) rfl ag3 rfl rfl) ?_)
              refine ow1 (op1_l rfl (lo_eql rfl rfl) ?_)
              refine ow_nil ?_
              refine seqK_n ?_
              refine cw_cond rfl (fun h79 => ?_) (fun h79 => ?_)
              · have p80 := dt h79
                refine cw_region ?_
                refine ow1 (op1_l rfl (lo_move (v := .pointer (some ⟨_, _, none⟩)) rfl) ?_)
                refine ow1 (op1_l rfl (lo_loadA (i := 1) (vs := [_, _, _, _]) rfl ag94 sz94 rfl rfl rfl) ?_)
                refine ow1 (op1_l rfl (lo_move rfl) ?_)
                obtain ⟨a81, c82, rfl⟩ := own_shape ho
                refine ow1 (op1_prl 7 rfl (fun _ hl83 hg84 => (r9_Pair _ (⟨q22.1, q30.1, 0, q72.1⟩ : Pair) (by simp only [Pair.wf]; first | omega | (simp; done) | (simp; omega)) a81 h.length c82 h (slh_own (enc := Pair.cells) (wf := Pair.wf) (fun _ => rfl) ho hw hg84) (by first | omega | (simp <;> omega)))) (en_f cb75 rfl) rfl ?_)
                have := pairErr_r (⟨q22.1, q30.1, 0, q72.1⟩ : Pair) h
                refine ow1 (op1_pm 0 rfl (rin_Fail _ i_b j75 q72.2 hj76 (pairErr (⟨q22.1, q30.1, 0, q72.1⟩ : Pair) h) (by omega)) (en_f cb42 rfl) rfl ?_)
                rintro _ _ _ ⟨j88, rfl, rfl, rfl, hj89⟩ _
                generalize hq90 : inFail q72.2 (pairErr (⟨q22.1, q30.1, 0, q72.1⟩ : Pair) h) = q85 at hj89 ⊢
                have := hj89.err
                have := hj89.lo
                have := hj89.hi
                have := hj89.len
                refine ow_nil ?_
                refine seqK_n ?_
                refine cw_region ?_
                refine ow1 (op1_l rfl (lo_move rfl) ?_)
                refine ow1 (op1_l rfl (lo_loadA (i := 1) (vs := [_, _, _, _]) rfl ag94 sz94 rfl rfl rfl) ?_)
                refine ow1 (op1_bslice (cs := [_, _, _, _]) 2 rfl Tryd.underlying23 sz94 zx94 rfl ⟨rfl, rfl, trivial⟩ rfl rfl (by decide) (fun b91 => ?_))
                refine ow1 (op1_app 7 rfl rfl Tryd.underlying23 Tryd.underlying23 rfl sz94 by94 (by decide) zr94 ho (src_bx (i := 2) rfl rfl) (List.all_eq_true.1 rfl) rfl (by omega) rfl (fun v92 en93 ho94 => ?_))
                have ho95 := own_push (enc := Pair.cells) h (⟨q22.1, q30.1, 0, q72.1⟩ : Pair) ho94 rfl
                refine ow1 (op1_l rfl (lo_assign rfl) ?_)
                refine ow_nil ?_
                refine blkK_n ?_
                refine seqK_n ?_
                refine cw_region ?_
                refine ow1 (op1_l rfl (lo_move (v := .int _ _) rfl) ?_)
                refine ow1 (op1_l rfl (lo_add rfl rfl (rg_i64 (by omega))) ?_)
                refine ow1 (op1_l rfl (lo_assign (v := .int _ _) rfl) ?_)
                refine ow_nil ?_
                refine next6 (k + 1) j88 q85 (h ++ [(⟨q22.1, q30.1, 0, q72.1⟩ : Pair)]) _ _ (upd_intro (upd_intro (mask_intro (by first | exact off_refl | (repeat (first | exact off_mask | refine off_upd rfl ?_ | refine off_mask2 rfl ?_)))) rfl) rfl) (lupd_intro (lupd_intro (lmask_intro (by first | exact offl_refl | (repeat (first | exact offl_mask | refine offl_upd rfl ?_ | refine offl_mask2 rfl ?_)))) rfl) rfl) hl17 ?_ ?_
                · have e1 : readOne j = ((⟨q22.1, q30.1, 0, q72.1⟩ : Pair), q72.2) := by unfold readOne; simp only; (repeat first | simp only [hq6, hq15, hq27, hq35, hq77, hq90] | rw [if_pos (by omega)] | rw [if_neg (by omega)]); all_goals first | rfl | (rw [wrap_i64s (by omega) (by omega)]; done) | (simp [*]; done) | (rw [wrap_i64s (by omega) (by omega)]; simp [*]; done)
                  have hj0 : j.err = 0 := by omega
                  have hst := hk2 hj0
                  rw [show q1.1.toNat - k = (q1.1.toNat - (k + 1)) + 1 by omega] at hst
                  refine ⟨by omega, ?_, ?_, by simp; omega, hj89, ho95, (wf_push hw (by simp only [Pair.wf]; first | omega | (simp; done) | (simp; omega)))⟩
                  · intro hz; have hz2 := hz; rw [← hq90] at hz2; have q := hst.trans (readGo_ok e1 (by omega) hz2); rw [hq90] at q; exact q
                  · intro hz; have hz2 := hz; rw [← hq90] at hz2; have q := hst.trans (readGo_er1 e1 (by omega) hz2); rw [hq90] at q; exact q
                · omega
              · have p96 := df h79
                refine cw_skip ?_
                refine seqK_n ?_
                refine cw_region ?_
                refine ow1 (op1_l rfl (lo_move rfl) ?_)
                refine ow1 (op1_l rfl (lo_loadA (i := 1) (vs := [_, _, _, _]) rfl ag94 sz94 rfl rfl rfl) ?_)
                refine ow1 (op1_bslice (cs := [_, _, _, _]) 2 rfl Tryd.underlying23 sz94 zx94 rfl ⟨rfl, rfl, trivial⟩ rfl rfl (by decide) (fun b97 => ?_))
                refine ow1 (op1_app 7 rfl rfl Tryd.underlying23 Tryd.underlying23 rfl sz94 by94 (by decide) zr94 ho (src_bx (i := 2) rfl rfl) (List.all_eq_true.1 rfl) rfl (by omega) rfl (fun v98 en99 ho100 => ?_))
                have ho101 := own_push (enc := Pair.cells) h (⟨q22.1, q30.1, 0, q72.1⟩ : Pair) ho100 rfl
                refine ow1 (op1_l rfl (lo_assign rfl) ?_)
                refine ow_nil ?_
                refine blkK_n ?_
                refine seqK_n ?_
                refine cw_region ?_
                refine ow1 (op1_l rfl (lo_move (v := .int _ _) rfl) ?_)
                refine ow1 (op1_l rfl (lo_add rfl rfl (rg_i64 (by omega))) ?_)
                refine ow1 (op1_l rfl (lo_assign (v := .int _ _) rfl) ?_)
                refine ow_nil ?_
                refine next6 (k + 1) j75 q72.2 (h ++ [(⟨q22.1, q30.1, 0, q72.1⟩ : Pair)]) _ _ (upd_intro (upd_intro (mask_intro (by first | exact off_refl | (repeat (first | exact off_mask | refine off_upd rfl ?_ | refine off_mask2 rfl ?_)))) rfl) rfl) (lupd_intro (lupd_intro (lmask_intro (by first | exact offl_refl | (repeat (first | exact offl_mask | refine offl_upd rfl ?_ | refine offl_mask2 rfl ?_)))) rfl) rfl) hl17 ?_ ?_
                · have e1 : readOne j = ((⟨q22.1, q30.1, 0, q72.1⟩ : Pair), q72.2) := by unfold readOne; simp only; (repeat first | simp only [hq6, hq15, hq27, hq35, hq77] | rw [if_pos (by omega)] | rw [if_neg (by omega)]); all_goals first | rfl | (rw [wrap_i64s (by omega) (by omega)]; done) | (simp [*]; done) | (rw [wrap_i64s (by omega) (by omega)]; simp [*]; done)
                  have hj0 : j.err = 0 := by omega
                  have hst := hk2 hj0
                  rw [show q1.1.toNat - k = (q1.1.toNat - (k + 1)) + 1 by omega] at hst
                  refine ⟨by omega, ?_, ?_, by simp; omega, hj76, ho101, (wf_push hw (by simp only [Pair.wf]; first | omega | (simp; done) | (simp; omega)))⟩
                  · intro hz; exfalso; omega
                  · intro hz; exact hst.trans (readGo_er0 e1 (by omega))
                · omega
            · have p102 := df h70
              refine cw_seq ?_
              refine cw_region ?_
              refine ow1 (op1_l rfl (lo_fieldAddr rfl fl94_1) ?_)
              refine ow1 (op1_l rfl (lo_load1 (i := 1) (v := .int _ _) rfl ag5 rfl rfl) ?_)
              refine ow1 (op1_l rfl (lo_eql rfl rfl) ?_)
              refine ow_nil ?_
              refine seqK_n ?_
              refine cw_cond rfl (fun h103 => ?_) (fun h103 => ?_)
              · have p104 := dt h103
                refine cw_region ?_
                refine ow1 (op1_l rfl (lo_move (v := .pointer (some ⟨_, _, none⟩)) rfl) ?_)
                refine ow1 (op1_pm 0 rfl (rin_Num _ i_b j33 q30.2 hj34 1 (by omega)) (en_f cb40 rfl) rfl ?_)
                rintro _ _ _ ⟨j108, rfl, rfl, rfl, hj109⟩ _
                generalize hq110 : inNum q30.2 1 = q105 at hj109 ⊢
                have := hj109.err
                have := hj109.lo
                have := hj109.hi
                have := hj109.len
                have hf111 := inNum_r q30.2 1
                simp only [hq110] at hf111
                refine ow1 (op1_l rfl (lo_conv_in rfl (by rw [Tryd.underlying22]; rfl) Tryd.underlying2 (rg_i64 (by omega))) ?_)
                refine ow1 (op1_l rfl (lo_fieldAddr rfl fl94_2) ?_)
                refine ow1 (op1_store1 (i := 1) (v := .int _ _) rfl rfl rfl sz2 rfl rfl ?_)
                refine ow_nil ?_
                refine seqK_n ?_
                refine cw_seq ?_
                refine cw_seq ?_
                refine cw_region ?_
                refine ow1 (op1_l rfl (lo_move (v := .pointer (some ⟨_, _, none⟩)) rfl) ?_)
                refine ow1 (op1_l rfl (lo_nilCheck rfl) ?_)
                refine ow1 (op1_l rfl (lo_fieldAddr rfl fl70_2) ?_)
                refine ow1 (op1_l rfl (lo_load1 (i := 0) (v := .int _ _) rfl ag3 rfl rfl) ?_)
                refine ow1 (op1_l rfl (lo_eql rfl rfl) ?_)
                refine ow_nil ?_
                refine seqK_n ?_
                refine cw_cond rfl (fun h112 => ?_) (fun h112 => ?_)
                · have p113 := dt h112
                  refine cw_region ?_
                  refine ow1 (op1_l rfl (lo_move (v := .pointer (some ⟨_, _, none⟩)) rfl) ?_)
                  refine ow1 (op1_l rfl (lo_loadA (i := 1) (vs := [_, _, _, _]) rfl ag94 sz94 rfl rfl rfl) ?_)
                  refine ow1 (op1_l rfl (lo_move rfl) ?_)
                  obtain ⟨a114, c115, rfl⟩ := own_shape ho
                  refine ow1 (op1_prl 7 rfl (fun _ hl116 hg117 => (r9_Pair _ (⟨q22.1, q30.1, q105.1, []⟩ : Pair) (by simp only [Pair.wf]; first | omega | (simp; done) | (simp; omega)) a114 h.length c115 h (slh_own (enc := Pair.cells) (wf := Pair.wf) (fun _ => rfl) ho hw hg117) (by first | omega | (simp <;> omega)))) (en_f cb75 rfl) rfl ?_)
                  have := pairErr_r (⟨q22.1, q30.1, q105.1, []⟩ : Pair) h
                  refine ow1 (op1_pm 0 rfl (rin_Fail _ i_b j108 q105.2 hj109 (pairErr (⟨q22.1, q30.1, q105.1, []⟩ : Pair) h) (by omega)) (en_f cb42 rfl) rfl ?_)
                  rintro _ _ _ ⟨j121, rfl, rfl, rfl, hj122⟩ _
                  generalize hq123 : inFail q105.2 (pairErr (⟨q22.1, q30.1, q105.1, []⟩ : Pair) h) = q118 at hj122 ⊢
                  have := hj122.err
                  have := hj122.lo
                  have := hj122.hi
                  have := hj122.len
                  refine ow_nil ?_
                  refine seqK_n ?_
                  refine cw_region ?_
                  refine ow1 (op1_l rfl (lo_move rfl) ?_)
                  refine ow1 (op1_l rfl (lo_loadA (i := 1) (vs := [_, _, _, _]) rfl ag94 sz94 rfl rfl rfl) ?_)
                  refine ow1 (op1_bslice (cs := [_, _, _, _]) 2 rfl Tryd.underlying23 sz94 zx94 rfl ⟨rfl, rfl, trivial⟩ rfl rfl (by decide) (fun b124 => ?_))
                  refine ow1 (op1_app 7 rfl rfl Tryd.underlying23 Tryd.underlying23 rfl sz94 by94 (by decide) zr94 ho (src_bx (i := 2) rfl rfl) (List.all_eq_true.1 rfl) rfl (by omega) rfl (fun v125 en126 ho127 => ?_))
                  have ho128 := own_push (enc := Pair.cells) h (⟨q22.1, q30.1, q105.1, []⟩ : Pair) ho127 rfl
                  refine ow1 (op1_l rfl (lo_assign rfl) ?_)
                  refine ow_nil ?_
                  refine blkK_n ?_
                  refine seqK_n ?_
                  refine cw_region ?_
                  refine ow1 (op1_l rfl (lo_move (v := .int _ _) rfl) ?_)
                  refine ow1 (op1_l rfl (lo_add rfl rfl (rg_i64 (by omega))) ?_)
                  refine ow1 (op1_l rfl (lo_assign (v := .int _ _) rfl) ?_)
                  refine ow_nil ?_
                  refine next6 (k + 1) j121 q118 (h ++ [(⟨q22.1, q30.1, q105.1, []⟩ : Pair)]) _ _ (upd_intro (upd_intro (mask_intro (by first | exact off_refl | (repeat (first | exact off_mask | refine off_upd rfl ?_ | refine off_mask2 rfl ?_)))) rfl) rfl) (lupd_intro (lupd_intro (lmask_intro (by first | exact offl_refl | (repeat (first | exact offl_mask | refine offl_upd rfl ?_ | refine offl_mask2 rfl ?_)))) rfl) rfl) hl17 ?_ ?_
                  · have e1 : readOne j = ((⟨q22.1, q30.1, q105.1, []⟩ : Pair), q105.2) := by unfold readOne; simp only; (repeat first | simp only [hq6, hq15, hq27, hq35, hq110, hq123] | rw [if_pos (by omega)] | rw [if_neg (by omega)]); all_goals first | rfl | (rw [wrap_i64s (by omega) (by omega)]; done) | (simp [*]; done) | (rw [wrap_i64s (by omega) (by omega)]; simp [*]; done)
                    have hj0 : j.err = 0 := by omega
                    have hst := hk2 hj0
                    rw [show q1.1.toNat - k = (q1.1.toNat - (k + 1)) + 1 by omega] at hst
                    refine ⟨by omega, ?_, ?_, by simp; omega, hj122, ho128, (wf_push hw (by simp only [Pair.wf]; first | omega | (simp; done) | (simp; omega)))⟩
                    · intro hz; have hz2 := hz; rw [← hq123] at hz2; have q := hst.trans (readGo_ok e1 (by omega) hz2); rw [hq123] at q; exact q
                    · intro hz; have hz2 := hz; rw [← hq123] at hz2; have q := hst.trans (readGo_er1 e1 (by omega) hz2); rw [hq123] at q; exact q
                  · omega
                · have p129 := df h112
                  refine cw_skip ?_
                  refine seqK_n ?_
                  refine cw_region ?_
                  refine ow1 (op1_l rfl (lo_move rfl) ?_)
                  refine ow1 (op1_l rfl (lo_loadA (i := 1) (vs := [_, _, _, _]) rfl ag94 sz94 rfl rfl rfl) ?_)
                  refine ow1 (op1_bslice (cs := [_, _, _, _]) 2 rfl Tryd.underlying23 sz94 zx94 rfl ⟨rfl, rfl, trivial⟩ rfl rfl (by decide) (fun b130 => ?_))
                  refine ow1 (op1_app 7 rfl rfl Tryd.underlying23 Tryd.underlying23 rfl sz94 by94 (by decide) zr94 ho (src_bx (i := 2) rfl rfl) (List.all_eq_true.1 rfl) rfl (by omega) rfl (fun v131 en132 ho133 => ?_))
                  have ho134 := own_push (enc := Pair.cells) h (⟨q22.1, q30.1, q105.1, []⟩ : Pair) ho133 rfl
                  refine ow1 (op1_l rfl (lo_assign rfl) ?_)
                  refine ow_nil ?_
                  refine blkK_n ?_
                  refine seqK_n ?_
                  refine cw_region ?_
                  refine ow1 (op1_l rfl (lo_move (v := .int _ _) rfl) ?_)
                  refine ow1 (op1_l rfl (lo_add rfl rfl (rg_i64 (by omega))) ?_)
                  refine ow1 (op1_l rfl (lo_assign (v := .int _ _) rfl) ?_)
                  refine ow_nil ?_
                  refine next6 (k + 1) j108 q105.2 (h ++ [(⟨q22.1, q30.1, q105.1, []⟩ : Pair)]) _ _ (upd_intro (upd_intro (mask_intro (by first | exact off_refl | (repeat (first | exact off_mask | refine off_upd rfl ?_ | refine off_mask2 rfl ?_)))) rfl) rfl) (lupd_intro (lupd_intro (lmask_intro (by first | exact offl_refl | (repeat (first | exact offl_mask | refine offl_upd rfl ?_ | refine offl_mask2 rfl ?_)))) rfl) rfl) hl17 ?_ ?_
                  · have e1 : readOne j = ((⟨q22.1, q30.1, q105.1, []⟩ : Pair), q105.2) := by unfold readOne; simp only; (repeat first | simp only [hq6, hq15, hq27, hq35, hq110] | rw [if_pos (by omega)] | rw [if_neg (by omega)]); all_goals first | rfl | (rw [wrap_i64s (by omega) (by omega)]; done) | (simp [*]; done) | (rw [wrap_i64s (by omega) (by omega)]; simp [*]; done)
                    have hj0 : j.err = 0 := by omega
                    have hst := hk2 hj0
                    rw [show q1.1.toNat - k = (q1.1.toNat - (k + 1)) + 1 by omega] at hst
                    refine ⟨by omega, ?_, ?_, by simp; omega, hj109, ho134, (wf_push hw (by simp only [Pair.wf]; first | omega | (simp; done) | (simp; omega)))⟩
                    · intro hz; exfalso; omega
                    · intro hz; exact hst.trans (readGo_er0 e1 (by omega))
                  · omega
              · have p135 := df h103
                refine cw_region ?_
                refine ow1 (op1_l rfl (lo_move (v := .pointer (some ⟨_, _, none⟩)) rfl) ?_)
                refine ow1 (op1_pm 0 rfl (rin_Fail _ i_b j33 q30.2 hj34 8 (by omega)) (en_f cb42 rfl) rfl ?_)
                rintro _ _ _ ⟨j139, rfl, rfl, rfl, hj140⟩ _
                generalize hq141 : inFail q30.2 8 = q136 at hj140 ⊢
                have := hj140.err
                have := hj140.lo
                have := hj140.hi
                have := hj140.len
                refine ow_nil ?_
                refine seqK_n ?_
                refine cw_seq ?_
                refine cw_seq ?_
                refine cw_region ?_
                refine ow1 (op1_l rfl (lo_move (v := .pointer (some ⟨_, _, none⟩)) rfl) ?_)
                refine ow1 (op1_l rfl (lo_nilCheck rfl) ?_)
                refine ow1 (op1_l rfl (lo_fieldAddr rfl fl70_2) ?_)
                refine ow1 (op1_l rfl (lo_load1 (i := 0) (v := .int _ _) rfl ag3 rfl rfl) ?_)
                refine ow1 (op1_l rfl (lo_eql rfl rfl) ?_)
                refine ow_nil ?_
                refine seqK_n ?_
                refine cw_cond rfl (fun h142 => ?_) (fun h142 => ?_)
                · have p143 := dt h142
                  refine cw_region ?_
                  refine ow1 (op1_l rfl (lo_move (v := .pointer (some ⟨_, _, none⟩)) rfl) ?_)
                  refine ow1 (op1_l rfl (lo_loadA (i := 1) (vs := [_, _, _, _]) rfl ag94 sz94 rfl rfl rfl) ?_)
                  refine ow1 (op1_l rfl (lo_move rfl) ?_)
                  obtain ⟨a144, c145, rfl⟩ := own_shape ho
                  refine ow1 (op1_prl 7 rfl (fun _ hl146 hg147 => (r9_Pair _ (⟨q22.1, q30.1, 0, []⟩ : Pair) (by simp only [Pair.wf]; first | omega | (simp; done) | (simp; omega)) a144 h.length c145 h (slh_own (enc := Pair.cells) (wf := Pair.wf) (fun _ => rfl) ho hw hg147) (by first | omega | (simp <;> omega)))) (en_f cb75 rfl) rfl ?_)
                  have := pairErr_r (⟨q22.1, q30.1, 0, []⟩ : Pair) h
                  refine ow1 (op1_pm 0 rfl (rin_Fail _ i_b j139 q136 hj140 (pairErr (⟨q22.1, q30.1, 0, []⟩ : Pair) h) (by omega)) (en_f cb42 rfl) rfl ?_)
                  rintro _ _ _ ⟨j151, rfl, rfl, rfl, hj152⟩ _
                  generalize hq153 : inFail q136 (pairErr (⟨q22.1, q30.1, 0, []⟩ : Pair) h) = q148 at hj152 ⊢
                  have := hj152.err
                  have := hj152.lo
                  have := hj152.hi
                  have := hj152.len
                  refine ow_nil ?_
                  refine seqK_n ?_
                  refine cw_region ?_
                  refine ow1 (op1_l rfl (lo_move rfl) ?_)
                  refine ow1 (op1_l rfl (lo_loadA (i := 1) (vs := [_, _, _, _]) rfl ag94 sz94 rfl rfl rfl) ?_)
                  refine ow1 (op1_bslice (cs := [_, _, _, _]) 2 rfl Tryd.underlying23 sz94 zx94 rfl ⟨rfl, rfl, trivial⟩ rfl rfl (by decide) (fun b154 => ?_))
                  refine ow1 (op1_app 7 rfl rfl Tryd.underlying23 Tryd.underlying23 rfl sz94 by94 (by decide) zr94 ho (src_bx (i := 2) rfl rfl) (List.all_eq_true.1 rfl) rfl (by omega) rfl (fun v155 en156 ho157 => ?_))
                  have ho158 := own_push (enc := Pair.cells) h (⟨q22.1, q30.1, 0, []⟩ : Pair) ho157 rfl
                  refine ow1 (op1_l rfl (lo_assign rfl) ?_)
                  refine ow_nil ?_
                  refine blkK_n ?_
                  refine seqK_n ?_
                  refine cw_region ?_
                  refine ow1 (op1_l rfl (lo_move (v := .int _ _) rfl) ?_)
                  refine ow1 (op1_l rfl (lo_add rfl rfl (rg_i64 (by omega))) ?_)
                  refine ow1 (op1_l rfl (lo_assign (v := .int _ _) rfl) ?_)
                  refine ow_nil ?_
                  refine next6 (k + 1) j151 q148 (h ++ [(⟨q22.1, q30.1, 0, []⟩ : Pair)]) _ _ (upd_intro (upd_intro (mask_intro (by first | exact off_refl | (repeat (first | exact off_mask | refine off_upd rfl ?_ | refine off_mask2 rfl ?_)))) rfl) rfl) (lupd_intro (lupd_intro (lmask_intro (by first | exact offl_refl | (repeat (first | exact offl_mask | refine offl_upd rfl ?_ | refine offl_mask2 rfl ?_)))) rfl) rfl) hl17 ?_ ?_
                  · have e1 : readOne j = ((⟨q22.1, q30.1, 0, []⟩ : Pair), q136) := by unfold readOne; simp only; (repeat first | simp only [hq6, hq15, hq27, hq35, hq141, hq153] | rw [if_pos (by omega)] | rw [if_neg (by omega)]); all_goals first | rfl | (rw [wrap_i64s (by omega) (by omega)]; done) | (simp [*]; done) | (rw [wrap_i64s (by omega) (by omega)]; simp [*]; done)
                    have hj0 : j.err = 0 := by omega
                    have hst := hk2 hj0
                    rw [show q1.1.toNat - k = (q1.1.toNat - (k + 1)) + 1 by omega] at hst
                    refine ⟨by omega, ?_, ?_, by simp; omega, hj152, ho158, (wf_push hw (by simp only [Pair.wf]; first | omega | (simp; done) | (simp; omega)))⟩
                    · intro hz; have hz2 := hz; rw [← hq153] at hz2; have q := hst.trans (readGo_ok e1 (by omega) hz2); rw [hq153] at q; exact q
                    · intro hz; have hz2 := hz; rw [← hq153] at hz2; have q := hst.trans (readGo_er1 e1 (by omega) hz2); rw [hq153] at q; exact q
                  · omega
                · have p159 := df h142
                  refine cw_skip ?_
                  refine seqK_n ?_
                  refine cw_region ?_
                  refine ow1 (op1_l rfl (lo_move rfl) ?_)
                  refine ow1 (op1_l rfl (lo_loadA (i := 1) (vs := [_, _, _, _]) rfl ag94 sz94 rfl rfl rfl) ?_)
                  refine ow1 (op1_bslice (cs := [_, _, _, _]) 2 rfl Tryd.underlying23 sz94 zx94 rfl ⟨rfl, rfl, trivial⟩ rfl rfl (by decide) (fun b160 => ?_))
                  refine ow1 (op1_app 7 rfl rfl Tryd.underlying23 Tryd.underlying23 rfl sz94 by94 (by decide) zr94 ho (src_bx (i := 2) rfl rfl) (List.all_eq_true.1 rfl) rfl (by omega) rfl (fun v161 en162 ho163 => ?_))
                  have ho164 := own_push (enc := Pair.cells) h (⟨q22.1, q30.1, 0, []⟩ : Pair) ho163 rfl
                  refine ow1 (op1_l rfl (lo_assign rfl) ?_)
                  refine ow_nil ?_
                  refine blkK_n ?_
                  refine seqK_n ?_
                  refine cw_region ?_
                  refine ow1 (op1_l rfl (lo_move (v := .int _ _) rfl) ?_)
                  refine ow1 (op1_l rfl (lo_add rfl rfl (rg_i64 (by omega))) ?_)
                  refine ow1 (op1_l rfl (lo_assign (v := .int _ _) rfl) ?_)
                  refine ow_nil ?_
                  refine next6 (k + 1) j139 q136 (h ++ [(⟨q22.1, q30.1, 0, []⟩ : Pair)]) _ _ (upd_intro (upd_intro (mask_intro (by first | exact off_refl | (repeat (first | exact off_mask | refine off_upd rfl ?_ | refine off_mask2 rfl ?_)))) rfl) rfl) (lupd_intro (lupd_intro (lmask_intro (by first | exact offl_refl | (repeat (first | exact offl_mask | refine offl_upd rfl ?_ | refine offl_mask2 rfl ?_)))) rfl) rfl) hl17 ?_ ?_
                  · have e1 : readOne j = ((⟨q22.1, q30.1, 0, []⟩ : Pair), q136) := by unfold readOne; simp only; (repeat first | simp only [hq6, hq15, hq27, hq35, hq141] | rw [if_pos (by omega)] | rw [if_neg (by omega)]); all_goals first | rfl | (rw [wrap_i64s (by omega) (by omega)]; done) | (simp [*]; done) | (rw [wrap_i64s (by omega) (by omega)]; simp [*]; done)
                    have hj0 : j.err = 0 := by omega
                    have hst := hk2 hj0
                    rw [show q1.1.toNat - k = (q1.1.toNat - (k + 1)) + 1 by omega] at hst
                    refine ⟨by omega, ?_, ?_, by simp; omega, hj140, ho164, (wf_push hw (by simp only [Pair.wf]; first | omega | (simp; done) | (simp; omega)))⟩
                    · intro hz; exfalso; omega
                    · intro hz; exact hst.trans (readGo_er0 e1 (by omega))
                  · omega
        · have p165 := df h20
          refine cw_exit ?_
          refine seqK_e ?_
          refine loopK_e ?_
          refine blkK_hit ?_
          refine seqK_n ?_
          refine cw_seq ?_
          refine cw_seq ?_
          refine cw_region ?_
          refine ow1 (op1_l rfl (lo_move (v := .pointer (some ⟨_, _, none⟩)) rfl) ?_)
          refine ow1 (op1_l rfl (lo_nilCheck rfl) ?_)
          refine ow1 (op1_l rfl (lo_fieldAddr rfl fl70_2) ?_)
          refine ow1 (op1_l rfl (lo_load1 (i := 0) (v := .int _ _) rfl ag3 rfl rfl) ?_)
          refine ow1 (op1_l rfl (lo_neq rfl rfl) ?_)
          refine ow_nil ?_
          refine seqK_n ?_
          refine cw_cond_t rfl (by rw [h20] <;> rfl) ?_
          refine cw_seq ?_
          refine cw_region ?_
          refine ow1 (op1_l rfl (lo_assign (v := .slice _ _ _) rfl) ?_)
          refine ow_nil ?_
          refine seqK_n ?_
          refine cw_ret ?_
          refine seqK_r ?_
          refine fnK_r (res1 rfl (rv_t (v := .slice _ _ _) rfl)) ((HLe.refl _).trans hl17) ?_
          have e : headRead i = ([], j) := hk2b (by omega)
          rw [e]
          exact ⟨_, rfl, none, 0, jr, rfl, rfl, slh_nil, hj⟩
      · have p166 := df h18
        refine ow1 (op1_gs rfl h18 rfl ?_)
        refine ow1 (op1_gs rfl h18 rfl ?_)
        refine ow1 (op1_gs rfl h18 rfl ?_)
        refine ow1 (op1_gs rfl h18 rfl ?_)
        refine ow1 (op1_gs rfl h18 rfl ?_)
        refine ow1 (op1_l rfl (lo_pick_f (v := .bool _) rfl h18 rfl) ?_)
        refine ow_nil ?_
        refine seqK_n ?_
        refine cw_cond_f rfl rfl ?_
        refine cw_exit ?_
        refine seqK_e ?_
        refine loopK_e ?_
        refine blkK_hit ?_
        refine seqK_n ?_
        refine cw_seq ?_
        refine cw_seq ?_
        refine cw_region ?_
        refine ow1 (op1_l rfl (lo_move (v := .pointer (some ⟨_, _, none⟩)) rfl) ?_)
        refine ow1 (op1_l rfl (lo_nilCheck rfl) ?_)
        refine ow1 (op1_l rfl (lo_fieldAddr rfl fl70_2) ?_)
        refine ow1 (op1_l rfl (lo_load1 (i := 0) (v := .int _ _) rfl ag3 rfl rfl) ?_)
        refine ow1 (op1_l rfl (lo_neq rfl rfl) ?_)
        refine ow_nil ?_
        refine seqK_n ?_
        refine cw_cond rfl (fun h167 => ?_) (fun h167 => ?_)
        · have h168 := not_t h167
          have p169 := df h168
          refine cw_seq ?_
          refine cw_region ?_
          refine ow1 (op1_l rfl (lo_assign (v := .slice _ _ _) rfl) ?_)
          refine ow_nil ?_
          refine seqK_n ?_
          refine cw_ret ?_
          refine seqK_r ?_
          refine fnK_r (res1 rfl (rv_t (v := .slice _ _ _) rfl)) ((HLe.refl _).trans hl17) ?_
          have e : headRead i = ([], j) := hk2b (by omega)
          rw [e]
          exact ⟨_, rfl, none, 0, jr, rfl, rfl, slh_nil, hj⟩
        · have h170 := not_f h167
          have p171 := dt h170
          refine cw_skip ?_
          refine seqK_n ?_
          refine cw_seq ?_
          refine cw_region ?_
          refine ow1 (op1_l rfl (lo_move rfl) ?_)
          refine ow1 (op1_l rfl (lo_assign rfl) ?_)
          refine ow_nil ?_
          refine seqK_n ?_
          refine cw_giveO 7 rfl (fun _ hl172 hg173 => ?_)
          have hs174 := slh_own (enc := Pair.cells) (wf := Pair.wf) (fun _ => rfl) ho hw hg173
          obtain ⟨⟨a175, c176, rfl, -⟩, -⟩ := id hs174
          refine cw_ret ?_
          refine fnK_r (res1 rfl (rv_t (v := .slice _ _ _) rfl)) (((HLe.refl _).trans hl17).trans hl172) ?_
          have e : headRead i = (h, j) := by
            rw [hk2 (by omega), show q1.1.toNat - k = 0 by omega]
            rfl
          rw [e]
          exact ⟨_, rfl, _, _, jr, rfl, rfl, hs174, hj⟩
  · have p177 := df h8
    refine cw_skip ?_
    refine seqK_n ?_
    refine cw_seq ?_
    refine cw_region ?_
    refine ow1 (op1_l rfl (lo_assign (v := .slice _ _ _) rfl) ?_)
    refine ow_nil ?_
    refine seqK_n ?_
    refine cw_seq ?_
    refine cw_seq ?_
    refine cw_region ?_
    refine ow1 (op1_l rfl (lo_assign (v := .int _ _) rfl) ?_)
    refine ow_nil ?_
    refine seqK_n ?_
    refine cw_block ?_
    refine cw_loop6 [4, 5, 6, 14, 15, 16, 17, 18, 19, 20, 21, 22, 23, 24, 25, 26, 27, 28, 29, 30, 31, 32, 33, 34, 35, 36, 37, 38, 39, 40, 41, 42, 43, 44, 45, 46, 47, 48, 49, 50, 51, 52, 53, 54, 55, 56, 57, 58, 59, 60, 61, 62, 63, 64, 65, 66, 67, 68] [0, 1, 2, 7] (fun (k : Nat) (jr : RIn) (j : In) (h : List Pair) (v : Value) (en : Option (Nat × Obj)) G => upd (upd (G) 5 (.int .i64 (k : Int))) 4 (v)) (fun (k : Nat) (jr : RIn) (j : In) (h : List Pair) (v : Value) (en : Option (Nat × Obj)) G => lupd (lupd (G) 0 (some (i_b, bx 70 (RIn.cells jr)))) 7 (en)) (fun (k : Nat) (jr : RIn) (j : In) (h : List Pair) (v : Value) (en : Option (Nat × Obj)) H' => k ≤ q1.1.toNat ∧ (j.err = 0 → headRead i = readGo (q1.1.toNat - k) j h) ∧ (¬ j.err = 0 → headRead i = ([], j)) ∧ h.length ≤ k ∧ RSt jr j ∧ OwnV 4 94 v en h.length (h.flatMap Pair.cells) ∧ (∀ x ∈ h, Pair.wf x)) (fun (k : Nat) (jr : RIn) (j : In) (h : List Pair) (v : Value) (en : Option (Nat × Obj)) => q1.1.toNat - k) 0 j4 q1.2 [] (.slice none 0 0) none (upd_intro (upd_intro (mask_intro (by first | exact off_refl | (repeat (first | exact off_mask | refine off_upd rfl ?_ | refine off_mask2 rfl ?_)))) rfl) rfl) (lupd_intro (lupd_intro (lmask_intro offl_refl) rfl) rfl) ?_ ?_
    · refine ⟨Nat.zero_le _, fun _ => by unfold headRead; (repeat first | simp only [hq6] | rw [if_pos (by omega)] | rw [if_neg (by omega)]); all_goals rfl, fun hz => ?_, Nat.zero_le _, hj5, ownV_nil, wf_nil⟩
      unfold headRead
      (repeat first | simp only [hq6] | rw [if_pos (by omega)] | rw [if_neg (by omega)])
      exact readGo_bad hz _
    · intro k jr j h v en J179 JL179 H179 hp178 hl179
      obtain ⟨hk1, hk2, hk2b, hk3, hj, ho, hw⟩ := hp178
      have := hj.err
      have := hj.lo
      have := hj.hi
      have := hj.len
      refine cw_seq ?_
      refine cw_seq ?_
      refine cw_region ?_
      refine ow1 (op1_l rfl (lo_move (v := .int _ _) rfl) ?_)
      refine ow1 (op1_l rfl (lo_move (v := .int _ _) rfl) ?_)
      refine ow1 (op1_l rfl (lo_lss rfl rfl) ?_)
      refine ow1 (op1_l rfl (lo_move (v := .bool _) rfl) ?_)
      refine ow_sp (j := 3) rfl (fun h180 => ?_) (fun h180 => ?_)
      · have p181 := dt h180
        refine ow1 (op1_g rfl h180 rfl (lo_move (v := .pointer (some ⟨_, _, none⟩)) rfl) ?_)
        refine ow1 (op1_g rfl h180 rfl (lo_nilCheck rfl) ?_)
        refine ow1 (op1_g rfl h180 rfl (lo_fieldAddr rfl fl70_2) ?_)
        refine ow1 (op1_g rfl h180 rfl (lo_load1 (i := 0) (v := .int _ _) rfl ag3 rfl rfl) ?_)
        refine ow1 (op1_g rfl h180 rfl (lo_eql rfl rfl) ?_)
        refine ow1 (op1_l rfl (lo_pick_t (v := .bool _) rfl h180 rfl) ?_)
        refine ow_nil ?_
        refine seqK_n ?_
        refine cw_cond rfl (fun h182 => ?_) (fun h182 => ?_)
        · have p183 := dt h182
          refine cw_skip ?_
          refine seqK_n ?_
          refine cw_seq ?_
          refine cw_block ?_
          refine cw_seq ?_
          refine cw_region ?_
          refine ow1 (op1_l rfl (lo_move (v := .pointer (some ⟨_, _, none⟩)) rfl) ?_)
          refine ow1 (op1_pm 0 rfl (rin_Text _ i_b jr j hj 16 (by omega)) (en_f cb38 rfl) rfl ?_)
          rintro _ _ _ ⟨j187, rfl, rfl, rfl, hj188⟩ _
          generalize hq189 : inText j 16 = q184 at hj188 ⊢
          have := hj188.err
          have := hj188.lo
          have := hj188.hi
          have := hj188.len
          have hf190 := inText_len j 16
          simp only [hq189] at hf190
          refine ow1 (op1_l rfl (lo_build (v := .agg #[_, _, _, _]) rfl (bd94_0s _)) ?_)
          refine ow1 (op1_alloc 1 rfl zr94 (fun b191 => ?_))
          refine ow1 (op1_storeA (i := 1) (vs := [_, _, _, _]) rfl rfl rfl sz94 rfl rfl rfl ?_)
          refine ow_nil ?_
          refine seqK_n ?_
          refine cw_seq ?_
          refine cw_region ?_
          refine ow1 (op1_l rfl (lo_move (v := .pointer (some ⟨_, _, none⟩)) rfl) ?_)
          refine ow1 (op1_pm 0 rfl (rin_Num _ i_b j187 q184.2 hj188 1 (by omega)) (en_f cb40 rfl) rfl ?_)
          rintro _ _ _ ⟨j195, rfl, rfl, rfl, hj196⟩ _
          generalize hq197 : inNum q184.2 1 = q192 at hj196 ⊢
          have := hj196.err
          have := hj196.lo
          have := hj196.hi
          have := hj196.len
          have hf198 := inNum_r q184.2 1
          simp only [hq197] at hf198
          refine ow1 (op1_l rfl (lo_conv_in rfl (by rw [Tryd.underlying22]; rfl) Tryd.underlying5 (rg_u8 (by omega))) ?_)
          refine ow1 (op1_l rfl (lo_fieldAddr rfl fl94_1) ?_)
          refine ow1 (op1_store1 (i := 1) (v := .int _ _) rfl rfl rfl sz5 rfl rfl ?_)
          refine ow_nil ?_
          refine seqK_n ?_
          refine cw_seq ?_
          refine cw_seq ?_
          refine cw_region ?_
          refine ow1 (op1_l rfl (lo_fieldAddr rfl fl94_1) ?_)
          refine ow1 (op1_l rfl (lo_load1 (i := 1) (v := .int _ _) rfl ag5 rfl rfl) ?_)
          refine ow1 (op1_l rfl (lo_eql rfl rfl) ?_)
          refine ow_nil ?_
          refine seqK_n ?_
          refine cw_cond rfl (fun h199 => ?_) (fun h199 => ?_)
          · have p200 := dt h199
            refine cw_region ?_
            refine ow1 (op1_l rfl (lo_move (v := .pointer (some ⟨_, _, none⟩)) rfl) ?_)
            refine ow1 (op1_pm 0 rfl (rin_Num _ i_b j195 q192.2 hj196 8 (by omega)) (en_f cb40 rfl) rfl ?_)
            rintro _ _ _ ⟨j204, rfl, rfl, rfl, hj205⟩ _
            generalize hq206 : inNum q192.2 8 = q201 at hj205 ⊢
            have := hj205.err
            have := hj205.lo
            have := hj205.hi
            have := hj205.len
            have hf207 := inNum_r q192.2 8
            simp only [hq206] at hf207
            have := wr_i64 q201.1
            refine ow1 (op1_l rfl (lo_conv rfl (by rw [Tryd.underlying22]; rfl) Tryd.underlying2) ?_)
            refine ow1 (op1_l rfl (lo_fieldAddr rfl fl94_2) ?_)
            refine ow1 (op1_store1 (i := 1) (v := .int _ _) rfl rfl rfl sz2 rfl rfl ?_)
            refine ow_nil ?_
            refine seqK_n ?_
            refine cw_seq ?_
            refine cw_seq ?_
            refine cw_region ?_
            refine ow1 (op1_l rfl (lo_move (v := .pointer (some ⟨_, _, none⟩)) rfl) ?_)
            refine ow1 (op1_l rfl (lo_nilCheck rfl) ?_)
            refine ow1 (op1_l rfl (lo_fieldAddr rfl fl70_2) ?_)
            refine ow1 (op1_l rfl (lo_load1 (i := 0) (v := .int _ _) rfl ag3 rfl rfl) ?_)
            refine ow1 (op1_l rfl (lo_eql rfl rfl) ?_)
            refine ow_nil ?_
            refine seqK_n ?_
            refine cw_cond rfl (fun h208 => ?_) (fun h208 => ?_)
            · have p209 := dt h208
              refine cw_region ?_
              refine ow1 (op1_l rfl (lo_move (v := .pointer (some ⟨_, _, none⟩)) rfl) ?_)
              refine ow1 (op1_l rfl (lo_loadA (i := 1) (vs := [_, _, _, _]) rfl ag94 sz94 rfl rfl rfl) ?_)
              refine ow1 (op1_l rfl (lo_move rfl) ?_)
              obtain ⟨a210, c211, rfl⟩ := own_shape ho
              refine ow1 (op1_prl 7 rfl (fun _ hl212 hg213 => (r9_Pair _ (⟨q184.1, q192.1, (IntKind.wrap .i64 q201.1), []⟩ : Pair) (by simp only [Pair.wf]; first | omega | (simp; done) | (simp; omega)) a210 h.length c211 h (slh_own (enc := Pair.cells) (wf := Pair.wf) (fun _ => rfl) ho hw hg213) (by first | omega | (simp <;> omega)))) (en_f cb75 rfl) rfl ?_)
              have := pairErr_r (⟨q184.1, q192.1, (IntKind.wrap .i64 q201.1), []⟩ : Pair) h
              refine ow1 (op1_pm 0 rfl (rin_Fail _ i_b j204 q201.2 hj205 (pairErr (⟨q184.1, q192.1, (IntKind.wrap .i64 q201.1), []⟩ : Pair) h) (by omega)) (en_f cb42 rfl) rfl ?_)
              rintro _ _ _ ⟨j217, rfl, rfl, rfl, hj218⟩ _
              generalize hq219 : inFail q201.2 (pairErr (⟨q184.1, q192.1, (IntKind.wrap .i64 q201.1), []⟩ : Pair) h) = q214 at hj218 ⊢
              have := hj218.err
              have := hj218.lo
              have := hj218.hi
              have := hj218.len
              refine ow_nil ?_
              refine seqK_n ?_
              refine cw_region ?_
              refine ow1 (op1_l rfl (lo_move rfl) ?_)
              refine ow1 (op1_l rfl (lo_loadA (i := 1) (vs := [_, _, _, _]) rfl ag94 sz94 rfl rfl rfl) ?_)
              refine ow1 (op1_bslice (cs := [_, _, _, _]) 2 rfl Tryd.underlying23 sz94 zx94 rfl ⟨rfl, rfl, trivial⟩ rfl rfl (by decide) (fun b220 => ?_))
              refine ow1 (op1_app 7 rfl rfl Tryd.underlying23 Tryd.underlying23 rfl sz94 by94 (by decide) zr94 ho (src_bx (i := 2) rfl rfl) (List.all_eq_true.1 rfl) rfl (by omega) rfl (fun v221 en222 ho223 => ?_))
              have ho224 := own_push (enc := Pair.cells) h (⟨q184.1, q192.1, (IntKind.wrap .i64 q201.1), []⟩ : Pair) ho223 rfl
              refine ow1 (op1_l rfl (lo_assign rfl) ?_)
              refine ow_nil ?_
              refine blkK_n ?_
              refine seqK_n ?_
              refine cw_region ?_
              refine ow1 (op1_l rfl (lo_move (v := .int _ _) rfl) ?_)
              refine ow1 (op1_l rfl (lo_add rfl rfl (rg_i64 (by omega))) ?_)
              refine ow1 (op1_l rfl (lo_assign (v := .int _ _) rfl) ?_)
              refine ow_nil ?_
              refine next6 (k + 1) j217 q214 (h ++ [(⟨q184.1, q192.1, (IntKind.wrap .i64 q201.1), []⟩ : Pair)]) _ _ (upd_intro (upd_intro (mask_intro (by first | exact off_refl | (repeat (first | exact off_mask | refine off_upd rfl ?_ | refine off_mask2 rfl ?_)))) rfl) rfl) (lupd_intro (lupd_intro (lmask_intro (by first | exact offl_refl | (repeat (first | exact offl_mask | refine offl_upd rfl ?_ | refine offl_mask2 rfl ?_)))) rfl) rfl) hl179 ?_ ?_
              · have e1 : readOne j = ((⟨q184.1, q192.1, (IntKind.wrap .i64 q201.1), []⟩ : Pair), q201.2) := by unfold readOne; simp only; (repeat first | simp only [hq6, hq189, hq197, hq206, hq219] | rw [if_pos (by omega)] | rw [if_neg (by omega)]); all_goals first | rfl | (rw [wrap_i64s (by omega) (by omega)]; done) | (simp [*]; done) | (rw [wrap_i64s (by omega) (by omega)]; simp [*]; done)
                have hj0 : j.err = 0 := by omega
                have hst := hk2 hj0
                rw [show q1.1.toNat - k = (q1.1.toNat - (k + 1)) + 1 by omega] at hst
                refine ⟨by omega, ?_, ?_, by simp; omega, hj218, ho224, (wf_push hw (by simp only [Pair.wf]; first | omega | (simp; done) | (simp; omega)))⟩
                · intro hz; have hz2 := hz; rw [← hq219] at hz2; have q := hst.trans (readGo_ok e1 (by omega) hz2); rw [hq219] at q; exact q
                · intro hz; have hz2 := hz; rw [← hq219] at hz2; have q := hst.trans (readGo_er1 e1 (by omega) hz2); rw [hq219] at q; exact q
              · omega
            · have p225 := df h208
              refine cw_skip ?_
              refine seqK_n ?_
              refine cw_region ?_
              refine ow1 (op1_l rfl (lo_move rfl) ?_)
              refine ow1 (op1_l rfl (lo_loadA (i := 1) (vs := [_, _, _, _]) rfl ag94 sz94 rfl rfl rfl) ?_)
              refine ow1 (op1_bslice (cs := [_, _, _, _]) 2 rfl Tryd.underlying23 sz94 zx94 rfl ⟨rfl, rfl, trivial⟩ rfl rfl (by decide) (fun b226 => ?_))
              refine ow1 (op1_app 7 rfl rfl Tryd.underlying23 Tryd.underlying23 rfl sz94 by94 (by decide) zr94 ho (src_bx (i := 2) rfl rfl) (List.all_eq_true.1 rfl) rfl (by omega) rfl (fun v227 en228 ho229 => ?_))
              have ho230 := own_push (enc := Pair.cells) h (⟨q184.1, q192.1, (IntKind.wrap .i64 q201.1), []⟩ : Pair) ho229 rfl
              refine ow1 (op1_l rfl (lo_assign rfl) ?_)
              refine ow_nil ?_
              refine blkK_n ?_
              refine seqK_n ?_
              refine cw_region ?_
              refine ow1 (op1_l rfl (lo_move (v := .int _ _) rfl) ?_)
              refine ow1 (op1_l rfl (lo_add rfl rfl (rg_i64 (by omega))) ?_)
              refine ow1 (op1_l rfl (lo_assign (v := .int _ _) rfl) ?_)
              refine ow_nil ?_
              refine next6 (k + 1) j204 q201.2 (h ++ [(⟨q184.1, q192.1, (IntKind.wrap .i64 q201.1), []⟩ : Pair)]) _ _ (upd_intro (upd_intro (mask_intro (by first | exact off_refl | (repeat (first | exact off_mask | refine off_upd rfl ?_ | refine off_mask2 rfl ?_)))) rfl) rfl) (lupd_intro (lupd_intro (lmask_intro (by first | exact offl_refl | (repeat (first | exact offl_mask | refine offl_upd rfl ?_ | refine offl_mask2 rfl ?_)))) rfl) rfl) hl179 ?_ ?_
              · have e1 : readOne j = ((⟨q184.1, q192.1, (IntKind.wrap .i64 q201.1), []⟩ : Pair), q201.2) := by unfold readOne; simp only; (repeat first | simp only [hq6, hq189, hq197, hq206] | rw [if_pos (by omega)] | rw [if_neg (by omega)]); all_goals first | rfl | (rw [wrap_i64s (by omega) (by omega)]; done) | (simp [*]; done) | (rw [wrap_i64s (by omega) (by omega)]; simp [*]; done)
                have hj0 : j.err = 0 := by omega
                have hst := hk2 hj0
                rw [show q1.1.toNat - k = (q1.1.toNat - (k + 1)) + 1 by omega] at hst
                refine ⟨by omega, ?_, ?_, by simp; omega, hj205, ho230, (wf_push hw (by simp only [Pair.wf]; first | omega | (simp; done) | (simp; omega)))⟩
                · intro hz; exfalso; omega
                · intro hz; exact hst.trans (readGo_er0 e1 (by omega))
              · omega
          · have p231 := df h199
            refine cw_seq ?_
            refine cw_region ?_
            refine ow1 (op1_l rfl (lo_fieldAddr rfl fl94_1) ?_)
            refine ow1 (op1_l rfl (lo_load1 (i := 1) (v := .int _ _) rfl ag5 rfl rfl) ?_)
            refine ow1 (op1_l rfl (lo_eql rfl rfl) ?_)
            refine ow_nil ?_
            refine seqK_n ?_
            refine cw_cond rfl (fun h232 => ?_) (fun h232 => ?_)
            · have p233 := dt h232
              refine cw_region ?_
              refine ow1 (op1_l rfl (lo_move (v := .pointer (some ⟨_, _, none⟩)) rfl) ?_)
              refine ow1 (op1_pm 0 rfl (rin_Text _ i_b j195 q192.2 hj196 64 (by omega)) (en_f cb38 rfl) rfl ?_)
              rintro _ _ _ ⟨j237, rfl, rfl, rfl, hj238⟩ _
              generalize hq239 : inText q192.2 64 = q234 at hj238 ⊢
              have := hj238.err
              have := hj238.lo
              have := hj238.hi
              have := hj238.len
              have hf240 := inText_len q192.2 64
              simp only [hq239] at hf240
              refine ow1 (op1_l rfl (lo_fieldAddr rfl fl94_3) ?_)
              refine ow1 (op1_store1 (i := 1) (v := str _) rfl rfl rfl sz9 rfl rfl ?_)
              refine ow_nil ?_
              refine seqK_n ?_
              refine cw_seq ?_
              refine cw_seq ?_
              refine cw_region ?_
              refine ow1 (op1_l rfl (lo_move (v := .pointer (some ⟨_, _, none⟩)) rfl) ?_)
              refine ow1 (op1_l rfl (lo_nilCheck rfl) ?_)
              refine ow1 (op1_l rfl (lo_fieldAddr rfl fl70_2) ?_)
              refine ow1 (op1_l rfl (lo_load1 (i := 0) (v := .int _ _) rfl ag3 rfl rfl) ?_)
              refine ow1 (op1_l rfl (lo_eql rfl rfl) ?_)
              refine ow_nil ?_
              refine seqK_n ?_
              refine cw_cond rfl (fun h241 => ?_) (fun h241 => ?_)
              · have p242 := dt h241
                refine cw_region ?_
                refine ow1 (op1_l rfl (lo_move (v := .pointer (some ⟨_, _, none⟩)) rfl) ?_)
                refine ow1 (op1_l rfl (lo_loadA (i := 1) (vs := [_, _, _, _]) rfl ag94 sz94 rfl rfl rfl) ?_)
                refine ow1 (op1_l rfl (lo_move rfl) ?_)
                obtain ⟨a243, c244, rfl⟩ := own_shape ho
                refine ow1 (op1_prl 7 rfl (fun _ hl245 hg246 => (r9_Pair _ (⟨q184.1, q192.1, 0, q234.1⟩ : Pair) (by simp only [Pair.wf]; first | omega | (simp; done) | (simp; omega)) a243 h.length c244 h (slh_own (enc := Pair.cells) (wf := Pair.wf) (fun _ => rfl) ho hw hg246) (by first | omega | (simp <;> omega)))) (en_f cb75 rfl) rfl ?_)
                have := pairErr_r (⟨q184.1, q192.1, 0, q234.1⟩ : Pair) h
                refine ow1 (op1_pm 0 rfl (rin_Fail _ i_b j237 q234.2 hj238 (pairErr (⟨q184.1, q192.1, 0, q234.1⟩ : Pair) h) (by omega)) (en_f cb42 rfl) rfl ?_)
                rintro _ _ _ ⟨j250, rfl, rfl, rfl, hj251⟩ _
                generalize hq252 : inFail q234.2 (pairErr (⟨q184.1, q192.1, 0, q234.1⟩ : Pair) h) = q247 at hj251 ⊢
                have := hj251.err
                have := hj251.lo
                have := hj251.hi
                have := hj251.len
                refine ow_nil ?_
                refine seqK_n ?_
                refine cw_region ?_
                refine ow1 (op1_l rfl (lo_move rfl) ?_)
                refine ow1 (op1_l rfl (lo_loadA (i := 1) (vs := [_, _, _, _]) rfl ag94 sz94 rfl rfl rfl) ?_)
                refine ow1 (op1_bslice (cs := [_, _, _, _]) 2 rfl Tryd.underlying23 sz94 zx94 rfl ⟨rfl, rfl, trivial⟩ rfl rfl (by decide) (fun b253 => ?_))
                refine ow1 (op1_app 7 rfl rfl Tryd.underlying23 Tryd.underlying23 rfl sz94 by94 (by decide) zr94 ho (src_bx (i := 2) rfl rfl) (List.all_eq_true.1 rfl) rfl (by omega) rfl (fun v254 en255 ho256 => ?_))
                have ho257 := own_push (enc := Pair.cells) h (⟨q184.1, q192.1, 0, q234.1⟩ : Pair) ho256 rfl
                refine ow1 (op1_l rfl (lo_assign rfl) ?_)
                refine ow_nil ?_
                refine blkK_n ?_
                refine seqK_n ?_
                refine cw_region ?_
                refine ow1 (op1_l rfl (lo_move (v := .int _ _) rfl) ?_)
                refine ow1 (op1_l rfl (lo_add rfl rfl (rg_i64 (by omega))) ?_)
                refine ow1 (op1_l rfl (lo_assign (v := .int _ _) rfl) ?_)
                refine ow_nil ?_
                refine next6 (k + 1) j250 q247 (h ++ [(⟨q184.1, q192.1, 0, q234.1⟩ : Pair)]) _ _ (upd_intro (upd_intro (mask_intro (by first | exact off_refl | (repeat (first | exact off_mask | refine off_upd rfl ?_ | refine off_mask2 rfl ?_)))) rfl) rfl) (lupd_intro (lupd_intro (lmask_intro (by first | exact offl_refl | (repeat (first | exact offl_mask | refine offl_upd rfl ?_ | refine offl_mask2 rfl ?_)))) rfl) rfl) hl179 ?_ ?_
                · have e1 : readOne j = ((⟨q184.1, q192.1, 0, q234.1⟩ : Pair), q234.2) := by unfold readOne; simp only; (repeat first | simp only [hq6, hq189, hq197, hq239, hq252] | rw [if_pos (by omega)] | rw [if_neg (by omega)]); all_goals first | rfl | (rw [wrap_i64s (by omega) (by omega)]; done) | (simp [*]; done) | (rw [wrap_i64s (by omega) (by omega)]; simp [*]; done)
                  have hj0 : j.err = 0 := by omega
                  have hst := hk2 hj0
                  rw [show q1.1.toNat - k = (q1.1.toNat - (k + 1)) + 1 by omega] at hst
                  refine ⟨by omega, ?_, ?_, by simp; omega, hj251, ho257, (wf_push hw (by simp only [Pair.wf]; first | omega | (simp; done) | (simp; omega)))⟩
                  · intro hz; have hz2 := hz; rw [← hq252] at hz2; have q := hst.trans (readGo_ok e1 (by omega) hz2); rw [hq252] at q; exact q
                  · intro hz; have hz2 := hz; rw [← hq252] at hz2; have q := hst.trans (readGo_er1 e1 (by omega) hz2); rw [hq252] at q; exact q
                · omega
              · have p258 := df h241
                refine cw_skip ?_
                refine seqK_n ?_
                refine cw_region ?_
                refine ow1 (op1_l rfl (lo_move rfl) ?_)
                refine ow1 (op1_l rfl (lo_loadA (i := 1) (vs := [_, _, _, _]) rfl ag94 sz94 rfl rfl rfl) ?_)
                refine ow1 (op1_bslice (cs := [_, _, _, _]) 2 rfl Tryd.underlying23 sz94 zx94 rfl ⟨rfl, rfl, trivial⟩ rfl rfl (by decide) (fun b259 => ?_))
                refine ow1 (op1_app 7 rfl rfl Tryd.underlying23 Tryd.underlying23 rfl sz94 by94 (by decide) zr94 ho (src_bx (i := 2) rfl rfl) (List.all_eq_true.1 rfl) rfl (by omega) rfl (fun v260 en261 ho262 => ?_))
                have ho263 := own_push (enc := Pair.cells) h (⟨q184.1, q192.1, 0, q234.1⟩ : Pair) ho262 rfl
                refine ow1 (op1_l rfl (lo_assign rfl) ?_)
                refine ow_nil ?_
                refine blkK_n ?_
                refine seqK_n ?_
                refine cw_region ?_
                refine ow1 (op1_l rfl (lo_move (v := .int _ _) rfl) ?_)
                refine ow1 (op1_l rfl (lo_add rfl rfl (rg_i64 (by omega))) ?_)
                refine ow1 (op1_l rfl (lo_assign (v := .int _ _) rfl) ?_)
                refine ow_nil ?_
                refine next6 (k + 1) j237 q234.2 (h ++ [(⟨q184.1, q192.1, 0, q234.1⟩ : Pair)]) _ _ (upd_intro (upd_intro (mask_intro (by first | exact off_refl | (repeat (first | exact off_mask | refine off_upd rfl ?_ | refine off_mask2 rfl ?_)))) rfl) rfl) (lupd_intro (lupd_intro (lmask_intro (by first | exact offl_refl | (repeat (first | exact offl_mask | refine offl_upd rfl ?_ | refine offl_mask2 rfl ?_)))) rfl) rfl) hl179 ?_ ?_
                · have e1 : readOne j = ((⟨q184.1, q192.1, 0, q234.1⟩ : Pair), q234.2) := by unfold readOne; simp only; (repeat first | simp only [hq6, hq189, hq197, hq239] | rw [if_pos (by omega)] | rw [if_neg (by omega)]); all_goals first | rfl | (rw [wrap_i64s (by omega) (by omega)]; done) | (simp [*]; done) | (rw [wrap_i64s (by omega) (by omega)]; simp [*]; done)
                  have hj0 : j.err = 0 := by omega
                  have hst := hk2 hj0
                  rw [show q1.1.toNat - k = (q1.1.toNat - (k + 1)) + 1 by omega] at hst
                  refine ⟨by omega, ?_, ?_, by simp; omega, hj238, ho263, (wf_push hw (by simp only [Pair.wf]; first | omega | (simp; done) | (simp; omega)))⟩
                  · intro hz; exfalso; omega
                  · intro hz; exact hst.trans (readGo_er0 e1 (by omega))
                · omega
            · have p264 := df h232
              refine cw_seq ?_
              refine cw_region ?_
              refine ow1 (op1_l rfl (lo_fieldAddr rfl fl94_1) ?_)
              refine ow1 (op1_l rfl (lo_load1 (i := 1) (v := .int _ _) rfl ag5 rfl rfl) ?_)
              refine ow1 (op1_l rfl (lo_eql rfl rfl) ?_)
              refine ow_nil ?_
              refine seqK_n ?_
              refine cw_cond rfl (fun h265 => ?_) (fun h265 => ?_)
              · have p266 := dt h265
                refine cw_region ?_
                refine ow1 (op1_l rfl (lo_move (v := .pointer (some ⟨_, _, none⟩)) rfl) ?_)
                refine ow1 (op1_pm 0 rfl (rin_Num _ i_b j195 q192.2 hj196 1 (by omega)) (en_f cb40 rfl) rfl ?_)
                rintro _ _ _ ⟨j270, rfl, rfl, rfl, hj271⟩ _
                generalize hq272 : inNum q192.2 1 = q267 at hj271 ⊢
                have := hj271.err
                have := hj271.lo
                have := hj271.hi
                have := hj271.len
                have hf273 := inNum_r q192.2 1
                simp only [hq272] at hf273
                refine ow1 (op1_l rfl (lo_conv_in rfl (by rw [Tryd.underlying22]; rfl) Tryd.underlying2 (rg_i64 (by omega))) ?_)
                refine ow1 (op1_l rfl (lo_fieldAddr rfl fl94_2) ?_)
                refine ow1 (op1_store1 (i := 1) (v := .int _ _) rfl rfl rfl sz2 rfl rfl ?_)
                refine ow_nil ?_
                refine seqK_n ?_
                refine cw_seq ?_
                refine cw_seq ?_
                refine cw_region ?_
                refine ow1 (op1_l rfl (lo_move (v := .pointer (some ⟨_, _, none⟩)) rfl) ?_)
                refine ow1 (op1_l rfl (lo_nilCheck rfl) ?_)
                refine ow1 (op1_l rfl (lo_fieldAddr rfl fl70_2) ?_)
                refine ow1 (op1_l rfl (lo_load1 (i := 0) (v := .int _ _) rfl ag3 rfl rfl) ?_)
                refine ow1 (op1_l rfl (lo_eql rfl rfl) ?_)
                refine ow_nil ?_
                refine seqK_n ?_
                refine cw_cond rfl (fun h274 => ?_) (fun h274 => ?_)
                · have p275 := dt h274
                  refine cw_region ?_
                  refine ow1 (op1_l rfl (lo_move (v := .pointer (some ⟨_, _, none⟩)) rfl) ?_)
                  refine ow1 (op1_l rfl (lo_loadA (i := 1) (vs := [_, _, _, _]) rfl ag94 sz94 rfl rfl rfl) ?_)
                  refine ow1 (op1_l rfl (lo_move rfl) ?_)
                  obtain ⟨a276, c277, rfl⟩ := own_shape ho
                  refine ow1 (op1_prl 7 rfl (fun _ hl278 hg279 => (r9_Pair _ (⟨q184.1, q192.1, q267.1, []⟩ : Pair) (by simp only [Pair.wf]; first | omega | (simp; done) | (simp; omega)) a276 h.length c277 h (slh_own (enc := Pair.cells) (wf := Pair.wf) (fun _ => rfl) ho hw hg279) (by first | omega | (simp <;> omega)))) (en_f cb75 rfl) rfl ?_)
                  have := pairErr_r (⟨q184.1, q192.1, q267.1, []⟩ : Pair) h
                  refine ow1 (op1_pm 0 rfl (rin_Fail _ i_b j270 q267.2 hj271 (pairErr (⟨q184.1, q192.1, q267.1, []⟩ : Pair) h) (by omega)) (en_f cb42 rfl) rfl ?_)
                  rintro _ _ _ ⟨j283, rfl, rfl, rfl, hj284⟩ _
                  generalize hq285 : inFail q267.2 (pairErr (⟨q184.1, q192.1, q267.1, []⟩ : Pair) h) = q280 at hj284 ⊢
                  have := hj284.err
                  have := hj284.lo
                  have := hj284.hi
                  have := hj284.len
                  refine ow_nil ?_
                  refine seqK_n ?_
                  refine cw_region ?_
                  refine ow1 (op1_l rfl (lo_move rfl) ?_)
                  refine ow1 (op1_l rfl (lo_loadA (i := 1) (vs := [_, _, _, _]) rfl ag94 sz94 rfl rfl rfl) ?_)
                  refine ow1 (op1_bslice (cs := [_, _, _, _]) 2 rfl Tryd.underlying23 sz94 zx94 rfl ⟨rfl, rfl, trivial⟩ rfl rfl (by decide) (fun b286 => ?_))
                  refine ow1 (op1_app 7 rfl rfl Tryd.underlying23 Tryd.underlying23 rfl sz94 by94 (by decide) zr94 ho (src_bx (i := 2) rfl rfl) (List.all_eq_true.1 rfl) rfl (by omega) rfl (fun v287 en288 ho289 => ?_))
                  have ho290 := own_push (enc := Pair.cells) h (⟨q184.1, q192.1, q267.1, []⟩ : Pair) ho289 rfl
                  refine ow1 (op1_l rfl (lo_assign rfl) ?_)
                  refine ow_nil ?_
                  refine blkK_n ?_
                  refine seqK_n ?_
                  refine cw_region ?_
                  refine ow1 (op1_l rfl (lo_move (v := .int _ _) rfl) ?_)
                  refine ow1 (op1_l rfl (lo_add rfl rfl (rg_i64 (by omega))) ?_)
                  refine ow1 (op1_l rfl (lo_assign (v := .int _ _) rfl) ?_)
                  refine ow_nil ?_
                  refine next6 (k + 1) j283 q280 (h ++ [(⟨q184.1, q192.1, q267.1, []⟩ : Pair)]) _ _ (upd_intro (upd_intro (mask_intro (by first | exact off_refl | (repeat (first | exact off_mask | refine off_upd rfl ?_ | refine off_mask2 rfl ?_)))) rfl) rfl) (lupd_intro (lupd_intro (lmask_intro (by first | exact offl_refl | (repeat (first | exact offl_mask | refine offl_upd rfl ?_ | refine offl_mask2 rfl ?_)))) rfl) rfl) hl179 ?_ ?_
                  · have e1 : readOne j = ((⟨q184.1, q192.1, q267.1, []⟩ : Pair), q267.2) := by unfold readOne; simp only; (repeat first | simp only [hq6, hq189, hq197, hq272, hq285] | rw [if_pos (by omega)] | rw [if_neg (by omega)]); all_goals first | rfl | (rw [wrap_i64s (by omega) (by omega)]; done) | (simp [*]; done) | (rw [wrap_i64s (by omega) (by omega)]; simp [*]; done)
                    have hj0 : j.err = 0 := by omega
                    have hst := hk2 hj0
                    rw [show q1.1.toNat - k = (q1.1.toNat - (k + 1)) + 1 by omega] at hst
                    refine ⟨by omega, ?_, ?_, by simp; omega, hj284, ho290, (wf_push hw (by simp only [Pair.wf]; first | omega | (simp; done) | (simp; omega)))⟩
                    · intro hz; have hz2 := hz; rw [← hq285] at hz2; have q := hst.trans (readGo_ok e1 (by omega) hz2); rw [hq285] at q; exact q
                    · intro hz; have hz2 := hz; rw [← hq285] at hz2; have q := hst.trans (readGo_er1 e1 (by omega) hz2); rw [hq285] at q; exact q
                  · omega
                · have p291 := df h274
                  refine cw_skip ?_
                  refine seqK_n ?_
                  refine cw_region ?_
                  refine ow1 (op1_l rfl (lo_move rfl) ?_)
                  refine ow1 (op1_l rfl (lo_loadA (i := 1) (vs := [_, _, _, _]) rfl ag94 sz94 rfl rfl rfl) ?_)
                  refine ow1 (op1_bslice (cs := [_, _, _, _]) 2 rfl Tryd.underlying23 sz94 zx94 rfl ⟨rfl, rfl, trivial⟩ rfl rfl (by decide) (fun b292 => ?_))
                  refine ow1 (op1_app 7 rfl rfl Tryd.underlying23 Tryd.underlying23 rfl sz94 by94 (by decide) zr94 ho (src_bx (i := 2) rfl rfl) (List.all_eq_true.1 rfl) rfl (by omega) rfl (fun v293 en294 ho295 => ?_))
                  have ho296 := own_push (enc := Pair.cells) h (⟨q184.1, q192.1, q267.1, []⟩ : Pair) ho295 rfl
                  refine ow1 (op1_l rfl (lo_assign rfl) ?_)
                  refine ow_nil ?_
                  refine blkK_n ?_
                  refine seqK_n ?_
                  refine cw_region ?_
                  refine ow1 (op1_l rfl (lo_move (v := .int _ _) rfl) ?_)
                  refine ow1 (op1_l rfl (lo_add rfl rfl (rg_i64 (by omega))) ?_)
                  refine ow1 (op1_l rfl (lo_assign (v := .int _ _) rfl) ?_)
                  refine ow_nil ?_
                  refine next6 (k + 1) j270 q267.2 (h ++ [(⟨q184.1, q192.1, q267.1, []⟩ : Pair)]) _ _ (upd_intro (upd_intro (mask_intro (by first | exact off_refl | (repeat (first | exact off_mask | refine off_upd rfl ?_ | refine off_mask2 rfl ?_)))) rfl) rfl) (lupd_intro (lupd_intro (lmask_intro (by first | exact offl_refl | (repeat (first | exact offl_mask | refine offl_upd rfl ?_ | refine offl_mask2 rfl ?_)))) rfl) rfl) hl179 ?_ ?_
                  · have e1 : readOne j = ((⟨q184.1, q192.1, q267.1, []⟩ : Pair), q267.2) := by unfold readOne; simp only; (repeat first | simp only [hq6, hq189, hq197, hq272] | rw [if_pos (by omega)] | rw [if_neg (by omega)]); all_goals first | rfl | (rw [wrap_i64s (by omega) (by omega)]; done) | (simp [*]; done) | (rw [wrap_i64s (by omega) (by omega)]; simp [*]; done)
                    have hj0 : j.err = 0 := by omega
                    have hst := hk2 hj0
                    rw [show q1.1.toNat - k = (q1.1.toNat - (k + 1)) + 1 by omega] at hst
                    refine ⟨by omega, ?_, ?_, by simp; omega, hj271, ho296, (wf_push hw (by simp only [Pair.wf]; first | omega | (simp; done) | (simp; omega)))⟩
                    · intro hz; exfalso; omega
                    · intro hz; exact hst.trans (readGo_er0 e1 (by omega))
                  · omega
              · have p297 := df h265
                refine cw_region ?_
                refine ow1 (op1_l rfl (lo_move (v := .pointer (some ⟨_, _, none⟩)) rfl) ?_)
                refine ow1 (op1_pm 0 rfl (rin_Fail _ i_b j195 q192.2 hj196 8 (by omega)) (en_f cb42 rfl) rfl ?_)
                rintro _ _ _ ⟨j301, rfl, rfl, rfl, hj302⟩ _
                generalize hq303 : inFail q192.2 8 = q298 at hj302 ⊢
                have := hj302.err
                have := hj302.lo
                have := hj302.hi
                have := hj302.len
                refine ow_nil ?_
                refine seqK_n ?_
                refine cw_seq ?_
                refine cw_seq ?_
                refine cw_region ?_
                refine ow1 (op1_l rfl (lo_move (v := .pointer (some ⟨_, _, none⟩)) rfl) ?_)
                refine ow1 (op1_l rfl (lo_nilCheck rfl) ?_)
                refine ow1 (op1_l rfl (lo_fieldAddr rfl fl70_2) ?_)
                refine ow1 (op1_l rfl (lo_load1 (i := 0) (v := .int _ _) rfl ag3 rfl rfl) ?_)
                refine ow1 (op1_l rfl (lo_eql rfl rfl) ?_)
                refine ow_nil ?_
                refine seqK_n ?_
                refine cw_cond rfl (fun h304 => ?_) (fun h304 => ?_)
                · have p305 := dt h304
                  refine cw_region ?_
                  refine ow1 (op1_l rfl (lo_move (v := .pointer (some ⟨_, _, none⟩)) rfl) ?_)
                  refine ow1 (op1_l rfl (lo_loadA (i := 1) (vs := [_, _, _, _]) rfl ag94 sz94 rfl rfl rfl) ?_)
                  refine ow1 (op1_l rfl (lo_move rfl) ?_)
                  obtain ⟨a306, c307, rfl⟩ := own_shape ho
                  refine ow1 (op1_prl 7 rfl (fun _ hl308 hg309 => (r9_Pair _ (⟨q184.1, q192.1, 0, []⟩ : Pair) (by simp only [Pair.wf]; first | omega | (simp; done) | (simp; omega)) a306 h.length c307 h (slh_own (enc := Pair.cells) (wf := Pair.wf) (fun _ => rfl) ho hw hg309) (by first | omega | (simp <;> omega)))) (en_f cb75 rfl) rfl ?_)
                  have := pairErr_r (⟨q184.1, q192.1, 0, []⟩ : Pair) h
                  refine ow1 (op1_pm 0 rfl (rin_Fail _ i_b j301 q298 hj302 (pairErr (⟨q184.1, q192.1, 0, []⟩ : Pair) h) (by omega)) (en_f cb42 rfl) rfl ?_)
                  rintro _ _ _ ⟨j313, rfl, rfl, rfl, hj314⟩ _
                  generalize hq315 : inFail q298 (pairErr (⟨q184.1, q192.1, 0, []⟩ : Pair) h) = q310 at hj314 ⊢
                  have := hj314.err
                  have := hj314.lo
                  have := hj314.hi
                  have := hj314.len
                  refine ow_nil ?_
                  refine seqK_n ?_
                  refine cw_region ?_
                  refine ow1 (op1_l rfl (lo_move rfl) ?_)
                  refine ow1 (op1_l rfl (lo_loadA (i := 1) (vs := [_, _, _, _]) rfl ag94 sz94 rfl rfl rfl) ?_)
                  refine ow1 (op1_bslice (cs := [_, _, _, _]) 2 rfl Tryd.underlying23 sz94 zx94 rfl ⟨rfl, rfl, trivial⟩ rfl rfl (by decide) (fun b316 => ?_))
                  refine ow1 (op1_app 7 rfl rfl Tryd.underlying23 Tryd.underlying23 rfl sz94 by94 (by decide) zr94 ho (src_bx (i := 2) rfl rfl) (List.all_eq_true.1 rfl) rfl (by omega) rfl (fun v317 en318 ho319 => ?_))
                  have ho320 := own_push (enc := Pair.cells) h (⟨q184.1, q192.1, 0, []⟩ : Pair) ho319 rfl
                  refine ow1 (op1_l rfl (lo_assign rfl) ?_)
                  refine ow_nil ?_
                  refine blkK_n ?_
                  refine seqK_n ?_
                  refine cw_region ?_
                  refine ow1 (op1_l rfl (lo_move (v := .int _ _) rfl) ?_)
                  refine ow1 (op1_l rfl (lo_add rfl rfl (rg_i64 (by omega))) ?_)
                  refine ow1 (op1_l rfl (lo_assign (v := .int _ _) rfl) ?_)
                  refine ow_nil ?_
                  refine next6 (k + 1) j313 q310 (h ++ [(⟨q184.1, q192.1, 0, []⟩ : Pair)]) _ _ (upd_intro (upd_intro (mask_intro (by first | exact off_refl | (repeat (first | exact off_mask | refine off_upd rfl ?_ | refine off_mask2 rfl ?_)))) rfl) rfl) (lupd_intro (lupd_intro (lmask_intro (by first | exact offl_refl | (repeat (first | exact offl_mask | refine offl_upd rfl ?_ | refine offl_mask2 rfl ?_)))) rfl) rfl) hl179 ?_ ?_
                  · have e1 : readOne j = ((⟨q184.1, q192.1, 0, []⟩ : Pair), q298) := by unfold readOne; simp only; (repeat first | simp only [hq6, hq189, hq197, hq303, hq315] | rw [if_pos (by omega)] | rw [if_neg (by omega)]); all_goals first | rfl | (rw [wrap_i64s (by omega) (by omega)]; done) | (simp [*]; done) | (rw [wrap_i64s (by omega) (by omega)]; simp [*]; done)
                    have hj0 : j.err = 0 := by omega
                    have hst := hk2 hj0
                    rw [show q1.1.toNat - k = (q1.1.toNat - (k + 1)) + 1 by omega] at hst
                    refine ⟨by omega, ?_, ?_, by simp; omega, hj314, ho320, (wf_push hw (by simp only [Pair.wf]; first | omega | (simp; done) | (simp; omega)))⟩
                    · intro hz; have hz2 := hz; rw [← hq315] at hz2; have q := hst.trans (readGo_ok e1 (by omega) hz2); rw [hq315] at q; exact q
                    · intro hz; have hz2 := hz; rw [← hq315] at hz2; have q := hst.trans (readGo_er1 e1 (by omega) hz2); rw [hq315] at q; exact q
                  · omega
                · have p321 := df h304
                  refine cw_skip ?_
                  refine seqK_n ?_
                  refine cw_region ?_
                  refine ow1 (op1_l rfl (lo_move rfl) ?_)
                  refine ow1 (op1_l rfl (lo_loadA (i := 1) (vs := [_, _, _, _]) rfl ag94 sz94 rfl rfl rfl) ?_)
                  refine ow1 (op1_bslice (cs := [_, _, _, _]) 2 rfl Tryd.underlying23 sz94 zx94 rfl ⟨rfl, rfl, trivial⟩ rfl rfl (by decide) (fun b322 => ?_))
                  refine ow1 (op1_app 7 rfl rfl Tryd.underlying23 Tryd.underlying23 rfl sz94 by94 (by decide) zr94 ho (src_bx (i := 2) rfl rfl) (List.all_eq_true.1 rfl) rfl (by omega) rfl (fun v323 en324 ho325 => ?_))
                  have ho326 := own_push (enc := Pair.cells) h (⟨q184.1, q192.1, 0, []⟩ : Pair) ho325 rfl
                  refine ow1 (op1_l rfl (lo_assign rfl) ?_)
                  refine ow_nil ?_
                  refine blkK_n ?_
                  refine seqK_n ?_
                  refine cw_region ?_
                  refine ow1 (op1_l rfl (lo_move (v := .int _ _) rfl) ?_)
                  refine ow1 (op1_l rfl (lo_add rfl rfl (rg_i64 (by omega))) ?_)
                  refine ow1 (op1_l rfl (lo_assign (v := .int _ _) rfl) ?_)
                  refine ow_nil ?_
                  refine next6 (k + 1) j301 q298 (h ++ [(⟨q184.1, q192.1, 0, []⟩ : Pair)]) _ _ (upd_intro (upd_intro (mask_intro (by first | exact off_refl | (repeat (first | exact off_mask | refine off_upd rfl ?_ | refine off_mask2 rfl ?_)))) rfl) rfl) (lupd_intro (lupd_intro (lmask_intro (by first | exact offl_refl | (repeat (first | exact offl_mask | refine offl_upd rfl ?_ | refine offl_mask2 rfl ?_)))) rfl) rfl) hl179 ?_ ?_
                  · have e1 : readOne j = ((⟨q184.1, q192.1, 0, []⟩ : Pair), q298) := by unfold readOne; simp only; (repeat first | simp only [hq6, hq189, hq197, hq303] | rw [if_pos (by omega)] | rw [if_neg (by omega)]); all_goals first | rfl | (rw [wrap_i64s (by omega) (by omega)]; done) | (simp [*]; done) | (rw [wrap_i64s (by omega) (by omega)]; simp [*]; done)
                    have hj0 : j.err = 0 := by omega
                    have hst := hk2 hj0
                    rw [show q1.1.toNat - k = (q1.1.toNat - (k + 1)) + 1 by omega] at hst
                    refine ⟨by omega, ?_, ?_, by simp; omega, hj302, ho326, (wf_push hw (by simp only [Pair.wf]; first | omega | (simp; done) | (simp; omega)))⟩
                    · intro hz; exfalso; omega
                    · intro hz; exact hst.trans (readGo_er0 e1 (by omega))
                  · omega
        · have p327 := df h182
          refine cw_exit ?_
          refine seqK_e ?_
          refine loopK_e ?_
          refine blkK_hit ?_
          refine seqK_n ?_
          refine cw_seq ?_
          refine cw_seq ?_
          refine cw_region ?_
          refine ow1 (op1_l rfl (lo_move (v := .pointer (some ⟨_, _, none⟩)) rfl) ?_)
          refine ow1 (op1_l rfl (lo_nilCheck rfl) ?_)
          refine ow1 (op1_l rfl (lo_fieldAddr rfl fl70_2) ?_)
          refine ow1 (op1_l rfl (lo_load1 (i := 0) (v := .int _ _) rfl ag3 rfl rfl) ?_)
          refine ow1 (op1_l rfl (lo_neq rfl rfl) ?_)
          refine ow_nil ?_
          refine seqK_n ?_
          refine cw_cond_t rfl (by rw [h182] <;> rfl) ?_
          refine cw_seq ?_
          refine cw_region ?_
          refine ow1 (op1_l rfl (lo_assign (v := .slice _ _ _) rfl) ?_)
          refine ow_nil ?_
          refine seqK_n ?_
          refine cw_ret ?_
          refine seqK_r ?_
          refine fnK_r (res1 rfl (rv_t (v := .slice _ _ _) rfl)) ((HLe.refl _).trans hl179) ?_
          have e : headRead i = ([], j) := hk2b (by omega)
          rw [e]
          exact ⟨_, rfl, none, 0, jr, rfl, rfl, slh_nil, hj⟩
      · have p328 := df h180
        refine ow1 (op1_gs rfl h180 rfl ?_)
        refine ow1 (op1_gs rfl h180 rfl ?_)
        refine ow1 (op1_gs rfl h180 rfl ?_)
        refine ow1 (op1_gs rfl h180 rfl ?_)
        refine ow1 (op1_gs rfl h180 rfl ?_)
        refine ow1 (op1_l rfl (lo_pick_f (v := .bool _) rfl h180 rfl) ?_)
        refine ow_nil ?_
        refine seqK_n ?_
        refine cw_cond_f rfl rfl ?_
        refine cw_exit ?_
        refine seqK_e ?_
        refine loopK_e ?_
        refine blkK_hit ?_
        refine seqK_n ?_
        refine cw_seq ?_
        refine cw_seq ?_
        refine cw_region ?_
        refine ow1 (op1_l rfl (lo_move (v := .pointer (some ⟨_, _, none⟩)) rfl) ?_)
        refine ow1 (op1_l rfl (lo_nilCheck rfl) ?_)
        refine ow1 (op1_l rfl (lo_fieldAddr rfl fl70_2) ?_)
        refine ow1 (op1_l rfl (lo_load1 (i := 0) (v := .int _ _) rfl ag3 rfl rfl) ?_)
        refine ow1 (op1_l rfl (lo_neq rfl rfl) ?_)
        refine ow_nil ?_
        refine seqK_n ?_
        refine cw_cond rfl (fun h329 => ?_) (fun h329 => ?_)
        · have h330 := not_t h329
          have p331 := df h330
          refine cw_seq ?_
          refine cw_region ?_
          refine ow1 (op1_l rfl (lo_assign (v := .slice _ _ _) rfl) ?_)
          refine ow_nil ?_
          refine seqK_n ?_
          refine cw_ret ?_
          refine seqK_r ?_
          refine fnK_r (res1 rfl (rv_t (v := .slice _ _ _) rfl)) ((HLe.refl _).trans hl179) ?_
          have e : headRead i = ([], j) := hk2b (by omega)
          rw [e]
          exact ⟨_, rfl, none, 0, jr, rfl, rfl, slh_nil, hj⟩
        · have h332 := not_f h329
          have p333 := dt h332
          refine cw_skip ?_
          refine seqK_n ?_
          refine cw_seq ?_
          refine cw_region ?_
          refine ow1 (op1_l rfl (lo_move rfl) ?_)
          refine ow1 (op1_l rfl (lo_assign rfl) ?_)
          refine ow_nil ?_
          refine seqK_n ?_
          refine cw_giveO 7 rfl (fun _ hl334 hg335 => ?_)
          have hs336 := slh_own (enc := Pair.cells) (wf := Pair.wf) (fun _ => rfl) ho hw hg335
          obtain ⟨⟨a337, c338, rfl, -⟩, -⟩ := id hs336
          refine cw_ret ?_
          refine fnK_r (res1 rfl (rv_t (v := .slice _ _ _) rfl)) (((HLe.refl _).trans hl179).trans hl334) ?_
          have e : headRead i = (h, j) := by
            rw [hk2 (by omega), show q1.1.toNat - k = 0 by omega]
            rfl
          rw [e]
          exact ⟨_, rfl, _, _, jr, rfl, rfl, hs336, hj⟩

theorem frame_Same (H : Hp) (a : Frame) (a_w : Frame.wf a) (b : Frame) (b_w : Frame.wf b) : Pr Tryd.prog 16 #[.agg (Frame.cells a).toArray, .agg (Frame.cells b).toArray] H (.bool (decide (a = b))) := by
  refine pr_cw Tryd.func16 rfl Tryd.ntmps16 rfl (fun N => ?_)
  have a_w' := a_w
  simp only [Frame.wf] at a_w'
  have b_w' := b_w
  simp only [Frame.wf] at b_w'
  refine cw_seq ?_
  refine cw_region ?_
  refine ow1 (op1_box (cs := [_, _, _]) 0 rfl rfl (fun b1 => ?_))
  refine ow1 (op1_box (cs := [_, _, _]) 1 rfl rfl (fun b2 => ?_))
  refine ow1 (op1_l rfl (lo_assign (v := .bool _) rfl) ?_)
  refine ow_nil ?_
  refine seqK_n ?_
  refine cw_seq ?_
  refine cw_region ?_
  refine ow1 (op1_l rfl (lo_loadA (i := 0) (vs := [_, _, _]) rfl ag35 sz35 rfl rfl rfl) ?_)
  refine ow1 (op1_l rfl (lo_loadA (i := 1) (vs := [_, _, _]) rfl ag35 sz35 rfl rfl rfl) ?_)
  refine ow1 (op1_l rfl (lo_aeql (u := (Frame.cells a).toArray) (v := (Frame.cells b).toArray) rfl rfl eqg35 (eqr35 _ _ 9998)) ?_)
  refine ow1 (op1_l rfl (lo_assign (v := .bool _) rfl) ?_)
  refine ow_nil ?_
  refine seqK_n ?_
  refine cw_ret ?_
  refine fnK_r (res1 rfl (rv_t (v := .bool _) rfl)) (.refl _) ?_
  rfl

end Go.SW
