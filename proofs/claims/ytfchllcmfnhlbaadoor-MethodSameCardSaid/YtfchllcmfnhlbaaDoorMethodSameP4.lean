/-
  A part of the proof of MethodSame: The walks of this seat, printed by program: method.Method.tells, method.Method.spare, words.Pattern. The walks of this seat, printed by program: method.Method.one, method.Method.Check. The walks of this seat, printed by program: method.Method.Frame. The walks of this seat, printed by program: match.Rule.Check, match.Rule.heads, match.Rule.Goes. The walks of this seat, printed by program: stairwelllaw10.awake, stairwelllaw10.Awake, stairwelllaw11.awake, stairwelllaw11.Awake.
-/
import Derived.Test.YtfchllcmfnhlbaaDoorProg
import Derived.Test.YtfchllcmfnhlbaaDoorMethodSameP2
import Derived.KernelRfl
import Derived.Test.YtfchllcmfnhlbaaDoorMethodSameP3
set_option linter.unusedVariables false
set_option linter.unusedSimpArgs false

set_option linter.unusedVariables false
set_option maxRecDepth 100000
set_option maxHeartbeats 4000000
namespace Go.SW
open Go.Proofs
theorem ag50 : Ag Tryd.prog 50 true := fun w => by kernel_rfl
theorem cb114 : Callable Tryd.prog 114 := callable_of Tryd.func114 (by kernel_rfl) (by kernel_rfl)
theorem cb128 : Callable Tryd.prog 128 := callable_of Tryd.func128 (by kernel_rfl) (by kernel_rfl)
theorem fl50_1 : Fld Tryd.prog 50 1 1 := fun b o w => by kernel_rfl
theorem fl50_2 : Fld Tryd.prog 50 2 2 := fun b o w => by kernel_rfl
theorem fl50_3 : Fld Tryd.prog 50 3 3 := fun b o w => by kernel_rfl
theorem fl50_4 : Fld Tryd.prog 50 4 4 := fun b o w => by kernel_rfl
theorem fl50_5 : Fld Tryd.prog 50 5 5 := fun b o w => by kernel_rfl
theorem fl50_6 : Fld Tryd.prog 50 6 6 := fun b o w => by kernel_rfl
theorem fl50_7 : Fld Tryd.prog 50 7 7 := fun b o w => by kernel_rfl
theorem fl50_8 : Fld Tryd.prog 50 8 8 := fun b o w => by kernel_rfl
theorem fl50_9 : Fld Tryd.prog 50 9 9 := fun b o w => by kernel_rfl
theorem sz50 : Sz Tryd.prog 50 10 := fun w => by kernel_rfl

theorem method_tells (H : Hp) (m : Method) (m_head_a : Option Addr) (m_head_c : Nat) (m_head_h : SlH pairE 4 H (.slice m_head_a m.head.length m_head_c) m.head) (m_w : Method.wf m) (letters : Bs) (hTells : GStrs H 0 tellsT) (hk : m.kind ≤ 20) (hll : letters.length < 4294967281) (hlp : ∀ c ∈ letters, c.toNat < 128) : Pr Tryd.prog 114 #[.agg (Method.cells m m_head_a m_head_c).toArray, str letters] H (.bool (hasK m letters)) := by
  refine pr_cw Tryd.func114 rfl Tryd.ntmps114 rfl (fun N => ?_)
  have m_w' := m_w
  simp only [Method.wf] at m_w'
  obtain ⟨T0, fr0, hT0⟩ := id hTells
  refine cw_seq ?_
  refine cw_region ?_
  refine ow1 (op1_box (cs := [_, _, _, _, _, _, _, _, _, _]) 0 rfl rfl (fun b1 => ?_))
  refine ow1 (op1_l rfl (lo_assign (v := .bool _) rfl) ?_)
  refine ow_nil ?_
  refine seqK_n ?_
  refine cw_seq ?_
  refine cw_region ?_
  refine ow1 (op1_l rfl (lo_fieldAddr rfl fl50_1) ?_)
  refine ow1 (op1_l rfl (lo_load1 (i := 0) (v := .int _ _) rfl ag5 rfl rfl) ?_)
  refine ow1 (op1_l rfl (lo_gidx (m := (m.kind).toNat) rfl Tryd.underlying112 sz9 (by omega) (by omega)) ?_)
  refine ow1 (op1_l rfl (lo_loadH rfl ag9 hT0 (strs_get (by show _ < 21; first | omega | (have := hkd0 (by assumption); omega)))) ?_)
  refine ow1 (op1_l rfl (lo_move (v := str _) rfl) ?_)
  refine ow1 (op1_pr (strings_ContainsAny _ (tellsOf (m.kind)) letters (Nat.lt_of_le_of_lt (tells_len _) (by decide)) (by assumption) (tells_plain _) (by assumption)) (en_f cb128 rfl) rfl ?_)
  refine ow1 (op1_l rfl (lo_assign (v := .bool _) rfl) ?_)
  refine ow_nil ?_
  refine seqK_n ?_
  refine cw_ret ?_
  refine fnK_r (res1 rfl (rv_t (v := .bool _) rfl)) (.refl _) ?_
  rfl

theorem method_spare (H : Hp) (m : Method) (m_head_a : Option Addr) (m_head_c : Nat) (m_head_h : SlH pairE 4 H (.slice m_head_a m.head.length m_head_c) m.head) (m_w : Method.wf m) (hTells : GStrs H 0 tellsT) (hk : m.kind ≤ 20) : Pr Tryd.prog 99 #[.agg (Method.cells m m_head_a m_head_c).toArray] H (.bool (spareMt m)) := by
  refine pr_cw Tryd.func99 rfl Tryd.ntmps99 rfl (fun N => ?_)
  have m_w' := m_w
  simp only [Method.wf] at m_w'
  refine cw_seq ?_
  refine cw_region ?_
  refine ow1 (op1_box (cs := [_, _, _, _, _, _, _, _, _, _]) 0 rfl rfl (fun b1 => ?_))
  refine ow1 (op1_l rfl (lo_assign (v := .bool _) rfl) ?_)
  refine ow_nil ?_
  refine seqK_n ?_
  refine cw_seq ?_
  refine cw_block ?_
  refine cw_seq ?_
  refine cw_block ?_
  refine cw_block ?_
  refine cw_block ?_
  refine cw_seq ?_
  refine cw_seq ?_
  refine cw_seq ?_
  refine cw_seq_join [3, 4, 5, 6, 7, 8, 9, 10, 11] (fun G => upd G 3 (.bool (!decide (m.name = []) && !(hasK m [65])))) ?_ (fun J => ?_)
  · refine cw_region ?_
    refine ow1 (op1_l rfl (lo_fieldAddr rfl fl50_2) ?_)
    refine ow1 (op1_l rfl (lo_load1 (i := 0) (v := str _) rfl ag9 rfl rfl) ?_)
    refine ow1 (op1_l rfl (lo_sneq rfl rfl) ?_)
    refine ow1 (op1_l rfl (lo_move (v := .bool _) rfl) ?_)
    refine ow_sp (j := 3) rfl (fun h2 => ?_) (fun h2 => ?_)
    · have h3 := not_t h2
      have p4 := df h3
      refine ow1 (op1_g rfl h2 rfl (lo_loadA (i := 0) (vs := [_, _, _, _, _, _, _, _, _, _]) rfl ag50 sz50 rfl rfl rfl) ?_)
      refine ow1 (op1_prg rfl h2 (method_tells _ m m_head_a m_head_c m_head_h m_w [65] hTells (by omega) (by decide) (by decide)) (en_f cb114 rfl) rfl ?_)
      refine ow1 (op1_g rfl h2 rfl (lo_not rfl) ?_)
      refine ow1 (op1_l rfl (lo_pick_t (v := .bool _) rfl h2 rfl) ?_)
      refine ow1 (op1_l rfl (lo_assign (v := .bool _) rfl) ?_)
      refine ow_nil ?_
      exact ⟨rfl, rfl, rfl, upd_intro (mask_intro (by repeat (first | exact off_refl | exact off_mask | refine off_upd rfl ?_ | refine off_mask2 rfl ?_))) (congrArg Value.bool (by rw [h2]; rfl))⟩
    · have h5 := not_f h2
      have p6 := dt h5
      refine ow1 (op1_gs rfl h2 rfl ?_)
      refine ow1 (op1_gs rfl h2 rfl ?_)
      refine ow1 (op1_gs rfl h2 rfl ?_)
      refine ow1 (op1_l rfl (lo_pick_f (v := .bool _) rfl h2 rfl) ?_)
      refine ow1 (op1_l rfl (lo_assign (v := .bool _) rfl) ?_)
      refine ow_nil ?_
      exact ⟨rfl, rfl, rfl, upd_intro (mask_intro (by repeat (first | exact off_refl | exact off_mask | refine off_upd rfl ?_ | refine off_mask2 rfl ?_))) (congrArg Value.bool (by rw [h2]; rfl))⟩
  · refine cw_cond rfl (fun h7 => ?_) (fun h7 => ?_)
    · refine cw_skip ?_
      refine seqK_n ?_
      refine cw_cond_t rfl h7 ?_
      refine cw_exit ?_
      refine seqK_e ?_
      refine seqK_e ?_
      refine blkK_hit ?_
      refine blkK_n ?_
      refine blkK_n ?_
      refine seqK_n ?_
      refine cw_seq ?_
      refine cw_seq ?_
      refine cw_region ?_
      refine ow1 (op1_l rfl (lo_assign (v := .bool _) rfl) ?_)
      refine ow_nil ?_
      refine seqK_n ?_
      refine cw_ret ?_
      refine seqK_r ?_
      refine blkK_r ?_
      refine seqK_r ?_
      refine fnK_r (res1 rfl (rv_t (v := .bool _) rfl)) (.refl _) ?_
      refine congrArg Value.bool ?_
      unfold spareMt
      simp only [h7, Bool.or_false, Bool.true_or, Bool.or_true, Bool.false_or, Bool.not_true, Bool.not_false, Bool.and_true, Bool.true_and, Bool.false_and, Bool.and_false]
    · refine cw_seq_join [3, 12, 13, 14, 15, 16, 17, 18, 19] (fun G => upd G 3 (.bool (!decide (m.other = []) && !(hasK m [79, 120])))) ?_ (fun J => ?_)
      · refine cw_region ?_
        refine ow1 (op1_l rfl (lo_fieldAddr rfl fl50_3) ?_)
        refine ow1 (op1_l rfl (lo_load1 (i := 0) (v := str _) rfl ag9 rfl rfl) ?_)
        refine ow1 (op1_l rfl (lo_sneq rfl rfl) ?_)
        refine ow1 (op1_l rfl (lo_move (v := .bool _) rfl) ?_)
        refine ow_sp (j := 3) rfl (fun h8 => ?_) (fun h8 => ?_)
        · have h9 := not_t h8
          have p10 := df h9
          refine ow1 (op1_g rfl h8 rfl (lo_loadA (i := 0) (vs := [_, _, _, _, _, _, _, _, _, _]) rfl ag50 sz50 rfl rfl rfl) ?_)
          refine ow1 (op1_prg rfl h8 (method_tells _ m m_head_a m_head_c m_head_h m_w [79, 120] hTells (by omega) (by decide) (by decide)) (en_f cb114 rfl) rfl ?_)
          refine ow1 (op1_g rfl h8 rfl (lo_not rfl) ?_)
          refine ow1 (op1_l rfl (lo_pick_t (v := .bool _) rfl h8 rfl) ?_)
          refine ow1 (op1_l rfl (lo_assign (v := .bool _) rfl) ?_)
          refine ow_nil ?_
          exact ⟨rfl, rfl, rfl, upd_intro (mask_intro (by repeat (first | exact off_refl | exact off_mask | refine off_upd rfl ?_ | refine off_mask2 rfl ?_))) (congrArg Value.bool (by rw [h8]; rfl))⟩
        · have h11 := not_f h8
          have p12 := dt h11
          refine ow1 (op1_gs rfl h8 rfl ?_)
          refine ow1 (op1_gs rfl h8 rfl ?_)
          refine ow1 (op1_gs rfl h8 rfl ?_)
          refine ow1 (op1_l rfl (lo_pick_f (v := .bool _) rfl h8 rfl) ?_)
          refine ow1 (op1_l rfl (lo_assign (v := .bool _) rfl) ?_)
          refine ow_nil ?_
          exact ⟨rfl, rfl, rfl, upd_intro (mask_intro (by repeat (first | exact off_refl | exact off_mask | refine off_upd rfl ?_ | refine off_mask2 rfl ?_))) (congrArg Value.bool (by rw [h8]; rfl))⟩
      · refine cw_cond rfl (fun h13 => ?_) (fun h13 => ?_)
        · refine cw_skip ?_
          refine seqK_n ?_
          refine cw_cond_t rfl h13 ?_
          refine cw_exit ?_
          refine seqK_e ?_
          refine seqK_e ?_
          refine blkK_hit ?_
          refine blkK_n ?_
          refine blkK_n ?_
          refine seqK_n ?_
          refine cw_seq ?_
          refine cw_seq ?_
          refine cw_region ?_
          refine ow1 (op1_l rfl (lo_assign (v := .bool _) rfl) ?_)
          refine ow_nil ?_
          refine seqK_n ?_
          refine cw_ret ?_
          refine seqK_r ?_
          refine blkK_r ?_
          refine seqK_r ?_
          refine fnK_r (res1 rfl (rv_t (v := .bool _) rfl)) (.refl _) ?_
          refine congrArg Value.bool ?_
          unfold spareMt
          simp only [h7, h13, Bool.or_false, Bool.true_or, Bool.or_true, Bool.false_or, Bool.not_true, Bool.not_false, Bool.and_true, Bool.true_and, Bool.false_and, Bool.and_false]
        · refine cw_region ?_
          refine ow1 (op1_l rfl (lo_fieldAddr rfl fl50_4) ?_)
          refine ow1 (op1_l rfl (lo_load1 (i := 0) (v := str _) rfl ag9 rfl rfl) ?_)
          refine ow1 (op1_l rfl (lo_sneq rfl rfl) ?_)
          refine ow1 (op1_l rfl (lo_move (v := .bool _) rfl) ?_)
          refine ow_sp (j := 3) rfl (fun h14 => ?_) (fun h14 => ?_)
          · have h15 := not_t h14
            have p16 := df h15
            refine ow1 (op1_g rfl h14 rfl (lo_loadA (i := 0) (vs := [_, _, _, _, _, _, _, _, _, _]) rfl ag50 sz50 rfl rfl rfl) ?_)
            refine ow1 (op1_prg rfl h14 (method_tells _ m m_head_a m_head_c m_head_h m_w [107, 112] hTells (by omega) (by decide) (by decide)) (en_f cb114 rfl) rfl ?_)
            refine ow1 (op1_g rfl h14 rfl (lo_not rfl) ?_)
            refine ow1 (op1_l rfl (lo_pick_t (v := .bool _) rfl h14 rfl) ?_)
            refine ow1 (op1_l rfl (lo_assign (v := .bool _) rfl) ?_)
            refine ow_nil ?_
            refine seqK_n ?_
            refine cw_cond rfl (fun h17 => ?_) (fun h17 => ?_)
            · have h18 := not_t h17
              refine cw_exit ?_
              refine seqK_e ?_
              refine seqK_e ?_
              refine blkK_hit ?_
              refine blkK_n ?_
              refine blkK_n ?_
              refine seqK_n ?_
              refine cw_seq ?_
              refine cw_seq ?_
              refine cw_region ?_
              refine ow1 (op1_l rfl (lo_assign (v := .bool _) rfl) ?_)
              refine ow_nil ?_
              refine seqK_n ?_
              refine cw_ret ?_
              refine seqK_r ?_
              refine blkK_r ?_
              refine seqK_r ?_
              refine fnK_r (res1 rfl (rv_t (v := .bool _) rfl)) (.refl _) ?_
              refine congrArg Value.bool ?_
              unfold spareMt
              simp only [h7, h13, h14, h15, h17, h18, Bool.or_false, Bool.true_or, Bool.or_true, Bool.false_or, Bool.not_true, Bool.not_false, Bool.and_true, Bool.true_and, Bool.false_and, Bool.and_false]
            · have h19 := not_f h17
              refine cw_skip ?_
              refine seqK_n ?_
              refine cw_seq ?_
              refine cw_seq ?_
              refine cw_seq_join [28, 29, 30, 31, 32, 33, 34, 35, 36, 37] (fun G => upd G 28 (.bool (decide (0 < (m.head.length : Int)) && !(hasK m [104])))) ?_ (fun J => ?_)
              · refine cw_region ?_
                refine ow1 (op1_l rfl (lo_fieldAddr rfl fl50_5) ?_)
                refine ow1 (op1_l rfl (lo_load1 (i := 0) (v := .slice _ _ _) rfl ag23 rfl rfl) ?_)
                refine ow1 (op1_l rfl (lo_len_slh rfl m_head_h Tryd.underlying23) ?_)
                refine ow1 (op1_l rfl (lo_gtr rfl rfl) ?_)
                refine ow1 (op1_l rfl (lo_move (v := .bool _) rfl) ?_)
                refine ow_sp (j := 4) rfl (fun h20 => ?_) (fun h20 => ?_)
                · have p21 := dt h20
                  refine ow1 (op1_g rfl h20 rfl (lo_loadA (i := 0) (vs := [_, _, _, _, _, _, _, _, _, _]) rfl ag50 sz50 rfl rfl rfl) ?_)
                  refine ow1 (op1_prg rfl h20 (method_tells _ m m_head_a m_head_c m_head_h m_w [104] hTells (by omega) (by decide) (by decide)) (en_f cb114 rfl) rfl ?_)
                  refine ow1 (op1_g rfl h20 rfl (lo_not rfl) ?_)
                  refine ow1 (op1_l rfl (lo_pick_t (v := .bool _) rfl h20 rfl) ?_)
                  refine ow1 (op1_l rfl (lo_assign (v := .bool _) rfl) ?_)
                  refine ow_nil ?_
                  exact ⟨rfl, rfl, rfl, upd_intro (mask_intro (by repeat (first | exact off_refl | exact off_mask | refine off_upd rfl ?_ | refine off_mask2 rfl ?_))) (congrArg Value.bool (by rw [h20]; rfl))⟩
                · have p22 := df h20
                  refine ow1 (op1_gs rfl h20 rfl ?_)
                  refine ow1 (op1_gs rfl h20 rfl ?_)
                  refine ow1 (op1_gs rfl h20 rfl ?_)
                  refine ow1 (op1_l rfl (lo_pick_f (v := .bool _) rfl h20 rfl) ?_)
                  refine ow1 (op1_l rfl (lo_assign (v := .bool _) rfl) ?_)
                  refine ow_nil ?_
                  exact ⟨rfl, rfl, rfl, upd_intro (mask_intro (by repeat (first | exact off_refl | exact off_mask | refine off_upd rfl ?_ | refine off_mask2 rfl ?_))) (congrArg Value.bool (by rw [h20]; rfl))⟩
              · refine cw_cond rfl (fun h23 => ?_) (fun h23 => ?_)
                · refine cw_skip ?_
                  refine seqK_n ?_
                  refine cw_cond_t rfl h23 ?_
                  refine cw_exit ?_
                  refine seqK_e ?_
                  refine seqK_e ?_
                  refine blkK_e rfl ?_
                  refine blkK_hit ?_
                  refine blkK_n ?_
                  refine seqK_n ?_
                  refine cw_seq ?_
                  refine cw_seq ?_
                  refine cw_region ?_
                  refine ow1 (op1_l rfl (lo_assign (v := .bool _) rfl) ?_)
                  refine ow_nil ?_
                  refine seqK_n ?_
                  refine cw_ret ?_
                  refine seqK_r ?_
                  refine blkK_r ?_
                  refine seqK_r ?_
                  refine fnK_r (res1 rfl (rv_t (v := .bool _) rfl)) (.refl _) ?_
                  refine congrArg Value.bool ?_
                  unfold spareMt
                  simp only [h7, h13, h14, h15, h17, h19, h23, Bool.or_false, Bool.true_or, Bool.or_true, Bool.false_or, Bool.not_true, Bool.not_false, Bool.and_true, Bool.true_and, Bool.false_and, Bool.and_false]
                · refine cw_region ?_
                  refine ow1 (op1_l rfl (lo_fieldAddr rfl fl50_6) ?_)
                  refine ow1 (op1_l rfl (lo_load1 (i := 0) (v := str _) rfl ag9 rfl rfl) ?_)
                  refine ow1 (op1_l rfl (lo_sneq rfl rfl) ?_)
                  refine ow1 (op1_l rfl (lo_move (v := .bool _) rfl) ?_)
                  refine ow_sp (j := 3) rfl (fun h24 => ?_) (fun h24 => ?_)
                  · have h25 := not_t h24
                    have p26 := df h25
                    refine ow1 (op1_g rfl h24 rfl (lo_loadA (i := 0) (vs := [_, _, _, _, _, _, _, _, _, _]) rfl ag50 sz50 rfl rfl rfl) ?_)
                    refine ow1 (op1_prg rfl h24 (method_tells _ m m_head_a m_head_c m_head_h m_w [98] hTells (by omega) (by decide) (by decide)) (en_f cb114 rfl) rfl ?_)
                    refine ow1 (op1_g rfl h24 rfl (lo_not rfl) ?_)
                    refine ow1 (op1_l rfl (lo_pick_t (v := .bool _) rfl h24 rfl) ?_)
                    refine ow1 (op1_l rfl (lo_assign (v := .bool _) rfl) ?_)
                    refine ow_nil ?_
                    refine seqK_n ?_
                    refine cw_cond rfl (fun h27 => ?_) (fun h27 => ?_)
                    · have h28 := not_t h27
                      refine cw_exit ?_
                      refine seqK_e ?_
                      refine seqK_e ?_
                      refine blkK_e rfl ?_
                      refine blkK_hit ?_
                      refine blkK_n ?_
                      refine seqK_n ?_
                      refine cw_seq ?_
                      refine cw_seq ?_
                      refine cw_region ?_
                      refine ow1 (op1_l rfl (lo_assign (v := .bool _) rfl) ?_)
                      refine ow_nil ?_
                      refine seqK_n ?_
                      refine cw_ret ?_
                      refine seqK_r ?_
                      refine blkK_r ?_
                      refine seqK_r ?_
                      refine fnK_r (res1 rfl (rv_t (v := .bool _) rfl)) (.refl _) ?_
                      refine congrArg Value.bool ?_
                      unfold spareMt
                      simp only [h7, h13, h14, h15, h17, h19, h23, h24, h25, h27, h28, Bool.or_false, Bool.true_or, Bool.or_true, Bool.false_or, Bool.not_true, Bool.not_false, Bool.and_true, Bool.true_and, Bool.false_and, Bool.and_false]
                    · have h29 := not_f h27
                      refine cw_skip ?_
                      refine seqK_n ?_
                      refine cw_seq ?_
                      refine cw_seq_join [46, 47, 48, 49, 50, 51, 52, 53, 54] (fun G => upd G 46 (.bool (!decide (m.n = 0) && !(hasK m [110])))) ?_ (fun J => ?_)
                      · refine cw_region ?_
                        refine ow1 (op1_l rfl (lo_fieldAddr rfl fl50_7) ?_)
                        refine ow1 (op1_l rfl (lo_load1 (i := 0) (v := .int _ _) rfl ag22 rfl rfl) ?_)
                        refine ow1 (op1_l rfl (lo_neq rfl rfl) ?_)
                        refine ow1 (op1_l rfl (lo_move (v := .bool _) rfl) ?_)
                        refine ow_sp (j := 3) rfl (fun h30 => ?_) (fun h30 => ?_)
                        · have h31 := not_t h30
                          have p32 := df h31
                          refine ow1 (op1_g rfl h30 rfl (lo_loadA (i := 0) (vs := [_, _, _, _, _, _, _, _, _, _]) rfl ag50 sz50 rfl rfl rfl) ?_)
                          refine ow1 (op1_prg rfl h30 (method_tells _ m m_head_a m_head_c m_head_h m_w [110] hTells (by omega) (by decide) (by decide)) (en_f cb114 rfl) rfl ?_)
                          refine ow1 (op1_g rfl h30 rfl (lo_not rfl) ?_)
                          refine ow1 (op1_l rfl (lo_pick_t (v := .bool _) rfl h30 rfl) ?_)
                          refine ow1 (op1_l rfl (lo_assign (v := .bool _) rfl) ?_)
                          refine ow_nil ?_
                          exact ⟨rfl, rfl, rfl, upd_intro (mask_intro (by repeat (first | exact off_refl | exact off_mask | refine off_upd rfl ?_ | refine off_mask2 rfl ?_))) (congrArg Value.bool (by rw [h30]; rfl))⟩
                        · have h33 := not_f h30
                          have p34 := dt h33
                          refine ow1 (op1_gs rfl h30 rfl ?_)
                          refine ow1 (op1_gs rfl h30 rfl ?_)
                          refine ow1 (op1_gs rfl h30 rfl ?_)
                          refine ow1 (op1_l rfl (lo_pick_f (v := .bool _) rfl h30 rfl) ?_)
                          refine ow1 (op1_l rfl (lo_assign (v := .bool _) rfl) ?_)
                          refine ow_nil ?_
                          exact ⟨rfl, rfl, rfl, upd_intro (mask_intro (by repeat (first | exact off_refl | exact off_mask | refine off_upd rfl ?_ | refine off_mask2 rfl ?_))) (congrArg Value.bool (by rw [h30]; rfl))⟩
                      · refine cw_cond rfl (fun h35 => ?_) (fun h35 => ?_)
                        · refine cw_skip ?_
                          refine seqK_n ?_
                          refine cw_cond_t rfl h35 ?_
                          refine cw_exit ?_
                          refine seqK_e ?_
                          refine blkK_e rfl ?_
                          refine blkK_e rfl ?_
                          refine blkK_hit ?_
                          refine seqK_n ?_
                          refine cw_seq ?_
                          refine cw_seq ?_
                          refine cw_region ?_
                          refine ow1 (op1_l rfl (lo_assign (v := .bool _) rfl) ?_)
                          refine ow_nil ?_
                          refine seqK_n ?_
                          refine cw_ret ?_
                          refine seqK_r ?_
                          refine blkK_r ?_
                          refine seqK_r ?_
                          refine fnK_r (res1 rfl (rv_t (v := .bool _) rfl)) (.refl _) ?_
                          refine congrArg Value.bool ?_
                          unfold spareMt
                          simp only [h7, h13, h14, h15, h17, h19, h23, h24, h25, h27, h29, h35, Bool.or_false, Bool.true_or, Bool.or_true, Bool.false_or, Bool.not_true, Bool.not_false, Bool.and_true, Bool.true_and, Bool.false_and, Bool.and_false]
                        · refine cw_seq_join [46, 55, 56, 57, 58, 59, 60, 61, 62] (fun G => upd G 46 (.bool (!decide (m.m = 0) && !(hasK m [109])))) ?_ (fun J => ?_)
                          · refine cw_region ?_
                            refine ow1 (op1_l rfl (lo_fieldAddr rfl fl50_8) ?_)
                            refine ow1 (op1_l rfl (lo_load1 (i := 0) (v := .int _ _) rfl ag22 rfl rfl) ?_)
                            refine ow1 (op1_l rfl (lo_neq rfl rfl) ?_)
                            refine ow1 (op1_l rfl (lo_move (v := .bool _) rfl) ?_)
                            refine ow_sp (j := 3) rfl (fun h36 => ?_) (fun h36 => ?_)
                            · have h37 := not_t h36
                              have p38 := df h37
                              refine ow1 (op1_g rfl h36 rfl (lo_loadA (i := 0) (vs := [_, _, _, _, _, _, _, _, _, _]) rfl ag50 sz50 rfl rfl rfl) ?_)
                              refine ow1 (op1_prg rfl h36 (method_tells _ m m_head_a m_head_c m_head_h m_w [109] hTells (by omega) (by decide) (by decide)) (en_f cb114 rfl) rfl ?_)
                              refine ow1 (op1_g rfl h36 rfl (lo_not rfl) ?_)
                              refine ow1 (op1_l rfl (lo_pick_t (v := .bool _) rfl h36 rfl) ?_)
                              refine ow1 (op1_l rfl (lo_assign (v := .bool _) rfl) ?_)
                              refine ow_nil ?_
                              exact ⟨rfl, rfl, rfl, upd_intro (mask_intro (by repeat (first | exact off_refl | exact off_mask | refine off_upd rfl ?_ | refine off_mask2 rfl ?_))) (congrArg Value.bool (by rw [h36]; rfl))⟩
                            · have h39 := not_f h36
                              have p40 := dt h39
                              refine ow1 (op1_gs rfl h36 rfl ?_)
                              refine ow1 (op1_gs rfl h36 rfl ?_)
                              refine ow1 (op1_gs rfl h36 rfl ?_)
                              refine ow1 (op1_l rfl (lo_pick_f (v := .bool _) rfl h36 rfl) ?_)
                              refine ow1 (op1_l rfl (lo_assign (v := .bool _) rfl) ?_)
                              refine ow_nil ?_
                              exact ⟨rfl, rfl, rfl, upd_intro (mask_intro (by repeat (first | exact off_refl | exact off_mask | refine off_upd rfl ?_ | refine off_mask2 rfl ?_))) (congrArg Value.bool (by rw [h36]; rfl))⟩
                          · refine cw_cond rfl (fun h41 => ?_) (fun h41 => ?_)
                            · refine cw_skip ?_
                              refine seqK_n ?_
                              refine cw_cond_t rfl h41 ?_
                              refine cw_exit ?_
                              refine seqK_e ?_
                              refine blkK_e rfl ?_
                              refine blkK_e rfl ?_
                              refine blkK_hit ?_
                              refine seqK_n ?_
                              refine cw_seq ?_
                              refine cw_seq ?_
                              refine cw_region ?_
                              refine ow1 (op1_l rfl (lo_assign (v := .bool _) rfl) ?_)
                              refine ow_nil ?_
                              refine seqK_n ?_
                              refine cw_ret ?_
                              refine seqK_r ?_
                              refine blkK_r ?_
                              refine seqK_r ?_
                              refine fnK_r (res1 rfl (rv_t (v := .bool _) rfl)) (.refl _) ?_
                              refine congrArg Value.bool ?_
                              unfold spareMt
                              simp only [h7, h13, h14, h15, h17, h19, h23, h24, h25, h27, h29, h35, h41, Bool.or_false, Bool.true_or, Bool.or_true, Bool.false_or, Bool.not_true, Bool.not_false, Bool.and_true, Bool.true_and, Bool.false_and, Bool.and_false]
                            · refine cw_region ?_
                              refine ow1 (op1_l rfl (lo_fieldAddr rfl fl50_9) ?_)
                              refine ow1 (op1_l rfl (lo_load1 (i := 0) (v := .bool _) rfl ag4 rfl rfl) ?_)
                              refine ow1 (op1_l rfl (lo_move (v := .bool _) rfl) ?_)
                              refine ow_sp (j := 2) rfl (fun h42 => ?_) (fun h42 => ?_)
                              · refine ow1 (op1_g rfl h42 rfl (lo_loadA (i := 0) (vs := [_, _, _, _, _, _, _, _, _, _]) rfl ag50 sz50 rfl rfl rfl) ?_)
                                refine ow1 (op1_prg rfl h42 (method_tells _ m m_head_a m_head_c m_head_h m_w [121] hTells (by omega) (by decide) (by decide)) (en_f cb114 rfl) rfl ?_)
                                refine ow1 (op1_g rfl h42 rfl (lo_not rfl) ?_)
                                refine ow1 (op1_l rfl (lo_pick_t (v := .bool _) rfl h42 rfl) ?_)
                                refine ow1 (op1_l rfl (lo_assign (v := .bool _) rfl) ?_)
                                refine ow_nil ?_
                                refine seqK_n ?_
                                refine cw_cond rfl (fun h43 => ?_) (fun h43 => ?_)
                                · have h44 := not_t h43
                                  refine cw_exit ?_
                                  refine seqK_e ?_
                                  refine blkK_e rfl ?_
                                  refine blkK_e rfl ?_
                                  refine blkK_hit ?_
                                  refine seqK_n ?_
                                  refine cw_seq ?_
                                  refine cw_seq ?_
                                  refine cw_region ?_
                                  refine ow1 (op1_l rfl (lo_assign (v := .bool _) rfl) ?_)
                                  refine ow_nil ?_
                                  refine seqK_n ?_
                                  refine cw_ret ?_
                                  refine seqK_r ?_
                                  refine blkK_r ?_
                                  refine seqK_r ?_
                                  refine fnK_r (res1 rfl (rv_t (v := .bool _) rfl)) (.refl _) ?_
                                  refine congrArg Value.bool ?_
                                  unfold spareMt
                                  simp only [h7, h13, h14, h15, h17, h19, h23, h24, h25, h27, h29, h35, h41, h42, h43, h44, Bool.or_false, Bool.true_or, Bool.or_true, Bool.false_or, Bool.not_true, Bool.not_false, Bool.and_true, Bool.true_and, Bool.false_and, Bool.and_false]
                                · have h45 := not_f h43
                                  refine cw_skip ?_
                                  refine seqK_n ?_
                                  refine cw_exit ?_
                                  refine blkK_e rfl ?_
                                  refine blkK_e rfl ?_
                                  refine blkK_e rfl ?_
                                  refine seqK_e ?_
                                  refine blkK_hit ?_
                                  refine seqK_n ?_
                                  refine cw_seq ?_
                                  refine cw_region ?_
                                  refine ow1 (op1_l rfl (lo_assign (v := .bool _) rfl) ?_)
                                  refine ow_nil ?_
                                  refine seqK_n ?_
                                  refine cw_ret ?_
                                  refine fnK_r (res1 rfl (rv_t (v := .bool _) rfl)) (.refl _) ?_
                                  refine congrArg Value.bool ?_
                                  unfold spareMt
                                  simp only [h7, h13, h14, h15, h17, h19, h23, h24, h25, h27, h29, h35, h41, h42, h43, h45, Bool.or_false, Bool.true_or, Bool.or_true, Bool.false_or, Bool.not_true, Bool.not_false, Bool.and_true, Bool.true_and, Bool.false_and, Bool.and_false]
                              · refine ow1 (op1_gs rfl h42 rfl ?_)
                                refine ow1 (op1_gs rfl h42 rfl ?_)
                                refine ow1 (op1_gs rfl h42 rfl ?_)
                                refine ow1 (op1_l rfl (lo_pick_f (v := .bool _) rfl h42 rfl) ?_)
                                refine ow1 (op1_l rfl (lo_assign (v := .bool _) rfl) ?_)
                                refine ow_nil ?_
                                refine seqK_n ?_
                                refine cw_cond_f rfl rfl ?_
                                refine cw_skip ?_
                                refine seqK_n ?_
                                refine cw_exit ?_
                                refine blkK_e rfl ?_
                                refine blkK_e rfl ?_
                                refine blkK_e rfl ?_
                                refine seqK_e ?_
                                refine blkK_hit ?_
                                refine seqK_n ?_
                                refine cw_seq ?_
                                refine cw_region ?_
                                refine ow1 (op1_l rfl (lo_assign (v := .bool _) rfl) ?_)
                                refine ow_nil ?_
                                refine seqK_n ?_
                                refine cw_ret ?_
                                refine fnK_r (res1 rfl (rv_t (v := .bool _) rfl)) (.refl _) ?_
                                refine congrArg Value.bool ?_
                                unfold spareMt
                                simp only [h7, h13, h14, h15, h17, h19, h23, h24, h25, h27, h29, h35, h41, h42, Bool.or_false, Bool.true_or, Bool.or_true, Bool.false_or, Bool.not_true, Bool.not_false, Bool.and_true, Bool.true_and, Bool.false_and, Bool.and_false]
                  · have h46 := not_f h24
                    have p47 := dt h46
                    refine ow1 (op1_gs rfl h24 rfl ?_)
                    refine ow1 (op1_gs rfl h24 rfl ?_)
                    refine ow1 (op1_gs rfl h24 rfl ?_)
                    refine ow1 (op1_l rfl (lo_pick_f (v := .bool _) rfl h24 rfl) ?_)
                    refine ow1 (op1_l rfl (lo_assign (v := .bool _) rfl) ?_)
                    refine ow_nil ?_
                    refine seqK_n ?_
                    refine cw_cond_f rfl rfl ?_
                    refine cw_skip ?_
                    refine seqK_n ?_
                    refine cw_seq ?_
                    refine cw_seq_join [46, 47, 48, 49, 50, 51, 52, 53, 54] (fun G => upd G 46 (.bool (!decide (m.n = 0) && !(hasK m [110])))) ?_ (fun J => ?_)
                    · refine cw_region ?_
                      refine ow1 (op1_l rfl (lo_fieldAddr rfl fl50_7) ?_)
                      refine ow1 (op1_l rfl (lo_load1 (i := 0) (v := .int _ _) rfl ag22 rfl rfl) ?_)
                      refine ow1 (op1_l rfl (lo_neq rfl rfl) ?_)
                      refine ow1 (op1_l rfl (lo_move (v := .bool _) rfl) ?_)
                      refine ow_sp (j := 3) rfl (fun h48 => ?_) (fun h48 => ?_)
                      · have h49 := not_t h48
                        have p50 := df h49
                        refine ow1 (op1_g rfl h48 rfl (lo_loadA (i := 0) (vs := [_, _, _, _, _, _, _, _, _, _]) rfl ag50 sz50 rfl rfl rfl) ?_)
                        refine ow1 (op1_prg rfl h48 (method_tells _ m m_head_a m_head_c m_head_h m_w [110] hTells (by omega) (by decide) (by decide)) (en_f cb114 rfl) rfl ?_)
                        refine ow1 (op1_g rfl h48 rfl (lo_not rfl) ?_)
                        refine ow1 (op1_l rfl (lo_pick_t (v := .bool _) rfl h48 rfl) ?_)
                        refine ow1 (op1_l rfl (lo_assign (v := .bool _) rfl) ?_)
                        refine ow_nil ?_
                        exact ⟨rfl, rfl, rfl, upd_intro (mask_intro (by repeat (first | exact off_refl | exact off_mask | refine off_upd rfl ?_ | refine off_mask2 rfl ?_))) (congrArg Value.bool (by rw [h48]; rfl))⟩
                      · have h51 := not_f h48
                        have p52 := dt h51
                        refine ow1 (op1_gs rfl h48 rfl ?_)
                        refine ow1 (op1_gs rfl h48 rfl ?_)
                        refine ow1 (op1_gs rfl h48 rfl ?_)
                        refine ow1 (op1_l rfl (lo_pick_f (v := .bool _) rfl h48 rfl) ?_)
                        refine ow1 (op1_l rfl (lo_assign (v := .bool _) rfl) ?_)
                        refine ow_nil ?_
                        exact ⟨rfl, rfl, rfl, upd_intro (mask_intro (by repeat (first | exact off_refl | exact off_mask | refine off_upd rfl ?_ | refine off_mask2 rfl ?_))) (congrArg Value.bool (by rw [h48]; rfl))⟩
                    · refine cw_cond rfl (fun h53 => ?_) (fun h53 => ?_)
                      · refine cw_skip ?_
                        refine seqK_n ?_
                        refine cw_cond_t rfl h53 ?_
                        refine cw_exit ?_
                        refine seqK_e ?_
                        refine blkK_e rfl ?_
                        refine blkK_e rfl ?_
                        refine blkK_hit ?_
                        refine seqK_n ?_
                        refine cw_seq ?_
                        refine cw_seq ?_
                        refine cw_region ?_
                        refine ow1 (op1_l rfl (lo_assign (v := .bool _) rfl) ?_)
                        refine ow_nil ?_
                        refine seqK_n ?_
                        refine cw_ret ?_
                        refine seqK_r ?_
                        refine blkK_r ?_
                        refine seqK_r ?_
                        refine fnK_r (res1 rfl (rv_t (v := .bool _) rfl)) (.refl _) ?_
                        refine congrArg Value.bool ?_
                        unfold spareMt
                        simp only [h7, h13, h14, h15, h17, h19, h23, h24, h46, h53, Bool.or_false, Bool.true_or, Bool.or_true, Bool.false_or, Bool.not_true, Bool.not_false, Bool.and_true, Bool.true_and, Bool.false_and, Bool.and_false]
                      · refine cw_seq_join [46, 55, 56, 57, 58, 59, 60, 61, 62] (fun G => upd G 46 (.bool (!decide (m.m = 0) && !(hasK m [109])))) ?_ (fun J => ?_)
                        · refine cw_region ?_
                          refine ow1 (op1_l rfl (lo_fieldAddr rfl fl50_8) ?_)
                          refine ow1 (op1_l rfl (lo_load1 (i := 0) (v := .int _ _) rfl ag22 rfl rfl) ?_)
                          refine ow1 (op1_l rfl (lo_neq rfl rfl) ?_)
                          refine ow1 (op1_l rfl (lo_move (v := .bool _) rfl) ?_)
                          refine ow_sp (j := 3) rfl (fun h54 => ?_) (fun h54 => ?_)
                          · have h55 := not_t h54
                            have p56 := df h55
                            refine ow1 (op1_g rfl h54 rfl (lo_loadA (i := 0) (vs := [_, _, _, _, _, _, _, _, _, _]) rfl ag50 sz50 rfl rfl rfl) ?_)
                            refine ow1 (op1_prg rfl h54 (method_tells _ m m_head_a m_head_c m_head_h m_w [109] hTells (by omega) (by decide) (by decide)) (en_f cb114 rfl) rfl ?_)
                            refine ow1 (op1_g rfl h54 rfl (lo_not rfl) ?_)
                            refine ow1 (op1_l rfl (lo_pick_t (v := .bool _) rfl h54 rfl) ?_)
                            refine ow1 (op1_l rfl (lo_assign (v := .bool _) rfl) ?_)
                            refine ow_nil ?_
                            exact ⟨rfl, rfl, rfl, upd_intro (mask_intro (by repeat (first | exact off_refl | exact off_mask | refine off_upd rfl ?_ | refine off_mask2 rfl ?_))) (congrArg Value.bool (by rw [h54]; rfl))⟩
                          · have h57 := not_f h54
                            have p58 := dt h57
                            refine ow1 (op1_gs rfl h54 rfl ?_)
                            refine ow1 (op1_gs rfl h54 rfl ?_)
                            refine ow1 (op1_gs rfl h54 rfl ?_)
                            refine ow1 (op1_l rfl (lo_pick_f (v := .bool _) rfl h54 rfl) ?_)
                            refine ow1 (op1_l rfl (lo_assign (v := .bool _) rfl) ?_)
                            refine ow_nil ?_
                            exact ⟨rfl, rfl, rfl, upd_intro (mask_intro (by repeat (first | exact off_refl | exact off_mask | refine off_upd rfl ?_ | refine off_mask2 rfl ?_))) (congrArg Value.bool (by rw [h54]; rfl))⟩
                        · refine cw_cond rfl (fun h59 => ?_) (fun h59 => ?_)
                          · refine cw_skip ?_
                            refine seqK_n ?_
                            refine cw_cond_t rfl h59 ?_
                            refine cw_exit ?_
                            refine seqK_e ?_
                            refine blkK_e rfl ?_
                            refine blkK_e rfl ?_
                            refine blkK_hit ?_
                            refine seqK_n ?_
                            refine cw_seq ?_
                            refine cw_seq ?_
                            refine cw_region ?_
                            refine ow1 (op1_l rfl (lo_assign (v := .bool _) rfl) ?_)
                            refine ow_nil ?_
                            refine seqK_n ?_
                            refine cw_ret ?_
                            refine seqK_r ?_
                            refine blkK_r ?_
                            refine seqK_r ?_
                            refine fnK_r (res1 rfl (rv_t (v := .bool _) rfl)) (.refl _) ?_
                            refine congrArg Value.bool ?_
                            unfold spareMt
                            simp only [h7, h13, h14, h15, h17, h19, h23, h24, h46, h53, h59, Bool.or_false, Bool.true_or, Bool.or_true, Bool.false_or, Bool.not_true, Bool.not_false, Bool.and_true, Bool.true_and, Bool.false_and, Bool.and_false]
                          · refine cw_region ?_
                            refine ow1 (op1_l rfl (lo_fieldAddr rfl fl50_9) ?_)
                            refine ow1 (op1_l rfl (lo_load1 (i := 0) (v := .bool _) rfl ag4 rfl rfl) ?_)
                            refine ow1 (op1_l rfl (lo_move (v := .bool _) rfl) ?_)
                            refine ow_sp (j := 2) rfl (fun h60 => ?_) (fun h60 => ?_)
                            · refine ow1 (op1_g rfl h60 rfl (lo_loadA (i := 0) (vs := [_, _, _, _, _, _, _, _, _, _]) rfl ag50 sz50 rfl rfl rfl) ?_)
                              refine ow1 (op1_prg rfl h60 (method_tells _ m m_head_a m_head_c m_head_h m_w [121] hTells (by omega) (by decide) (by decide)) (en_f cb114 rfl) rfl ?_)
                              refine ow1 (op1_g rfl h60 rfl (lo_not rfl) ?_)
                              refine ow1 (op1_l rfl (lo_pick_t (v := .bool _) rfl h60 rfl) ?_)
                              refine ow1 (op1_l rfl (lo_assign (v := .bool _) rfl) ?_)
                              refine ow_nil ?_
                              refine seqK_n ?_
                              refine cw_cond rfl (fun h61 => ?_) (fun h61 => ?_)
                              · have h62 := not_t h61
                                refine cw_exit ?_
                                refine seqK_e ?_
                                refine blkK_e rfl ?_
                                refine blkK_e rfl ?_
                                refine blkK_hit ?_
                                refine seqK_n ?_
                                refine cw_seq ?_
                                refine cw_seq ?_
                                refine cw_region ?_
                                refine ow1 (op1_l rfl (lo_assign (v := .bool _) rfl) ?_)
                                refine ow_nil ?_
                                refine seqK_n ?_
                                refine cw_ret ?_
                                refine seqK_r ?_
                                refine blkK_r ?_
                                refine seqK_r ?_
                                refine fnK_r (res1 rfl (rv_t (v := .bool _) rfl)) (.refl _) ?_
                                refine congrArg Value.bool ?_
                                unfold spareMt
                                simp only [h7, h13, h14, h15, h17, h19, h23, h24, h46, h53, h59, h60, h61, h62, Bool.or_false, Bool.true_or, Bool.or_true, Bool.false_or, Bool.not_true, Bool.not_false, Bool.and_true, Bool.true_and, Bool.false_and, Bool.and_false]
                              · have h63 := not_f h61
                                refine cw_skip ?_
                                refine seqK_n ?_
                                refine cw_exit ?_
                                refine blkK_e rfl ?_
                                refine blkK_e rfl ?_
                                refine blkK_e rfl ?_
                                refine seqK_e ?_
                                refine blkK_hit ?_
                                refine seqK_n ?_
                                refine cw_seq ?_
                                refine cw_region ?_
                                refine ow1 (op1_l rfl (lo_assign (v := .bool _) rfl) ?_)
                                refine ow_nil ?_
                                refine seqK_n ?_
                                refine cw_ret ?_
                                refine fnK_r (res1 rfl (rv_t (v := .bool _) rfl)) (.refl _) ?_
                                refine congrArg Value.bool ?_
                                unfold spareMt
                                simp only [h7, h13, h14, h15, h17, h19, h23, h24, h46, h53, h59, h60, h61, h63, Bool.or_false, Bool.true_or, Bool.or_true, Bool.false_or, Bool.not_true, Bool.not_false, Bool.and_true, Bool.true_and, Bool.false_and, Bool.and_false]
                            · refine ow1 (op1_gs rfl h60 rfl ?_)
                              refine ow1 (op1_gs rfl h60 rfl ?_)
                              refine ow1 (op1_gs rfl h60 rfl ?_)
                              refine ow1 (op1_l rfl (lo_pick_f (v := .bool _) rfl h60 rfl) ?_)
                              refine ow1 (op1_l rfl (lo_assign (v := .bool _) rfl) ?_)
                              refine ow_nil ?_
                              refine seqK_n ?_
                              refine cw_cond_f rfl rfl ?_
                              refine cw_skip ?_
                              refine seqK_n ?_
                              refine cw_exit ?_
                              refine blkK_e rfl ?_
                              refine blkK_e rfl ?_
                              refine blkK_e rfl ?_
                              refine seqK_e ?_
                              refine blkK_hit ?_
                              refine seqK_n ?_
                              refine cw_seq ?_
                              refine cw_region ?_
                              refine ow1 (op1_l rfl (lo_assign (v := .bool _) rfl) ?_)
                              refine ow_nil ?_
                              refine seqK_n ?_
                              refine cw_ret ?_
                              refine fnK_r (res1 rfl (rv_t (v := .bool _) rfl)) (.refl _) ?_
                              refine congrArg Value.bool ?_
                              unfold spareMt
                              simp only [h7, h13, h14, h15, h17, h19, h23, h24, h46, h53, h59, h60, Bool.or_false, Bool.true_or, Bool.or_true, Bool.false_or, Bool.not_true, Bool.not_false, Bool.and_true, Bool.true_and, Bool.false_and, Bool.and_false]
          · have h64 := not_f h14
            have p65 := dt h64
            refine ow1 (op1_gs rfl h14 rfl ?_)
            refine ow1 (op1_gs rfl h14 rfl ?_)
            refine ow1 (op1_gs rfl h14 rfl ?_)
            refine ow1 (op1_l rfl (lo_pick_f (v := .bool _) rfl h14 rfl) ?_)
            refine ow1 (op1_l rfl (lo_assign (v := .bool _) rfl) ?_)
            refine ow_nil ?_
            refine seqK_n ?_
            refine cw_cond_f rfl rfl ?_
            refine cw_skip ?_
            refine seqK_n ?_
            refine cw_seq ?_
            refine cw_seq ?_
            refine cw_seq_join [28, 29, 30, 31, 32, 33, 34, 35, 36, 37] (fun G => upd G 28 (.bool (decide (0 < (m.head.length : Int)) && !(hasK m [104])))) ?_ (fun J => ?_)
            · refine cw_region ?_
              refine ow1 (op1_l rfl (lo_fieldAddr rfl fl50_5) ?_)
              refine ow1 (op1_l rfl (lo_load1 (i := 0) (v := .slice _ _ _) rfl ag23 rfl rfl) ?_)
              refine ow1 (op1_l rfl (lo_len_slh rfl m_head_h Tryd.underlying23) ?_)
              refine ow1 (op1_l rfl (lo_gtr rfl rfl) ?_)
              refine ow1 (op1_l rfl (lo_move (v := .bool _) rfl) ?_)
              refine ow_sp (j := 4) rfl (fun h66 => ?_) (fun h66 => ?_)
              · have p67 := dt h66
                refine ow1 (op1_g rfl h66 rfl (lo_loadA (i := 0) (vs := [_, _, _, _, _, _, _, _, _, _]) rfl ag50 sz50 rfl rfl rfl) ?_)
                refine ow1 (op1_prg rfl h66 (method_tells _ m m_head_a m_head_c m_head_h m_w [104] hTells (by omega) (by decide) (by decide)) (en_f cb114 rfl) rfl ?_)
                refine ow1 (op1_g rfl h66 rfl (lo_not rfl) ?_)
                refine ow1 (op1_l rfl (lo_pick_t (v := .bool _) rfl h66 rfl) ?_)
                refine ow1 (op1_l rfl (lo_assign (v := .bool _) rfl) ?_)
                refine ow_nil ?_
                exact ⟨rfl, rfl, rfl, upd_intro (mask_intro (by repeat (first | exact off_refl | exact off_mask | refine off_upd rfl ?_ | refine off_mask2 rfl ?_))) (congrArg Value.bool (by rw [h66]; rfl))⟩
              · have p68 := df h66
                refine ow1 (op1_gs rfl h66 rfl ?_)
                refine ow1 (op1_gs rfl h66 rfl ?_)
                refine ow1 (op1_gs rfl h66 rfl ?_)
                refine ow1 (op1_l rfl (lo_pick_f (v := .bool _) rfl h66 rfl) ?_)
                refine ow1 (op1_l rfl (lo_assign (v := .bool _) rfl) ?_)
                refine ow_nil ?_
                exact ⟨rfl, rfl, rfl, upd_intro (mask_intro (by repeat (first | exact off_refl | exact off_mask | refine off_upd rfl ?_ | refine off_mask2 rfl ?_))) (congrArg Value.bool (by rw [h66]; rfl))⟩
            · refine cw_cond rfl (fun h69 => ?_) (fun h69 => ?_)
              · refine cw_skip ?_
                refine seqK_n ?_
                refine cw_cond_t rfl h69 ?_
                refine cw_exit ?_
                refine seqK_e ?_
                refine seqK_e ?_
                refine blkK_e rfl ?_
                refine blkK_hit ?_
                refine blkK_n ?_
                refine seqK_n ?_
                refine cw_seq ?_
                refine cw_seq ?_
                refine cw_region ?_
                refine ow1 (op1_l rfl (lo_assign (v := .bool _) rfl) ?_)
                refine ow_nil ?_
                refine seqK_n ?_
                refine cw_ret ?_
                refine seqK_r ?_
                refine blkK_r ?_
                refine seqK_r ?_
                refine fnK_r (res1 rfl (rv_t (v := .bool _) rfl)) (.refl _) ?_
                refine congrArg Value.bool ?_
                unfold spareMt
                simp only [h7, h13, h14, h64, h69, Bool.or_false, Bool.true_or, Bool.or_true, Bool.false_or, Bool.not_true, Bool.not_false, Bool.and_true, Bool.true_and, Bool.false_and, Bool.and_false]
              · refine cw_region ?_
                refine ow1 (op1_l rfl (lo_fieldAddr rfl fl50_6) ?_)
                refine ow1 (op1_l rfl (lo_load1 (i := 0) (v := str _) rfl ag9 rfl rfl) ?_)
                refine ow1 (op1_l rfl (lo_sneq rfl rfl) ?_)
                refine ow1 (op1_l rfl (lo_move (v := .bool _) rfl) ?_)
                refine ow_sp (j := 3) rfl (fun h70 => ?_) (fun h70 => ?_)
                · have h71 := not_t h70
                  have p72 := df h71
                  refine ow1 (op1_g rfl h70 rfl (lo_loadA (i := 0) (vs := [_, _, _, _, _, _, _, _, _, _]) rfl ag50 sz50 rfl rfl rfl) ?_)
                  refine ow1 (op1_prg rfl h70 (method_tells _ m m_head_a m_head_c m_head_h m_w [98] hTells (by omega) (by decide) (by decide)) (en_f cb114 rfl) rfl ?_)
                  refine ow1 (op1_g rfl h70 rfl (lo_not rfl) ?_)
                  refine ow1 (op1_l rfl (lo_pick_t (v := .bool _) rfl h70 rfl) ?_)
                  refine ow1 (op1_l rfl (lo_assign (v := .bool _) rfl) ?_)
                  refine ow_nil ?_
                  refine seqK_n ?_
                  refine cw_cond rfl (fun h73 => ?_) (fun h73 => ?_)
                  · have h74 := not_t h73
                    refine cw_exit ?_
                    refine seqK_e ?_
                    refine seqK_e ?_
                    refine blkK_e rfl ?_
                    refine blkK_hit ?_
                    refine blkK_n ?_
                    refine seqK_n ?_
                    refine cw_seq ?_
                    refine cw_seq ?_
                    refine cw_region ?_
                    refine ow1 (op1_l rfl (lo_assign (v := .bool _) rfl) ?_)
                    refine ow_nil ?_
                    refine seqK_n ?_
                    refine cw_ret ?_
                    refine seqK_r ?_
                    refine blkK_r ?_
                    refine seqK_r ?_
                    refine fnK_r (res1 rfl (rv_t (v := .bool _) rfl)) (.refl _) ?_
                    refine congrArg Value.bool ?_
                    unfold spareMt
                    simp only [h7, h13, h14, h64, h69, h70, h71, h73, h74, Bool.or_false, Bool.true_or, Bool.or_true, Bool.false_or, Bool.not_true, Bool.not_false, Bool.and_true, Bool.true_and, Bool.false_and, Bool.and_false]
                  · have h75 := not_f h73
                    refine cw_skip ?_
                    refine seqK_n ?_
                    refine cw_seq ?_
                    refine cw_seq_join [46, 47, 48, 49, 50, 51, 52, 53, 54] (fun G => upd G 46 (.bool (!decide (m.n = 0) && !(hasK m [110])))) ?_ (fun J => ?_)
                    · refine cw_region ?_
                      refine ow1 (op1_l rfl (lo_fieldAddr rfl fl50_7) ?_)
                      refine ow1 (op1_l rfl (lo_load1 (i := 0) (v := .int _ _) rfl ag22 rfl rfl) ?_)
                      refine ow1 (op1_l rfl (lo_neq rfl rfl) ?_)
                      refine ow1 (op1_l rfl (lo_move (v := .bool _) rfl) ?_)
                      refine ow_sp (j := 3) rfl (fun h76 => ?_) (fun h76 => ?_)
                      · have h77 := not_t h76
                        have p78 := df h77
                        refine ow1 (op1_g rfl h76 rfl (lo_loadA (i := 0) (vs := [_, _, _, _, _, _, _, _, _, _]) rfl ag50 sz50 rfl rfl rfl) ?_)
                        refine ow1 (op1_prg rfl h76 (method_tells _ m m_head_a m_head_c m_head_h m_w [110] hTells (by omega) (by decide) (by decide)) (en_f cb114 rfl) rfl ?_)
                        refine ow1 (op1_g rfl h76 rfl (lo_not rfl) ?_)
                        refine ow1 (op1_l rfl (lo_pick_t (v := .bool _) rfl h76 rfl) ?_)
                        refine ow1 (op1_l rfl (lo_assign (v := .bool _) rfl) ?_)
                        refine ow_nil ?_
                        exact ⟨rfl, rfl, rfl, upd_intro (mask_intro (by repeat (first | exact off_refl | exact off_mask | refine off_upd rfl ?_ | refine off_mask2 rfl ?_))) (congrArg Value.bool (by rw [h76]; rfl))⟩
                      · have h79 := not_f h76
                        have p80 := dt h79
                        refine ow1 (op1_gs rfl h76 rfl ?_)
                        refine ow1 (op1_gs rfl h76 rfl ?_)
                        refine ow1 (op1_gs rfl h76 rfl ?_)
                        refine ow1 (op1_l rfl (lo_pick_f (v := .bool _) rfl h76 rfl) ?_)
                        refine ow1 (op1_l rfl (lo_assign (v := .bool _) rfl) ?_)
                        refine ow_nil ?_
                        exact ⟨rfl, rfl, rfl, upd_intro (mask_intro (by repeat (first | exact off_refl | exact off_mask | refine off_upd rfl ?_ | refine off_mask2 rfl ?_))) (congrArg Value.bool (by rw [h76]; rfl))⟩
                    · refine cw_cond rfl (fun h81 => ?_) (fun h81 => ?_)
                      · refine cw_skip ?_
                        refine seqK_n ?_
                        refine cw_cond_t rfl h81 ?_
                        refine cw_exit ?_
                        refine seqK_e ?_
                        refine blkK_e rfl ?_
                        refine blkK_e rfl ?_
                        refine blkK_hit ?_
                        refine seqK_n ?_
                        refine cw_seq ?_
                        refine cw_seq ?_
                        refine cw_region ?_
                        refine ow1 (op1_l rfl (lo_assign (v := .bool _) rfl) ?_)
                        refine ow_nil ?_
                        refine seqK_n ?_
                        refine cw_ret ?_
                        refine seqK_r ?_
                        refine blkK_r ?_
                        refine seqK_r ?_
                        refine fnK_r (res1 rfl (rv_t (v := .bool _) rfl)) (.refl _) ?_
                        refine congrArg Value.bool ?_
                        unfold spareMt
                        simp only [h7, h13, h14, h64, h69, h70, h71, h73, h75, h81, Bool.or_false, Bool.true_or, Bool.or_true, Bool.false_or, Bool.not_true, Bool.not_false, Bool.and_true, Bool.true_and, Bool.false_and, Bool.and_false]
                      · refine cw_seq_join [46, 55, 56, 57, 58, 59, 60, 61, 62] (fun G => upd G 46 (.bool (!decide (m.m = 0) && !(hasK m [109])))) ?_ (fun J => ?_)
                        · refine cw_region ?_
                          refine ow1 (op1_l rfl (lo_fieldAddr rfl fl50_8) ?_)
                          refine ow1 (op1_l rfl (lo_load1 (i := 0) (v := .int _ _) rfl ag22 rfl rfl) ?_)
                          refine ow1 (op1_l rfl (lo_neq rfl rfl) ?_)
                          refine ow1 (op1_l rfl (lo_move (v := .bool _) rfl) ?_)
                          refine ow_sp (j := 3) rfl (fun h82 => ?_) (fun h82 => ?_)
                          · have h83 := not_t h82
                            have p84 := df h83
                            refine ow1 (op1_g rfl h82 rfl (lo_loadA (i := 0) (vs := [_, _, _, _, _, _, _, _, _, _]) rfl ag50 sz50 rfl rfl rfl) ?_)
                            refine ow1 (op1_prg rfl h82 (method_tells _ m m_head_a m_head_c m_head_h m_w [109] hTells (by omega) (by decide) (by decide)) (en_f cb114 rfl) rfl ?_)
                            refine ow1 (op1_g rfl h82 rfl (lo_not rfl) ?_)
                            refine ow1 (op1_l rfl (lo_pick_t (v := .bool _) rfl h82 rfl) ?_)
                            refine ow1 (op1_l rfl (lo_assign (v := .bool _) rfl) ?_)
                            refine ow_nil ?_
                            exact ⟨rfl, rfl, rfl, upd_intro (mask_intro (by repeat (first | exact off_refl | exact off_mask | refine off_upd rfl ?_ | refine off_mask2 rfl ?_))) (congrArg Value.bool (by rw [h82]; rfl))⟩
                          · have h85 := not_f h82
                            have p86 := dt h85
                            refine ow1 (op1_gs rfl h82 rfl ?_)
                            refine ow1 (op1_gs rfl h82 rfl ?_)
                            refine ow1 (op1_gs rfl h82 rfl ?_)
                            refine ow1 (op1_l rfl (lo_pick_f (v := .bool _) rfl h82 rfl) ?_)
                            refine ow1 (op1_l rfl (lo_assign (v := .bool _) rfl) ?_)
                            refine ow_nil ?_
                            exact ⟨rfl, rfl, rfl, upd_intro (mask_intro (by repeat (first | exact off_refl | exact off_mask | refine off_upd rfl ?_ | refine off_mask2 rfl ?_))) (congrArg Value.bool (by rw [h82]; rfl))⟩
                        · refine cw_cond rfl (fun h87 => ?_) (fun h87 => ?_)
                          · refine cw_skip ?_
                            refine seqK_n ?_
                            refine cw_cond_t rfl h87 ?_
                            refine cw_exit ?_
                            refine seqK_e ?_
                            refine blkK_e rfl ?_
                            refine blkK_e rfl ?_
                            refine blkK_hit ?_
                            refine seqK_n ?_
                            refine cw_seq ?_
                            refine cw_seq ?_
                            refine cw_region ?_
                            refine ow1 (op1_l rfl (lo_assign (v := .bool _) rfl) ?_)
                            refine ow_nil ?_
                            refine seqK_n ?_
                            refine cw_ret ?_
                            refine seqK_r ?_
                            refine blkK_r ?_
                            refine seqK_r ?_
                            refine fnK_r (res1 rfl (rv_t (v := .bool _) rfl)) (.refl _) ?_
                            refine congrArg Value.bool ?_
                            unfold spareMt
                            simp only [h7, h13, h14, h64, h69, h70, h71, h73, h75, h81, h87, Bool.or_false, Bool.true_or, Bool.or_true, Bool.false_or, Bool.not_true, Bool.not_false, Bool.and_true, Bool.true_and, Bool.false_and, Bool.and_false]
                          · refine cw_region ?_
                            refine ow1 (op1_l rfl (lo_fieldAddr rfl fl50_9) ?_)
                            refine ow1 (op1_l rfl (lo_load1 (i := 0) (v := .bool _) rfl ag4 rfl rfl) ?_)
                            refine ow1 (op1_l rfl (lo_move (v := .bool _) rfl) ?_)
                            refine ow_sp (j := 2) rfl (fun h88 => ?_) (fun h88 => ?_)
                            · refine ow1 (op1_g rfl h88 rfl (lo_loadA (i := 0) (vs := [_, _, _, _, _, _, _, _, _, _]) rfl ag50 sz50 rfl rfl rfl) ?_)
                              refine ow1 (op1_prg rfl h88 (method_tells _ m m_head_a m_head_c m_head_h m_w [121] hTells (by omega) (by decide) (by decide)) (en_f cb114 rfl) rfl ?_)
                              refine ow1 (op1_g rfl h88 rfl (lo_not rfl) ?_)
                              refine ow1 (op1_l rfl (lo_pick_t (v := .bool _) rfl h88 rfl) ?_)
                              refine ow1 (op1_l rfl (lo_assign (v := .bool _) rfl) ?_)
                              refine ow_nil ?_
                              refine seqK_n ?_
                              refine cw_cond rfl (fun h89 => ?_) (fun h89 => ?_)
                              · have h90 := not_t h89
                                refine cw_exit ?_
                                refine seqK_e ?_
                                refine blkK_e rfl ?_
                                refine blkK_e rfl ?_
                                refine blkK_hit ?_
                                refine seqK_n ?_
                                refine cw_seq ?_
                                refine cw_seq ?_
                                refine cw_region ?_
                                refine ow1 (op1_l rfl (lo_assign (v := .bool _) rfl) ?_)
                                refine ow_nil ?_
                                refine seqK_n ?_
                                refine cw_ret ?_
                                refine seqK_r ?_
                                refine blkK_r ?_
                                refine seqK_r ?_
                                refine fnK_r (res1 rfl (rv_t (v := .bool _) rfl)) (.refl _) ?_
                                refine congrArg Value.bool ?_
                                unfold spareMt
                                simp only [h7, h13, h14, h64, h69, h70, h71, h73, h75, h81, h87, h88, h89, h90, Bool.or_false, Bool.true_or, Bool.or_true, Bool.false_or, Bool.not_true, Bool.not_false, Bool.and_true, Bool.true_and, Bool.false_and, Bool.and_false]
                              · have h91 := not_f h89
                                refine cw_skip ?_
                                refine seqK_n ?_
                                refine cw_exit ?_
                                refine blkK_e rfl ?_
                                refine blkK_e rfl ?_
                                refine blkK_e rfl ?_
                                refine seqK_e ?_
                                refine blkK_hit ?_
                                refine seqK_n ?_
                                refine cw_seq ?_
                                refine cw_region ?_
                                refine ow1 (op1_l rfl (lo_assign (v := .bool _) rfl) ?_)
                                refine ow_nil ?_
                                refine seqK_n ?_
                                refine cw_ret ?_
                                refine fnK_r (res1 rfl (rv_t (v := .bool _) rfl)) (.refl _) ?_
                                refine congrArg Value.bool ?_
                                unfold spareMt
                                simp only [h7, h13, h14, h64, h69, h70, h71, h73, h75, h81, h87, h88, h89, h91, Bool.or_false, Bool.true_or, Bool.or_true, Bool.false_or, Bool.not_true, Bool.not_false, Bool.and_true, Bool.true_and, Bool.false_and, Bool.and_false]
                            · refine ow1 (op1_gs rfl h88 rfl ?_)
                              refine ow1 (op1_gs rfl h88 rfl ?_)
                              refine ow1 (op1_gs rfl h88 rfl ?_)
                              refine ow1 (op1_l rfl (lo_pick_f (v := .bool _) rfl h88 rfl) ?_)
                              refine ow1 (op1_l rfl (lo_assign (v := .bool _) rfl) ?_)
                              refine ow_nil ?_
                              refine seqK_n ?_
                              refine cw_cond_f rfl rfl ?_
                              refine cw_skip ?_
                              refine seqK_n ?_
                              refine cw_exit ?_
                              refine blkK_e rfl ?_
                              refine blkK_e rfl ?_
                              refine blkK_e rfl ?_
                              refine seqK_e ?_
                              refine blkK_hit ?_
                              refine seqK_n ?_
                              refine cw_seq ?_
                              refine cw_region ?_
                              refine ow1 (op1_l rfl (lo_assign (v := .bool _) rfl) ?_)
                              refine ow_nil ?_
                              refine seqK_n ?_
                              refine cw_ret ?_
                              refine fnK_r (res1 rfl (rv_t (v := .bool _) rfl)) (.refl _) ?_
                              refine congrArg Value.bool ?_
                              unfold spareMt
                              simp only [h7, h13, h14, h64, h69, h70, h71, h73, h75, h81, h87, h88, Bool.or_false, Bool.true_or, Bool.or_true, Bool.false_or, Bool.not_true, Bool.not_false, Bool.and_true, Bool.true_and, Bool.false_and, Bool.and_false]
                · have h92 := not_f h70
                  have p93 := dt h92
                  refine ow1 (op1_gs rfl h70 rfl ?_)
                  refine ow1 (op1_gs rfl h70 rfl ?_)
                  refine ow1 (op1_gs rfl h70 rfl ?_)
                  refine ow1 (op1_l rfl (lo_pick_f (v := .bool _) rfl h70 rfl) ?_)
                  refine ow1 (op1_l rfl (lo_assign (v := .bool _) rfl) ?_)
                  refine ow_nil ?_
                  refine seqK_n ?_
                  refine cw_cond_f rfl rfl ?_
                  refine cw_skip ?_
                  refine seqK_n ?_
                  refine cw_seq ?_
                  refine cw_seq_join [46, 47, 48, 49, 50, 51, 52, 53, 54] (fun G => upd G 46 (.bool (!decide (m.n = 0) && !(hasK m [110])))) ?_ (fun J => ?_)
                  · refine cw_region ?_
                    refine ow1 (op1_l rfl (lo_fieldAddr rfl fl50_7) ?_)
                    refine ow1 (op1_l rfl (lo_load1 (i := 0) (v := .int _ _) rfl ag22 rfl rfl) ?_)
                    refine ow1 (op1_l rfl (lo_neq rfl rfl) ?_)
                    refine ow1 (op1_l rfl (lo_move (v := .bool _) rfl) ?_)
                    refine ow_sp (j := 3) rfl (fun h94 => ?_) (fun h94 => ?_)
                    · have h95 := not_t h94
                      have p96 := df h95
                      refine ow1 (op1_g rfl h94 rfl (lo_loadA (i := 0) (vs := [_, _, _, _, _, _, _, _, _, _]) rfl ag50 sz50 rfl rfl rfl) ?_)
                      refine ow1 (op1_prg rfl h94 (method_tells _ m m_head_a m_head_c m_head_h m_w [110] hTells (by omega) (by decide) (by decide)) (en_f cb114 rfl) rfl ?_)
                      refine ow1 (op1_g rfl h94 rfl (lo_not rfl) ?_)
                      refine ow1 (op1_l rfl (lo_pick_t (v := .bool _) rfl h94 rfl) ?_)
                      refine ow1 (op1_l rfl (lo_assign (v := .bool _) rfl) ?_)
                      refine ow_nil ?_
                      exact ⟨rfl, rfl, rfl, upd_intro (mask_intro (by repeat (first | exact off_refl | exact off_mask | refine off_upd rfl ?_ | refine off_mask2 rfl ?_))) (congrArg Value.bool (by rw [h94]; rfl))⟩
                    · have h97 := not_f h94
                      have p98 := dt h97
                      refine ow1 (op1_gs rfl h94 rfl ?_)
                      refine ow1 (op1_gs rfl h94 rfl ?_)
                      refine ow1 (op1_gs rfl h94 rfl ?_)
                      refine ow1 (op1_l rfl (lo_pick_f (v := .bool _) rfl h94 rfl) ?_)
                      refine ow1 (op1_l rfl (lo_assign (v := .bool _) rfl) ?_)
                      refine ow_nil ?_
                      exact ⟨rfl, rfl, rfl, upd_intro (mask_intro (by repeat (first | exact off_refl | exact off_mask | refine off_upd rfl ?_ | refine off_mask2 rfl ?_))) (congrArg Value.bool (by rw [h94]; rfl))⟩
                  · refine cw_cond rfl (fun h99 => ?_) (fun h99 => ?_)
                    · refine cw_skip ?_
                      refine seqK_n ?_
                      refine cw_cond_t rfl h99 ?_
                      refine cw_exit ?_
                      refine seqK_e ?_
                      refine blkK_e rfl ?_
                      refine blkK_e rfl ?_
                      refine blkK_hit ?_
                      refine seqK_n ?_
                      refine cw_seq ?_
                      refine cw_seq ?_
                      refine cw_region ?_
                      refine ow1 (op1_l rfl (lo_assign (v := .bool _) rfl) ?_)
                      refine ow_nil ?_
                      refine seqK_n ?_
                      refine cw_ret ?_
                      refine seqK_r ?_
                      refine blkK_r ?_
                      refine seqK_r ?_
                      refine fnK_r (res1 rfl (rv_t (v := .bool _) rfl)) (.refl _) ?_
                      refine congrArg Value.bool ?_
                      unfold spareMt
                      simp only [h7, h13, h14, h64, h69, h70, h92, h99, Bool.or_false, Bool.true_or, Bool.or_true, Bool.false_or, Bool.not_true, Bool.not_false, Bool.and_true, Bool.true_and, Bool.false_and, Bool.and_false]
                    · refine cw_seq_join [46, 55, 56, 57, 58, 59, 60, 61, 62] (fun G => upd G 46 (.bool (!decide (m.m = 0) && !(hasK m [109])))) ?_ (fun J => ?_)
                      · refine cw_region ?_
                        refine ow1 (op1_l rfl (lo_fieldAddr rfl fl50_8) ?_)
                        refine ow1 (op1_l rfl (lo_load1 (i := 0) (v := .int _ _) rfl ag22 rfl rfl) ?_)
                        refine ow1 (op1_l rfl (lo_neq rfl rfl) ?_)
                        refine ow1 (op1_l rfl (lo_move (v := .bool _) rfl) ?_)
                        refine ow_sp (j := 3) rfl (fun h100 => ?_) (fun h100 => ?_)
                        · have h101 := not_t h100
                          have p102 := df h101
                          refine ow1 (op1_g rfl h100 rfl (lo_loadA (i := 0) (vs := [_, _, _, _, _, _, _, _, _, _]) rfl ag50 sz50 rfl rfl rfl) ?_)
                          refine ow1 (op1_prg rfl h100 (method_tells _ m m_head_a m_head_c m_head_h m_w [109] hTells (by omega) (by decide) (by decide)) (en_f cb114 rfl) rfl ?_)
                          refine ow1 (op1_g rfl h100 rfl (lo_not rfl) ?_)
                          refine ow1 (op1_l rfl (lo_pick_t (v := .bool _) rfl h100 rfl) ?_)
                          refine ow1 (op1_l rfl (lo_assign (v := .bool _) rfl) ?_)
                          refine ow_nil ?_
                          exact ⟨rfl, rfl, rfl, upd_intro (mask_intro (by repeat (first | exact off_refl | exact off_mask | refine off_upd rfl ?_ | refine off_mask2 rfl ?_))) (congrArg Value.bool (by rw [h100]; rfl))⟩
                        · have h103 := not_f h100
                          have p104 := dt h103
                          refine ow1 (op1_gs rfl h100 rfl ?_)
                          refine ow1 (op1_gs rfl h100 rfl ?_)
                          refine ow1 (op1_gs rfl h100 rfl ?_)
                          refine ow1 (op1_l rfl (lo_pick_f (v := .bool _) rfl h100 rfl) ?_)
                          refine ow1 (op1_l rfl (lo_assign (v := .bool _) rfl) ?_)
                          refine ow_nil ?_
                          exact ⟨rfl, rfl, rfl, upd_intro (mask_intro (by repeat (first | exact off_refl | exact off_mask | refine off_upd rfl ?_ | refine off_mask2 rfl ?_))) (congrArg Value.bool (by rw [h100]; rfl))⟩
                      · refine cw_cond rfl (fun h105 => ?_) (fun h105 => ?_)
                        · refine cw_skip ?_
                          refine seqK_n ?_
                          refine cw_cond_t rfl h105 ?_
                          refine cw_exit ?_
                          refine seqK_e ?_
                          refine blkK_e rfl ?_
                          refine blkK_e rfl ?_
                          refine blkK_hit ?_
                          refine seqK_n ?_
                          refine cw_seq ?_
                          refine cw_seq ?_
                          refine cw_region ?_
                          refine ow1 (op1_l rfl (lo_assign (v := .bool _) rfl) ?_)
                          refine ow_nil ?_
                          refine seqK_n ?_
                          refine cw_ret ?_
                          refine seqK_r ?_
                          refine blkK_r ?_
                          refine seqK_r ?_
                          refine fnK_r (res1 rfl (rv_t (v := .bool _) rfl)) (.refl _) ?_
                          refine congrArg Value.bool ?_
                          unfold spareMt
                          simp only [h7, h13, h14, h64, h69, h70, h92, h99, h105, Bool.or_false, Bool.true_or, Bool.or_true, Bool.false_or, Bool.not_true, Bool.not_false, Bool.and_true, Bool.true_and, Bool.false_and, Bool.and_false]
                        · refine cw_region ?_
                          refine ow1 (op1_l rfl (lo_fieldAddr rfl fl50_9) ?_)
                          refine ow1 (op1_l rfl (lo_load1 (i := 0) (v := .bool _) rfl ag4 rfl rfl) ?_)
                          refine ow1 (op1_l rfl (lo_move (v := .bool _) rfl) ?_)
                          refine ow_sp (j := 2) rfl (fun h106 => ?_) (fun h106 => ?_)
                          · refine ow1 (op1_g rfl h106 rfl (lo_loadA (i := 0) (vs := [_, _, _, _, _, _, _, _, _, _]) rfl ag50 sz50 rfl rfl rfl) ?_)
                            refine ow1 (op1_prg rfl h106 (method_tells _ m m_head_a m_head_c m_head_h m_w [121] hTells (by omega) (by decide) (by decide)) (en_f cb114 rfl) rfl ?_)
                            refine ow1 (op1_g rfl h106 rfl (lo_not rfl) ?_)
                            refine ow1 (op1_l rfl (lo_pick_t (v := .bool _) rfl h106 rfl) ?_)
                            refine ow1 (op1_l rfl (lo_assign (v := .bool _) rfl) ?_)
                            refine ow_nil ?_
                            refine seqK_n ?_
                            refine cw_cond rfl (fun h107 => ?_) (fun h107 => ?_)
                            · have h108 := not_t h107
                              refine cw_exit ?_
                              refine seqK_e ?_
                              refine blkK_e rfl ?_
                              refine blkK_e rfl ?_
                              refine blkK_hit ?_
                              refine seqK_n ?_
                              refine cw_seq ?_
                              refine cw_seq ?_
                              refine cw_region ?_
                              refine ow1 (op1_l rfl (lo_assign (v := .bool _) rfl) ?_)
                              refine ow_nil ?_
                              refine seqK_n ?_
                              refine cw_ret ?_
                              refine seqK_r ?_
                              refine blkK_r ?_
                              refine seqK_r ?_
                              refine fnK_r (res1 rfl (rv_t (v := .bool _) rfl)) (.refl _) ?_
                              refine congrArg Value.bool ?_
                              unfold spareMt
                              simp only [h7, h13, h14, h64, h69, h70, h92, h99, h105, h106, h107, h108, Bool.or_false, Bool.true_or, Bool.or_true, Bool.false_or, Bool.not_true, Bool.not_false, Bool.and_true, Bool.true_and, Bool.false_and, Bool.and_false]
                            · have h109 := not_f h107
                              refine cw_skip ?_
                              refine seqK_n ?_
                              refine cw_exit ?_
                              refine blkK_e rfl ?_
                              refine blkK_e rfl ?_
                              refine blkK_e rfl ?_
                              refine seqK_e ?_
                              refine blkK_hit ?_
                              refine seqK_n ?_
                              refine cw_seq ?_
                              refine cw_region ?_
                              refine ow1 (op1_l rfl (lo_assign (v := .bool _) rfl) ?_)
                              refine ow_nil ?_
                              refine seqK_n ?_
                              refine cw_ret ?_
                              refine fnK_r (res1 rfl (rv_t (v := .bool _) rfl)) (.refl _) ?_
                              refine congrArg Value.bool ?_
                              unfold spareMt
                              simp only [h7, h13, h14, h64, h69, h70, h92, h99, h105, h106, h107, h109, Bool.or_false, Bool.true_or, Bool.or_true, Bool.false_or, Bool.not_true, Bool.not_false, Bool.and_true, Bool.true_and, Bool.false_and, Bool.and_false]
                          · refine ow1 (op1_gs rfl h106 rfl ?_)
                            refine ow1 (op1_gs rfl h106 rfl ?_)
                            refine ow1 (op1_gs rfl h106 rfl ?_)
                            refine ow1 (op1_l rfl (lo_pick_f (v := .bool _) rfl h106 rfl) ?_)
                            refine ow1 (op1_l rfl (lo_assign (v := .bool _) rfl) ?_)
                            refine ow_nil ?_
                            refine seqK_n ?_
                            refine cw_cond_f rfl rfl ?_
                            refine cw_skip ?_
                            refine seqK_n ?_
                            refine cw_exit ?_
                            refine blkK_e rfl ?_
                            refine blkK_e rfl ?_
                            refine blkK_e rfl ?_
                            refine seqK_e ?_
                            refine blkK_hit ?_
                            refine seqK_n ?_
                            refine cw_seq ?_
                            refine cw_region ?_
                            refine ow1 (op1_l rfl (lo_assign (v := .bool _) rfl) ?_)
                            refine ow_nil ?_
                            refine seqK_n ?_
                            refine cw_ret ?_
                            refine fnK_r (res1 rfl (rv_t (v := .bool _) rfl)) (.refl _) ?_
                            refine congrArg Value.bool ?_
                            unfold spareMt
                            simp only [h7, h13, h14, h64, h69, h70, h92, h99, h105, h106, Bool.or_false, Bool.true_or, Bool.or_true, Bool.false_or, Bool.not_true, Bool.not_false, Bool.and_true, Bool.true_and, Bool.false_and, Bool.and_false]

theorem words_Pattern (H : Hp) (s : Bs) (hML : GInt H 2) : Pr Tryd.prog 115 #[str s] H (.int .i64 (keyE patB s)) := by
  refine pr_cw Tryd.func115 rfl Tryd.ntmps115 rfl (fun N => ?_)
  refine cw_seq ?_
  refine cw_region ?_
  refine ow1 (op1_l rfl (lo_assign (v := .int _ _) rfl) ?_)
  refine ow_nil ?_
  refine seqK_n ?_
  refine cw_seq ?_
  refine cw_region ?_
  refine ow1 (op1_l rfl (lo_move (v := str _) rfl) ?_)
  refine ow1 (op1_bslice (cs := [_, _]) 0 rfl Tryd.underlying108 sz9 zx9 rfl ⟨rfl, rfl, ⟨rfl, rfl, trivial⟩⟩ rfl rfl (by decide) (fun b1 => ?_))
  refine ow_giveO 0 rfl (fun _ hl2 hg3 => ?_)
  have hs4 := slh_bx (H := _) (enc := (fun s => [str s])) (wf := (fun s => s.length ≤ 9223372036854775807)) [[42], [35]] (fun _ => rfl) (hg3 _ _ rfl) rfl rfl (Nat.le_refl _) (by first | (intro x hx; simp at hx; subst hx; first | omega | (simp; done) | (simp; omega)) | (simp; done) | (simp; omega))
  refine ow1 (op1_pr (words_key _ s (some ⟨b1, 0, none⟩) 2 2 [[42], [35]] hs4 (hML.mono ((HLe.refl _).trans hl2)) (by first | (simp; done) | omega)) (en_f cb98 rfl) rfl ?_)
  refine ow1 (op1_l rfl (lo_assign (v := .int _ _) rfl) ?_)
  refine ow_nil ?_
  refine seqK_n ?_
  refine cw_ret ?_
  refine fnK_r (res1 rfl (rv_t (v := .int _ _) rfl)) ((HLe.refl _).trans hl2) ?_
  rfl

end Go.SW


set_option linter.unusedVariables false
set_option maxRecDepth 100000
set_option maxHeartbeats 4000000
namespace Go.SW
open Go.Proofs
theorem cb100 : Callable Tryd.prog 100 := callable_of Tryd.func100 (by kernel_rfl) (by kernel_rfl)
theorem cb115 : Callable Tryd.prog 115 := callable_of Tryd.func115 (by kernel_rfl) (by kernel_rfl)
theorem cb99 : Callable Tryd.prog 99 := callable_of Tryd.func99 (by kernel_rfl) (by kernel_rfl)

theorem method_one (H : Hp) (m : Method) (m_head_a : Option Addr) (m_head_c : Nat) (m_head_h : SlH pairE 4 H (.slice m_head_a m.head.length m_head_c) m.head) (m_w : Method.wf m) (c : Int) (c_r : -2147483648 ≤ c ∧ c ≤ 2147483647) (hML : GInt H 2) : Pr Tryd.prog 100 #[.agg (Method.cells m m_head_a m_head_c).toArray, .int .i32 c] H (.int .i64 (oneE m c)) := by
  refine pr_cw Tryd.func100 rfl Tryd.ntmps100 rfl (fun N => ?_)
  have m_w' := m_w
  simp only [Method.wf] at m_w'
  refine cw_seq ?_
  refine cw_region ?_
  refine ow1 (op1_box (cs := [_, _, _, _, _, _, _, _, _, _]) 0 rfl rfl (fun b1 => ?_))
  refine ow1 (op1_l rfl (lo_assign (v := .int _ _) rfl) ?_)
  refine ow_nil ?_
  refine seqK_n ?_
  refine cw_seq ?_
  refine cw_seq ?_
  refine cw_region ?_
  refine ow1 (op1_l rfl (lo_move (v := .int _ _) rfl) ?_)
  refine ow_nil ?_
  refine seqK_n ?_
  refine cw_block ?_
  refine cw_seq ?_
  refine cw_block ?_
  refine cw_seq ?_
  refine cw_block ?_
  refine cw_seq ?_
  refine cw_block ?_
  refine cw_seq ?_
  refine cw_block ?_
  refine cw_seq ?_
  refine cw_block ?_
  refine cw_seq ?_
  refine cw_block ?_
  refine cw_seq ?_
  refine cw_block ?_
  refine cw_seq ?_
  refine cw_seq ?_
  refine cw_seq ?_
  refine cw_region ?_
  refine ow1 (op1_l rfl (lo_eql rfl rfl) ?_)
  refine ow1 (op1_l rfl (lo_assign (v := .bool _) rfl) ?_)
  refine ow_nil ?_
  refine seqK_n ?_
  refine cw_cond rfl (fun h2 => ?_) (fun h2 => ?_)
  · have p3 := dt h2
    refine cw_exit ?_
    refine seqK_e ?_
    refine seqK_e ?_
    refine blkK_hit ?_
    refine seqK_n ?_
    refine cw_seq ?_
    refine cw_seq ?_
    refine cw_region ?_
    refine ow1 (op1_l rfl (lo_fieldAddr rfl fl50_2) ?_)
    refine ow1 (op1_l rfl (lo_load1 (i := 0) (v := str _) rfl ag9 rfl rfl) ?_)
    refine ow1 (op1_pr (words_Name _ m.name (by first | omega | decide | (simp; done))) (en_f cb54 rfl) rfl ?_)
    refine ow1 (op1_l rfl (lo_assign (v := .int _ _) rfl) ?_)
    refine ow_nil ?_
    refine seqK_n ?_
    refine cw_ret ?_
    refine seqK_r ?_
    refine blkK_r ?_
    refine seqK_r ?_
    refine blkK_r ?_
    refine seqK_r ?_
    refine blkK_r ?_
    refine seqK_r ?_
    refine blkK_r ?_
    refine seqK_r ?_
    refine blkK_r ?_
    refine seqK_r ?_
    refine blkK_r ?_
    refine seqK_r ?_
    refine blkK_r ?_
    refine seqK_r ?_
    refine fnK_r (res1 rfl (rv_t (v := .int _ _) rfl)) (.refl _) ?_
    first | (simp [oneE, *]; done) | (simp [oneE, *]; omega)
  · have p4 := df h2
    refine cw_skip ?_
    refine seqK_n ?_
    refine cw_seq ?_
    refine cw_seq ?_
    refine cw_region ?_
    refine ow1 (op1_l rfl (lo_eql rfl rfl) ?_)
    refine ow1 (op1_l rfl (lo_assign (v := .bool _) rfl) ?_)
    refine ow_nil ?_
    refine seqK_n ?_
    refine cw_cond rfl (fun h5 => ?_) (fun h5 => ?_)
    · have p6 := dt h5
      refine cw_exit ?_
      refine seqK_e ?_
      refine seqK_e ?_
      refine blkK_e rfl ?_
      refine seqK_e ?_
      refine blkK_hit ?_
      refine seqK_n ?_
      refine cw_seq ?_
      refine cw_region ?_
      refine ow1 (op1_l rfl (lo_fieldAddr rfl fl50_3) ?_)
      refine ow1 (op1_l rfl (lo_load1 (i := 0) (v := str _) rfl ag9 rfl rfl) ?_)
      refine ow1 (op1_l rfl (lo_seql rfl rfl) ?_)
      refine ow_nil ?_
      refine seqK_n ?_
      refine cw_cond rfl (fun h7 => ?_) (fun h7 => ?_)
      · have p8 := dt h7
        refine cw_seq ?_
        refine cw_region ?_
        refine ow1 (op1_l rfl (lo_assign (v := .int _ _) rfl) ?_)
        refine ow_nil ?_
        refine seqK_n ?_
        refine cw_ret ?_
        refine blkK_r ?_
        refine seqK_r ?_
        refine blkK_r ?_
        refine seqK_r ?_
        refine blkK_r ?_
        refine seqK_r ?_
        refine blkK_r ?_
        refine seqK_r ?_
        refine blkK_r ?_
        refine seqK_r ?_
        refine blkK_r ?_
        refine seqK_r ?_
        refine fnK_r (res1 rfl (rv_t (v := .int _ _) rfl)) (.refl _) ?_
        first | (simp [oneE, *]; done) | (simp [oneE, *]; omega)
      · have p9 := df h7
        refine cw_skip ?_
        refine blkK_n ?_
        refine seqK_n ?_
        refine cw_seq ?_
        refine cw_seq ?_
        refine cw_region ?_
        refine ow1 (op1_l rfl (lo_fieldAddr rfl fl50_3) ?_)
        refine ow1 (op1_l rfl (lo_load1 (i := 0) (v := str _) rfl ag9 rfl rfl) ?_)
        refine ow1 (op1_pr (words_Name _ m.other (by first | omega | decide | (simp; done))) (en_f cb54 rfl) rfl ?_)
        refine ow1 (op1_l rfl (lo_assign (v := .int _ _) rfl) ?_)
        refine ow_nil ?_
        refine seqK_n ?_
        refine cw_ret ?_
        refine seqK_r ?_
        refine blkK_r ?_
        refine seqK_r ?_
        refine blkK_r ?_
        refine seqK_r ?_
        refine blkK_r ?_
        refine seqK_r ?_
        refine blkK_r ?_
        refine seqK_r ?_
        refine blkK_r ?_
        refine seqK_r ?_
        refine fnK_r (res1 rfl (rv_t (v := .int _ _) rfl)) (.refl _) ?_
        first | (simp [oneE, *]; done) | (simp [oneE, *]; omega)
    · have p10 := df h5
      refine cw_skip ?_
      refine seqK_n ?_
      refine cw_seq ?_
      refine cw_seq ?_
      refine cw_region ?_
      refine ow1 (op1_l rfl (lo_eql rfl rfl) ?_)
      refine ow1 (op1_l rfl (lo_assign (v := .bool _) rfl) ?_)
      refine ow_nil ?_
      refine seqK_n ?_
      refine cw_cond rfl (fun h11 => ?_) (fun h11 => ?_)
      · have p12 := dt h11
        refine cw_exit ?_
        refine seqK_e ?_
        refine seqK_e ?_
        refine blkK_e rfl ?_
        refine seqK_e ?_
        refine blkK_e rfl ?_
        refine seqK_e ?_
        refine blkK_hit ?_
        refine seqK_n ?_
        refine cw_seq ?_
        refine cw_seq ?_
        refine cw_region ?_
        refine ow1 (op1_l rfl (lo_fieldAddr rfl fl50_3) ?_)
        refine ow1 (op1_l rfl (lo_load1 (i := 0) (v := str _) rfl ag9 rfl rfl) ?_)
        refine ow1 (op1_pr (words_Name _ m.other (by first | omega | decide | (simp; done))) (en_f cb54 rfl) rfl ?_)
        refine ow1 (op1_l rfl (lo_assign (v := .int _ _) rfl) ?_)
        refine ow_nil ?_
        refine seqK_n ?_
        refine cw_ret ?_
        refine seqK_r ?_
        refine blkK_r ?_
        refine seqK_r ?_
        refine blkK_r ?_
        refine seqK_r ?_
        refine blkK_r ?_
        refine seqK_r ?_
        refine blkK_r ?_
        refine seqK_r ?_
        refine blkK_r ?_
        refine seqK_r ?_
        refine fnK_r (res1 rfl (rv_t (v := .int _ _) rfl)) (.refl _) ?_
        first | (simp [oneE, *]; done) | (simp [oneE, *]; omega)
      · have p13 := df h11
        refine cw_skip ?_
        refine seqK_n ?_
        refine cw_seq ?_
        refine cw_seq ?_
        refine cw_region ?_
        refine ow1 (op1_l rfl (lo_eql rfl rfl) ?_)
        refine ow1 (op1_l rfl (lo_assign (v := .bool _) rfl) ?_)
        refine ow_nil ?_
        refine seqK_n ?_
        refine cw_cond rfl (fun h14 => ?_) (fun h14 => ?_)
        · have p15 := dt h14
          refine cw_exit ?_
          refine seqK_e ?_
          refine seqK_e ?_
          refine blkK_e rfl ?_
          refine seqK_e ?_
          refine blkK_e rfl ?_
          refine seqK_e ?_
          refine blkK_e rfl ?_
          refine seqK_e ?_
          refine blkK_hit ?_
          refine seqK_n ?_
          refine cw_seq ?_
          refine cw_seq ?_
          refine cw_region ?_
          refine ow1 (op1_l rfl (lo_fieldAddr rfl fl50_4) ?_)
          refine ow1 (op1_l rfl (lo_load1 (i := 0) (v := str _) rfl ag9 rfl rfl) ?_)
          refine ow1 (op1_pr (words_Key _ m.key hML) (en_f cb83 rfl) rfl ?_)
          refine ow1 (op1_l rfl (lo_assign (v := .int _ _) rfl) ?_)
          refine ow_nil ?_
          refine seqK_n ?_
          refine cw_ret ?_
          refine seqK_r ?_
          refine blkK_r ?_
          refine seqK_r ?_
          refine blkK_r ?_
          refine seqK_r ?_
          refine blkK_r ?_
          refine seqK_r ?_
          refine blkK_r ?_
          refine seqK_r ?_
          refine fnK_r (res1 rfl (rv_t (v := .int _ _) rfl)) (.refl _) ?_
          first | (simp [oneE, *]; done) | (simp [oneE, *]; omega)
        · have p16 := df h14
          refine cw_skip ?_
          refine seqK_n ?_
          refine cw_seq ?_
          refine cw_seq ?_
          refine cw_region ?_
          refine ow1 (op1_l rfl (lo_eql rfl rfl) ?_)
          refine ow1 (op1_l rfl (lo_assign (v := .bool _) rfl) ?_)
          refine ow_nil ?_
          refine seqK_n ?_
          refine cw_cond rfl (fun h17 => ?_) (fun h17 => ?_)
          · have p18 := dt h17
            refine cw_exit ?_
            refine seqK_e ?_
            refine seqK_e ?_
            refine blkK_e rfl ?_
            refine seqK_e ?_
            refine blkK_e rfl ?_
            refine seqK_e ?_
            refine blkK_e rfl ?_
            refine seqK_e ?_
            refine blkK_e rfl ?_
            refine seqK_e ?_
            refine blkK_hit ?_
            refine seqK_n ?_
            refine cw_seq ?_
            refine cw_seq ?_
            refine cw_region ?_
            refine ow1 (op1_l rfl (lo_fieldAddr rfl fl50_4) ?_)
            refine ow1 (op1_l rfl (lo_load1 (i := 0) (v := str _) rfl ag9 rfl rfl) ?_)
            refine ow1 (op1_pr (words_Pattern _ m.key hML) (en_f cb115 rfl) rfl ?_)
            refine ow1 (op1_l rfl (lo_assign (v := .int _ _) rfl) ?_)
            refine ow_nil ?_
            refine seqK_n ?_
            refine cw_ret ?_
            refine seqK_r ?_
            refine blkK_r ?_
            refine seqK_r ?_
            refine blkK_r ?_
            refine seqK_r ?_
            refine blkK_r ?_
            refine seqK_r ?_
            refine fnK_r (res1 rfl (rv_t (v := .int _ _) rfl)) (.refl _) ?_
            first | (simp [oneE, *]; done) | (simp [oneE, *]; omega)
          · have p19 := df h17
            refine cw_skip ?_
            refine seqK_n ?_
            refine cw_seq ?_
            refine cw_seq ?_
            refine cw_region ?_
            refine ow1 (op1_l rfl (lo_eql rfl rfl) ?_)
            refine ow1 (op1_l rfl (lo_assign (v := .bool _) rfl) ?_)
            refine ow_nil ?_
            refine seqK_n ?_
            refine cw_cond rfl (fun h20 => ?_) (fun h20 => ?_)
            · have p21 := dt h20
              refine cw_exit ?_
              refine seqK_e ?_
              refine seqK_e ?_
              refine blkK_e rfl ?_
              refine seqK_e ?_
              refine blkK_e rfl ?_
              refine seqK_e ?_
              refine blkK_e rfl ?_
              refine seqK_e ?_
              refine blkK_e rfl ?_
              refine seqK_e ?_
              refine blkK_e rfl ?_
              refine seqK_e ?_
              refine blkK_hit ?_
              refine seqK_n ?_
              refine cw_seq ?_
              refine cw_seq ?_
              refine cw_region ?_
              refine ow1 (op1_l rfl (lo_fieldAddr rfl fl50_5) ?_)
              refine ow1 (op1_l rfl (lo_load1 (i := 0) (v := .slice _ _ _) rfl ag23 rfl rfl) ?_)
              refine ow1 (op1_pr (head_Check _ m_head_a m.head.length m_head_c m.head m_head_h (by first | omega | (simp <;> omega))) (en_f cb78 rfl) rfl ?_)
              refine ow1 (op1_l rfl (lo_assign (v := .int _ _) rfl) ?_)
              refine ow_nil ?_
              refine seqK_n ?_
              refine cw_ret ?_
              refine seqK_r ?_
              refine blkK_r ?_
              refine seqK_r ?_
              refine blkK_r ?_
              refine seqK_r ?_
              refine fnK_r (res1 rfl (rv_t (v := .int _ _) rfl)) (.refl _) ?_
              first | (simp [oneE, *]; done) | (simp [oneE, *]; omega)
            · have p22 := df h20
              refine cw_skip ?_
              refine seqK_n ?_
              refine cw_seq ?_
              refine cw_region ?_
              refine ow1 (op1_l rfl (lo_eql rfl rfl) ?_)
              refine ow1 (op1_l rfl (lo_assign (v := .bool _) rfl) ?_)
              refine ow_nil ?_
              refine seqK_n ?_
              refine cw_cond rfl (fun h23 => ?_) (fun h23 => ?_)
              · have p24 := dt h23
                refine cw_exit ?_
                refine seqK_e ?_
                refine blkK_e rfl ?_
                refine seqK_e ?_
                refine blkK_e rfl ?_
                refine seqK_e ?_
                refine blkK_e rfl ?_
                refine seqK_e ?_
                refine blkK_e rfl ?_
                refine seqK_e ?_
                refine blkK_e rfl ?_
                refine seqK_e ?_
                refine blkK_e rfl ?_
                refine seqK_e ?_
                refine blkK_hit ?_
                refine seqK_n ?_
                refine cw_seq ?_
                refine cw_seq ?_
                refine cw_region ?_
                refine ow1 (op1_l rfl (lo_fieldAddr rfl fl50_6) ?_)
                refine ow1 (op1_l rfl (lo_load1 (i := 0) (v := str _) rfl ag9 rfl rfl) ?_)
                refine ow1 (op1_l rfl (lo_len_str rfl Tryd.underlying9) ?_)
                refine ow1 (op1_l rfl (lo_gtr rfl rfl) ?_)
                refine ow_nil ?_
                refine seqK_n ?_
                refine cw_cond rfl (fun h25 => ?_) (fun h25 => ?_)
                · have p26 := dt h25
                  refine cw_seq ?_
                  refine cw_region ?_
                  refine ow1 (op1_l rfl (lo_assign (v := .int _ _) rfl) ?_)
                  refine ow_nil ?_
                  refine seqK_n ?_
                  refine cw_ret ?_
                  refine seqK_r ?_
                  refine blkK_r ?_
                  refine seqK_r ?_
                  refine fnK_r (res1 rfl (rv_t (v := .int _ _) rfl)) (.refl _) ?_
                  first | (simp [oneE, *]; done) | (simp [oneE, *]; omega)
                · have p27 := df h25
                  refine cw_skip ?_
                  refine seqK_n ?_
                  refine cw_exit ?_
                  refine blkK_hit ?_
                  refine seqK_n ?_
                  refine cw_seq ?_
                  refine cw_region ?_
                  refine ow1 (op1_l rfl (lo_assign (v := .int _ _) rfl) ?_)
                  refine ow_nil ?_
                  refine seqK_n ?_
                  refine cw_ret ?_
                  refine fnK_r (res1 rfl (rv_t (v := .int _ _) rfl)) (.refl _) ?_
                  first | (simp [oneE, *]; done) | (simp [oneE, *]; omega)
              · have p28 := df h23
                refine cw_skip ?_
                refine seqK_n ?_
                refine cw_exit ?_
                refine blkK_e rfl ?_
                refine seqK_e ?_
                refine blkK_e rfl ?_
                refine seqK_e ?_
                refine blkK_e rfl ?_
                refine seqK_e ?_
                refine blkK_e rfl ?_
                refine seqK_e ?_
                refine blkK_e rfl ?_
                refine seqK_e ?_
                refine blkK_e rfl ?_
                refine seqK_e ?_
                refine blkK_e rfl ?_
                refine seqK_e ?_
                refine blkK_hit ?_
                refine seqK_n ?_
                refine cw_seq ?_
                refine cw_region ?_
                refine ow1 (op1_l rfl (lo_assign (v := .int _ _) rfl) ?_)
                refine ow_nil ?_
                refine seqK_n ?_
                refine cw_ret ?_
                refine fnK_r (res1 rfl (rv_t (v := .int _ _) rfl)) (.refl _) ?_
                first | (simp [oneE, *]; done) | (simp [oneE, *]; omega)

theorem method_Check (H : Hp) (m : Method) (m_head_a : Option Addr) (m_head_c : Nat) (m_head_h : SlH pairE 4 H (.slice m_head_a m.head.length m_head_c) m.head) (m_w : Method.wf m) (hML : GInt H 2) (hTells : GStrs H 0 tellsT) : Pr Tryd.prog 84 #[.agg (Method.cells m m_head_a m_head_c).toArray] H (.int .i64 (methodE m)) := by
  refine pr_cw Tryd.func84 rfl Tryd.ntmps84 rfl (fun N => ?_)
  have m_w' := m_w
  simp only [Method.wf] at m_w'
  obtain ⟨T0, fr0, hT0⟩ := id hTells
  refine cw_seq ?_
  refine cw_region ?_
  refine ow1 (op1_box (cs := [_, _, _, _, _, _, _, _, _, _]) 0 rfl rfl (fun b1 => ?_))
  refine ow1 (op1_l rfl (lo_assign (v := .int _ _) rfl) ?_)
  refine ow_nil ?_
  refine seqK_n ?_
  refine cw_seq ?_
  refine cw_block ?_
  refine cw_seq ?_
  refine cw_region ?_
  refine ow1 (op1_l rfl (lo_fieldAddr rfl fl50_1) ?_)
  refine ow1 (op1_l rfl (lo_load1 (i := 0) (v := .int _ _) rfl ag5 rfl rfl) ?_)
  refine ow1 (op1_l rfl (lo_gtr rfl rfl) ?_)
  refine ow1 (op1_l rfl (lo_assign (v := .bool _) rfl) ?_)
  refine ow_nil ?_
  refine seqK_n ?_
  refine cw_cond rfl (fun h2 => ?_) (fun h2 => ?_)
  · have p3 := dt h2
    refine cw_seq ?_
    refine cw_region ?_
    refine ow1 (op1_l rfl (lo_assign (v := .int _ _) rfl) ?_)
    refine ow_nil ?_
    refine seqK_n ?_
    refine cw_ret ?_
    refine blkK_r ?_
    refine seqK_r ?_
    refine fnK_r (res1 rfl (rv_t (v := .int _ _) rfl)) (.refl _) ?_
    exact congrArg (Value.int .i64) (by unfold methodE; rw [if_pos (by omega)])
  · have p4 := df h2
    refine cw_seq ?_
    refine cw_region ?_
    refine ow1 (op1_l rfl (lo_loadA (i := 0) (vs := [_, _, _, _, _, _, _, _, _, _]) rfl ag50 sz50 rfl rfl rfl) ?_)
    refine ow1 (op1_pr (method_spare _ m m_head_a m_head_c m_head_h m_w hTells (by omega)) (en_f cb99 rfl) rfl ?_)
    refine ow1 (op1_l rfl (lo_assign (v := .bool _) rfl) ?_)
    refine ow_nil ?_
    refine seqK_n ?_
    refine cw_cond rfl (fun h5 => ?_) (fun h5 => ?_)
    · refine cw_seq ?_
      refine cw_region ?_
      refine ow1 (op1_l rfl (lo_assign (v := .int _ _) rfl) ?_)
      refine ow_nil ?_
      refine seqK_n ?_
      refine cw_ret ?_
      refine blkK_r ?_
      refine seqK_r ?_
      refine fnK_r (res1 rfl (rv_t (v := .int _ _) rfl)) (.refl _) ?_
      exact congrArg (Value.int .i64) (by unfold methodE; rw [if_neg (by omega), if_pos (by assumption)])
    · refine cw_skip ?_
      refine blkK_n ?_
      refine seqK_n ?_
      refine cw_seq ?_
      refine cw_seq ?_
      refine cw_region ?_
      refine ow1 (op1_l rfl (lo_fieldAddr rfl fl50_1) ?_)
      refine ow1 (op1_l rfl (lo_load1 (i := 0) (v := .int _ _) rfl ag5 rfl rfl) ?_)
      refine ow1 (op1_l rfl (lo_gidx (m := (m.kind).toNat) rfl Tryd.underlying112 sz9 (by omega) (by omega)) ?_)
      refine ow1 (op1_l rfl (lo_loadH rfl ag9 hT0 (strs_get (by show _ < 21; first | omega | (have := hkd0 (by assumption); omega)))) ?_)
      refine ow1 (op1_range 1 rfl rfl Tryd.underlying9 ?_)
      intro b6
      refine ow_nil ?_
      refine seqK_n ?_
      refine cw_block ?_
      refine cw_loop1 [2, 4, 5, 18, 19, 20, 21, 22, 23, 24, 25, 26] [1] (fun (p : Nat) G => G) (fun (p : Nat) G => lupd (G) 1 (some (b6, itr (tellsOf m.kind) p))) (fun (p : Nat) H' => p ≤ (tellsOf m.kind).length ∧ ckGo m (tellsOf m.kind) = ckGo m ((tellsOf m.kind).drop p)) (fun (p : Nat) => (tellsOf m.kind).length - p) 0 (mask_intro (by first | exact off_refl | (repeat (first | exact off_mask | refine off_upd rfl ?_ | refine off_mask2 rfl ?_)))) (lupd_intro (lmask_intro offl_refl) rfl) ?_ ?_
      · exact ⟨Nat.zero_le _, rfl⟩
      · intro p J8 JL8 H8 hp7 hl8
        obtain ⟨hk1, hk2⟩ := hp7
        refine cw_seq ?_
        refine cw_region ?_
        rcases Nat.lt_or_ge p (tellsOf m.kind).length with hn9 | hn9
        · have := u8r ((tellsOf m.kind).getD p 0)
          refine ow1 (op1_next_more 1 rfl rfl rfl hn9 (tells_at _ _ hn9) ?_)
          refine ow1 (op1_l rfl (lo_extract (v := .bool _) rfl rfl) ?_)
          refine ow_nil ?_
          refine seqK_n ?_
          refine cw_seq ?_
          refine cw_cond_t rfl rfl ?_
          refine cw_skip ?_
          refine seqK_n ?_
          refine cw_block ?_
          refine cw_seq ?_
          refine cw_region ?_
          refine ow1 (op1_l rfl (lo_extract (v := .int _ _) rfl rfl) ?_)
          refine ow1 (op1_l rfl (lo_assign (v := .int _ _) rfl) ?_)
          refine ow_nil ?_
          refine seqK_n ?_
          refine cw_seq ?_
          refine cw_region ?_
          refine ow1 (op1_l rfl (lo_loadA (i := 0) (vs := [_, _, _, _, _, _, _, _, _, _]) rfl ag50 sz50 rfl rfl rfl) ?_)
          refine ow1 (op1_l rfl (lo_move (v := .int _ _) rfl) ?_)
          refine ow1 (op1_pr (method_one _ m m_head_a m_head_c (m_head_h.mono ((HLe.refl _).trans hl8) (fun _ _ h => h)) m_w (((tellsOf m.kind).getD p 0).toNat : Int) (by omega) (hML.mono ((HLe.refl _).trans hl8))) (en_f cb100 rfl) rfl ?_)
          have := oneE_r m (((tellsOf m.kind).getD p 0).toNat : Int)
          refine ow1 (op1_l rfl (lo_assign (v := .int _ _) rfl) ?_)
          refine ow_nil ?_
          refine seqK_n ?_
          refine cw_seq ?_
          refine cw_region ?_
          refine ow1 (op1_l rfl (lo_move (v := .int _ _) rfl) ?_)
          refine ow1 (op1_l rfl (lo_neq rfl rfl) ?_)
          refine ow_nil ?_
          refine seqK_n ?_
          refine cw_cond rfl (fun h10 => ?_) (fun h10 => ?_)
          · have h11 := not_t h10
            have p12 := df h11
            refine cw_seq ?_
            refine cw_region ?_
            refine ow1 (op1_l rfl (lo_move (v := .int _ _) rfl) ?_)
            refine ow1 (op1_l rfl (lo_assign (v := .int _ _) rfl) ?_)
            refine ow_nil ?_
            refine seqK_n ?_
            refine cw_ret ?_
            refine blkK_r ?_
            refine loopK_r ?_
            refine blkK_r ?_
            refine seqK_r ?_
            refine fnK_r (res1 rfl (rv_t (v := .int _ _) rfl)) ((HLe.refl _).trans hl8) ?_
            refine congrArg (Value.int .i64) ?_
            have hsp : spareMt m = false := by assumption
            unfold methodE
            rw [if_neg (by omega), hsp, if_neg (by decide), hk2]
            rw [drop_getD (k := p) (by omega)]
            simp only [ckGo]
            rw [if_pos (by omega)]
          · have h13 := not_f h10
            have p14 := dt h13
            refine cw_skip ?_
            refine blkK_n ?_
            refine next1 (p + 1) (mask_intro (by first | exact off_refl | (repeat (first | exact off_mask | refine off_upd rfl ?_ | refine off_mask2 rfl ?_)))) (lupd_intro (lmask_intro (by first | exact offl_refl | (repeat (first | exact offl_mask | refine offl_upd rfl ?_ | refine offl_mask2 rfl ?_)))) rfl) hl8 ?_ ?_
            · exact ⟨by omega, by rw [hk2, drop_getD (k := p) (by omega)]; simp only [ckGo]; rw [if_neg (by omega)]⟩
            · omega
        · refine ow1 (op1_next_end 1 rfl rfl rfl hn9 ?_)
          refine ow1 (op1_l rfl (lo_extract (v := .bool _) rfl rfl) ?_)
          refine ow_nil ?_
          refine seqK_n ?_
          refine cw_seq ?_
          refine cw_cond_f rfl rfl ?_
          refine cw_exit ?_
          refine seqK_e ?_
          refine loopK_e ?_
          refine blkK_hit ?_
          refine seqK_n ?_
          refine cw_seq ?_
          refine cw_region ?_
          refine ow1 (op1_l rfl (lo_assign (v := .int _ _) rfl) ?_)
          refine ow_nil ?_
          refine seqK_n ?_
          refine cw_ret ?_
          refine fnK_r (res1 rfl (rv_t (v := .int _ _) rfl)) ((HLe.refl _).trans hl8) ?_
          refine congrArg (Value.int .i64) ?_
          have hsp : spareMt m = false := by assumption
          unfold methodE
          rw [if_neg (by omega), hsp, if_neg (by decide), hk2]
          rw [List.drop_of_length_le (by omega)]
          rfl

end Go.SW


set_option linter.unusedVariables false
set_option maxRecDepth 100000
set_option maxHeartbeats 4000000
namespace Go.SW
open Go.Proofs
theorem cb84 : Callable Tryd.prog 84 := callable_of Tryd.func84 (by kernel_rfl) (by kernel_rfl)
theorem fl50_0 : Fld Tryd.prog 50 0 0 := fun b o w => by kernel_rfl

theorem method_Frame (H : Hp) (m : Method) (m_head_a : Option Addr) (m_head_c : Nat) (m_head_h : SlH pairE 4 H (.slice m_head_a m.head.length m_head_c) m.head) (m_w : Method.wf m) (hML : GInt H 2) (hTells : GStrs H 0 tellsT) : Pr Tryd.prog 59 #[.agg (Method.cells m m_head_a m_head_c).toArray] H (.tuple #[.agg (Frame.cells (methodFrame m)).toArray, .int .i64 (methodE m)]) := by
  refine pr_cw Tryd.func59 rfl Tryd.ntmps59 rfl (fun N => ?_)
  have m_w' := m_w
  simp only [Method.wf] at m_w'
  obtain ⟨T0, fr0, hT0⟩ := id hTells
  have hkd0 := fun h => methodE_kind (m := m) h
  refine cw_seq ?_
  refine cw_region ?_
  refine ow1 (op1_box (cs := [_, _, _, _, _, _, _, _, _, _]) 0 rfl rfl (fun b1 => ?_))
  refine ow1 (op1_alloc 1 rfl zr35 (fun b2 => ?_))
  refine ow1 (op1_l rfl (lo_assign (v := .int _ _) rfl) ?_)
  refine ow_nil ?_
  refine seqK_n ?_
  refine cw_seq ?_
  refine cw_seq ?_
  refine cw_region ?_
  refine ow1 (op1_l rfl (lo_loadA (i := 0) (vs := [_, _, _, _, _, _, _, _, _, _]) rfl ag50 sz50 rfl rfl rfl) ?_)
  refine ow1 (op1_pr (method_Check _ m m_head_a m_head_c m_head_h m_w hML hTells) (en_f cb84 rfl) rfl ?_)
  have := methodE_r m
  refine ow1 (op1_l rfl (lo_assign (v := .int _ _) rfl) ?_)
  refine ow_nil ?_
  refine seqK_n ?_
  refine cw_seq ?_
  refine cw_region ?_
  refine ow1 (op1_l rfl (lo_move (v := .int _ _) rfl) ?_)
  refine ow1 (op1_l rfl (lo_neq rfl rfl) ?_)
  refine ow_nil ?_
  refine seqK_n ?_
  refine cw_cond rfl (fun h3 => ?_) (fun h3 => ?_)
  · have h4 := not_t h3
    have p5 := df h4
    refine cw_seq ?_
    refine cw_region ?_
    refine ow1 (op1_l rfl (lo_build (v := .agg #[_, _, _]) rfl (bd35)) ?_)
    refine ow1 (op1_l rfl (lo_move (v := .int _ _) rfl) ?_)
    refine ow1 (op1_storeAn (i := 1) (vs := [_, _, _]) [_, _, _] rfl rfl rfl sz35 rfl rfl rfl rfl ?_)
    refine ow1 (op1_l rfl (lo_assign (v := .int _ _) rfl) ?_)
    refine ow_nil ?_
    refine seqK_n ?_
    refine cw_ret ?_
    refine seqK_r ?_
    refine fnK_r (res2 rfl (rv_c (i := 1) (vs := [_, _, _]) rfl ag35 sz35 rfl rfl rfl) (rv_t (v := .int _ _) rfl)) (.refl _) ?_
    have hne : ¬ methodE m = 0 := by assumption
    have hf : methodFrame m = Frame.zero := if_neg hne
    rw [hf]
    rfl
  · have h6 := not_f h3
    have p7 := dt h6
    refine cw_skip ?_
    refine seqK_n ?_
    refine cw_seq ?_
    refine cw_region ?_
    refine ow1 (op1_alloc 2 rfl zr78 (fun b8 => ?_))
    refine ow_nil ?_
    refine seqK_n ?_
    refine cw_seq ?_
    refine cw_seq ?_
    refine cw_region ?_
    refine ow1 (op1_l rfl (lo_fieldAddr rfl fl50_1) ?_)
    refine ow1 (op1_l rfl (lo_load1 (i := 0) (v := .int _ _) rfl ag5 rfl rfl) ?_)
    refine ow1 (op1_l rfl (lo_gidx (m := (m.kind).toNat) rfl Tryd.underlying112 sz9 (by omega) (by have := hkd0 (by assumption); omega)) ?_)
    refine ow1 (op1_l rfl (lo_loadH rfl ag9 hT0 (strs_get (by show _ < 21; first | omega | (have := hkd0 (by assumption); omega)))) ?_)
    refine ow1 (op1_range 3 rfl rfl Tryd.underlying9 ?_)
    intro b9
    refine ow_nil ?_
    refine seqK_n ?_
    refine cw_block ?_
    refine cw_loop2 [7, 8, 9, 10, 22, 23, 24, 25, 26, 27, 28, 29, 30, 31, 32, 33, 34, 35, 36, 37, 38, 39, 40, 41, 42, 43, 44, 45, 46, 47, 48, 49, 50, 51, 52, 53, 54, 55, 56, 57, 58, 59, 60, 61, 62, 63, 64, 65, 66, 67, 68, 69, 70, 71, 72, 73, 74, 75, 76, 77, 78, 79, 80, 81] [2, 3] (fun (p : Nat) (o : Out) G => G) (fun (p : Nat) (o : Out) G => lupd (lupd (G) 2 (some (b8, bx 78 (Out.cells o)))) 3 (some (b9, itr (tellsOf m.kind) p))) (fun (p : Nat) (o : Out) H' => p ≤ (tellsOf m.kind).length ∧ mOutGo m ⟨[], 0⟩ (tellsOf m.kind) = mOutGo m o ((tellsOf m.kind).drop p) ∧ o.s.length ≤ 1000 * p) (fun (p : Nat) (o : Out) => (tellsOf m.kind).length - p) 0 (⟨[], 0⟩) (mask_intro (by first | exact off_refl | (repeat (first | exact off_mask | refine off_upd rfl ?_ | refine off_mask2 rfl ?_)))) (lupd_intro (lupd_intro (lmask_intro offl_refl) rfl) rfl) ?_ ?_
    · exact ⟨Nat.zero_le _, rfl, by simp⟩
    · intro p o J11 JL11 H11 hp10 hl11
      obtain ⟨hk1, hk2, hk3⟩ := hp10
      have hE : methodE m = 0 := by assumption
      have hkd := methodE_kind hE
      have htl := tells_len m.kind
      refine cw_seq ?_
      refine cw_region ?_
      rcases Nat.lt_or_ge p (tellsOf m.kind).length with hn12 | hn12
      · have := u8r ((tellsOf m.kind).getD p 0)
        have hone := methodE_at hE hn12
        have hol := oneE_len hone
        refine ow1 (op1_next_more 3 rfl rfl rfl hn12 (tells_at _ _ hn12) ?_)
        refine ow1 (op1_l rfl (lo_extract (v := .bool _) rfl rfl) ?_)
        refine ow_nil ?_
        refine seqK_n ?_
        refine cw_seq ?_
        refine cw_cond_t rfl rfl ?_
        refine cw_skip ?_
        refine seqK_n ?_
        refine cw_block ?_
        refine cw_seq ?_
        refine cw_region ?_
        refine ow1 (op1_l rfl (lo_extract (v := .int _ _) rfl rfl) ?_)
        refine ow1 (op1_l rfl (lo_assign (v := .int _ _) rfl) ?_)
        refine ow_nil ?_
        refine seqK_n ?_
        refine cw_seq ?_
        refine cw_region ?_
        refine ow1 (op1_l rfl (lo_move (v := .int _ _) rfl) ?_)
        refine ow_nil ?_
        refine seqK_n ?_
        refine cw_block ?_
        refine cw_seq ?_
        refine cw_region ?_
        refine ow1 (op1_l rfl (lo_eql rfl rfl) ?_)
        refine ow1 (op1_l rfl (lo_assign (v := .bool _) rfl) ?_)
        refine ow_nil ?_
        refine seqK_n ?_
        refine cw_cond rfl (fun h13 => ?_) (fun h13 => ?_)
        · have p14 := dt h13
          refine cw_region ?_
          refine ow1 (op1_l rfl (lo_loadA (i := 2) (vs := [_, _]) rfl ag78 sz78 rfl rfl rfl) ?_)
          refine ow1 (op1_l rfl (lo_fieldAddr rfl fl50_2) ?_)
          refine ow1 (op1_l rfl (lo_load1 (i := 0) (v := str _) rfl ag9 rfl rfl) ?_)
          refine ow1 (op1_pr (out_Text _ o m.name (by first | omega | (have := hrl (by assumption); omega) | (simp [outNum, outRaw, numB_len, numK] <;> omega) | (have := hrl (by assumption); simp [outNum, outRaw, numB_len, numK] <;> omega))) (en_f cb45 rfl) rfl ?_)
          have := outText_len o m.name
          refine ow1 (op1_storeAn (i := 2) (vs := [_, _]) [_, _] rfl rfl rfl sz78 rfl rfl rfl rfl ?_)
          refine ow_nil ?_
          refine blkK_n ?_
          refine blkK_n ?_
          refine next2 (p + 1) (outText o m.name) (mask_intro (by first | exact off_refl | (repeat (first | exact off_mask | refine off_upd rfl ?_ | refine off_mask2 rfl ?_)))) (lupd_intro (lupd_intro (lmask_intro (by first | exact offl_refl | (repeat (first | exact offl_mask | refine offl_upd rfl ?_ | refine offl_mask2 rfl ?_)))) rfl) rfl) hl11 ?_ ?_
          · have e : (outText o m.name) = mOut1 m o ((((tellsOf m.kind).getD p 0).toNat : Nat) : Int) := by
              unfold mOut1
              repeat (first | rw [if_pos (by omega)] | rw [if_neg (by omega)] | rw [if_pos (by assumption)] | rw [if_neg (by simp [*])])
            rw [e]
            have hlo := mOut1_len (o := o) hone
            refine ⟨by omega, ?_, by omega⟩
            rw [hk2, drop_getD (k := p) (by omega)]
            rfl
          · omega
        · have p15 := df h13
          refine cw_seq ?_
          refine cw_seq ?_
          refine cw_region ?_
          refine ow1 (op1_l rfl (lo_eql rfl rfl) ?_)
          refine ow1 (op1_l rfl (lo_assign (v := .bool _) rfl) ?_)
          refine ow_nil ?_
          refine seqK_n ?_
          refine cw_cond rfl (fun h16 => ?_) (fun h16 => ?_)
          · have p17 := dt h16
            refine cw_skip ?_
            refine seqK_n ?_
            refine cw_cond_t rfl h16 ?_
            refine cw_region ?_
            refine ow1 (op1_l rfl (lo_loadA (i := 2) (vs := [_, _]) rfl ag78 sz78 rfl rfl rfl) ?_)
            refine ow1 (op1_l rfl (lo_fieldAddr rfl fl50_3) ?_)
            refine ow1 (op1_l rfl (lo_load1 (i := 0) (v := str _) rfl ag9 rfl rfl) ?_)
            refine ow1 (op1_pr (out_Text _ o m.other (by first | omega | (have := hrl (by assumption); omega) | (simp [outNum, outRaw, numB_len, numK] <;> omega) | (have := hrl (by assumption); simp [outNum, outRaw, numB_len, numK] <;> omega))) (en_f cb45 rfl) rfl ?_)
            have := outText_len o m.other
            refine ow1 (op1_storeAn (i := 2) (vs := [_, _]) [_, _] rfl rfl rfl sz78 rfl rfl rfl rfl ?_)
            refine ow_nil ?_
            refine blkK_n ?_
            refine blkK_n ?_
            refine next2 (p + 1) (outText o m.other) (mask_intro (by first | exact off_refl | (repeat (first | exact off_mask | refine off_upd rfl ?_ | refine off_mask2 rfl ?_)))) (lupd_intro (lupd_intro (lmask_intro (by first | exact offl_refl | (repeat (first | exact offl_mask | refine offl_upd rfl ?_ | refine offl_mask2 rfl ?_)))) rfl) rfl) hl11 ?_ ?_
            · have e : (outText o m.other) = mOut1 m o ((((tellsOf m.kind).getD p 0).toNat : Nat) : Int) := by
                unfold mOut1
                repeat (first | rw [if_pos (by omega)] | rw [if_neg (by omega)] | rw [if_pos (by assumption)] | rw [if_neg (by simp [*])])
              rw [e]
              have hlo := mOut1_len (o := o) hone
              refine ⟨by omega, ?_, by omega⟩
              rw [hk2, drop_getD (k := p) (by omega)]
              rfl
            · omega
          · have p18 := df h16
            refine cw_region ?_
            refine ow1 (op1_l rfl (lo_eql rfl rfl) ?_)
            refine ow1 (op1_l rfl (lo_assign (v := .bool _) rfl) ?_)
            refine ow_nil ?_
            refine seqK_n ?_
            refine cw_cond rfl (fun h19 => ?_) (fun h19 => ?_)
            · have p20 := dt h19
              refine cw_region ?_
              refine ow1 (op1_l rfl (lo_loadA (i := 2) (vs := [_, _]) rfl ag78 sz78 rfl rfl rfl) ?_)
              refine ow1 (op1_l rfl (lo_fieldAddr rfl fl50_3) ?_)
              refine ow1 (op1_l rfl (lo_load1 (i := 0) (v := str _) rfl ag9 rfl rfl) ?_)
              refine ow1 (op1_pr (out_Text _ o m.other (by first | omega | (have := hrl (by assumption); omega) | (simp [outNum, outRaw, numB_len, numK] <;> omega) | (have := hrl (by assumption); simp [outNum, outRaw, numB_len, numK] <;> omega))) (en_f cb45 rfl) rfl ?_)
              have := outText_len o m.other
              refine ow1 (op1_storeAn (i := 2) (vs := [_, _]) [_, _] rfl rfl rfl sz78 rfl rfl rfl rfl ?_)
              refine ow_nil ?_
              refine blkK_n ?_
              refine blkK_n ?_
              refine next2 (p + 1) (outText o m.other) (mask_intro (by first | exact off_refl | (repeat (first | exact off_mask | refine off_upd rfl ?_ | refine off_mask2 rfl ?_)))) (lupd_intro (lupd_intro (lmask_intro (by first | exact offl_refl | (repeat (first | exact offl_mask | refine offl_upd rfl ?_ | refine offl_mask2 rfl ?_)))) rfl) rfl) hl11 ?_ ?_
              · have e : (outText o m.other) = mOut1 m o ((((tellsOf m.kind).getD p 0).toNat : Nat) : Int) := by
                  unfold mOut1
                  repeat (first | rw [if_pos (by omega)] | rw [if_neg (by omega)] | rw [if_pos (by assumption)] | rw [if_neg (by simp [*])])
                rw [e]
                have hlo := mOut1_len (o := o) hone
                refine ⟨by omega, ?_, by omega⟩
                rw [hk2, drop_getD (k := p) (by omega)]
                rfl
              · omega
            · have p21 := df h19
              refine cw_seq ?_
              refine cw_seq ?_
              refine cw_region ?_
              refine ow1 (op1_l rfl (lo_eql rfl rfl) ?_)
              refine ow1 (op1_l rfl (lo_assign (v := .bool _) rfl) ?_)
              refine ow_nil ?_
              refine seqK_n ?_
              refine cw_cond rfl (fun h22 => ?_) (fun h22 => ?_)
              · have p23 := dt h22
                refine cw_skip ?_
                refine seqK_n ?_
                refine cw_cond_t rfl h22 ?_
                refine cw_region ?_
                refine ow1 (op1_l rfl (lo_loadA (i := 2) (vs := [_, _]) rfl ag78 sz78 rfl rfl rfl) ?_)
                refine ow1 (op1_l rfl (lo_fieldAddr rfl fl50_4) ?_)
                refine ow1 (op1_l rfl (lo_load1 (i := 0) (v := str _) rfl ag9 rfl rfl) ?_)
                refine ow1 (op1_pr (out_Text _ o m.key (by first | omega | (have := hrl (by assumption); omega) | (simp [outNum, outRaw, numB_len, numK] <;> omega) | (have := hrl (by assumption); simp [outNum, outRaw, numB_len, numK] <;> omega))) (en_f cb45 rfl) rfl ?_)
                have := outText_len o m.key
                refine ow1 (op1_storeAn (i := 2) (vs := [_, _]) [_, _] rfl rfl rfl sz78 rfl rfl rfl rfl ?_)
                refine ow_nil ?_
                refine blkK_n ?_
                refine blkK_n ?_
                refine next2 (p + 1) (outText o m.key) (mask_intro (by first | exact off_refl | (repeat (first | exact off_mask | refine off_upd rfl ?_ | refine off_mask2 rfl ?_)))) (lupd_intro (lupd_intro (lmask_intro (by first | exact offl_refl | (repeat (first | exact offl_mask | refine offl_upd rfl ?_ | refine offl_mask2 rfl ?_)))) rfl) rfl) hl11 ?_ ?_
                · have e : (outText o m.key) = mOut1 m o ((((tellsOf m.kind).getD p 0).toNat : Nat) : Int) := by
                    unfold mOut1
                    repeat (first | rw [if_pos (by omega)] | rw [if_neg (by omega)] | rw [if_pos (by assumption)] | rw [if_neg (by simp [*])])
                  rw [e]
                  have hlo := mOut1_len (o := o) hone
                  refine ⟨by omega, ?_, by omega⟩
                  rw [hk2, drop_getD (k := p) (by omega)]
                  rfl
                · omega
              · have p24 := df h22
                refine cw_region ?_
                refine ow1 (op1_l rfl (lo_eql rfl rfl) ?_)
                refine ow1 (op1_l rfl (lo_assign (v := .bool _) rfl) ?_)
                refine ow_nil ?_
                refine seqK_n ?_
                refine cw_cond rfl (fun h25 => ?_) (fun h25 => ?_)
                · have p26 := dt h25
                  refine cw_region ?_
                  refine ow1 (op1_l rfl (lo_loadA (i := 2) (vs := [_, _]) rfl ag78 sz78 rfl rfl rfl) ?_)
                  refine ow1 (op1_l rfl (lo_fieldAddr rfl fl50_4) ?_)
                  refine ow1 (op1_l rfl (lo_load1 (i := 0) (v := str _) rfl ag9 rfl rfl) ?_)
                  refine ow1 (op1_pr (out_Text _ o m.key (by first | omega | (have := hrl (by assumption); omega) | (simp [outNum, outRaw, numB_len, numK] <;> omega) | (have := hrl (by assumption); simp [outNum, outRaw, numB_len, numK] <;> omega))) (en_f cb45 rfl) rfl ?_)
                  have := outText_len o m.key
                  refine ow1 (op1_storeAn (i := 2) (vs := [_, _]) [_, _] rfl rfl rfl sz78 rfl rfl rfl rfl ?_)
                  refine ow_nil ?_
                  refine blkK_n ?_
                  refine blkK_n ?_
                  refine next2 (p + 1) (outText o m.key) (mask_intro (by first | exact off_refl | (repeat (first | exact off_mask | refine off_upd rfl ?_ | refine off_mask2 rfl ?_)))) (lupd_intro (lupd_intro (lmask_intro (by first | exact offl_refl | (repeat (first | exact offl_mask | refine offl_upd rfl ?_ | refine offl_mask2 rfl ?_)))) rfl) rfl) hl11 ?_ ?_
                  · have e : (outText o m.key) = mOut1 m o ((((tellsOf m.kind).getD p 0).toNat : Nat) : Int) := by
                      unfold mOut1
                      repeat (first | rw [if_pos (by omega)] | rw [if_neg (by omega)] | rw [if_pos (by assumption)] | rw [if_neg (by simp [*])])
                    rw [e]
                    have hlo := mOut1_len (o := o) hone
                    refine ⟨by omega, ?_, by omega⟩
                    rw [hk2, drop_getD (k := p) (by omega)]
                    rfl
                  · omega
                · have p27 := df h25
                  refine cw_seq ?_
                  refine cw_region ?_
                  refine ow1 (op1_l rfl (lo_eql rfl rfl) ?_)
                  refine ow1 (op1_l rfl (lo_assign (v := .bool _) rfl) ?_)
                  refine ow_nil ?_
                  refine seqK_n ?_
                  refine cw_cond rfl (fun h28 => ?_) (fun h28 => ?_)
                  · have p29 := dt h28
                    refine cw_seq ?_
                    refine cw_region ?_
                    refine ow1 (op1_l rfl (lo_fieldAddr rfl fl50_5) ?_)
                    refine ow1 (op1_l rfl (lo_load1 (i := 0) (v := .slice _ _ _) rfl ag23 rfl rfl) ?_)
                    refine ow1 (op1_pr (head_Bytes _ m_head_a m.head.length m_head_c m.head (m_head_h.mono ((HLe.refl _).trans hl11) (fun _ _ h => h)) (by first | omega | (simp <;> omega))) (en_f cb47 rfl) rfl ?_)
                    have := headBytes_len m.head
                    refine ow1 (op1_l rfl (lo_move (v := .tuple #[_, _]) rfl) ?_)
                    refine ow1 (op1_l rfl (lo_extract (v := str _) rfl rfl) ?_)
                    refine ow1 (op1_l rfl (lo_extract (v := .int _ _) rfl rfl) ?_)
                    refine ow1 (op1_l rfl (lo_assign (v := str _) rfl) ?_)
                    refine ow1 (op1_l rfl (lo_assign (v := .int _ _) rfl) ?_)
                    refine ow_nil ?_
                    refine seqK_n ?_
                    refine cw_region ?_
                    refine ow1 (op1_l rfl (lo_loadA (i := 2) (vs := [_, _]) rfl ag78 sz78 rfl rfl rfl) ?_)
                    refine ow1 (op1_l rfl (lo_move (v := str _) rfl) ?_)
                    refine ow1 (op1_pr (out_Raw _ o (headBytes m.head) (by first | omega | (have := hrl (by assumption); omega) | (simp [outNum, outRaw, numB_len, numK] <;> omega) | (have := hrl (by assumption); simp [outNum, outRaw, numB_len, numK] <;> omega))) (en_f cb48 rfl) rfl ?_)
                    have := outRaw_len o (headBytes m.head)
                    refine ow1 (op1_storeAn (i := 2) (vs := [_, _]) [_, _] rfl rfl rfl sz78 rfl rfl rfl rfl ?_)
                    refine ow_nil ?_
                    refine blkK_n ?_
                    refine blkK_n ?_
                    refine next2 (p + 1) (outRaw o (headBytes m.head)) (mask_intro (by first | exact off_refl | (repeat (first | exact off_mask | refine off_upd rfl ?_ | refine off_mask2 rfl ?_)))) (lupd_intro (lupd_intro (lmask_intro (by first | exact offl_refl | (repeat (first | exact offl_mask | refine offl_upd rfl ?_ | refine offl_mask2 rfl ?_)))) rfl) rfl) hl11 ?_ ?_
                    · have e : (outRaw o (headBytes m.head)) = mOut1 m o ((((tellsOf m.kind).getD p 0).toNat : Nat) : Int) := by
                        unfold mOut1
                        repeat (first | rw [if_pos (by omega)] | rw [if_neg (by omega)] | rw [if_pos (by assumption)] | rw [if_neg (by simp [*])])
                      rw [e]
                      have hlo := mOut1_len (o := o) hone
                      refine ⟨by omega, ?_, by omega⟩
                      rw [hk2, drop_getD (k := p) (by omega)]
                      rfl
                    · omega
                  · have p30 := df h28
                    refine cw_seq ?_
                    refine cw_region ?_
                    refine ow1 (op1_l rfl (lo_eql rfl rfl) ?_)
                    refine ow1 (op1_l rfl (lo_assign (v := .bool _) rfl) ?_)
                    refine ow_nil ?_
                    refine seqK_n ?_
                    refine cw_cond rfl (fun h31 => ?_) (fun h31 => ?_)
                    · have p32 := dt h31
                      refine cw_region ?_
                      refine ow1 (op1_l rfl (lo_loadA (i := 2) (vs := [_, _]) rfl ag78 sz78 rfl rfl rfl) ?_)
                      refine ow1 (op1_l rfl (lo_fieldAddr rfl fl50_6) ?_)
                      refine ow1 (op1_l rfl (lo_load1 (i := 0) (v := str _) rfl ag9 rfl rfl) ?_)
                      refine ow1 (op1_pr (out_Text _ o m.body (by first | omega | (have := hrl (by assumption); omega) | (simp [outNum, outRaw, numB_len, numK] <;> omega) | (have := hrl (by assumption); simp [outNum, outRaw, numB_len, numK] <;> omega))) (en_f cb45 rfl) rfl ?_)
                      have := outText_len o m.body
                      refine ow1 (op1_storeAn (i := 2) (vs := [_, _]) [_, _] rfl rfl rfl sz78 rfl rfl rfl rfl ?_)
                      refine ow_nil ?_
                      refine blkK_n ?_
                      refine blkK_n ?_
                      refine next2 (p + 1) (outText o m.body) (mask_intro (by first | exact off_refl | (repeat (first | exact off_mask | refine off_upd rfl ?_ | refine off_mask2 rfl ?_)))) (lupd_intro (lupd_intro (lmask_intro (by first | exact offl_refl | (repeat (first | exact offl_mask | refine offl_upd rfl ?_ | refine offl_mask2 rfl ?_)))) rfl) rfl) hl11 ?_ ?_
                      · have e : (outText o m.body) = mOut1 m o ((((tellsOf m.kind).getD p 0).toNat : Nat) : Int) := by
                          unfold mOut1
                          repeat (first | rw [if_pos (by omega)] | rw [if_neg (by omega)] | rw [if_pos (by assumption)] | rw [if_neg (by simp [*])])
                        rw [e]
                        have hlo := mOut1_len (o := o) hone
                        refine ⟨by omega, ?_, by omega⟩
                        rw [hk2, drop_getD (k := p) (by omega)]
                        rfl
                      · omega
                    · have p33 := df h31
                      refine cw_seq ?_
                      refine cw_region ?_
                      refine ow1 (op1_l rfl (lo_eql rfl rfl) ?_)
                      refine ow1 (op1_l rfl (lo_assign (v := .bool _) rfl) ?_)
                      refine ow_nil ?_
                      refine seqK_n ?_
                      refine cw_cond rfl (fun h34 => ?_) (fun h34 => ?_)
                      · have p35 := dt h34
                        refine cw_region ?_
                        refine ow1 (op1_l rfl (lo_loadA (i := 2) (vs := [_, _]) rfl ag78 sz78 rfl rfl rfl) ?_)
                        refine ow1 (op1_l rfl (lo_fieldAddr rfl fl50_7) ?_)
                        refine ow1 (op1_l rfl (lo_load1 (i := 0) (v := .int _ _) rfl ag22 rfl rfl) ?_)
                        refine ow1 (op1_pr (out_Num _ o m.n (by omega) 8 (by omega) (by first | omega | (have := hrl (by assumption); omega) | (simp [outNum, outRaw, numB_len, numK] <;> omega) | (have := hrl (by assumption); simp [outNum, outRaw, numB_len, numK] <;> omega))) (en_f cb46 rfl) rfl ?_)
                        have := outNum_len o m.n 8
                        refine ow1 (op1_storeAn (i := 2) (vs := [_, _]) [_, _] rfl rfl rfl sz78 rfl rfl rfl rfl ?_)
                        refine ow_nil ?_
                        refine blkK_n ?_
                        refine blkK_n ?_
                        refine next2 (p + 1) (outNum o m.n 8) (mask_intro (by first | exact off_refl | (repeat (first | exact off_mask | refine off_upd rfl ?_ | refine off_mask2 rfl ?_)))) (lupd_intro (lupd_intro (lmask_intro (by first | exact offl_refl | (repeat (first | exact offl_mask | refine offl_upd rfl ?_ | refine offl_mask2 rfl ?_)))) rfl) rfl) hl11 ?_ ?_
                        · have e : (outNum o m.n 8) = mOut1 m o ((((tellsOf m.kind).getD p 0).toNat : Nat) : Int) := by
                            unfold mOut1
                            repeat (first | rw [if_pos (by omega)] | rw [if_neg (by omega)] | rw [if_pos (by assumption)] | rw [if_neg (by simp [*])])
                          rw [e]
                          have hlo := mOut1_len (o := o) hone
                          refine ⟨by omega, ?_, by omega⟩
                          rw [hk2, drop_getD (k := p) (by omega)]
                          rfl
                        · omega
                      · have p36 := df h34
                        refine cw_seq ?_
                        refine cw_region ?_
                        refine ow1 (op1_l rfl (lo_eql rfl rfl) ?_)
                        refine ow1 (op1_l rfl (lo_assign (v := .bool _) rfl) ?_)
                        refine ow_nil ?_
                        refine seqK_n ?_
                        refine cw_cond rfl (fun h37 => ?_) (fun h37 => ?_)
                        · have p38 := dt h37
                          refine cw_region ?_
                          refine ow1 (op1_l rfl (lo_loadA (i := 2) (vs := [_, _]) rfl ag78 sz78 rfl rfl rfl) ?_)
                          refine ow1 (op1_l rfl (lo_fieldAddr rfl fl50_8) ?_)
                          refine ow1 (op1_l rfl (lo_load1 (i := 0) (v := .int _ _) rfl ag22 rfl rfl) ?_)
                          refine ow1 (op1_pr (out_Num _ o m.m (by omega) 8 (by omega) (by first | omega | (have := hrl (by assumption); omega) | (simp [outNum, outRaw, numB_len, numK] <;> omega) | (have := hrl (by assumption); simp [outNum, outRaw, numB_len, numK] <;> omega))) (en_f cb46 rfl) rfl ?_)
                          have := outNum_len o m.m 8
                          refine ow1 (op1_storeAn (i := 2) (vs := [_, _]) [_, _] rfl rfl rfl sz78 rfl rfl rfl rfl ?_)
                          refine ow_nil ?_
                          refine blkK_n ?_
                          refine blkK_n ?_
                          refine next2 (p + 1) (outNum o m.m 8) (mask_intro (by first | exact off_refl | (repeat (first | exact off_mask | refine off_upd rfl ?_ | refine off_mask2 rfl ?_)))) (lupd_intro (lupd_intro (lmask_intro (by first | exact offl_refl | (repeat (first | exact offl_mask | refine offl_upd rfl ?_ | refine offl_mask2 rfl ?_)))) rfl) rfl) hl11 ?_ ?_
                          · have e : (outNum o m.m 8) = mOut1 m o ((((tellsOf m.kind).getD p 0).toNat : Nat) : Int) := by
                              unfold mOut1
                              repeat (first | rw [if_pos (by omega)] | rw [if_neg (by omega)] | rw [if_pos (by assumption)] | rw [if_neg (by simp [*])])
                            rw [e]
                            have hlo := mOut1_len (o := o) hone
                            refine ⟨by omega, ?_, by omega⟩
                            rw [hk2, drop_getD (k := p) (by omega)]
                            rfl
                          · omega
                        · have p39 := df h37
                          refine cw_seq ?_
                          refine cw_region ?_
                          refine ow1 (op1_l rfl (lo_eql rfl rfl) ?_)
                          refine ow1 (op1_l rfl (lo_assign (v := .bool _) rfl) ?_)
                          refine ow_nil ?_
                          refine seqK_n ?_
                          refine cw_cond rfl (fun h40 => ?_) (fun h40 => ?_)
                          · have p41 := dt h40
                            refine cw_seq ?_
                            refine cw_region ?_
                            refine ow1 (op1_l rfl (lo_assign (v := .int _ _) rfl) ?_)
                            refine ow_nil ?_
                            refine seqK_n ?_
                            refine cw_seq ?_
                            refine cw_seq ?_
                            refine cw_region ?_
                            refine ow1 (op1_l rfl (lo_fieldAddr rfl fl50_9) ?_)
                            refine ow1 (op1_l rfl (lo_load1 (i := 0) (v := .bool _) rfl ag4 rfl rfl) ?_)
                            refine ow_nil ?_
                            refine seqK_n ?_
                            refine cw_cond rfl (fun h42 => ?_) (fun h42 => ?_)
                            · refine cw_region ?_
                              refine ow1 (op1_l rfl (lo_assign (v := .int _ _) rfl) ?_)
                              refine ow_nil ?_
                              refine seqK_n ?_
                              refine cw_region ?_
                              refine ow1 (op1_l rfl (lo_loadA (i := 2) (vs := [_, _]) rfl ag78 sz78 rfl rfl rfl) ?_)
                              refine ow1 (op1_l rfl (lo_move (v := .int _ _) rfl) ?_)
                              refine ow1 (op1_pr (out_Num _ o 1 (by omega) 1 (by omega) (by first | omega | (have := hrl (by assumption); omega) | (simp [outNum, outRaw, numB_len, numK] <;> omega) | (have := hrl (by assumption); simp [outNum, outRaw, numB_len, numK] <;> omega))) (en_f cb46 rfl) rfl ?_)
                              have := outNum_len o 1 1
                              refine ow1 (op1_storeAn (i := 2) (vs := [_, _]) [_, _] rfl rfl rfl sz78 rfl rfl rfl rfl ?_)
                              refine ow_nil ?_
                              refine blkK_n ?_
                              refine blkK_n ?_
                              refine next2 (p + 1) (outNum o 1 1) (mask_intro (by first | exact off_refl | (repeat (first | exact off_mask | refine off_upd rfl ?_ | refine off_mask2 rfl ?_)))) (lupd_intro (lupd_intro (lmask_intro (by first | exact offl_refl | (repeat (first | exact offl_mask | refine offl_upd rfl ?_ | refine offl_mask2 rfl ?_)))) rfl) rfl) hl11 ?_ ?_
                              · have e : (outNum o 1 1) = mOut1 m o ((((tellsOf m.kind).getD p 0).toNat : Nat) : Int) := by
                                  unfold mOut1
                                  repeat (first | rw [if_pos (by omega)] | rw [if_neg (by omega)] | rw [if_pos (by assumption)] | rw [if_neg (by simp [*])])
                                rw [e]
                                have hlo := mOut1_len (o := o) hone
                                refine ⟨by omega, ?_, by omega⟩
                                rw [hk2, drop_getD (k := p) (by omega)]
                                rfl
                              · omega
                            · refine cw_skip ?_
                              refine seqK_n ?_
                              refine cw_region ?_
                              refine ow1 (op1_l rfl (lo_loadA (i := 2) (vs := [_, _]) rfl ag78 sz78 rfl rfl rfl) ?_)
                              refine ow1 (op1_l rfl (lo_move (v := .int _ _) rfl) ?_)
                              refine ow1 (op1_pr (out_Num _ o 0 (by omega) 1 (by omega) (by first | omega | (have := hrl (by assumption); omega) | (simp [outNum, outRaw, numB_len, numK] <;> omega) | (have := hrl (by assumption); simp [outNum, outRaw, numB_len, numK] <;> omega))) (en_f cb46 rfl) rfl ?_)
                              have := outNum_len o 0 1
                              refine ow1 (op1_storeAn (i := 2) (vs := [_, _]) [_, _] rfl rfl rfl sz78 rfl rfl rfl rfl ?_)
                              refine ow_nil ?_
                              refine blkK_n ?_
                              refine blkK_n ?_
                              refine next2 (p + 1) (outNum o 0 1) (mask_intro (by first | exact off_refl | (repeat (first | exact off_mask | refine off_upd rfl ?_ | refine off_mask2 rfl ?_)))) (lupd_intro (lupd_intro (lmask_intro (by first | exact offl_refl | (repeat (first | exact offl_mask | refine offl_upd rfl ?_ | refine offl_mask2 rfl ?_)))) rfl) rfl) hl11 ?_ ?_
                              · have e : (outNum o 0 1) = mOut1 m o ((((tellsOf m.kind).getD p 0).toNat : Nat) : Int) := by
                                  unfold mOut1
                                  repeat (first | rw [if_pos (by omega)] | rw [if_neg (by omega)] | rw [if_pos (by assumption)] | rw [if_neg (by simp [*])])
                                rw [e]
                                have hlo := mOut1_len (o := o) hone
                                refine ⟨by omega, ?_, by omega⟩
                                rw [hk2, drop_getD (k := p) (by omega)]
                                rfl
                              · omega
                          · have p43 := df h40
                            refine cw_skip ?_
                            refine blkK_n ?_
                            refine blkK_n ?_
                            refine next2 (p + 1) o (mask_intro (by first | exact off_refl | (repeat (first | exact off_mask | refine off_upd rfl ?_ | refine off_mask2 rfl ?_)))) (lupd_intro (lupd_intro (lmask_intro (by first | exact offl_refl | (repeat (first | exact offl_mask | refine offl_upd rfl ?_ | refine offl_mask2 rfl ?_)))) rfl) rfl) hl11 ?_ ?_
                            · have e : o = mOut1 m o ((((tellsOf m.kind).getD p 0).toNat : Nat) : Int) := by
                                unfold mOut1
                                repeat (first | rw [if_pos (by omega)] | rw [if_neg (by omega)] | rw [if_pos (by assumption)] | rw [if_neg (by simp [*])])
                              rw [e]
                              have hlo := mOut1_len (o := o) hone
                              refine ⟨by omega, ?_, by omega⟩
                              rw [hk2, drop_getD (k := p) (by omega)]
                              rfl
                            · omega
      · refine ow1 (op1_next_end 3 rfl rfl rfl hn12 ?_)
        refine ow1 (op1_l rfl (lo_extract (v := .bool _) rfl rfl) ?_)
        refine ow_nil ?_
        refine seqK_n ?_
        refine cw_seq ?_
        refine cw_cond_f rfl rfl ?_
        refine cw_exit ?_
        refine seqK_e ?_
        refine loopK_e ?_
        refine blkK_hit ?_
        refine seqK_n ?_
        refine cw_seq ?_
        refine cw_anyX 1 mixd ?_
        refine vw_q 0 rfl (by kernel_rfl) (by repeat (first | exact lle_l0 | exact LLe.refl _ | exact lle_none | refine lle_up ?_ rfl)) (fun _ _ hh hl => lo_fieldAddr rfl fl50_0) ?_
        refine vw_q 1 rfl (by kernel_rfl) (by repeat (first | exact lle_l0 | exact LLe.refl _ | exact lle_none | refine lle_up ?_ rfl)) (fun _ _ hh hl => lo_load1 (i := 0) (v := .int _ _) rfl ag5 (hl _ _ rfl) rfl) ?_
        refine vw_q 2 rfl (by kernel_rfl) (by repeat (first | exact lle_l0 | exact LLe.refl _ | exact lle_none | refine lle_up ?_ rfl)) (fun _ _ hh hl => lo_fieldAddr rfl fl50_1) ?_
        refine vw_q 3 rfl (by kernel_rfl) (by repeat (first | exact lle_l0 | exact LLe.refl _ | exact lle_none | refine lle_up ?_ rfl)) (fun _ _ hh hl => lo_load1 (i := 0) (v := .int _ _) rfl ag5 (hl _ _ rfl) rfl) ?_
        refine vw_q 4 rfl (by kernel_rfl) (by repeat (first | exact lle_l0 | exact LLe.refl _ | exact lle_none | refine lle_up ?_ rfl)) (fun _ _ hh hl => lo_loadA (i := 2) (vs := [_, _]) rfl ag78 sz78 (hl _ _ rfl) rfl rfl) ?_
        refine vw_qc 5 rfl (by kernel_rfl) (by repeat (first | exact lle_l0 | exact LLe.refl _ | exact lle_none | refine lle_up ?_ rfl)) (out_String _ o) (en_f cb49 rfl) ?_
        refine vw_q 6 rfl (by kernel_rfl) (by repeat (first | exact lle_l0 | exact LLe.refl _ | exact lle_none | refine lle_up ?_ rfl)) (fun _ _ hh hl => lo_build (v := .agg #[_, _, _]) rfl (bd35_0u8_1u8_2s _ _ _)) ?_
        refine vw_t 7 rfl (by kernel_rfl) (by kernel_rfl) (op1_storeAn (i := 1) (vs := [_, _, _]) [_, _, _] rfl rfl rfl sz35 rfl rfl rfl rfl ?_)
        refine vw_q 8 rfl (by kernel_rfl) (by repeat (first | exact lle_l0 | exact LLe.refl _ | exact lle_none | refine lle_up ?_ rfl)) (fun _ _ hh hl => lo_assign (v := .int _ _) rfl) ?_
        refine vw_done (by kernel_rfl) ?_
        refine seqK_n ?_
        refine cw_ret ?_
        refine fnK_r (res2 rfl (rv_c (i := 1) (vs := [_, _, _]) rfl ag35 sz35 rfl rfl rfl) (rv_t (v := .int _ _) rfl)) ((HLe.refl _).trans hl11) ?_
        rw [List.drop_of_length_le (by omega)] at hk2
        have hf : methodFrame m = ⟨m.channel, m.kind, o.s⟩ := by
          unfold methodFrame
          rw [if_pos hE, hk2]
          rfl
        rw [hf, hE]
        rfl

end Go.SW


set_option linter.unusedVariables false
set_option maxRecDepth 100000
set_option maxHeartbeats 4000000
namespace Go.SW
open Go.Proofs
theorem ag53 : Ag Tryd.prog 53 true := fun w => by kernel_rfl
theorem cb118 : Callable Tryd.prog 118 := callable_of Tryd.func118 (by kernel_rfl) (by kernel_rfl)
theorem fl53_0 : Fld Tryd.prog 53 0 0 := fun b o w => by kernel_rfl
theorem fl53_1 : Fld Tryd.prog 53 1 1 := fun b o w => by kernel_rfl
theorem fl53_2 : Fld Tryd.prog 53 2 2 := fun b o w => by kernel_rfl
theorem fl53_3 : Fld Tryd.prog 53 3 3 := fun b o w => by kernel_rfl
theorem sz53 : Sz Tryd.prog 53 4 := fun w => by kernel_rfl

theorem rule_Check (H : Hp) (r : Rule) (r_want_a : Option Addr) (r_want_c : Nat) (r_want_h : SlH pairE 4 H (.slice r_want_a r.want.length r_want_c) r.want) (r_w : Rule.wf r) (hML : GInt H 2) : Pr Tryd.prog 102 #[.agg (Rule.cells r r_want_a r_want_c).toArray] H (.int .i64 (ruleE r)) := by
  refine pr_cw Tryd.func102 rfl Tryd.ntmps102 rfl (fun N => ?_)
  have r_w' := r_w
  simp only [Rule.wf] at r_w'
  refine cw_seq ?_
  refine cw_region ?_
  refine ow1 (op1_box (cs := [_, _, _, _]) 0 rfl rfl (fun b1 => ?_))
  refine ow1 (op1_l rfl (lo_assign (v := .int _ _) rfl) ?_)
  refine ow_nil ?_
  refine seqK_n ?_
  refine cw_seq ?_
  refine cw_region ?_
  refine ow1 (op1_l rfl (lo_assign (v := .int _ _) rfl) ?_)
  refine ow_nil ?_
  refine seqK_n ?_
  refine cw_seq ?_
  refine cw_block ?_
  refine cw_seq ?_
  refine cw_region ?_
  refine ow1 (op1_l rfl (lo_fieldAddr rfl fl53_0) ?_)
  refine ow1 (op1_l rfl (lo_load1 (i := 0) (v := .int _ _) rfl ag5 rfl rfl) ?_)
  refine ow1 (op1_l rfl (lo_gtr rfl rfl) ?_)
  refine ow1 (op1_l rfl (lo_assign (v := .bool _) rfl) ?_)
  refine ow_nil ?_
  refine seqK_n ?_
  refine cw_cond rfl (fun h2 => ?_) (fun h2 => ?_)
  · have p3 := dt h2
    refine cw_seq ?_
    refine cw_region ?_
    refine ow1 (op1_l rfl (lo_assign (v := .int _ _) rfl) ?_)
    refine ow_nil ?_
    refine seqK_n ?_
    refine cw_ret ?_
    refine blkK_r ?_
    refine seqK_r ?_
    refine fnK_r (res1 rfl (rv_t (v := .int _ _) rfl)) (.refl _) ?_
    refine congrArg (Value.int .i64) ?_
    unfold ruleE
    repeat (first | rw [if_pos (by omega)] | rw [if_neg (by omega)])
  · have p4 := df h2
    refine cw_seq ?_
    refine cw_region ?_
    refine ow1 (op1_l rfl (lo_fieldAddr rfl fl53_0) ?_)
    refine ow1 (op1_l rfl (lo_load1 (i := 0) (v := .int _ _) rfl ag5 rfl rfl) ?_)
    refine ow1 (op1_l rfl (lo_eql rfl rfl) ?_)
    refine ow1 (op1_l rfl (lo_assign (v := .bool _) rfl) ?_)
    refine ow_nil ?_
    refine seqK_n ?_
    refine cw_cond rfl (fun h5 => ?_) (fun h5 => ?_)
    · have p6 := dt h5
      refine cw_region ?_
      refine ow1 (op1_l rfl (lo_fieldAddr rfl fl53_1) ?_)
      refine ow1 (op1_l rfl (lo_load1 (i := 0) (v := str _) rfl ag9 rfl rfl) ?_)
      refine ow1 (op1_pr (words_Key _ r.key hML) (en_f cb83 rfl) rfl ?_)
      refine ow1 (op1_l rfl (lo_assign (v := .int _ _) rfl) ?_)
      refine ow_nil ?_
      refine blkK_n ?_
      refine seqK_n ?_
      refine cw_seq ?_
      refine cw_seq ?_
      refine cw_region ?_
      refine ow1 (op1_l rfl (lo_move (v := .int _ _) rfl) ?_)
      refine ow1 (op1_l rfl (lo_neq rfl rfl) ?_)
      refine ow_nil ?_
      refine seqK_n ?_
      refine cw_cond rfl (fun h7 => ?_) (fun h7 => ?_)
      · have h8 := not_t h7
        have p9 := df h8
        refine cw_seq ?_
        refine cw_region ?_
        refine ow1 (op1_l rfl (lo_move (v := .int _ _) rfl) ?_)
        refine ow1 (op1_l rfl (lo_assign (v := .int _ _) rfl) ?_)
        refine ow_nil ?_
        refine seqK_n ?_
        refine cw_ret ?_
        refine seqK_r ?_
        refine fnK_r (res1 rfl (rv_t (v := .int _ _) rfl)) (.refl _) ?_
        refine congrArg (Value.int .i64) ?_
        unfold ruleE
        repeat (first | rw [if_pos (by omega)] | rw [if_neg (by omega)])
      · have h10 := not_f h7
        have p11 := dt h10
        refine cw_skip ?_
        refine seqK_n ?_
        refine cw_seq ?_
        refine cw_region ?_
        refine ow1 (op1_l rfl (lo_fieldAddr rfl fl53_2) ?_)
        refine ow1 (op1_l rfl (lo_load1 (i := 0) (v := .slice _ _ _) rfl ag23 rfl rfl) ?_)
        refine ow1 (op1_pr (head_Check _ r_want_a r.want.length r_want_c r.want r_want_h (by first | omega | (simp <;> omega))) (en_f cb78 rfl) rfl ?_)
        refine ow1 (op1_l rfl (lo_assign (v := .int _ _) rfl) ?_)
        refine ow_nil ?_
        refine seqK_n ?_
        refine cw_ret ?_
        refine fnK_r (res1 rfl (rv_t (v := .int _ _) rfl)) (.refl _) ?_
        refine congrArg (Value.int .i64) ?_
        unfold ruleE
        repeat (first | rw [if_pos (by omega)] | rw [if_neg (by omega)])
    · have p12 := df h5
      refine cw_region ?_
      refine ow1 (op1_l rfl (lo_fieldAddr rfl fl53_1) ?_)
      refine ow1 (op1_l rfl (lo_load1 (i := 0) (v := str _) rfl ag9 rfl rfl) ?_)
      refine ow1 (op1_pr (words_Pattern _ r.key hML) (en_f cb115 rfl) rfl ?_)
      refine ow1 (op1_l rfl (lo_assign (v := .int _ _) rfl) ?_)
      refine ow_nil ?_
      refine blkK_n ?_
      refine seqK_n ?_
      refine cw_seq ?_
      refine cw_seq ?_
      refine cw_region ?_
      refine ow1 (op1_l rfl (lo_move (v := .int _ _) rfl) ?_)
      refine ow1 (op1_l rfl (lo_neq rfl rfl) ?_)
      refine ow_nil ?_
      refine seqK_n ?_
      refine cw_cond rfl (fun h13 => ?_) (fun h13 => ?_)
      · have h14 := not_t h13
        have p15 := df h14
        refine cw_seq ?_
        refine cw_region ?_
        refine ow1 (op1_l rfl (lo_move (v := .int _ _) rfl) ?_)
        refine ow1 (op1_l rfl (lo_assign (v := .int _ _) rfl) ?_)
        refine ow_nil ?_
        refine seqK_n ?_
        refine cw_ret ?_
        refine seqK_r ?_
        refine fnK_r (res1 rfl (rv_t (v := .int _ _) rfl)) (.refl _) ?_
        refine congrArg (Value.int .i64) ?_
        unfold ruleE
        repeat (first | rw [if_pos (by omega)] | rw [if_neg (by omega)])
      · have h16 := not_f h13
        have p17 := dt h16
        refine cw_skip ?_
        refine seqK_n ?_
        refine cw_seq ?_
        refine cw_region ?_
        refine ow1 (op1_l rfl (lo_fieldAddr rfl fl53_2) ?_)
        refine ow1 (op1_l rfl (lo_load1 (i := 0) (v := .slice _ _ _) rfl ag23 rfl rfl) ?_)
        refine ow1 (op1_pr (head_Check _ r_want_a r.want.length r_want_c r.want r_want_h (by first | omega | (simp <;> omega))) (en_f cb78 rfl) rfl ?_)
        refine ow1 (op1_l rfl (lo_assign (v := .int _ _) rfl) ?_)
        refine ow_nil ?_
        refine seqK_n ?_
        refine cw_ret ?_
        refine fnK_r (res1 rfl (rv_t (v := .int _ _) rfl)) (.refl _) ?_
        refine congrArg (Value.int .i64) ?_
        unfold ruleE
        repeat (first | rw [if_pos (by omega)] | rw [if_neg (by omega)])

theorem rule_heads (H : Hp) (r : Rule) (r_want_a : Option Addr) (r_want_c : Nat) (r_want_h : SlH pairE 4 H (.slice r_want_a r.want.length r_want_c) r.want) (r_w : Rule.wf r) (h_a : Option Addr) (h_l h_c : Nat) (h : List Pair) (h_h : SlH pairE 4 H (.slice h_a h_l h_c) h) (hl : h.length ≤ 9223372036854775807) : Pr Tryd.prog 118 #[.agg (Rule.cells r r_want_a r_want_c).toArray, .slice h_a h_l h_c] H (.bool (headsGo r.all h r.want)) := by
  refine pr_cw Tryd.func118 rfl Tryd.ntmps118 rfl (fun N => ?_)
  have r_w' := r_w
  simp only [Rule.wf] at r_w'
  refine cw_seq ?_
  refine cw_region ?_
  refine ow1 (op1_box (cs := [_, _, _, _]) 0 rfl rfl (fun b1 => ?_))
  refine ow1 (op1_l rfl (lo_assign (v := .bool _) rfl) ?_)
  refine ow_nil ?_
  refine seqK_n ?_
  refine cw_scope ?_
  refine cw_seq ?_
  refine cw_label ?_
  refine seqK_n ?_
  refine cw_seq ?_
  refine cw_seq ?_
  refine cw_region ?_
  refine ow1 (op1_l rfl (lo_fieldAddr rfl fl53_2) ?_)
  refine ow1 (op1_l rfl (lo_load1 (i := 0) (v := .slice _ _ _) rfl ag23 rfl rfl) ?_)
  refine ow1 (op1_l rfl (lo_len_slh rfl r_want_h Tryd.underlying23) ?_)
  refine ow1 (op1_l rfl (lo_move (v := .int _ _) rfl) ?_)
  refine ow_nil ?_
  refine seqK_n ?_
  refine cw_block ?_
  refine cw_loop1 [4, 6, 7, 8, 9, 13, 14, 15, 16, 17, 18, 19, 20, 21, 22, 23, 24, 25, 26, 27, 28, 29, 30, 31, 32, 33, 34, 35, 36, 37, 38, 39, 40, 41] [1, 2] (fun (k : Nat) G => upd (G) 13 (.int .i64 (k : Int))) (fun (k : Nat) G => G) (fun (k : Nat) H' => k ≤ r.want.length ∧ headsGo r.all h r.want = headsGo r.all h (r.want.drop k)) (fun (k : Nat) => r.want.length - k) 0 (upd_intro (mask_intro (by first | exact off_refl | (repeat (first | exact off_mask | refine off_upd rfl ?_ | refine off_mask2 rfl ?_)))) rfl) (lmask_intro offl_refl) ?_ ?_
  · exact ⟨Nat.zero_le _, rfl⟩
  · intro k J3 JL3 H3 hp2 hl3
    obtain ⟨hk1, hk2⟩ := hp2
    refine cw_seq ?_
    refine cw_region ?_
    refine ow1 (op1_l rfl (lo_lss rfl rfl) ?_)
    refine ow_nil ?_
    refine seqK_n ?_
    refine cw_seq ?_
    refine cw_cond rfl (fun h4 => ?_) (fun h4 => ?_)
    · have p5 := dt h4
      refine cw_skip ?_
      refine seqK_n ?_
      refine cw_seq ?_
      refine cw_block ?_
      refine cw_seq ?_
      refine cw_region ?_
      obtain ⟨c6, hc7⟩ := getE (xs := r.want) (m := k) (by omega)
      obtain ⟨cs8, hE9, at10⟩ := (r_want_h.mono ((HLe.refl _).trans hl3) (fun _ _ h => h)).get hc7
      obtain ⟨rfl, c6_w⟩ := hE9
      have c6_w' := c6_w
      simp only [Pair.wf] at c6_w'
      refine ow1 (op1_l rfl (lo_indexAddr rfl rfl (r_want_h.mono ((HLe.refl _).trans hl3) (fun _ _ h => h)).1 at10 Tryd.underlying23 sz94 (by omega) (by omega)) ?_)
      refine ow1 (op1_l rfl (lo_loadEA rfl ag94 sz94 at10) ?_)
      refine ow1 (op1_alloc 1 rfl zr94 (fun b11 => ?_))
      refine ow1 (op1_storeAn (i := 1) (vs := [_, _, _, _]) [_, _, _, _] rfl rfl rfl sz94 rfl rfl rfl rfl ?_)
      refine ow_nil ?_
      refine seqK_n ?_
      refine cw_seq ?_
      refine cw_region ?_
      refine ow1 (op1_l rfl (lo_move (v := .slice _ _ _) rfl) ?_)
      refine ow1 (op1_l rfl (lo_fieldAddr rfl fl94_0) ?_)
      refine ow1 (op1_l rfl (lo_load1 (i := 1) (v := str _) rfl ag9 rfl rfl) ?_)
      refine ow1 (op1_pr (head_Find _ h_a h_l h_c h (h_h.mono ((HLe.refl _).trans hl3) (fun _ _ h => h)) c6.key (by first | omega | (simp <;> omega))) (en_f cb111 rfl) rfl ?_)
      refine ow1 (op1_l rfl (lo_move (v := .tuple #[_, _]) rfl) ?_)
      refine ow1 (op1_l rfl (lo_extract (v := .agg #[_, _, _, _]) rfl rfl) ?_)
      refine ow1 (op1_l rfl (lo_extract (v := .bool _) rfl rfl) ?_)
      refine ow1 (op1_alloc 2 rfl zr94 (fun b12 => ?_))
      refine ow1 (op1_storeAn (i := 2) (vs := [_, _, _, _]) [_, _, _, _] rfl rfl rfl sz94 rfl rfl rfl rfl ?_)
      refine ow1 (op1_l rfl (lo_assign (v := .bool _) rfl) ?_)
      refine ow_nil ?_
      refine seqK_n ?_
      refine cw_seq ?_
      refine cw_region ?_
      refine ow1 (op1_l rfl (lo_move (v := .bool _) rfl) ?_)
      refine ow1 (op1_l rfl (lo_move (v := .bool _) rfl) ?_)
      refine ow_sp (j := 1) rfl (fun h13 => ?_) (fun h13 => ?_)
      · refine ow1 (op1_g rfl h13 rfl (lo_loadA (i := 2) (vs := [_, _, _, _]) rfl ag94 sz94 rfl rfl rfl) ?_)
        refine ow1 (op1_g rfl h13 rfl (lo_loadA (i := 1) (vs := [_, _, _, _]) rfl ag94 sz94 rfl rfl rfl) ?_)
        refine ow1 (op1_g rfl h13 rfl (lo_aeql (u := (Pair.cells ((findP h c6.key).getD Pair.zero)).toArray) (v := (Pair.cells c6).toArray) rfl rfl eqg94 (eqr94 _ _ 9998)) ?_)
        refine ow1 (op1_l rfl (lo_pick_t (v := .bool _) rfl h13 rfl) ?_)
        refine ow1 (op1_l rfl (lo_assign (v := .bool _) rfl) ?_)
        refine ow_nil ?_
        refine seqK_n ?_
        refine cw_block ?_
        refine cw_seq ?_
        refine cw_region ?_
        refine ow1 (op1_l rfl (lo_move (v := .bool _) rfl) ?_)
        refine ow1 (op1_l rfl (lo_move (v := .bool _) rfl) ?_)
        refine ow_sp (j := 1) rfl (fun h14 => ?_) (fun h14 => ?_)
        · have p15 := dt h14
          refine ow1 (op1_g rfl h14 rfl (lo_fieldAddr rfl fl53_3) ?_)
          refine ow1 (op1_g rfl h14 rfl (lo_load1 (i := 0) (v := .bool _) rfl ag4 rfl rfl) ?_)
          refine ow1 (op1_l rfl (lo_pick_t (v := .bool _) rfl h14 rfl) ?_)
          refine ow1 (op1_l rfl (lo_assign (v := .bool _) rfl) ?_)
          refine ow_nil ?_
          refine seqK_n ?_
          refine cw_cond rfl (fun h16 => ?_) (fun h16 => ?_)
          · refine cw_exit ?_
            refine blkK_e rfl ?_
            refine blkK_hit ?_
            refine seqK_n ?_
            refine cw_region ?_
            refine ow1 (op1_l rfl (lo_add rfl rfl (rg_i64 (by omega))) ?_)
            refine ow1 (op1_l rfl (lo_move (v := .int _ _) rfl) ?_)
            refine ow_nil ?_
            refine next1 (k + 1) (upd_intro (mask_intro (by first | exact off_refl | (repeat (first | exact off_mask | refine off_upd rfl ?_ | refine off_mask2 rfl ?_)))) rfl) (lmask_intro (by first | exact offl_refl | (repeat (first | exact offl_mask | refine offl_upd rfl ?_ | refine offl_mask2 rfl ?_)))) hl3 ?_ ?_
            · refine ⟨by omega, ?_⟩
              rw [hk2, dropE hc7]
              simp only [headsGo, hasP, h4, h13, h14, h16, Bool.or_false, Bool.true_or, Bool.or_true, Bool.false_or, Bool.not_true, Bool.not_false, Bool.and_true, Bool.true_and, Bool.false_and, Bool.and_false, if_true, if_false, Bool.false_eq_true, Bool.true_eq_false, decide_true, decide_false]
            · omega
          · refine cw_seq ?_
            refine cw_region ?_
            refine ow1 (op1_l rfl (lo_move (v := .bool _) rfl) ?_)
            refine ow1 (op1_l rfl (lo_assign (v := .bool _) rfl) ?_)
            refine ow_nil ?_
            refine seqK_n ?_
            refine cw_cond_t rfl h14 ?_
            refine cw_seq ?_
            refine cw_region ?_
            refine ow1 (op1_l rfl (lo_assign (v := .bool _) rfl) ?_)
            refine ow_nil ?_
            refine seqK_n ?_
            refine cw_ret ?_
            refine blkK_r ?_
            refine blkK_r ?_
            refine seqK_r ?_
            refine loopK_r ?_
            refine blkK_r ?_
            refine seqK_r ?_
            refine scK_r ?_
            refine fnK_r (res1 rfl (rv_t (v := .bool _) rfl)) ((HLe.refl _).trans hl3) ?_
            refine congrArg Value.bool ?_
            rw [hk2, dropE hc7]
            simp only [headsGo, hasP, h4, h13, h14, h16, Bool.or_false, Bool.true_or, Bool.or_true, Bool.false_or, Bool.not_true, Bool.not_false, Bool.and_true, Bool.true_and, Bool.false_and, Bool.and_false, if_true, if_false, Bool.false_eq_true, Bool.true_eq_false, decide_true, decide_false]
        · have p17 := df h14
          refine ow1 (op1_gs rfl h14 rfl ?_)
          refine ow1 (op1_gs rfl h14 rfl ?_)
          refine ow1 (op1_l rfl (lo_pick_f (v := .bool _) rfl h14 rfl) ?_)
          refine ow1 (op1_l rfl (lo_assign (v := .bool _) rfl) ?_)
          refine ow_nil ?_
          refine seqK_n ?_
          refine cw_cond_f rfl rfl ?_
          refine cw_seq ?_
          refine cw_region ?_
          refine ow1 (op1_l rfl (lo_move (v := .bool _) rfl) ?_)
          refine ow1 (op1_l rfl (lo_assign (v := .bool _) rfl) ?_)
          refine ow_nil ?_
          refine seqK_n ?_
          refine cw_cond_f rfl h14 ?_
          refine cw_seq ?_
          refine cw_region ?_
          refine ow1 (op1_l rfl (lo_fieldAddr rfl fl53_3) ?_)
          refine ow1 (op1_l rfl (lo_load1 (i := 0) (v := .bool _) rfl ag4 rfl rfl) ?_)
          refine ow1 (op1_l rfl (lo_assign (v := .bool _) rfl) ?_)
          refine ow_nil ?_
          refine seqK_n ?_
          refine cw_cond rfl (fun h18 => ?_) (fun h18 => ?_)
          · refine cw_seq ?_
            refine cw_region ?_
            refine ow1 (op1_l rfl (lo_assign (v := .bool _) rfl) ?_)
            refine ow_nil ?_
            refine seqK_n ?_
            refine cw_ret ?_
            refine blkK_r ?_
            refine blkK_r ?_
            refine seqK_r ?_
            refine loopK_r ?_
            refine blkK_r ?_
            refine seqK_r ?_
            refine scK_r ?_
            refine fnK_r (res1 rfl (rv_t (v := .bool _) rfl)) ((HLe.refl _).trans hl3) ?_
            refine congrArg Value.bool ?_
            rw [hk2, dropE hc7]
            simp only [headsGo, hasP, h4, h13, h14, h18, Bool.or_false, Bool.true_or, Bool.or_true, Bool.false_or, Bool.not_true, Bool.not_false, Bool.and_true, Bool.true_and, Bool.false_and, Bool.and_false, if_true, if_false, Bool.false_eq_true, Bool.true_eq_false, decide_true, decide_false]
          · refine cw_skip ?_
            refine blkK_n ?_
            refine blkK_n ?_
            refine seqK_n ?_
            refine cw_region ?_
            refine ow1 (op1_l rfl (lo_add rfl rfl (rg_i64 (by omega))) ?_)
            refine ow1 (op1_l rfl (lo_move (v := .int _ _) rfl) ?_)
            refine ow_nil ?_
            refine next1 (k + 1) (upd_intro (mask_intro (by first | exact off_refl | (repeat (first | exact off_mask | refine off_upd rfl ?_ | refine off_mask2 rfl ?_)))) rfl) (lmask_intro (by first | exact offl_refl | (repeat (first | exact offl_mask | refine offl_upd rfl ?_ | refine offl_mask2 rfl ?_)))) hl3 ?_ ?_
            · refine ⟨by omega, ?_⟩
              rw [hk2, dropE hc7]
              simp only [headsGo, hasP, h4, h13, h14, h18, Bool.or_false, Bool.true_or, Bool.or_true, Bool.false_or, Bool.not_true, Bool.not_false, Bool.and_true, Bool.true_and, Bool.false_and, Bool.and_false, if_true, if_false, Bool.false_eq_true, Bool.true_eq_false, decide_true, decide_false]
            · omega
      · refine ow1 (op1_gs rfl h13 rfl ?_)
        refine ow1 (op1_gs rfl h13 rfl ?_)
        refine ow1 (op1_gs rfl h13 rfl ?_)
        refine ow1 (op1_l rfl (lo_pick_f (v := .bool _) rfl h13 rfl) ?_)
        refine ow1 (op1_l rfl (lo_assign (v := .bool _) rfl) ?_)
        refine ow_nil ?_
        refine seqK_n ?_
        refine cw_block ?_
        refine cw_seq ?_
        refine cw_region ?_
        refine ow1 (op1_l rfl (lo_move (v := .bool _) rfl) ?_)
        refine ow1 (op1_l rfl (lo_move (v := .bool _) rfl) ?_)
        refine ow1 (op1_gs rfl rfl rfl ?_)
        refine ow1 (op1_gs rfl rfl rfl ?_)
        refine ow1 (op1_l rfl (lo_pick_f (v := .bool _) rfl rfl rfl) ?_)
        refine ow1 (op1_l rfl (lo_assign (v := .bool _) rfl) ?_)
        refine ow_nil ?_
        refine seqK_n ?_
        refine cw_cond_f rfl rfl ?_
        refine cw_seq ?_
        refine cw_region ?_
        refine ow1 (op1_l rfl (lo_move (v := .bool _) rfl) ?_)
        refine ow1 (op1_l rfl (lo_assign (v := .bool _) rfl) ?_)
        refine ow_nil ?_
        refine seqK_n ?_
        refine cw_cond_f rfl rfl ?_
        refine cw_seq ?_
        refine cw_region ?_
        refine ow1 (op1_l rfl (lo_fieldAddr rfl fl53_3) ?_)
        refine ow1 (op1_l rfl (lo_load1 (i := 0) (v := .bool _) rfl ag4 rfl rfl) ?_)
        refine ow1 (op1_l rfl (lo_assign (v := .bool _) rfl) ?_)
        refine ow_nil ?_
        refine seqK_n ?_
        refine cw_cond rfl (fun h19 => ?_) (fun h19 => ?_)
        · refine cw_seq ?_
          refine cw_region ?_
          refine ow1 (op1_l rfl (lo_assign (v := .bool _) rfl) ?_)
          refine ow_nil ?_
          refine seqK_n ?_
          refine cw_ret ?_
          refine blkK_r ?_
          refine blkK_r ?_
          refine seqK_r ?_
          refine loopK_r ?_
          refine blkK_r ?_
          refine seqK_r ?_
          refine scK_r ?_
          refine fnK_r (res1 rfl (rv_t (v := .bool _) rfl)) ((HLe.refl _).trans hl3) ?_
          refine congrArg Value.bool ?_
          rw [hk2, dropE hc7]
          simp only [headsGo, hasP, h4, h13, h19, Bool.or_false, Bool.true_or, Bool.or_true, Bool.false_or, Bool.not_true, Bool.not_false, Bool.and_true, Bool.true_and, Bool.false_and, Bool.and_false, if_true, if_false, Bool.false_eq_true, Bool.true_eq_false, decide_true, decide_false]
        · refine cw_skip ?_
          refine blkK_n ?_
          refine blkK_n ?_
          refine seqK_n ?_
          refine cw_region ?_
          refine ow1 (op1_l rfl (lo_add rfl rfl (rg_i64 (by omega))) ?_)
          refine ow1 (op1_l rfl (lo_move (v := .int _ _) rfl) ?_)
          refine ow_nil ?_
          refine next1 (k + 1) (upd_intro (mask_intro (by first | exact off_refl | (repeat (first | exact off_mask | refine off_upd rfl ?_ | refine off_mask2 rfl ?_)))) rfl) (lmask_intro (by first | exact offl_refl | (repeat (first | exact offl_mask | refine offl_upd rfl ?_ | refine offl_mask2 rfl ?_)))) hl3 ?_ ?_
          · refine ⟨by omega, ?_⟩
            rw [hk2, dropE hc7]
            simp only [headsGo, hasP, h4, h13, h19, Bool.or_false, Bool.true_or, Bool.or_true, Bool.false_or, Bool.not_true, Bool.not_false, Bool.and_true, Bool.true_and, Bool.false_and, Bool.and_false, if_true, if_false, Bool.false_eq_true, Bool.true_eq_false, decide_true, decide_false]
          · omega
    · have p20 := df h4
      refine cw_exit ?_
      refine seqK_e ?_
      refine loopK_e ?_
      refine blkK_hit ?_
      refine seqK_n ?_
      refine cw_seq ?_
      refine cw_region ?_
      refine ow1 (op1_l rfl (lo_fieldAddr rfl fl53_3) ?_)
      refine ow1 (op1_l rfl (lo_load1 (i := 0) (v := .bool _) rfl ag4 rfl rfl) ?_)
      refine ow1 (op1_l rfl (lo_assign (v := .bool _) rfl) ?_)
      refine ow_nil ?_
      refine seqK_n ?_
      refine cw_ret ?_
      refine scK_r ?_
      refine fnK_r (res1 rfl (rv_t (v := .bool _) rfl)) ((HLe.refl _).trans hl3) ?_
      refine congrArg Value.bool ?_
      rw [hk2, List.drop_of_length_le (by omega)]
      rfl

theorem rule_Goes (H : Hp) (r : Rule) (r_want_a : Option Addr) (r_want_c : Nat) (r_want_h : SlH pairE 4 H (.slice r_want_a r.want.length r_want_c) r.want) (r_w : Rule.wf r) (key : Bs) (h_a : Option Addr) (h_l h_c : Nat) (h : List Pair) (h_h : SlH pairE 4 H (.slice h_a h_l h_c) h) (hML : GInt H 2) (hrk : r.key.length < 4294967281) (hk : key.length < 4294967281) (hl : h.length ≤ 9223372036854775807) : Pr Tryd.prog 103 #[.agg (Rule.cells r r_want_a r_want_c).toArray, str key, .slice h_a h_l h_c] H (.bool (goesR r key h)) := by
  refine pr_cw Tryd.func103 rfl Tryd.ntmps103 rfl (fun N => ?_)
  have r_w' := r_w
  simp only [Rule.wf] at r_w'
  refine cw_seq ?_
  refine cw_region ?_
  refine ow1 (op1_box (cs := [_, _, _, _]) 0 rfl rfl (fun b1 => ?_))
  refine ow1 (op1_l rfl (lo_assign (v := .bool _) rfl) ?_)
  refine ow_nil ?_
  refine seqK_n ?_
  refine cw_seq ?_
  refine cw_seq ?_
  refine cw_region ?_
  refine ow1 (op1_l rfl (lo_fieldAddr rfl fl53_0) ?_)
  refine ow1 (op1_l rfl (lo_load1 (i := 0) (v := .int _ _) rfl ag5 rfl rfl) ?_)
  refine ow_nil ?_
  refine seqK_n ?_
  refine cw_block ?_
  refine cw_seq ?_
  refine cw_region ?_
  refine ow1 (op1_l rfl (lo_eql rfl rfl) ?_)
  refine ow1 (op1_l rfl (lo_assign (v := .bool _) rfl) ?_)
  refine ow_nil ?_
  refine seqK_n ?_
  refine cw_cond rfl (fun h2 => ?_) (fun h2 => ?_)
  · have p3 := dt h2
    refine cw_seq ?_
    refine cw_region ?_
    refine ow1 (op1_l rfl (lo_move (v := str _) rfl) ?_)
    refine ow1 (op1_l rfl (lo_fieldAddr rfl fl53_1) ?_)
    refine ow1 (op1_l rfl (lo_load1 (i := 0) (v := str _) rfl ag9 rfl rfl) ?_)
    refine ow1 (op1_l rfl (lo_seql rfl rfl) ?_)
    refine ow1 (op1_l rfl (lo_assign (v := .bool _) rfl) ?_)
    refine ow_nil ?_
    refine seqK_n ?_
    refine cw_ret ?_
    refine blkK_r ?_
    refine seqK_r ?_
    refine fnK_r (res1 rfl (rv_t (v := .bool _) rfl)) (.refl _) ?_
    first | (simp [goesR, *]; done) | (simp [goesR, *]; omega)
  · have p4 := df h2
    refine cw_seq ?_
    refine cw_region ?_
    refine ow1 (op1_l rfl (lo_eql rfl rfl) ?_)
    refine ow1 (op1_l rfl (lo_assign (v := .bool _) rfl) ?_)
    refine ow_nil ?_
    refine seqK_n ?_
    refine cw_cond rfl (fun h5 => ?_) (fun h5 => ?_)
    · have p6 := dt h5
      refine cw_seq ?_
      refine cw_region ?_
      refine ow1 (op1_l rfl (lo_fieldAddr rfl fl53_1) ?_)
      refine ow1 (op1_l rfl (lo_load1 (i := 0) (v := str _) rfl ag9 rfl rfl) ?_)
      refine ow1 (op1_l rfl (lo_move (v := str _) rfl) ?_)
      refine ow1 (op1_pr (words_Matches _ r.key key hML (by first | omega | (simp; done) | decide) (by first | omega | (simp; done) | decide)) (en_f cb117 rfl) rfl ?_)
      refine ow1 (op1_l rfl (lo_assign (v := .bool _) rfl) ?_)
      refine ow_nil ?_
      refine seqK_n ?_
      refine cw_ret ?_
      refine blkK_r ?_
      refine seqK_r ?_
      refine fnK_r (res1 rfl (rv_t (v := .bool _) rfl)) (.refl _) ?_
      first | (simp [goesR, *]; done) | (simp [goesR, *]; omega)
    · have p7 := df h5
      refine cw_seq ?_
      refine cw_region ?_
      refine ow1 (op1_l rfl (lo_eql rfl rfl) ?_)
      refine ow1 (op1_l rfl (lo_assign (v := .bool _) rfl) ?_)
      refine ow_nil ?_
      refine seqK_n ?_
      refine cw_cond rfl (fun h8 => ?_) (fun h8 => ?_)
      · have p9 := dt h8
        refine cw_seq ?_
        refine cw_region ?_
        refine ow1 (op1_l rfl (lo_loadA (i := 0) (vs := [_, _, _, _]) rfl ag53 sz53 rfl rfl rfl) ?_)
        refine ow1 (op1_l rfl (lo_move (v := .slice _ _ _) rfl) ?_)
        refine ow1 (op1_pr (rule_heads _ r r_want_a r_want_c r_want_h r_w h_a h_l h_c h h_h (by first | omega | (simp <;> omega))) (en_f cb118 rfl) rfl ?_)
        refine ow1 (op1_l rfl (lo_assign (v := .bool _) rfl) ?_)
        refine ow_nil ?_
        refine seqK_n ?_
        refine cw_ret ?_
        refine blkK_r ?_
        refine seqK_r ?_
        refine fnK_r (res1 rfl (rv_t (v := .bool _) rfl)) (.refl _) ?_
        first | (simp [goesR, *]; done) | (simp [goesR, *]; omega)
      · have p10 := df h8
        refine cw_skip ?_
        refine blkK_n ?_
        refine seqK_n ?_
        refine cw_seq ?_
        refine cw_region ?_
        refine ow1 (op1_l rfl (lo_assign (v := .bool _) rfl) ?_)
        refine ow_nil ?_
        refine seqK_n ?_
        refine cw_ret ?_
        refine fnK_r (res1 rfl (rv_t (v := .bool _) rfl)) (.refl _) ?_
        first | (simp [goesR, *]; done) | (simp [goesR, *]; omega)

end Go.SW


set_option linter.unusedVariables false
set_option maxRecDepth 100000
set_option maxHeartbeats 4000000
namespace Go.SW
open Go.Proofs
theorem bd50_0u8_1u8 (a1 : Int) (a2 : Int) (w : World) : (Instr.build 50 #[(0, .int .u8 a1), (1, .int .u8 a2)]).run Tryd.prog w = .ok (.agg #[.int .u8 a1, .int .u8 a2, str [], str [], str [], .slice none 0 0, str [], .int .u64 0, .int .u64 0, .bool false]) w := by kernel_rfl
theorem bd53_0u8_1s (a1 : Int) (a2 : Bs) (w : World) : (Instr.build 53 #[(0, .int .u8 a1), (1, str a2)]).run Tryd.prog w = .ok (.agg #[.int .u8 a1, str a2, .slice none 0 0, .bool false]) w := by kernel_rfl
theorem cb102 : Callable Tryd.prog 102 := callable_of Tryd.func102 (by kernel_rfl) (by kernel_rfl)
theorem cb103 : Callable Tryd.prog 103 := callable_of Tryd.func103 (by kernel_rfl) (by kernel_rfl)
theorem cb59 : Callable Tryd.prog 59 := callable_of Tryd.func59 (by kernel_rfl) (by kernel_rfl)
theorem cb61 : Callable Tryd.prog 61 := callable_of Tryd.func61 (by kernel_rfl) (by kernel_rfl)
theorem cb86 : Callable Tryd.prog 86 := callable_of Tryd.func86 (by kernel_rfl) (by kernel_rfl)
theorem zr53 : Zr Tryd.prog 53 [.int .u8 0, str [], .slice none 0 0, .bool false] := fun w => ⟨.agg #[.int .u8 0, str [], .slice none 0 0, .bool false], by kernel_rfl, rfl⟩

theorem l10_awake (H : Hp)  (hML : GInt H 2) : Pr Tryd.prog 86 #[] H (.bool true) := by
  refine pr_cw Tryd.func86 rfl Tryd.ntmps86 rfl (fun N => ?_)
  refine cw_seq ?_
  refine cw_region ?_
  refine ow1 (op1_l rfl (lo_assign (v := .bool _) rfl) ?_)
  refine ow_nil ?_
  refine seqK_n ?_
  refine cw_seq ?_
  refine cw_region ?_
  refine ow1 (op1_l rfl (lo_build (v := .agg #[_, _, _, _]) rfl (bd53_0u8_1s _ _)) ?_)
  refine ow1 (op1_alloc 0 rfl zr53 (fun b1 => ?_))
  refine ow1 (op1_storeAn (i := 0) (vs := [_, _, _, _]) [_, _, _, _] rfl rfl rfl sz53 rfl rfl rfl rfl ?_)
  refine ow_nil ?_
  refine seqK_n ?_
  refine cw_seq ?_
  refine cw_region ?_
  refine ow1 (op1_pr (l04_Awake _ hML) (en_f cb93 rfl) rfl ?_)
  refine ow1 (op1_l rfl (lo_move (v := .bool _) rfl) ?_)
  refine ow1 (op1_prg rfl rfl (l09_Awake _ hML) (en_f cb31 rfl) rfl ?_)
  refine ow1 (op1_l rfl (lo_pick_t (v := .bool _) rfl rfl rfl) ?_)
  refine ow1 (op1_l rfl (lo_move (v := .bool _) rfl) ?_)
  refine ow1 (op1_g rfl rfl rfl (lo_loadA (i := 0) (vs := [_, _, _, _]) rfl ag53 sz53 rfl rfl rfl) ?_)
  refine ow1 (op1_prg rfl rfl (rule_Check _ (⟨2, [97, 46, 35], [], false⟩ : Rule) none 0 slh_nil (by simp only [Rule.wf]; first | omega | (simp; done) | (simp; omega)) hML) (en_f cb102 rfl) rfl ?_)
  refine ow1 (op1_g rfl rfl rfl (lo_eql rfl rfl) ?_)
  refine ow1 (op1_l rfl (lo_pick_t (v := .bool _) rfl rfl rfl) ?_)
  refine ow1 (op1_l rfl (lo_move (v := .bool _) rfl) ?_)
  refine ow1 (op1_g rfl (by decide +kernel) rfl (lo_loadA (i := 0) (vs := [_, _, _, _]) rfl ag53 sz53 rfl rfl rfl) ?_)
  refine ow1 (op1_prg rfl (by decide +kernel) (rule_Goes _ (⟨2, [97, 46, 35], [], false⟩ : Rule) none 0 slh_nil (by simp only [Rule.wf]; first | omega | (simp; done) | (simp; omega)) [97, 46, 98] none 0 0 [] slh_nil hML (by first | omega | (simp; done) | decide) (by first | omega | (simp; done) | decide) (by first | omega | (simp <;> omega))) (en_f cb103 rfl) rfl ?_)
  refine ow1 (op1_l rfl (lo_pick_t (v := .bool _) rfl (by decide +kernel) rfl) ?_)
  refine ow1 (op1_l rfl (lo_move (v := .bool _) rfl) ?_)
  refine ow1 (op1_g rfl (by decide +kernel) rfl (lo_loadA (i := 0) (vs := [_, _, _, _]) rfl ag53 sz53 rfl rfl rfl) ?_)
  refine ow1 (op1_prg rfl (by decide +kernel) (rule_Goes _ (⟨2, [97, 46, 35], [], false⟩ : Rule) none 0 slh_nil (by simp only [Rule.wf]; first | omega | (simp; done) | (simp; omega)) [98] none 0 0 [] slh_nil hML (by first | omega | (simp; done) | decide) (by first | omega | (simp; done) | decide) (by first | omega | (simp <;> omega))) (en_f cb103 rfl) rfl ?_)
  refine ow1 (op1_g rfl (by decide +kernel) rfl (lo_not rfl) ?_)
  refine ow1 (op1_l rfl (lo_pick_t (v := .bool _) rfl (by decide +kernel) rfl) ?_)
  refine ow1 (op1_l rfl (lo_assign (v := .bool _) rfl) ?_)
  refine ow_nil ?_
  refine seqK_n ?_
  refine cw_ret ?_
  refine fnK_r (res1 rfl (rv_t (v := .bool _) rfl)) (.refl _) ?_
  exact congrArg Value.bool (by decide +kernel)

theorem l10_Awake (H : Hp)  (hML : GInt H 2) : Pr Tryd.prog 61 #[] H (.bool true) := by
  refine pr_cw Tryd.func61 rfl Tryd.ntmps61 rfl (fun N => ?_)
  refine cw_seq ?_
  refine cw_region ?_
  refine ow1 (op1_l rfl (lo_assign (v := .bool _) rfl) ?_)
  refine ow_nil ?_
  refine seqK_n ?_
  refine cw_seq ?_
  refine cw_region ?_
  refine ow1 (op1_pr (l10_awake _ hML) (en_f cb86 rfl) rfl ?_)
  refine ow1 (op1_l rfl (lo_assign (v := .bool _) rfl) ?_)
  refine ow_nil ?_
  refine seqK_n ?_
  refine cw_ret ?_
  refine fnK_r (res1 rfl (rv_t (v := .bool _) rfl)) (.refl _) ?_
  rfl

theorem l11_awake (H : Hp)  (hML : GInt H 2) (hCrc : GTab H 1 laidT) (hTells : GStrs H 0 tellsT) : Pr Tryd.prog 20 #[] H (.bool true) := by
  refine pr_cw Tryd.func20 rfl Tryd.ntmps20 rfl (fun N => ?_)
  refine cw_seq ?_
  refine cw_region ?_
  refine ow1 (op1_l rfl (lo_assign (v := .bool _) rfl) ?_)
  refine ow_nil ?_
  refine seqK_n ?_
  refine cw_seq ?_
  refine cw_region ?_
  refine ow1 (op1_l rfl (lo_build (v := .agg #[_, _, _, _, _, _, _, _, _, _]) rfl (bd50_0u8_1u8 _ _)) ?_)
  refine ow1 (op1_pr (method_Frame _ (⟨1, 1, [], [], [], [], [], 0, 0, false⟩ : Method) none 0 slh_nil (by simp only [Method.wf]; first | omega | (simp; done) | (simp; omega)) hML hTells) (en_f cb59 rfl) rfl ?_)
  refine ow1 (op1_l rfl (lo_move (v := .tuple #[_, _]) rfl) ?_)
  refine ow1 (op1_l rfl (lo_extract (v := .agg #[_, _, _]) rfl rfl) ?_)
  refine ow1 (op1_l rfl (lo_extract (v := .int _ _) rfl rfl) ?_)
  refine ow1 (op1_alloc 0 rfl zr35 (fun b1 => ?_))
  refine ow1 (op1_storeAn (i := 0) (vs := [_, _, _]) [_, _, _] rfl rfl rfl sz35 rfl rfl rfl rfl ?_)
  refine ow1 (op1_l rfl (lo_assign (v := .int _ _) rfl) ?_)
  refine ow_nil ?_
  refine seqK_n ?_
  refine cw_seq ?_
  refine cw_region ?_
  refine ow1 (op1_pr (l07_Awake _ hCrc) (en_f cb60 rfl) rfl ?_)
  refine ow1 (op1_l rfl (lo_move (v := .bool _) rfl) ?_)
  refine ow1 (op1_prg rfl rfl (l10_Awake _ hML) (en_f cb61 rfl) rfl ?_)
  refine ow1 (op1_l rfl (lo_pick_t (v := .bool _) rfl rfl rfl) ?_)
  refine ow1 (op1_l rfl (lo_move (v := .bool _) rfl) ?_)
  refine ow1 (op1_g rfl rfl rfl (lo_move (v := .int _ _) rfl) ?_)
  refine ow1 (op1_g rfl rfl rfl (lo_eql rfl rfl) ?_)
  refine ow1 (op1_l rfl (lo_pick_t (v := .bool _) rfl rfl rfl) ?_)
  refine ow1 (op1_l rfl (lo_move (v := .bool _) rfl) ?_)
  refine ow1 (op1_g rfl (by decide +kernel) rfl (lo_fieldAddr rfl fl35_1) ?_)
  refine ow1 (op1_g rfl (by decide +kernel) rfl (lo_load1 (i := 0) (v := .int _ _) rfl ag5 rfl rfl) ?_)
  refine ow1 (op1_g rfl (by decide +kernel) rfl (lo_eql rfl rfl) ?_)
  refine ow1 (op1_l rfl (lo_pick_t (v := .bool _) rfl (by decide +kernel) rfl) ?_)
  refine ow1 (op1_l rfl (lo_move (v := .bool _) rfl) ?_)
  refine ow1 (op1_g rfl (by decide +kernel) rfl (lo_fieldAddr rfl fl35_0) ?_)
  refine ow1 (op1_g rfl (by decide +kernel) rfl (lo_load1 (i := 0) (v := .int _ _) rfl ag5 rfl rfl) ?_)
  refine ow1 (op1_g rfl (by decide +kernel) rfl (lo_eql rfl rfl) ?_)
  refine ow1 (op1_l rfl (lo_pick_t (v := .bool _) rfl (by decide +kernel) rfl) ?_)
  refine ow1 (op1_l rfl (lo_move (v := .bool _) rfl) ?_)
  refine ow1 (op1_g rfl (by decide +kernel) rfl (lo_fieldAddr rfl fl35_2) ?_)
  refine ow1 (op1_g rfl (by decide +kernel) rfl (lo_load1 (i := 0) (v := str _) rfl ag9 rfl rfl) ?_)
  refine ow1 (op1_g rfl (by decide +kernel) rfl (lo_seql rfl rfl) ?_)
  refine ow1 (op1_l rfl (lo_pick_t (v := .bool _) rfl (by decide +kernel) rfl) ?_)
  refine ow1 (op1_l rfl (lo_assign (v := .bool _) rfl) ?_)
  refine ow_nil ?_
  refine seqK_n ?_
  refine cw_ret ?_
  refine fnK_r (res1 rfl (rv_t (v := .bool _) rfl)) (.refl _) ?_
  exact congrArg Value.bool (by decide +kernel)

end Go.SW
