/-
  A part of the proof of ReplySame: The walks of this seat, printed by program: api.Pair], head.Same, stairwellref09.Same, reply.sameMail, reply.Same, stairwellref12.SameMail, stairwellref12.Same, stairwelllaw09.Light, stairwelllaw12.Light, stairwelllaw12.To, stairwelllaw12.ReplySame. From the data that a row's arguments read as to the ground of the walks, and back: a world seen as one that is read alone; integers, texts, bools, structs, slices opened; the row's last step. Over any program; no condition.
-/
import Derived.Test.YtfchllcmfnhlbaaDoorProg
import Derived.KernelRfl
import Derived.Test.YtfchllcmfnhlbaaDoorReplySameP3
import Derived.Test.YtfchllcmfnhlbaaDoorReplySameP1
import Derived.ProofKit
import Derived.OpenShut
import Derived.Deep.Slices
import Derived.Carry
import Derived.Lib.LaidTab
set_option linter.unusedVariables false
set_option linter.unusedSimpArgs false

set_option linter.unusedVariables false
set_option maxRecDepth 100000
namespace Go.SW
open Go.Proofs
theorem ag32 : Ag Tryd.prog 32 true := fun w => by kernel_rfl
theorem by94 : By Tryd.prog 94 48 := by_of (by kernel_rfl)
theorem cb10 : Callable Tryd.prog 10 := callable_of Tryd.func10 (by kernel_rfl) (by kernel_rfl)
theorem cb11 : Callable Tryd.prog 11 := callable_of Tryd.func11 (by kernel_rfl) (by kernel_rfl)
theorem cb12 : Callable Tryd.prog 12 := callable_of Tryd.func12 (by kernel_rfl) (by kernel_rfl)
theorem cb32 : Callable Tryd.prog 32 := callable_of Tryd.func32 (by kernel_rfl) (by kernel_rfl)
theorem cb33 : Callable Tryd.prog 33 := callable_of Tryd.func33 (by kernel_rfl) (by kernel_rfl)
theorem cb34 : Callable Tryd.prog 34 := callable_of Tryd.func34 (by kernel_rfl) (by kernel_rfl)
theorem cb62 : Callable Tryd.prog 62 := callable_of Tryd.func62 (by kernel_rfl) (by kernel_rfl)
theorem cb63 : Callable Tryd.prog 63 := callable_of Tryd.func63 (by kernel_rfl) (by kernel_rfl)
theorem cb64 : Callable Tryd.prog 64 := callable_of Tryd.func64 (by kernel_rfl) (by kernel_rfl)
theorem cb8 : Callable Tryd.prog 8 := callable_of Tryd.func8 (by kernel_rfl) (by kernel_rfl)
theorem cb9 : Callable Tryd.prog 9 := callable_of Tryd.func9 (by kernel_rfl) (by kernel_rfl)
theorem eqr94 (p q : Pair) (d : Nat) : EqV Tryd.prog (d + 1 + 1) 94 (.agg (Pair.cells p).toArray) (.agg (Pair.cells q).toArray) (decide (p = q)) :=
  EqV.to (eqv_agg Tryd.underlying94 (by kernel_rfl) (eqf_1 (by decide) ag9 rfl rfl (eqv_str Tryd.underlying9) (eqf_1 (by decide) ag5 rfl rfl (eqv_int Tryd.underlying5) (eqf_1 (by decide) ag2 rfl rfl (eqv_int Tryd.underlying2) (eqf_1 (by decide) ag9 rfl rfl (eqv_str Tryd.underlying9) eqf_nil))))) (by obtain ⟨a0, a1, a2, a3⟩ := p; obtain ⟨b0, b1, b2, b3⟩ := q; rw [Bool.eq_iff_iff]; simp)
theorem eqg94 : Tryd.prog.eqGuardType Tryd.prog.depth 94 = false := by kernel_rfl
theorem fl32_0 : Fld Tryd.prog 32 0 0 := fun b o w => by kernel_rfl
theorem fl32_1 : Fld Tryd.prog 32 1 1 := fun b o w => by kernel_rfl
theorem fl32_2 : Fld Tryd.prog 32 2 2 := fun b o w => by kernel_rfl
theorem fl32_3 : Fld Tryd.prog 32 3 3 := fun b o w => by kernel_rfl
theorem fl32_4 : Fld Tryd.prog 32 4 4 := fun b o w => by kernel_rfl
theorem fl32_5 : Fld Tryd.prog 32 5 5 := fun b o w => by kernel_rfl
theorem fl32_6 : Fld Tryd.prog 32 6 6 := fun b o w => by kernel_rfl
theorem sz23 : Sz Tryd.prog 23 1 := fun w => by kernel_rfl
theorem sz32 : Sz Tryd.prog 32 13 := fun w => by kernel_rfl
theorem zr32 : Zr Tryd.prog 32 [.int .u8 0, .int .u8 0, .int .u64 0, .int .u64 0, .bool false, str [], .int .u64 0, str [], str [], .slice none 0 0, str [], .int .u64 0, .int .u8 0] := fun w => ⟨.agg #[.int .u8 0, .int .u8 0, .int .u64 0, .int .u64 0, .bool false, str [], .int .u64 0, str [], str [], .slice none 0 0, str [], .int .u64 0, .int .u8 0], by kernel_rfl, rfl⟩
theorem zx94 : ∃ z, ∀ w, (zeroValue 94).run Tryd.prog w = .ok z w := ⟨.agg #[str [], .int .u8 0, .int .i64 0, str []], fun w => by kernel_rfl⟩

theorem eq_Pair (H : Hp) (a_a : Option Addr) (a_l a_c : Nat) (a : List Pair) (a_h : SlH pairE 4 H (.slice a_a a_l a_c) a) (b_a : Option Addr) (b_l b_c : Nat) (b : List Pair) (b_h : SlH pairE 4 H (.slice b_a b_l b_c) b) (hal : a.length ≤ 9223372036854775807) : Pr Tryd.prog 64 #[.slice a_a a_l a_c, .slice b_a b_l b_c] H (.bool (decide (a = b))) := by
  refine pr_cw Tryd.func64 rfl Tryd.ntmps64 rfl (fun N => ?_)
  refine cw_seq ?_
  refine cw_region ?_
  refine ow1 (op1_l rfl (lo_assign (v := .bool _) rfl) ?_)
  refine ow_nil ?_
  refine seqK_n ?_
  refine cw_seq ?_
  refine cw_seq ?_
  refine cw_region ?_
  refine ow1 (op1_l rfl (lo_move (v := .slice _ _ _) rfl) ?_)
  refine ow1 (op1_l rfl (lo_len_slh rfl a_h Tryd.underlying23) ?_)
  refine ow1 (op1_l rfl (lo_move (v := .slice _ _ _) rfl) ?_)
  refine ow1 (op1_l rfl (lo_len_slh rfl b_h Tryd.underlying23) ?_)
  refine ow1 (op1_l rfl (lo_neq rfl rfl) ?_)
  refine ow_nil ?_
  refine seqK_n ?_
  refine cw_cond rfl (fun h1 => ?_) (fun h1 => ?_)
  · have h2 := not_t h1
    have p3 := df h2
    refine cw_seq ?_
    refine cw_region ?_
    refine ow1 (op1_l rfl (lo_assign (v := .bool _) rfl) ?_)
    refine ow_nil ?_
    refine seqK_n ?_
    refine cw_ret ?_
    refine seqK_r ?_
    refine fnK_r (res1 rfl (rv_t (v := .bool _) rfl)) (.refl _) ?_
    exact congrArg Value.bool (eqL_len (by assumption)).symm
  · have h4 := not_f h1
    have p5 := dt h4
    refine cw_skip ?_
    refine seqK_n ?_
    refine cw_seq ?_
    refine cw_seq ?_
    refine cw_region ?_
    refine ow1 (op1_l rfl (lo_move (v := .slice _ _ _) rfl) ?_)
    refine ow1 (op1_l rfl (lo_len_slh rfl a_h Tryd.underlying23) ?_)
    refine ow1 (op1_l rfl (lo_move (v := .int _ _) rfl) ?_)
    refine ow_nil ?_
    refine seqK_n ?_
    refine cw_block ?_
    refine cw_loop1 [4, 5, 13, 14, 15, 16, 17, 18, 19, 20, 21, 22, 23, 24, 25] [] (fun (k : Nat) G => upd (G) 13 (.int .i64 (k : Int))) (fun (k : Nat) G => G) (fun (k : Nat) H' => k ≤ a.length ∧ decide (a = b) = decide (a.drop k = b.drop k)) (fun (k : Nat) => a.length - k) 0 (upd_intro (mask_intro (by first | exact off_refl | (repeat (first | exact off_mask | refine off_upd rfl ?_ | refine off_mask2 rfl ?_)))) rfl) (lmask_intro offl_refl) ?_ ?_
    · exact ⟨Nat.zero_le _, rfl⟩
    · intro k J7 JL7 H7 hp6 hl7
      obtain ⟨hk1, hk2⟩ := hp6
      refine cw_seq ?_
      refine cw_region ?_
      refine ow1 (op1_l rfl (lo_lss rfl rfl) ?_)
      refine ow_nil ?_
      refine seqK_n ?_
      refine cw_seq ?_
      refine cw_cond rfl (fun h8 => ?_) (fun h8 => ?_)
      · have p9 := dt h8
        refine cw_skip ?_
        refine seqK_n ?_
        refine cw_seq ?_
        refine cw_block ?_
        refine cw_seq ?_
        refine cw_region ?_
        refine ow1 (op1_l rfl (lo_move (v := .int _ _) rfl) ?_)
        refine ow1 (op1_l rfl (lo_assign (v := .int _ _) rfl) ?_)
        refine ow_nil ?_
        refine seqK_n ?_
        refine cw_seq ?_
        refine cw_anyL mixd ?_
        refine vw_q 0 rfl (by kernel_rfl) (by repeat (first | exact lle_l0 | exact LLe.refl _ | exact lle_none | refine lle_up ?_ rfl)) (fun _ _ hh hl => lo_move (v := .slice _ _ _) rfl) ?_
        refine vw_q 1 rfl (by kernel_rfl) (by repeat (first | exact lle_l0 | exact LLe.refl _ | exact lle_none | refine lle_up ?_ rfl)) (fun _ _ hh hl => lo_move (v := .int _ _) rfl) ?_
        obtain ⟨c10, hc11⟩ := getE (xs := a) (m := k) (by omega)
        obtain ⟨cs12, hE13, at14⟩ := (a_h.mono ((HLe.refl _).trans hl7) (fun _ _ h => h)).get hc11
        obtain ⟨rfl, c10_w⟩ := hE13
        have c10_w' := c10_w
        simp only [Pair.wf] at c10_w'
        refine vw_q 2 rfl (by kernel_rfl) (by repeat (first | exact lle_l0 | exact LLe.refl _ | exact lle_none | refine lle_up ?_ rfl)) (fun _ _ hh hl => lo_indexAddr rfl rfl (a_h.mono ((HLe.refl _).trans hl7) (fun _ _ h => h)).1 (at14.mono hh) Tryd.underlying23 sz94 (by omega) (by omega)) ?_
        refine vw_q 3 rfl (by kernel_rfl) (by repeat (first | exact lle_l0 | exact LLe.refl _ | exact lle_none | refine lle_up ?_ rfl)) (fun _ _ hh hl => lo_loadEA rfl ag94 sz94 (at14.mono hh)) ?_
        refine vw_q 4 rfl (by kernel_rfl) (by repeat (first | exact lle_l0 | exact LLe.refl _ | exact lle_none | refine lle_up ?_ rfl)) (fun _ _ hh hl => lo_move (v := .slice _ _ _) rfl) ?_
        refine vw_q 5 rfl (by kernel_rfl) (by repeat (first | exact lle_l0 | exact LLe.refl _ | exact lle_none | refine lle_up ?_ rfl)) (fun _ _ hh hl => lo_move (v := .int _ _) rfl) ?_
        obtain ⟨c15, hc16⟩ := getE (xs := b) (m := k) (by omega)
        obtain ⟨cs17, hE18, at19⟩ := (b_h.mono ((HLe.refl _).trans hl7) (fun _ _ h => h)).get hc16
        obtain ⟨rfl, c15_w⟩ := hE18
        have c15_w' := c15_w
        simp only [Pair.wf] at c15_w'
        refine vw_q 6 rfl (by kernel_rfl) (by repeat (first | exact lle_l0 | exact LLe.refl _ | exact lle_none | refine lle_up ?_ rfl)) (fun _ _ hh hl => lo_indexAddr rfl rfl (b_h.mono ((HLe.refl _).trans hl7) (fun _ _ h => h)).1 (at19.mono hh) Tryd.underlying23 sz94 (by omega) (by omega)) ?_
        refine vw_q 7 rfl (by kernel_rfl) (by repeat (first | exact lle_l0 | exact LLe.refl _ | exact lle_none | refine lle_up ?_ rfl)) (fun _ _ hh hl => lo_loadEA rfl ag94 sz94 (at19.mono hh)) ?_
        refine vw_q 8 rfl (by kernel_rfl) (by repeat (first | exact lle_l0 | exact LLe.refl _ | exact lle_none | refine lle_up ?_ rfl)) (fun _ _ hh hl => lo_aneq (u := (Pair.cells c10).toArray) (v := (Pair.cells c15).toArray) rfl rfl eqg94 (eqr94 _ _ 9998)) ?_
        refine vw_done (by kernel_rfl) ?_
        refine seqK_n ?_
        refine cw_cond rfl (fun h20 => ?_) (fun h20 => ?_)
        · have h21 := not_t h20
          have p22 := df h21
          refine cw_seq ?_
          refine cw_region ?_
          refine ow1 (op1_l rfl (lo_assign (v := .bool _) rfl) ?_)
          refine ow_nil ?_
          refine seqK_n ?_
          refine cw_ret ?_
          refine blkK_r ?_
          refine seqK_r ?_
          refine loopK_r ?_
          refine blkK_r ?_
          refine seqK_r ?_
          refine fnK_r (res1 rfl (rv_t (v := .bool _) rfl)) ((HLe.refl _).trans hl7) ?_
          exact congrArg Value.bool (eqL_miss hk2 (dropE hc11) (dropE hc16) (by assumption)).symm
        · have h23 := not_f h20
          have p24 := dt h23
          refine cw_skip ?_
          refine blkK_n ?_
          refine seqK_n ?_
          refine cw_region ?_
          refine ow1 (op1_l rfl (lo_add rfl rfl (rg_i64 (by omega))) ?_)
          refine ow1 (op1_l rfl (lo_move (v := .int _ _) rfl) ?_)
          refine ow_nil ?_
          refine next1 (k + 1) (upd_intro (mask_intro (by first | exact off_refl | (repeat (first | exact off_mask | refine off_upd rfl ?_ | refine off_mask2 rfl ?_)))) rfl) (lmask_intro (by first | exact offl_refl | (repeat (first | exact offl_mask | refine offl_upd rfl ?_ | refine offl_mask2 rfl ?_)))) hl7 ?_ ?_
          · exact ⟨by omega, eqL_step hk2 (dropE hc11) (dropE hc16) (by assumption)⟩
          · omega
      · have p25 := df h8
        refine cw_exit ?_
        refine seqK_e ?_
        refine loopK_e ?_
        refine blkK_hit ?_
        refine seqK_n ?_
        refine cw_seq ?_
        refine cw_region ?_
        refine ow1 (op1_l rfl (lo_assign (v := .bool _) rfl) ?_)
        refine ow_nil ?_
        refine seqK_n ?_
        refine cw_ret ?_
        refine fnK_r (res1 rfl (rv_t (v := .bool _) rfl)) ((HLe.refl _).trans hl7) ?_
        exact congrArg Value.bool (eqL_end hk2 (by omega) (by omega)).symm

theorem head_Same (H : Hp) (a_a : Option Addr) (a_l a_c : Nat) (a : List Pair) (a_h : SlH pairE 4 H (.slice a_a a_l a_c) a) (b_a : Option Addr) (b_l b_c : Nat) (b : List Pair) (b_h : SlH pairE 4 H (.slice b_a b_l b_c) b) (hal : a.length ≤ 9223372036854775807) : Pr Tryd.prog 62 #[.slice a_a a_l a_c, .slice b_a b_l b_c] H (.bool (decide (a = b))) := by
  refine pr_cw Tryd.func62 rfl Tryd.ntmps62 rfl (fun N => ?_)
  refine cw_seq ?_
  refine cw_region ?_
  refine ow1 (op1_l rfl (lo_assign (v := .bool _) rfl) ?_)
  refine ow_nil ?_
  refine seqK_n ?_
  refine cw_seq ?_
  refine cw_region ?_
  refine ow1 (op1_l rfl (lo_move (v := .slice _ _ _) rfl) ?_)
  refine ow1 (op1_l rfl (lo_move (v := .slice _ _ _) rfl) ?_)
  refine ow1 (op1_pr (eq_Pair _ a_a a_l a_c a a_h b_a b_l b_c b b_h (by first | omega | (simp <;> omega))) (en_f cb64 rfl) rfl ?_)
  refine ow1 (op1_l rfl (lo_assign (v := .bool _) rfl) ?_)
  refine ow_nil ?_
  refine seqK_n ?_
  refine cw_ret ?_
  refine fnK_r (res1 rfl (rv_t (v := .bool _) rfl)) (.refl _) ?_
  rfl

theorem r9_Same (H : Hp) (a_a : Option Addr) (a_l a_c : Nat) (a : List Pair) (a_h : SlH pairE 4 H (.slice a_a a_l a_c) a) (b_a : Option Addr) (b_l b_c : Nat) (b : List Pair) (b_h : SlH pairE 4 H (.slice b_a b_l b_c) b) (hal : a.length ≤ 9223372036854775807) : Pr Tryd.prog 63 #[.slice a_a a_l a_c, .slice b_a b_l b_c] H (.bool (decide (a = b))) := by
  refine pr_cw Tryd.func63 rfl Tryd.ntmps63 rfl (fun N => ?_)
  refine cw_seq ?_
  refine cw_region ?_
  refine ow1 (op1_l rfl (lo_assign (v := .bool _) rfl) ?_)
  refine ow_nil ?_
  refine seqK_n ?_
  refine cw_seq ?_
  refine cw_seq ?_
  refine cw_region ?_
  refine ow1 (op1_l rfl (lo_move (v := .slice _ _ _) rfl) ?_)
  refine ow1 (op1_l rfl (lo_len_slh rfl a_h Tryd.underlying23) ?_)
  refine ow1 (op1_l rfl (lo_move (v := .slice _ _ _) rfl) ?_)
  refine ow1 (op1_l rfl (lo_len_slh rfl b_h Tryd.underlying23) ?_)
  refine ow1 (op1_l rfl (lo_neq rfl rfl) ?_)
  refine ow_nil ?_
  refine seqK_n ?_
  refine cw_cond rfl (fun h1 => ?_) (fun h1 => ?_)
  · have h2 := not_t h1
    have p3 := df h2
    refine cw_seq ?_
    refine cw_region ?_
    refine ow1 (op1_l rfl (lo_assign (v := .bool _) rfl) ?_)
    refine ow_nil ?_
    refine seqK_n ?_
    refine cw_ret ?_
    refine seqK_r ?_
    refine fnK_r (res1 rfl (rv_t (v := .bool _) rfl)) (.refl _) ?_
    exact congrArg Value.bool (eqL_len (by assumption)).symm
  · have h4 := not_f h1
    have p5 := dt h4
    refine cw_skip ?_
    refine seqK_n ?_
    refine cw_seq ?_
    refine cw_seq ?_
    refine cw_region ?_
    refine ow1 (op1_l rfl (lo_move (v := .slice _ _ _) rfl) ?_)
    refine ow1 (op1_l rfl (lo_len_slh rfl a_h Tryd.underlying23) ?_)
    refine ow1 (op1_l rfl (lo_move (v := .int _ _) rfl) ?_)
    refine ow_nil ?_
    refine seqK_n ?_
    refine cw_block ?_
    refine cw_loop1 [4, 5, 13, 14, 15, 16, 17, 18, 19, 20, 21, 22, 23, 24, 25] [] (fun (k : Nat) G => upd (G) 13 (.int .i64 (k : Int))) (fun (k : Nat) G => G) (fun (k : Nat) H' => k ≤ a.length ∧ decide (a = b) = decide (a.drop k = b.drop k)) (fun (k : Nat) => a.length - k) 0 (upd_intro (mask_intro (by first | exact off_refl | (repeat (first | exact off_mask | refine off_upd rfl ?_ | refine off_mask2 rfl ?_)))) rfl) (lmask_intro offl_refl) ?_ ?_
    · exact ⟨Nat.zero_le _, rfl⟩
    · intro k J7 JL7 H7 hp6 hl7
      obtain ⟨hk1, hk2⟩ := hp6
      refine cw_seq ?_
      refine cw_region ?_
      refine ow1 (op1_l rfl (lo_lss rfl rfl) ?_)
      refine ow_nil ?_
      refine seqK_n ?_
      refine cw_seq ?_
      refine cw_cond rfl (fun h8 => ?_) (fun h8 => ?_)
      · have p9 := dt h8
        refine cw_skip ?_
        refine seqK_n ?_
        refine cw_seq ?_
        refine cw_block ?_
        refine cw_seq ?_
        refine cw_region ?_
        refine ow1 (op1_l rfl (lo_move (v := .int _ _) rfl) ?_)
        refine ow1 (op1_l rfl (lo_assign (v := .int _ _) rfl) ?_)
        refine ow_nil ?_
        refine seqK_n ?_
        refine cw_seq ?_
        refine cw_anyL mixd ?_
        refine vw_q 0 rfl (by kernel_rfl) (by repeat (first | exact lle_l0 | exact LLe.refl _ | exact lle_none | refine lle_up ?_ rfl)) (fun _ _ hh hl => lo_move (v := .slice _ _ _) rfl) ?_
        refine vw_q 1 rfl (by kernel_rfl) (by repeat (first | exact lle_l0 | exact LLe.refl _ | exact lle_none | refine lle_up ?_ rfl)) (fun _ _ hh hl => lo_move (v := .int _ _) rfl) ?_
        obtain ⟨c10, hc11⟩ := getE (xs := a) (m := k) (by omega)
        obtain ⟨cs12, hE13, at14⟩ := (a_h.mono ((HLe.refl _).trans hl7) (fun _ _ h => h)).get hc11
        obtain ⟨rfl, c10_w⟩ := hE13
        have c10_w' := c10_w
        simp only [Pair.wf] at c10_w'
        refine vw_q 2 rfl (by kernel_rfl) (by repeat (first | exact lle_l0 | exact LLe.refl _ | exact lle_none | refine lle_up ?_ rfl)) (fun _ _ hh hl => lo_indexAddr rfl rfl (a_h.mono ((HLe.refl _).trans hl7) (fun _ _ h => h)).1 (at14.mono hh) Tryd.underlying23 sz94 (by omega) (by omega)) ?_
        refine vw_q 3 rfl (by kernel_rfl) (by repeat (first | exact lle_l0 | exact LLe.refl _ | exact lle_none | refine lle_up ?_ rfl)) (fun _ _ hh hl => lo_loadEA rfl ag94 sz94 (at14.mono hh)) ?_
        refine vw_q 4 rfl (by kernel_rfl) (by repeat (first | exact lle_l0 | exact LLe.refl _ | exact lle_none | refine lle_up ?_ rfl)) (fun _ _ hh hl => lo_move (v := .slice _ _ _) rfl) ?_
        refine vw_q 5 rfl (by kernel_rfl) (by repeat (first | exact lle_l0 | exact LLe.refl _ | exact lle_none | refine lle_up ?_ rfl)) (fun _ _ hh hl => lo_move (v := .int _ _) rfl) ?_
        obtain ⟨c15, hc16⟩ := getE (xs := b) (m := k) (by omega)
        obtain ⟨cs17, hE18, at19⟩ := (b_h.mono ((HLe.refl _).trans hl7) (fun _ _ h => h)).get hc16
        obtain ⟨rfl, c15_w⟩ := hE18
        have c15_w' := c15_w
        simp only [Pair.wf] at c15_w'
        refine vw_q 6 rfl (by kernel_rfl) (by repeat (first | exact lle_l0 | exact LLe.refl _ | exact lle_none | refine lle_up ?_ rfl)) (fun _ _ hh hl => lo_indexAddr rfl rfl (b_h.mono ((HLe.refl _).trans hl7) (fun _ _ h => h)).1 (at19.mono hh) Tryd.underlying23 sz94 (by omega) (by omega)) ?_
        refine vw_q 7 rfl (by kernel_rfl) (by repeat (first | exact lle_l0 | exact LLe.refl _ | exact lle_none | refine lle_up ?_ rfl)) (fun _ _ hh hl => lo_loadEA rfl ag94 sz94 (at19.mono hh)) ?_
        refine vw_q 8 rfl (by kernel_rfl) (by repeat (first | exact lle_l0 | exact LLe.refl _ | exact lle_none | refine lle_up ?_ rfl)) (fun _ _ hh hl => lo_aneq (u := (Pair.cells c10).toArray) (v := (Pair.cells c15).toArray) rfl rfl eqg94 (eqr94 _ _ 9998)) ?_
        refine vw_done (by kernel_rfl) ?_
        refine seqK_n ?_
        refine cw_cond rfl (fun h20 => ?_) (fun h20 => ?_)
        · have h21 := not_t h20
          have p22 := df h21
          refine cw_seq ?_
          refine cw_region ?_
          refine ow1 (op1_l rfl (lo_assign (v := .bool _) rfl) ?_)
          refine ow_nil ?_
          refine seqK_n ?_
          refine cw_ret ?_
          refine blkK_r ?_
          refine seqK_r ?_
          refine loopK_r ?_
          refine blkK_r ?_
          refine seqK_r ?_
          refine fnK_r (res1 rfl (rv_t (v := .bool _) rfl)) ((HLe.refl _).trans hl7) ?_
          exact congrArg Value.bool (eqL_miss hk2 (dropE hc11) (dropE hc16) (by assumption)).symm
        · have h23 := not_f h20
          have p24 := dt h23
          refine cw_skip ?_
          refine blkK_n ?_
          refine seqK_n ?_
          refine cw_region ?_
          refine ow1 (op1_l rfl (lo_add rfl rfl (rg_i64 (by omega))) ?_)
          refine ow1 (op1_l rfl (lo_move (v := .int _ _) rfl) ?_)
          refine ow_nil ?_
          refine next1 (k + 1) (upd_intro (mask_intro (by first | exact off_refl | (repeat (first | exact off_mask | refine off_upd rfl ?_ | refine off_mask2 rfl ?_)))) rfl) (lmask_intro (by first | exact offl_refl | (repeat (first | exact offl_mask | refine offl_upd rfl ?_ | refine offl_mask2 rfl ?_)))) hl7 ?_ ?_
          · exact ⟨by omega, eqL_step hk2 (dropE hc11) (dropE hc16) (by assumption)⟩
          · omega
      · have p25 := df h8
        refine cw_exit ?_
        refine seqK_e ?_
        refine loopK_e ?_
        refine blkK_hit ?_
        refine seqK_n ?_
        refine cw_seq ?_
        refine cw_region ?_
        refine ow1 (op1_l rfl (lo_assign (v := .bool _) rfl) ?_)
        refine ow_nil ?_
        refine seqK_n ?_
        refine cw_ret ?_
        refine fnK_r (res1 rfl (rv_t (v := .bool _) rfl)) ((HLe.refl _).trans hl7) ?_
        exact congrArg Value.bool (eqL_end hk2 (by omega) (by omega)).symm

theorem reply_sameMail (H : Hp) (a : Mail) (a_head_a : Option Addr) (a_head_c : Nat) (a_head_h : SlH pairE 4 H (.slice a_head_a a.head.length a_head_c) a.head) (a_w : Mail.wf a) (b : Mail) (b_head_a : Option Addr) (b_head_c : Nat) (b_head_h : SlH pairE 4 H (.slice b_head_a b.head.length b_head_c) b.head) (b_w : Mail.wf b) : Pr Tryd.prog 33 #[.agg (Mail.cells a a_head_a a_head_c).toArray, .agg (Mail.cells b b_head_a b_head_c).toArray] H (.bool (decide (a = b))) := by
  refine pr_cw Tryd.func33 rfl Tryd.ntmps33 rfl (fun N => ?_)
  have a_w' := a_w
  simp only [Mail.wf] at a_w'
  have b_w' := b_w
  simp only [Mail.wf] at b_w'
  refine cw_seq ?_
  refine cw_region ?_
  refine ow1 (op1_box (cs := [_, _, _, _, _, _, _]) 0 rfl rfl (fun b1 => ?_))
  refine ow1 (op1_box (cs := [_, _, _, _, _, _, _]) 1 rfl rfl (fun b2 => ?_))
  refine ow1 (op1_l rfl (lo_assign (v := .bool _) rfl) ?_)
  refine ow_nil ?_
  refine seqK_n ?_
  refine cw_seq ?_
  refine cw_region ?_
  refine ow1 (op1_l rfl (lo_fieldAddr rfl fl25_0) ?_)
  refine ow1 (op1_l rfl (lo_load1 (i := 0) (v := .int _ _) rfl ag22 rfl rfl) ?_)
  refine ow1 (op1_l rfl (lo_fieldAddr rfl fl25_0) ?_)
  refine ow1 (op1_l rfl (lo_load1 (i := 1) (v := .int _ _) rfl ag22 rfl rfl) ?_)
  refine ow1 (op1_l rfl (lo_eql rfl rfl) ?_)
  refine ow1 (op1_l rfl (lo_move (v := .bool _) rfl) ?_)
  refine ow_sp (j := 5) rfl (fun h3 => ?_) (fun h3 => ?_)
  · have p4 := dt h3
    refine ow1 (op1_g rfl h3 rfl (lo_fieldAddr rfl fl25_1) ?_)
    refine ow1 (op1_g rfl h3 rfl (lo_load1 (i := 0) (v := str _) rfl ag9 rfl rfl) ?_)
    refine ow1 (op1_g rfl h3 rfl (lo_fieldAddr rfl fl25_1) ?_)
    refine ow1 (op1_g rfl h3 rfl (lo_load1 (i := 1) (v := str _) rfl ag9 rfl rfl) ?_)
    refine ow1 (op1_g rfl h3 rfl (lo_seql rfl rfl) ?_)
    refine ow1 (op1_l rfl (lo_pick_t (v := .bool _) rfl h3 rfl) ?_)
    refine ow1 (op1_l rfl (lo_move (v := .bool _) rfl) ?_)
    refine ow_sp (j := 12) rfl (fun h5 => ?_) (fun h5 => ?_)
    · have p6 := dt h5
      refine ow1 (op1_g rfl h5 rfl (lo_fieldAddr rfl fl25_2) ?_)
      refine ow1 (op1_g rfl h5 rfl (lo_load1 (i := 0) (v := str _) rfl ag9 rfl rfl) ?_)
      refine ow1 (op1_g rfl h5 rfl (lo_fieldAddr rfl fl25_2) ?_)
      refine ow1 (op1_g rfl h5 rfl (lo_load1 (i := 1) (v := str _) rfl ag9 rfl rfl) ?_)
      refine ow1 (op1_g rfl h5 rfl (lo_seql rfl rfl) ?_)
      refine ow1 (op1_l rfl (lo_pick_t (v := .bool _) rfl h5 rfl) ?_)
      refine ow1 (op1_l rfl (lo_move (v := .bool _) rfl) ?_)
      refine ow_sp (j := 19) rfl (fun h7 => ?_) (fun h7 => ?_)
      · have p8 := dt h7
        refine ow1 (op1_g rfl h7 rfl (lo_fieldAddr rfl fl25_3) ?_)
        refine ow1 (op1_g rfl h7 rfl (lo_load1 (i := 0) (v := .slice _ _ _) rfl ag23 rfl rfl) ?_)
        refine ow1 (op1_g rfl h7 rfl (lo_fieldAddr rfl fl25_3) ?_)
        refine ow1 (op1_g rfl h7 rfl (lo_load1 (i := 1) (v := .slice _ _ _) rfl ag23 rfl rfl) ?_)
        refine ow1 (op1_prg rfl h7 (head_Same _ a_head_a a.head.length a_head_c a.head a_head_h b_head_a b.head.length b_head_c b.head b_head_h (by first | omega | (simp <;> omega))) (en_f cb62 rfl) rfl ?_)
        refine ow1 (op1_l rfl (lo_pick_t (v := .bool _) rfl h7 rfl) ?_)
        refine ow1 (op1_l rfl (lo_move (v := .bool _) rfl) ?_)
        refine ow_sp (j := 26) rfl (fun h9 => ?_) (fun h9 => ?_)
        · refine ow1 (op1_g rfl h9 rfl (lo_fieldAddr rfl fl25_4) ?_)
          refine ow1 (op1_g rfl h9 rfl (lo_load1 (i := 0) (v := str _) rfl ag9 rfl rfl) ?_)
          refine ow1 (op1_g rfl h9 rfl (lo_fieldAddr rfl fl25_4) ?_)
          refine ow1 (op1_g rfl h9 rfl (lo_load1 (i := 1) (v := str _) rfl ag9 rfl rfl) ?_)
          refine ow1 (op1_g rfl h9 rfl (lo_seql rfl rfl) ?_)
          refine ow1 (op1_l rfl (lo_pick_t (v := .bool _) rfl h9 rfl) ?_)
          refine ow1 (op1_l rfl (lo_move (v := .bool _) rfl) ?_)
          refine ow_sp (j := 33) rfl (fun h10 => ?_) (fun h10 => ?_)
          · have p11 := dt h10
            refine ow1 (op1_g rfl h10 rfl (lo_fieldAddr rfl fl25_5) ?_)
            refine ow1 (op1_g rfl h10 rfl (lo_load1 (i := 0) (v := .int _ _) rfl ag22 rfl rfl) ?_)
            refine ow1 (op1_g rfl h10 rfl (lo_fieldAddr rfl fl25_5) ?_)
            refine ow1 (op1_g rfl h10 rfl (lo_load1 (i := 1) (v := .int _ _) rfl ag22 rfl rfl) ?_)
            refine ow1 (op1_g rfl h10 rfl (lo_eql rfl rfl) ?_)
            refine ow1 (op1_l rfl (lo_pick_t (v := .bool _) rfl h10 rfl) ?_)
            refine ow1 (op1_l rfl (lo_move (v := .bool _) rfl) ?_)
            refine ow_sp (j := 40) rfl (fun h12 => ?_) (fun h12 => ?_)
            · have p13 := dt h12
              refine ow1 (op1_g rfl h12 rfl (lo_fieldAddr rfl fl25_6) ?_)
              refine ow1 (op1_g rfl h12 rfl (lo_load1 (i := 0) (v := .int _ _) rfl ag5 rfl rfl) ?_)
              refine ow1 (op1_g rfl h12 rfl (lo_fieldAddr rfl fl25_6) ?_)
              refine ow1 (op1_g rfl h12 rfl (lo_load1 (i := 1) (v := .int _ _) rfl ag5 rfl rfl) ?_)
              refine ow1 (op1_g rfl h12 rfl (lo_eql rfl rfl) ?_)
              refine ow1 (op1_l rfl (lo_pick_t (v := .bool _) rfl h12 rfl) ?_)
              refine ow1 (op1_l rfl (lo_assign (v := .bool _) rfl) ?_)
              refine ow_nil ?_
              refine seqK_n ?_
              refine cw_ret ?_
              refine fnK_r (res1 rfl (rv_t (v := .bool _) rfl)) (.refl _) ?_
              first | (simp [Mail.eq_iff, *]; done)
            · have p14 := df h12
              refine ow1 (op1_gs rfl h12 rfl ?_)
              refine ow1 (op1_gs rfl h12 rfl ?_)
              refine ow1 (op1_gs rfl h12 rfl ?_)
              refine ow1 (op1_gs rfl h12 rfl ?_)
              refine ow1 (op1_gs rfl h12 rfl ?_)
              refine ow1 (op1_l rfl (lo_pick_f (v := .bool _) rfl h12 rfl) ?_)
              refine ow1 (op1_l rfl (lo_assign (v := .bool _) rfl) ?_)
              refine ow_nil ?_
              refine seqK_n ?_
              refine cw_ret ?_
              refine fnK_r (res1 rfl (rv_t (v := .bool _) rfl)) (.refl _) ?_
              first | (simp [Mail.eq_iff, *]; done)
          · have p15 := df h10
            refine ow1 (op1_gs rfl h10 rfl ?_)
            refine ow1 (op1_gs rfl h10 rfl ?_)
            refine ow1 (op1_gs rfl h10 rfl ?_)
            refine ow1 (op1_gs rfl h10 rfl ?_)
            refine ow1 (op1_gs rfl h10 rfl ?_)
            refine ow1 (op1_l rfl (lo_pick_f (v := .bool _) rfl h10 rfl) ?_)
            refine ow1 (op1_l rfl (lo_move (v := .bool _) rfl) ?_)
            refine ow1 (op1_gs rfl rfl rfl ?_)
            refine ow1 (op1_gs rfl rfl rfl ?_)
            refine ow1 (op1_gs rfl rfl rfl ?_)
            refine ow1 (op1_gs rfl rfl rfl ?_)
            refine ow1 (op1_gs rfl rfl rfl ?_)
            refine ow1 (op1_l rfl (lo_pick_f (v := .bool _) rfl rfl rfl) ?_)
            refine ow1 (op1_l rfl (lo_assign (v := .bool _) rfl) ?_)
            refine ow_nil ?_
            refine seqK_n ?_
            refine cw_ret ?_
            refine fnK_r (res1 rfl (rv_t (v := .bool _) rfl)) (.refl _) ?_
            first | (simp [Mail.eq_iff, *]; done)
        · refine ow1 (op1_gs rfl h9 rfl ?_)
          refine ow1 (op1_gs rfl h9 rfl ?_)
          refine ow1 (op1_gs rfl h9 rfl ?_)
          refine ow1 (op1_gs rfl h9 rfl ?_)
          refine ow1 (op1_gs rfl h9 rfl ?_)
          refine ow1 (op1_l rfl (lo_pick_f (v := .bool _) rfl h9 rfl) ?_)
          refine ow1 (op1_l rfl (lo_move (v := .bool _) rfl) ?_)
          refine ow1 (op1_gs rfl rfl rfl ?_)
          refine ow1 (op1_gs rfl rfl rfl ?_)
          refine ow1 (op1_gs rfl rfl rfl ?_)
          refine ow1 (op1_gs rfl rfl rfl ?_)
          refine ow1 (op1_gs rfl rfl rfl ?_)
          refine ow1 (op1_l rfl (lo_pick_f (v := .bool _) rfl rfl rfl) ?_)
          refine ow1 (op1_l rfl (lo_move (v := .bool _) rfl) ?_)
          refine ow1 (op1_gs rfl rfl rfl ?_)
          refine ow1 (op1_gs rfl rfl rfl ?_)
          refine ow1 (op1_gs rfl rfl rfl ?_)
          refine ow1 (op1_gs rfl rfl rfl ?_)
          refine ow1 (op1_gs rfl rfl rfl ?_)
          refine ow1 (op1_l rfl (lo_pick_f (v := .bool _) rfl rfl rfl) ?_)
          refine ow1 (op1_l rfl (lo_assign (v := .bool _) rfl) ?_)
          refine ow_nil ?_
          refine seqK_n ?_
          refine cw_ret ?_
          refine fnK_r (res1 rfl (rv_t (v := .bool _) rfl)) (.refl _) ?_
          first | (simp [Mail.eq_iff, *]; done)
      · have p16 := df h7
        refine ow1 (op1_gs rfl h7 rfl ?_)
        refine ow1 (op1_gs rfl h7 rfl ?_)
        refine ow1 (op1_gs rfl h7 rfl ?_)
        refine ow1 (op1_gs rfl h7 rfl ?_)
        refine ow1 (op1_gs rfl h7 rfl ?_)
        refine ow1 (op1_l rfl (lo_pick_f (v := .bool _) rfl h7 rfl) ?_)
        refine ow1 (op1_l rfl (lo_move (v := .bool _) rfl) ?_)
        refine ow1 (op1_gs rfl rfl rfl ?_)
        refine ow1 (op1_gs rfl rfl rfl ?_)
        refine ow1 (op1_gs rfl rfl rfl ?_)
        refine ow1 (op1_gs rfl rfl rfl ?_)
        refine ow1 (op1_gs rfl rfl rfl ?_)
        refine ow1 (op1_l rfl (lo_pick_f (v := .bool _) rfl rfl rfl) ?_)
        refine ow1 (op1_l rfl (lo_move (v := .bool _) rfl) ?_)
        refine ow1 (op1_gs rfl rfl rfl ?_)
        refine ow1 (op1_gs rfl rfl rfl ?_)
        refine ow1 (op1_gs rfl rfl rfl ?_)
        refine ow1 (op1_gs rfl rfl rfl ?_)
        refine ow1 (op1_gs rfl rfl rfl ?_)
        refine ow1 (op1_l rfl (lo_pick_f (v := .bool _) rfl rfl rfl) ?_)
        refine ow1 (op1_l rfl (lo_move (v := .bool _) rfl) ?_)
        refine ow1 (op1_gs rfl rfl rfl ?_)
        refine ow1 (op1_gs rfl rfl rfl ?_)
        refine ow1 (op1_gs rfl rfl rfl ?_)
        refine ow1 (op1_gs rfl rfl rfl ?_)
        refine ow1 (op1_gs rfl rfl rfl ?_)
        refine ow1 (op1_l rfl (lo_pick_f (v := .bool _) rfl rfl rfl) ?_)
        refine ow1 (op1_l rfl (lo_assign (v := .bool _) rfl) ?_)
        refine ow_nil ?_
        refine seqK_n ?_
        refine cw_ret ?_
        refine fnK_r (res1 rfl (rv_t (v := .bool _) rfl)) (.refl _) ?_
        first | (simp [Mail.eq_iff, *]; done)
    · have p17 := df h5
      refine ow1 (op1_gs rfl h5 rfl ?_)
      refine ow1 (op1_gs rfl h5 rfl ?_)
      refine ow1 (op1_gs rfl h5 rfl ?_)
      refine ow1 (op1_gs rfl h5 rfl ?_)
      refine ow1 (op1_gs rfl h5 rfl ?_)
      refine ow1 (op1_l rfl (lo_pick_f (v := .bool _) rfl h5 rfl) ?_)
      refine ow1 (op1_l rfl (lo_move (v := .bool _) rfl) ?_)
      refine ow1 (op1_gs rfl rfl rfl ?_)
      refine ow1 (op1_gs rfl rfl rfl ?_)
      refine ow1 (op1_gs rfl rfl rfl ?_)
      refine ow1 (op1_gs rfl rfl rfl ?_)
      refine ow1 (op1_gs rfl rfl rfl ?_)
      refine ow1 (op1_l rfl (lo_pick_f (v := .bool _) rfl rfl rfl) ?_)
      refine ow1 (op1_l rfl (lo_move (v := .bool _) rfl) ?_)
      refine ow1 (op1_gs rfl rfl rfl ?_)
      refine ow1 (op1_gs rfl rfl rfl ?_)
      refine ow1 (op1_gs rfl rfl rfl ?_)
      refine ow1 (op1_gs rfl rfl rfl ?_)
      refine ow1 (op1_gs rfl rfl rfl ?_)
      refine ow1 (op1_l rfl (lo_pick_f (v := .bool _) rfl rfl rfl) ?_)
      refine ow1 (op1_l rfl (lo_move (v := .bool _) rfl) ?_)
      refine ow1 (op1_gs rfl rfl rfl ?_)
      refine ow1 (op1_gs rfl rfl rfl ?_)
      refine ow1 (op1_gs rfl rfl rfl ?_)
      refine ow1 (op1_gs rfl rfl rfl ?_)
      refine ow1 (op1_gs rfl rfl rfl ?_)
      refine ow1 (op1_l rfl (lo_pick_f (v := .bool _) rfl rfl rfl) ?_)
      refine ow1 (op1_l rfl (lo_move (v := .bool _) rfl) ?_)
      refine ow1 (op1_gs rfl rfl rfl ?_)
      refine ow1 (op1_gs rfl rfl rfl ?_)
      refine ow1 (op1_gs rfl rfl rfl ?_)
      refine ow1 (op1_gs rfl rfl rfl ?_)
      refine ow1 (op1_gs rfl rfl rfl ?_)
      refine ow1 (op1_l rfl (lo_pick_f (v := .bool _) rfl rfl rfl) ?_)
      refine ow1 (op1_l rfl (lo_assign (v := .bool _) rfl) ?_)
      refine ow_nil ?_
      refine seqK_n ?_
      refine cw_ret ?_
      refine fnK_r (res1 rfl (rv_t (v := .bool _) rfl)) (.refl _) ?_
      first | (simp [Mail.eq_iff, *]; done)
  · have p18 := df h3
    refine ow1 (op1_gs rfl h3 rfl ?_)
    refine ow1 (op1_gs rfl h3 rfl ?_)
    refine ow1 (op1_gs rfl h3 rfl ?_)
    refine ow1 (op1_gs rfl h3 rfl ?_)
    refine ow1 (op1_gs rfl h3 rfl ?_)
    refine ow1 (op1_l rfl (lo_pick_f (v := .bool _) rfl h3 rfl) ?_)
    refine ow1 (op1_l rfl (lo_move (v := .bool _) rfl) ?_)
    refine ow1 (op1_gs rfl rfl rfl ?_)
    refine ow1 (op1_gs rfl rfl rfl ?_)
    refine ow1 (op1_gs rfl rfl rfl ?_)
    refine ow1 (op1_gs rfl rfl rfl ?_)
    refine ow1 (op1_gs rfl rfl rfl ?_)
    refine ow1 (op1_l rfl (lo_pick_f (v := .bool _) rfl rfl rfl) ?_)
    refine ow1 (op1_l rfl (lo_move (v := .bool _) rfl) ?_)
    refine ow1 (op1_gs rfl rfl rfl ?_)
    refine ow1 (op1_gs rfl rfl rfl ?_)
    refine ow1 (op1_gs rfl rfl rfl ?_)
    refine ow1 (op1_gs rfl rfl rfl ?_)
    refine ow1 (op1_gs rfl rfl rfl ?_)
    refine ow1 (op1_l rfl (lo_pick_f (v := .bool _) rfl rfl rfl) ?_)
    refine ow1 (op1_l rfl (lo_move (v := .bool _) rfl) ?_)
    refine ow1 (op1_gs rfl rfl rfl ?_)
    refine ow1 (op1_gs rfl rfl rfl ?_)
    refine ow1 (op1_gs rfl rfl rfl ?_)
    refine ow1 (op1_gs rfl rfl rfl ?_)
    refine ow1 (op1_gs rfl rfl rfl ?_)
    refine ow1 (op1_l rfl (lo_pick_f (v := .bool _) rfl rfl rfl) ?_)
    refine ow1 (op1_l rfl (lo_move (v := .bool _) rfl) ?_)
    refine ow1 (op1_gs rfl rfl rfl ?_)
    refine ow1 (op1_gs rfl rfl rfl ?_)
    refine ow1 (op1_gs rfl rfl rfl ?_)
    refine ow1 (op1_gs rfl rfl rfl ?_)
    refine ow1 (op1_gs rfl rfl rfl ?_)
    refine ow1 (op1_l rfl (lo_pick_f (v := .bool _) rfl rfl rfl) ?_)
    refine ow1 (op1_l rfl (lo_move (v := .bool _) rfl) ?_)
    refine ow1 (op1_gs rfl rfl rfl ?_)
    refine ow1 (op1_gs rfl rfl rfl ?_)
    refine ow1 (op1_gs rfl rfl rfl ?_)
    refine ow1 (op1_gs rfl rfl rfl ?_)
    refine ow1 (op1_gs rfl rfl rfl ?_)
    refine ow1 (op1_l rfl (lo_pick_f (v := .bool _) rfl rfl rfl) ?_)
    refine ow1 (op1_l rfl (lo_assign (v := .bool _) rfl) ?_)
    refine ow_nil ?_
    refine seqK_n ?_
    refine cw_ret ?_
    refine fnK_r (res1 rfl (rv_t (v := .bool _) rfl)) (.refl _) ?_
    first | (simp [Mail.eq_iff, *]; done)

theorem reply_Same (H : Hp) (a : Reply) (a_mail_head_a : Option Addr) (a_mail_head_c : Nat) (a_mail_head_h : SlH pairE 4 H (.slice a_mail_head_a a.mail.head.length a_mail_head_c) a.mail.head) (a_w : Reply.wf a) (b : Reply) (b_mail_head_a : Option Addr) (b_mail_head_c : Nat) (b_mail_head_h : SlH pairE 4 H (.slice b_mail_head_a b.mail.head.length b_mail_head_c) b.mail.head) (b_w : Reply.wf b) : Pr Tryd.prog 10 #[.agg (Reply.cells a a_mail_head_a a_mail_head_c).toArray, .agg (Reply.cells b b_mail_head_a b_mail_head_c).toArray] H (.bool (decide (a = b))) := by
  refine pr_cw Tryd.func10 rfl Tryd.ntmps10 rfl (fun N => ?_)
  have a_w' := a_w
  simp only [Reply.wf, Mail.wf] at a_w'
  have b_w' := b_w
  simp only [Reply.wf, Mail.wf] at b_w'
  refine cw_seq ?_
  refine cw_region ?_
  refine ow1 (op1_box (cs := [_, _, _, _, _, _, _, _, _, _, _, _, _]) 0 rfl rfl (fun b1 => ?_))
  refine ow1 (op1_box (cs := [_, _, _, _, _, _, _, _, _, _, _, _, _]) 1 rfl rfl (fun b2 => ?_))
  refine ow1 (op1_l rfl (lo_assign (v := .bool _) rfl) ?_)
  refine ow_nil ?_
  refine seqK_n ?_
  refine cw_seq ?_
  refine cw_region ?_
  refine ow1 (op1_l rfl (lo_fieldAddr rfl fl27_0) ?_)
  refine ow1 (op1_l rfl (lo_load1 (i := 0) (v := .int _ _) rfl ag5 rfl rfl) ?_)
  refine ow1 (op1_l rfl (lo_fieldAddr rfl fl27_0) ?_)
  refine ow1 (op1_l rfl (lo_load1 (i := 1) (v := .int _ _) rfl ag5 rfl rfl) ?_)
  refine ow1 (op1_l rfl (lo_eql rfl rfl) ?_)
  refine ow1 (op1_l rfl (lo_move (v := .bool _) rfl) ?_)
  refine ow_sp (j := 5) rfl (fun h3 => ?_) (fun h3 => ?_)
  · have p4 := dt h3
    refine ow1 (op1_g rfl h3 rfl (lo_fieldAddr rfl fl27_1) ?_)
    refine ow1 (op1_g rfl h3 rfl (lo_load1 (i := 0) (v := .int _ _) rfl ag5 rfl rfl) ?_)
    refine ow1 (op1_g rfl h3 rfl (lo_fieldAddr rfl fl27_1) ?_)
    refine ow1 (op1_g rfl h3 rfl (lo_load1 (i := 1) (v := .int _ _) rfl ag5 rfl rfl) ?_)
    refine ow1 (op1_g rfl h3 rfl (lo_eql rfl rfl) ?_)
    refine ow1 (op1_l rfl (lo_pick_t (v := .bool _) rfl h3 rfl) ?_)
    refine ow1 (op1_l rfl (lo_move (v := .bool _) rfl) ?_)
    refine ow_sp (j := 12) rfl (fun h5 => ?_) (fun h5 => ?_)
    · have p6 := dt h5
      refine ow1 (op1_g rfl h5 rfl (lo_fieldAddr rfl fl27_2) ?_)
      refine ow1 (op1_g rfl h5 rfl (lo_load1 (i := 0) (v := .int _ _) rfl ag22 rfl rfl) ?_)
      refine ow1 (op1_g rfl h5 rfl (lo_fieldAddr rfl fl27_2) ?_)
      refine ow1 (op1_g rfl h5 rfl (lo_load1 (i := 1) (v := .int _ _) rfl ag22 rfl rfl) ?_)
      refine ow1 (op1_g rfl h5 rfl (lo_eql rfl rfl) ?_)
      refine ow1 (op1_l rfl (lo_pick_t (v := .bool _) rfl h5 rfl) ?_)
      refine ow1 (op1_l rfl (lo_move (v := .bool _) rfl) ?_)
      refine ow_sp (j := 19) rfl (fun h7 => ?_) (fun h7 => ?_)
      · have p8 := dt h7
        refine ow1 (op1_g rfl h7 rfl (lo_fieldAddr rfl fl27_3) ?_)
        refine ow1 (op1_g rfl h7 rfl (lo_load1 (i := 0) (v := .int _ _) rfl ag22 rfl rfl) ?_)
        refine ow1 (op1_g rfl h7 rfl (lo_fieldAddr rfl fl27_3) ?_)
        refine ow1 (op1_g rfl h7 rfl (lo_load1 (i := 1) (v := .int _ _) rfl ag22 rfl rfl) ?_)
        refine ow1 (op1_g rfl h7 rfl (lo_eql rfl rfl) ?_)
        refine ow1 (op1_l rfl (lo_pick_t (v := .bool _) rfl h7 rfl) ?_)
        refine ow1 (op1_l rfl (lo_move (v := .bool _) rfl) ?_)
        refine ow_sp (j := 26) rfl (fun h9 => ?_) (fun h9 => ?_)
        · have p10 := dt h9
          refine ow1 (op1_g rfl h9 rfl (lo_fieldAddr rfl fl27_4) ?_)
          refine ow1 (op1_g rfl h9 rfl (lo_load1 (i := 0) (v := .bool _) rfl ag4 rfl rfl) ?_)
          refine ow1 (op1_g rfl h9 rfl (lo_fieldAddr rfl fl27_4) ?_)
          refine ow1 (op1_g rfl h9 rfl (lo_load1 (i := 1) (v := .bool _) rfl ag4 rfl rfl) ?_)
          refine ow1 (op1_g rfl h9 rfl (lo_beql rfl rfl Tryd.underlying4) ?_)
          refine ow1 (op1_l rfl (lo_pick_t (v := .bool _) rfl h9 rfl) ?_)
          refine ow1 (op1_l rfl (lo_move (v := .bool _) rfl) ?_)
          refine ow_sp (j := 33) rfl (fun h11 => ?_) (fun h11 => ?_)
          · have p12 := beqT h11
            refine ow1 (op1_g rfl h11 rfl (lo_fieldAddr rfl fl27_5) ?_)
            refine ow1 (op1_g rfl h11 rfl (lo_load1 (i := 0) (v := str _) rfl ag9 rfl rfl) ?_)
            refine ow1 (op1_g rfl h11 rfl (lo_fieldAddr rfl fl27_5) ?_)
            refine ow1 (op1_g rfl h11 rfl (lo_load1 (i := 1) (v := str _) rfl ag9 rfl rfl) ?_)
            refine ow1 (op1_g rfl h11 rfl (lo_seql rfl rfl) ?_)
            refine ow1 (op1_l rfl (lo_pick_t (v := .bool _) rfl h11 rfl) ?_)
            refine ow1 (op1_l rfl (lo_move (v := .bool _) rfl) ?_)
            refine ow_sp (j := 40) rfl (fun h13 => ?_) (fun h13 => ?_)
            · have p14 := dt h13
              refine ow1 (op1_g rfl h13 rfl (lo_fieldAddr rfl fl27_6) ?_)
              refine ow1 (op1_g rfl h13 rfl (lo_loadA (i := 0) (vs := [_, _, _, _, _, _, _]) rfl ag25 sz25 rfl rfl rfl) ?_)
              refine ow1 (op1_g rfl h13 rfl (lo_fieldAddr rfl fl27_6) ?_)
              refine ow1 (op1_g rfl h13 rfl (lo_loadA (i := 1) (vs := [_, _, _, _, _, _, _]) rfl ag25 sz25 rfl rfl rfl) ?_)
              refine ow1 (op1_prg rfl h13 (reply_sameMail _ a.mail a_mail_head_a a_mail_head_c a_mail_head_h (by simp only [Mail.wf]; first | omega | (simp; done) | (simp; omega)) b.mail b_mail_head_a b_mail_head_c b_mail_head_h (by simp only [Mail.wf]; first | omega | (simp; done) | (simp; omega))) (en_f cb33 rfl) rfl ?_)
              refine ow1 (op1_l rfl (lo_pick_t (v := .bool _) rfl h13 rfl) ?_)
              refine ow1 (op1_l rfl (lo_assign (v := .bool _) rfl) ?_)
              refine ow_nil ?_
              refine seqK_n ?_
              refine cw_ret ?_
              refine fnK_r (res1 rfl (rv_t (v := .bool _) rfl)) (.refl _) ?_
              first | (simp [Reply.eq_iff, *]; done)
            · have p15 := df h13
              refine ow1 (op1_gs rfl h13 rfl ?_)
              refine ow1 (op1_gs rfl h13 rfl ?_)
              refine ow1 (op1_gs rfl h13 rfl ?_)
              refine ow1 (op1_gs rfl h13 rfl ?_)
              refine ow1 (op1_gs rfl h13 rfl ?_)
              refine ow1 (op1_l rfl (lo_pick_f (v := .bool _) rfl h13 rfl) ?_)
              refine ow1 (op1_l rfl (lo_assign (v := .bool _) rfl) ?_)
              refine ow_nil ?_
              refine seqK_n ?_
              refine cw_ret ?_
              refine fnK_r (res1 rfl (rv_t (v := .bool _) rfl)) (.refl _) ?_
              first | (simp [Reply.eq_iff, *]; done)
          · have p16 := beqF h11
            refine ow1 (op1_gs rfl h11 rfl ?_)
            refine ow1 (op1_gs rfl h11 rfl ?_)
            refine ow1 (op1_gs rfl h11 rfl ?_)
            refine ow1 (op1_gs rfl h11 rfl ?_)
            refine ow1 (op1_gs rfl h11 rfl ?_)
            refine ow1 (op1_l rfl (lo_pick_f (v := .bool _) rfl h11 rfl) ?_)
            refine ow1 (op1_l rfl (lo_move (v := .bool _) rfl) ?_)
            refine ow1 (op1_gs rfl rfl rfl ?_)
            refine ow1 (op1_gs rfl rfl rfl ?_)
            refine ow1 (op1_gs rfl rfl rfl ?_)
            refine ow1 (op1_gs rfl rfl rfl ?_)
            refine ow1 (op1_gs rfl rfl rfl ?_)
            refine ow1 (op1_l rfl (lo_pick_f (v := .bool _) rfl rfl rfl) ?_)
            refine ow1 (op1_l rfl (lo_assign (v := .bool _) rfl) ?_)
            refine ow_nil ?_
            refine seqK_n ?_
            refine cw_ret ?_
            refine fnK_r (res1 rfl (rv_t (v := .bool _) rfl)) (.refl _) ?_
            first | (simp [Reply.eq_iff, *]; done)
        · have p17 := df h9
          refine ow1 (op1_gs rfl h9 rfl ?_)
          refine ow1 (op1_gs rfl h9 rfl ?_)
          refine ow1 (op1_gs rfl h9 rfl ?_)
          refine ow1 (op1_gs rfl h9 rfl ?_)
          refine ow1 (op1_gs rfl h9 rfl ?_)
          refine ow1 (op1_l rfl (lo_pick_f (v := .bool _) rfl h9 rfl) ?_)
          refine ow1 (op1_l rfl (lo_move (v := .bool _) rfl) ?_)
          refine ow1 (op1_gs rfl rfl rfl ?_)
          refine ow1 (op1_gs rfl rfl rfl ?_)
          refine ow1 (op1_gs rfl rfl rfl ?_)
          refine ow1 (op1_gs rfl rfl rfl ?_)
          refine ow1 (op1_gs rfl rfl rfl ?_)
          refine ow1 (op1_l rfl (lo_pick_f (v := .bool _) rfl rfl rfl) ?_)
          refine ow1 (op1_l rfl (lo_move (v := .bool _) rfl) ?_)
          refine ow1 (op1_gs rfl rfl rfl ?_)
          refine ow1 (op1_gs rfl rfl rfl ?_)
          refine ow1 (op1_gs rfl rfl rfl ?_)
          refine ow1 (op1_gs rfl rfl rfl ?_)
          refine ow1 (op1_gs rfl rfl rfl ?_)
          refine ow1 (op1_l rfl (lo_pick_f (v := .bool _) rfl rfl rfl) ?_)
          refine ow1 (op1_l rfl (lo_assign (v := .bool _) rfl) ?_)
          refine ow_nil ?_
          refine seqK_n ?_
          refine cw_ret ?_
          refine fnK_r (res1 rfl (rv_t (v := .bool _) rfl)) (.refl _) ?_
          first | (simp [Reply.eq_iff, *]; done)
      · have p18 := df h7
        refine ow1 (op1_gs rfl h7 rfl ?_)
        refine ow1 (op1_gs rfl h7 rfl ?_)
        refine ow1 (op1_gs rfl h7 rfl ?_)
        refine ow1 (op1_gs rfl h7 rfl ?_)
        refine ow1 (op1_gs rfl h7 rfl ?_)
        refine ow1 (op1_l rfl (lo_pick_f (v := .bool _) rfl h7 rfl) ?_)
        refine ow1 (op1_l rfl (lo_move (v := .bool _) rfl) ?_)
        refine ow1 (op1_gs rfl rfl rfl ?_)
        refine ow1 (op1_gs rfl rfl rfl ?_)
        refine ow1 (op1_gs rfl rfl rfl ?_)
        refine ow1 (op1_gs rfl rfl rfl ?_)
        refine ow1 (op1_gs rfl rfl rfl ?_)
        refine ow1 (op1_l rfl (lo_pick_f (v := .bool _) rfl rfl rfl) ?_)
        refine ow1 (op1_l rfl (lo_move (v := .bool _) rfl) ?_)
        refine ow1 (op1_gs rfl rfl rfl ?_)
        refine ow1 (op1_gs rfl rfl rfl ?_)
        refine ow1 (op1_gs rfl rfl rfl ?_)
        refine ow1 (op1_gs rfl rfl rfl ?_)
        refine ow1 (op1_gs rfl rfl rfl ?_)
        refine ow1 (op1_l rfl (lo_pick_f (v := .bool _) rfl rfl rfl) ?_)
        refine ow1 (op1_l rfl (lo_move (v := .bool _) rfl) ?_)
        refine ow1 (op1_gs rfl rfl rfl ?_)
        refine ow1 (op1_gs rfl rfl rfl ?_)
        refine ow1 (op1_gs rfl rfl rfl ?_)
        refine ow1 (op1_gs rfl rfl rfl ?_)
        refine ow1 (op1_gs rfl rfl rfl ?_)
        refine ow1 (op1_l rfl (lo_pick_f (v := .bool _) rfl rfl rfl) ?_)
        refine ow1 (op1_l rfl (lo_assign (v := .bool _) rfl) ?_)
        refine ow_nil ?_
        refine seqK_n ?_
        refine cw_ret ?_
        refine fnK_r (res1 rfl (rv_t (v := .bool _) rfl)) (.refl _) ?_
        first | (simp [Reply.eq_iff, *]; done)
    · have p19 := df h5
      refine ow1 (op1_gs rfl h5 rfl ?_)
      refine ow1 (op1_gs rfl h5 rfl ?_)
      refine ow1 (op1_gs rfl h5 rfl ?_)
      refine ow1 (op1_gs rfl h5 rfl ?_)
      refine ow1 (op1_gs rfl h5 rfl ?_)
      refine ow1 (op1_l rfl (lo_pick_f (v := .bool _) rfl h5 rfl) ?_)
      refine ow1 (op1_l rfl (lo_move (v := .bool _) rfl) ?_)
      refine ow1 (op1_gs rfl rfl rfl ?_)
      refine ow1 (op1_gs rfl rfl rfl ?_)
      refine ow1 (op1_gs rfl rfl rfl ?_)
      refine ow1 (op1_gs rfl rfl rfl ?_)
      refine ow1 (op1_gs rfl rfl rfl ?_)
      refine ow1 (op1_l rfl (lo_pick_f (v := .bool _) rfl rfl rfl) ?_)
      refine ow1 (op1_l rfl (lo_move (v := .bool _) rfl) ?_)
      refine ow1 (op1_gs rfl rfl rfl ?_)
      refine ow1 (op1_gs rfl rfl rfl ?_)
      refine ow1 (op1_gs rfl rfl rfl ?_)
      refine ow1 (op1_gs rfl rfl rfl ?_)
      refine ow1 (op1_gs rfl rfl rfl ?_)
      refine ow1 (op1_l rfl (lo_pick_f (v := .bool _) rfl rfl rfl) ?_)
      refine ow1 (op1_l rfl (lo_move (v := .bool _) rfl) ?_)
      refine ow1 (op1_gs rfl rfl rfl ?_)
      refine ow1 (op1_gs rfl rfl rfl ?_)
      refine ow1 (op1_gs rfl rfl rfl ?_)
      refine ow1 (op1_gs rfl rfl rfl ?_)
      refine ow1 (op1_gs rfl rfl rfl ?_)
      refine ow1 (op1_l rfl (lo_pick_f (v := .bool _) rfl rfl rfl) ?_)
      refine ow1 (op1_l rfl (lo_move (v := .bool _) rfl) ?_)
      refine ow1 (op1_gs rfl rfl rfl ?_)
      refine ow1 (op1_gs rfl rfl rfl ?_)
      refine ow1 (op1_gs rfl rfl rfl ?_)
      refine ow1 (op1_gs rfl rfl rfl ?_)
      refine ow1 (op1_gs rfl rfl rfl ?_)
      refine ow1 (op1_l rfl (lo_pick_f (v := .bool _) rfl rfl rfl) ?_)
      refine ow1 (op1_l rfl (lo_assign (v := .bool _) rfl) ?_)
      refine ow_nil ?_
      refine seqK_n ?_
      refine cw_ret ?_
      refine fnK_r (res1 rfl (rv_t (v := .bool _) rfl)) (.refl _) ?_
      first | (simp [Reply.eq_iff, *]; done)
  · have p20 := df h3
    refine ow1 (op1_gs rfl h3 rfl ?_)
    refine ow1 (op1_gs rfl h3 rfl ?_)
    refine ow1 (op1_gs rfl h3 rfl ?_)
    refine ow1 (op1_gs rfl h3 rfl ?_)
    refine ow1 (op1_gs rfl h3 rfl ?_)
    refine ow1 (op1_l rfl (lo_pick_f (v := .bool _) rfl h3 rfl) ?_)
    refine ow1 (op1_l rfl (lo_move (v := .bool _) rfl) ?_)
    refine ow1 (op1_gs rfl rfl rfl ?_)
    refine ow1 (op1_gs rfl rfl rfl ?_)
    refine ow1 (op1_gs rfl rfl rfl ?_)
    refine ow1 (op1_gs rfl rfl rfl ?_)
    refine ow1 (op1_gs rfl rfl rfl ?_)
    refine ow1 (op1_l rfl (lo_pick_f (v := .bool _) rfl rfl rfl) ?_)
    refine ow1 (op1_l rfl (lo_move (v := .bool _) rfl) ?_)
    refine ow1 (op1_gs rfl rfl rfl ?_)
    refine ow1 (op1_gs rfl rfl rfl ?_)
    refine ow1 (op1_gs rfl rfl rfl ?_)
    refine ow1 (op1_gs rfl rfl rfl ?_)
    refine ow1 (op1_gs rfl rfl rfl ?_)
    refine ow1 (op1_l rfl (lo_pick_f (v := .bool _) rfl rfl rfl) ?_)
    refine ow1 (op1_l rfl (lo_move (v := .bool _) rfl) ?_)
    refine ow1 (op1_gs rfl rfl rfl ?_)
    refine ow1 (op1_gs rfl rfl rfl ?_)
    refine ow1 (op1_gs rfl rfl rfl ?_)
    refine ow1 (op1_gs rfl rfl rfl ?_)
    refine ow1 (op1_gs rfl rfl rfl ?_)
    refine ow1 (op1_l rfl (lo_pick_f (v := .bool _) rfl rfl rfl) ?_)
    refine ow1 (op1_l rfl (lo_move (v := .bool _) rfl) ?_)
    refine ow1 (op1_gs rfl rfl rfl ?_)
    refine ow1 (op1_gs rfl rfl rfl ?_)
    refine ow1 (op1_gs rfl rfl rfl ?_)
    refine ow1 (op1_gs rfl rfl rfl ?_)
    refine ow1 (op1_gs rfl rfl rfl ?_)
    refine ow1 (op1_l rfl (lo_pick_f (v := .bool _) rfl rfl rfl) ?_)
    refine ow1 (op1_l rfl (lo_move (v := .bool _) rfl) ?_)
    refine ow1 (op1_gs rfl rfl rfl ?_)
    refine ow1 (op1_gs rfl rfl rfl ?_)
    refine ow1 (op1_gs rfl rfl rfl ?_)
    refine ow1 (op1_gs rfl rfl rfl ?_)
    refine ow1 (op1_gs rfl rfl rfl ?_)
    refine ow1 (op1_l rfl (lo_pick_f (v := .bool _) rfl rfl rfl) ?_)
    refine ow1 (op1_l rfl (lo_assign (v := .bool _) rfl) ?_)
    refine ow_nil ?_
    refine seqK_n ?_
    refine cw_ret ?_
    refine fnK_r (res1 rfl (rv_t (v := .bool _) rfl)) (.refl _) ?_
    first | (simp [Reply.eq_iff, *]; done)

theorem r12_SameMail (H : Hp) (a : Mail) (a_head_a : Option Addr) (a_head_c : Nat) (a_head_h : SlH pairE 4 H (.slice a_head_a a.head.length a_head_c) a.head) (a_w : Mail.wf a) (b : Mail) (b_head_a : Option Addr) (b_head_c : Nat) (b_head_h : SlH pairE 4 H (.slice b_head_a b.head.length b_head_c) b.head) (b_w : Mail.wf b) : Pr Tryd.prog 34 #[.agg (Mail.cells a a_head_a a_head_c).toArray, .agg (Mail.cells b b_head_a b_head_c).toArray] H (.bool (decide (a = b))) := by
  refine pr_cw Tryd.func34 rfl Tryd.ntmps34 rfl (fun N => ?_)
  have a_w' := a_w
  simp only [Mail.wf] at a_w'
  have b_w' := b_w
  simp only [Mail.wf] at b_w'
  refine cw_seq ?_
  refine cw_region ?_
  refine ow1 (op1_box (cs := [_, _, _, _, _, _, _]) 0 rfl rfl (fun b1 => ?_))
  refine ow1 (op1_box (cs := [_, _, _, _, _, _, _]) 1 rfl rfl (fun b2 => ?_))
  refine ow1 (op1_l rfl (lo_assign (v := .bool _) rfl) ?_)
  refine ow_nil ?_
  refine seqK_n ?_
  refine cw_seq ?_
  refine cw_region ?_
  refine ow1 (op1_l rfl (lo_fieldAddr rfl fl25_0) ?_)
  refine ow1 (op1_l rfl (lo_load1 (i := 0) (v := .int _ _) rfl ag22 rfl rfl) ?_)
  refine ow1 (op1_l rfl (lo_fieldAddr rfl fl25_0) ?_)
  refine ow1 (op1_l rfl (lo_load1 (i := 1) (v := .int _ _) rfl ag22 rfl rfl) ?_)
  refine ow1 (op1_l rfl (lo_eql rfl rfl) ?_)
  refine ow1 (op1_l rfl (lo_move (v := .bool _) rfl) ?_)
  refine ow_sp (j := 5) rfl (fun h3 => ?_) (fun h3 => ?_)
  · have p4 := dt h3
    refine ow1 (op1_g rfl h3 rfl (lo_fieldAddr rfl fl25_1) ?_)
    refine ow1 (op1_g rfl h3 rfl (lo_load1 (i := 0) (v := str _) rfl ag9 rfl rfl) ?_)
    refine ow1 (op1_g rfl h3 rfl (lo_fieldAddr rfl fl25_1) ?_)
    refine ow1 (op1_g rfl h3 rfl (lo_load1 (i := 1) (v := str _) rfl ag9 rfl rfl) ?_)
    refine ow1 (op1_g rfl h3 rfl (lo_seql rfl rfl) ?_)
    refine ow1 (op1_l rfl (lo_pick_t (v := .bool _) rfl h3 rfl) ?_)
    refine ow1 (op1_l rfl (lo_move (v := .bool _) rfl) ?_)
    refine ow_sp (j := 12) rfl (fun h5 => ?_) (fun h5 => ?_)
    · have p6 := dt h5
      refine ow1 (op1_g rfl h5 rfl (lo_fieldAddr rfl fl25_2) ?_)
      refine ow1 (op1_g rfl h5 rfl (lo_load1 (i := 0) (v := str _) rfl ag9 rfl rfl) ?_)
      refine ow1 (op1_g rfl h5 rfl (lo_fieldAddr rfl fl25_2) ?_)
      refine ow1 (op1_g rfl h5 rfl (lo_load1 (i := 1) (v := str _) rfl ag9 rfl rfl) ?_)
      refine ow1 (op1_g rfl h5 rfl (lo_seql rfl rfl) ?_)
      refine ow1 (op1_l rfl (lo_pick_t (v := .bool _) rfl h5 rfl) ?_)
      refine ow1 (op1_l rfl (lo_move (v := .bool _) rfl) ?_)
      refine ow_sp (j := 19) rfl (fun h7 => ?_) (fun h7 => ?_)
      · have p8 := dt h7
        refine ow1 (op1_g rfl h7 rfl (lo_fieldAddr rfl fl25_3) ?_)
        refine ow1 (op1_g rfl h7 rfl (lo_load1 (i := 0) (v := .slice _ _ _) rfl ag23 rfl rfl) ?_)
        refine ow1 (op1_g rfl h7 rfl (lo_fieldAddr rfl fl25_3) ?_)
        refine ow1 (op1_g rfl h7 rfl (lo_load1 (i := 1) (v := .slice _ _ _) rfl ag23 rfl rfl) ?_)
        refine ow1 (op1_prg rfl h7 (r9_Same _ a_head_a a.head.length a_head_c a.head a_head_h b_head_a b.head.length b_head_c b.head b_head_h (by first | omega | (simp <;> omega))) (en_f cb63 rfl) rfl ?_)
        refine ow1 (op1_l rfl (lo_pick_t (v := .bool _) rfl h7 rfl) ?_)
        refine ow1 (op1_l rfl (lo_move (v := .bool _) rfl) ?_)
        refine ow_sp (j := 26) rfl (fun h9 => ?_) (fun h9 => ?_)
        · refine ow1 (op1_g rfl h9 rfl (lo_fieldAddr rfl fl25_4) ?_)
          refine ow1 (op1_g rfl h9 rfl (lo_load1 (i := 0) (v := str _) rfl ag9 rfl rfl) ?_)
          refine ow1 (op1_g rfl h9 rfl (lo_fieldAddr rfl fl25_4) ?_)
          refine ow1 (op1_g rfl h9 rfl (lo_load1 (i := 1) (v := str _) rfl ag9 rfl rfl) ?_)
          refine ow1 (op1_g rfl h9 rfl (lo_seql rfl rfl) ?_)
          refine ow1 (op1_l rfl (lo_pick_t (v := .bool _) rfl h9 rfl) ?_)
          refine ow1 (op1_l rfl (lo_move (v := .bool _) rfl) ?_)
          refine ow_sp (j := 33) rfl (fun h10 => ?_) (fun h10 => ?_)
          · have p11 := dt h10
            refine ow1 (op1_g rfl h10 rfl (lo_fieldAddr rfl fl25_5) ?_)
            refine ow1 (op1_g rfl h10 rfl (lo_load1 (i := 0) (v := .int _ _) rfl ag22 rfl rfl) ?_)
            refine ow1 (op1_g rfl h10 rfl (lo_fieldAddr rfl fl25_5) ?_)
            refine ow1 (op1_g rfl h10 rfl (lo_load1 (i := 1) (v := .int _ _) rfl ag22 rfl rfl) ?_)
            refine ow1 (op1_g rfl h10 rfl (lo_eql rfl rfl) ?_)
            refine ow1 (op1_l rfl (lo_pick_t (v := .bool _) rfl h10 rfl) ?_)
            refine ow1 (op1_l rfl (lo_move (v := .bool _) rfl) ?_)
            refine ow_sp (j := 40) rfl (fun h12 => ?_) (fun h12 => ?_)
            · have p13 := dt h12
              refine ow1 (op1_g rfl h12 rfl (lo_fieldAddr rfl fl25_6) ?_)
              refine ow1 (op1_g rfl h12 rfl (lo_load1 (i := 0) (v := .int _ _) rfl ag5 rfl rfl) ?_)
              refine ow1 (op1_g rfl h12 rfl (lo_fieldAddr rfl fl25_6) ?_)
              refine ow1 (op1_g rfl h12 rfl (lo_load1 (i := 1) (v := .int _ _) rfl ag5 rfl rfl) ?_)
              refine ow1 (op1_g rfl h12 rfl (lo_eql rfl rfl) ?_)
              refine ow1 (op1_l rfl (lo_pick_t (v := .bool _) rfl h12 rfl) ?_)
              refine ow1 (op1_l rfl (lo_assign (v := .bool _) rfl) ?_)
              refine ow_nil ?_
              refine seqK_n ?_
              refine cw_ret ?_
              refine fnK_r (res1 rfl (rv_t (v := .bool _) rfl)) (.refl _) ?_
              first | (simp [Mail.eq_iff, *]; done)
            · have p14 := df h12
              refine ow1 (op1_gs rfl h12 rfl ?_)
              refine ow1 (op1_gs rfl h12 rfl ?_)
              refine ow1 (op1_gs rfl h12 rfl ?_)
              refine ow1 (op1_gs rfl h12 rfl ?_)
              refine ow1 (op1_gs rfl h12 rfl ?_)
              refine ow1 (op1_l rfl (lo_pick_f (v := .bool _) rfl h12 rfl) ?_)
              refine ow1 (op1_l rfl (lo_assign (v := .bool _) rfl) ?_)
              refine ow_nil ?_
              refine seqK_n ?_
              refine cw_ret ?_
              refine fnK_r (res1 rfl (rv_t (v := .bool _) rfl)) (.refl _) ?_
              first | (simp [Mail.eq_iff, *]; done)
          · have p15 := df h10
            refine ow1 (op1_gs rfl h10 rfl ?_)
            refine ow1 (op1_gs rfl h10 rfl ?_)
            refine ow1 (op1_gs rfl h10 rfl ?_)
            refine ow1 (op1_gs rfl h10 rfl ?_)
            refine ow1 (op1_gs rfl h10 rfl ?_)
            refine ow1 (op1_l rfl (lo_pick_f (v := .bool _) rfl h10 rfl) ?_)
            refine ow1 (op1_l rfl (lo_move (v := .bool _) rfl) ?_)
            refine ow1 (op1_gs rfl rfl rfl ?_)
            refine ow1 (op1_gs rfl rfl rfl ?_)
            refine ow1 (op1_gs rfl rfl rfl ?_)
            refine ow1 (op1_gs rfl rfl rfl ?_)
            refine ow1 (op1_gs rfl rfl rfl ?_)
            refine ow1 (op1_l rfl (lo_pick_f (v := .bool _) rfl rfl rfl) ?_)
            refine ow1 (op1_l rfl (lo_assign (v := .bool _) rfl) ?_)
            refine ow_nil ?_
            refine seqK_n ?_
            refine cw_ret ?_
            refine fnK_r (res1 rfl (rv_t (v := .bool _) rfl)) (.refl _) ?_
            first | (simp [Mail.eq_iff, *]; done)
        · refine ow1 (op1_gs rfl h9 rfl ?_)
          refine ow1 (op1_gs rfl h9 rfl ?_)
          refine ow1 (op1_gs rfl h9 rfl ?_)
          refine ow1 (op1_gs rfl h9 rfl ?_)
          refine ow1 (op1_gs rfl h9 rfl ?_)
          refine ow1 (op1_l rfl (lo_pick_f (v := .bool _) rfl h9 rfl) ?_)
          refine ow1 (op1_l rfl (lo_move (v := .bool _) rfl) ?_)
          refine ow1 (op1_gs rfl rfl rfl ?_)
          refine ow1 (op1_gs rfl rfl rfl ?_)
          refine ow1 (op1_gs rfl rfl rfl ?_)
          refine ow1 (op1_gs rfl rfl rfl ?_)
          refine ow1 (op1_gs rfl rfl rfl ?_)
          refine ow1 (op1_l rfl (lo_pick_f (v := .bool _) rfl rfl rfl) ?_)
          refine ow1 (op1_l rfl (lo_move (v := .bool _) rfl) ?_)
          refine ow1 (op1_gs rfl rfl rfl ?_)
          refine ow1 (op1_gs rfl rfl rfl ?_)
          refine ow1 (op1_gs rfl rfl rfl ?_)
          refine ow1 (op1_gs rfl rfl rfl ?_)
          refine ow1 (op1_gs rfl rfl rfl ?_)
          refine ow1 (op1_l rfl (lo_pick_f (v := .bool _) rfl rfl rfl) ?_)
          refine ow1 (op1_l rfl (lo_assign (v := .bool _) rfl) ?_)
          refine ow_nil ?_
          refine seqK_n ?_
          refine cw_ret ?_
          refine fnK_r (res1 rfl (rv_t (v := .bool _) rfl)) (.refl _) ?_
          first | (simp [Mail.eq_iff, *]; done)
      · have p16 := df h7
        refine ow1 (op1_gs rfl h7 rfl ?_)
        refine ow1 (op1_gs rfl h7 rfl ?_)
        refine ow1 (op1_gs rfl h7 rfl ?_)
        refine ow1 (op1_gs rfl h7 rfl ?_)
        refine ow1 (op1_gs rfl h7 rfl ?_)
        refine ow1 (op1_l rfl (lo_pick_f (v := .bool _) rfl h7 rfl) ?_)
        refine ow1 (op1_l rfl (lo_move (v := .bool _) rfl) ?_)
        refine ow1 (op1_gs rfl rfl rfl ?_)
        refine ow1 (op1_gs rfl rfl rfl ?_)
        refine ow1 (op1_gs rfl rfl rfl ?_)
        refine ow1 (op1_gs rfl rfl rfl ?_)
        refine ow1 (op1_gs rfl rfl rfl ?_)
        refine ow1 (op1_l rfl (lo_pick_f (v := .bool _) rfl rfl rfl) ?_)
        refine ow1 (op1_l rfl (lo_move (v := .bool _) rfl) ?_)
        refine ow1 (op1_gs rfl rfl rfl ?_)
        refine ow1 (op1_gs rfl rfl rfl ?_)
        refine ow1 (op1_gs rfl rfl rfl ?_)
        refine ow1 (op1_gs rfl rfl rfl ?_)
        refine ow1 (op1_gs rfl rfl rfl ?_)
        refine ow1 (op1_l rfl (lo_pick_f (v := .bool _) rfl rfl rfl) ?_)
        refine ow1 (op1_l rfl (lo_move (v := .bool _) rfl) ?_)
        refine ow1 (op1_gs rfl rfl rfl ?_)
        refine ow1 (op1_gs rfl rfl rfl ?_)
        refine ow1 (op1_gs rfl rfl rfl ?_)
        refine ow1 (op1_gs rfl rfl rfl ?_)
        refine ow1 (op1_gs rfl rfl rfl ?_)
        refine ow1 (op1_l rfl (lo_pick_f (v := .bool _) rfl rfl rfl) ?_)
        refine ow1 (op1_l rfl (lo_assign (v := .bool _) rfl) ?_)
        refine ow_nil ?_
        refine seqK_n ?_
        refine cw_ret ?_
        refine fnK_r (res1 rfl (rv_t (v := .bool _) rfl)) (.refl _) ?_
        first | (simp [Mail.eq_iff, *]; done)
    · have p17 := df h5
      refine ow1 (op1_gs rfl h5 rfl ?_)
      refine ow1 (op1_gs rfl h5 rfl ?_)
      refine ow1 (op1_gs rfl h5 rfl ?_)
      refine ow1 (op1_gs rfl h5 rfl ?_)
      refine ow1 (op1_gs rfl h5 rfl ?_)
      refine ow1 (op1_l rfl (lo_pick_f (v := .bool _) rfl h5 rfl) ?_)
      refine ow1 (op1_l rfl (lo_move (v := .bool _) rfl) ?_)
      refine ow1 (op1_gs rfl rfl rfl ?_)
      refine ow1 (op1_gs rfl rfl rfl ?_)
      refine ow1 (op1_gs rfl rfl rfl ?_)
      refine ow1 (op1_gs rfl rfl rfl ?_)
      refine ow1 (op1_gs rfl rfl rfl ?_)
      refine ow1 (op1_l rfl (lo_pick_f (v := .bool _) rfl rfl rfl) ?_)
      refine ow1 (op1_l rfl (lo_move (v := .bool _) rfl) ?_)
      refine ow1 (op1_gs rfl rfl rfl ?_)
      refine ow1 (op1_gs rfl rfl rfl ?_)
      refine ow1 (op1_gs rfl rfl rfl ?_)
      refine ow1 (op1_gs rfl rfl rfl ?_)
      refine ow1 (op1_gs rfl rfl rfl ?_)
      refine ow1 (op1_l rfl (lo_pick_f (v := .bool _) rfl rfl rfl) ?_)
      refine ow1 (op1_l rfl (lo_move (v := .bool _) rfl) ?_)
      refine ow1 (op1_gs rfl rfl rfl ?_)
      refine ow1 (op1_gs rfl rfl rfl ?_)
      refine ow1 (op1_gs rfl rfl rfl ?_)
      refine ow1 (op1_gs rfl rfl rfl ?_)
      refine ow1 (op1_gs rfl rfl rfl ?_)
      refine ow1 (op1_l rfl (lo_pick_f (v := .bool _) rfl rfl rfl) ?_)
      refine ow1 (op1_l rfl (lo_move (v := .bool _) rfl) ?_)
      refine ow1 (op1_gs rfl rfl rfl ?_)
      refine ow1 (op1_gs rfl rfl rfl ?_)
      refine ow1 (op1_gs rfl rfl rfl ?_)
      refine ow1 (op1_gs rfl rfl rfl ?_)
      refine ow1 (op1_gs rfl rfl rfl ?_)
      refine ow1 (op1_l rfl (lo_pick_f (v := .bool _) rfl rfl rfl) ?_)
      refine ow1 (op1_l rfl (lo_assign (v := .bool _) rfl) ?_)
      refine ow_nil ?_
      refine seqK_n ?_
      refine cw_ret ?_
      refine fnK_r (res1 rfl (rv_t (v := .bool _) rfl)) (.refl _) ?_
      first | (simp [Mail.eq_iff, *]; done)
  · have p18 := df h3
    refine ow1 (op1_gs rfl h3 rfl ?_)
    refine ow1 (op1_gs rfl h3 rfl ?_)
    refine ow1 (op1_gs rfl h3 rfl ?_)
    refine ow1 (op1_gs rfl h3 rfl ?_)
    refine ow1 (op1_gs rfl h3 rfl ?_)
    refine ow1 (op1_l rfl (lo_pick_f (v := .bool _) rfl h3 rfl) ?_)
    refine ow1 (op1_l rfl (lo_move (v := .bool _) rfl) ?_)
    refine ow1 (op1_gs rfl rfl rfl ?_)
    refine ow1 (op1_gs rfl rfl rfl ?_)
    refine ow1 (op1_gs rfl rfl rfl ?_)
    refine ow1 (op1_gs rfl rfl rfl ?_)
    refine ow1 (op1_gs rfl rfl rfl ?_)
    refine ow1 (op1_l rfl (lo_pick_f (v := .bool _) rfl rfl rfl) ?_)
    refine ow1 (op1_l rfl (lo_move (v := .bool _) rfl) ?_)
    refine ow1 (op1_gs rfl rfl rfl ?_)
    refine ow1 (op1_gs rfl rfl rfl ?_)
    refine ow1 (op1_gs rfl rfl rfl ?_)
    refine ow1 (op1_gs rfl rfl rfl ?_)
    refine ow1 (op1_gs rfl rfl rfl ?_)
    refine ow1 (op1_l rfl (lo_pick_f (v := .bool _) rfl rfl rfl) ?_)
    refine ow1 (op1_l rfl (lo_move (v := .bool _) rfl) ?_)
    refine ow1 (op1_gs rfl rfl rfl ?_)
    refine ow1 (op1_gs rfl rfl rfl ?_)
    refine ow1 (op1_gs rfl rfl rfl ?_)
    refine ow1 (op1_gs rfl rfl rfl ?_)
    refine ow1 (op1_gs rfl rfl rfl ?_)
    refine ow1 (op1_l rfl (lo_pick_f (v := .bool _) rfl rfl rfl) ?_)
    refine ow1 (op1_l rfl (lo_move (v := .bool _) rfl) ?_)
    refine ow1 (op1_gs rfl rfl rfl ?_)
    refine ow1 (op1_gs rfl rfl rfl ?_)
    refine ow1 (op1_gs rfl rfl rfl ?_)
    refine ow1 (op1_gs rfl rfl rfl ?_)
    refine ow1 (op1_gs rfl rfl rfl ?_)
    refine ow1 (op1_l rfl (lo_pick_f (v := .bool _) rfl rfl rfl) ?_)
    refine ow1 (op1_l rfl (lo_move (v := .bool _) rfl) ?_)
    refine ow1 (op1_gs rfl rfl rfl ?_)
    refine ow1 (op1_gs rfl rfl rfl ?_)
    refine ow1 (op1_gs rfl rfl rfl ?_)
    refine ow1 (op1_gs rfl rfl rfl ?_)
    refine ow1 (op1_gs rfl rfl rfl ?_)
    refine ow1 (op1_l rfl (lo_pick_f (v := .bool _) rfl rfl rfl) ?_)
    refine ow1 (op1_l rfl (lo_assign (v := .bool _) rfl) ?_)
    refine ow_nil ?_
    refine seqK_n ?_
    refine cw_ret ?_
    refine fnK_r (res1 rfl (rv_t (v := .bool _) rfl)) (.refl _) ?_
    first | (simp [Mail.eq_iff, *]; done)

theorem r12_Same (H : Hp) (a : Reply) (a_mail_head_a : Option Addr) (a_mail_head_c : Nat) (a_mail_head_h : SlH pairE 4 H (.slice a_mail_head_a a.mail.head.length a_mail_head_c) a.mail.head) (a_w : Reply.wf a) (b : Reply) (b_mail_head_a : Option Addr) (b_mail_head_c : Nat) (b_mail_head_h : SlH pairE 4 H (.slice b_mail_head_a b.mail.head.length b_mail_head_c) b.mail.head) (b_w : Reply.wf b) : Pr Tryd.prog 11 #[.agg (Reply.cells a a_mail_head_a a_mail_head_c).toArray, .agg (Reply.cells b b_mail_head_a b_mail_head_c).toArray] H (.bool (decide (a = b))) := by
  refine pr_cw Tryd.func11 rfl Tryd.ntmps11 rfl (fun N => ?_)
  have a_w' := a_w
  simp only [Reply.wf, Mail.wf] at a_w'
  have b_w' := b_w
  simp only [Reply.wf, Mail.wf] at b_w'
  refine cw_seq ?_
  refine cw_region ?_
  refine ow1 (op1_box (cs := [_, _, _, _, _, _, _, _, _, _, _, _, _]) 0 rfl rfl (fun b1 => ?_))
  refine ow1 (op1_box (cs := [_, _, _, _, _, _, _, _, _, _, _, _, _]) 1 rfl rfl (fun b2 => ?_))
  refine ow1 (op1_l rfl (lo_assign (v := .bool _) rfl) ?_)
  refine ow_nil ?_
  refine seqK_n ?_
  refine cw_seq ?_
  refine cw_region ?_
  refine ow1 (op1_l rfl (lo_fieldAddr rfl fl32_0) ?_)
  refine ow1 (op1_l rfl (lo_load1 (i := 0) (v := .int _ _) rfl ag5 rfl rfl) ?_)
  refine ow1 (op1_l rfl (lo_fieldAddr rfl fl32_0) ?_)
  refine ow1 (op1_l rfl (lo_load1 (i := 1) (v := .int _ _) rfl ag5 rfl rfl) ?_)
  refine ow1 (op1_l rfl (lo_eql rfl rfl) ?_)
  refine ow1 (op1_l rfl (lo_move (v := .bool _) rfl) ?_)
  refine ow_sp (j := 5) rfl (fun h3 => ?_) (fun h3 => ?_)
  · have p4 := dt h3
    refine ow1 (op1_g rfl h3 rfl (lo_fieldAddr rfl fl32_1) ?_)
    refine ow1 (op1_g rfl h3 rfl (lo_load1 (i := 0) (v := .int _ _) rfl ag5 rfl rfl) ?_)
    refine ow1 (op1_g rfl h3 rfl (lo_fieldAddr rfl fl32_1) ?_)
    refine ow1 (op1_g rfl h3 rfl (lo_load1 (i := 1) (v := .int _ _) rfl ag5 rfl rfl) ?_)
    refine ow1 (op1_g rfl h3 rfl (lo_eql rfl rfl) ?_)
    refine ow1 (op1_l rfl (lo_pick_t (v := .bool _) rfl h3 rfl) ?_)
    refine ow1 (op1_l rfl (lo_move (v := .bool _) rfl) ?_)
    refine ow_sp (j := 12) rfl (fun h5 => ?_) (fun h5 => ?_)
    · have p6 := dt h5
      refine ow1 (op1_g rfl h5 rfl (lo_fieldAddr rfl fl32_2) ?_)
      refine ow1 (op1_g rfl h5 rfl (lo_load1 (i := 0) (v := .int _ _) rfl ag22 rfl rfl) ?_)
      refine ow1 (op1_g rfl h5 rfl (lo_fieldAddr rfl fl32_2) ?_)
      refine ow1 (op1_g rfl h5 rfl (lo_load1 (i := 1) (v := .int _ _) rfl ag22 rfl rfl) ?_)
      refine ow1 (op1_g rfl h5 rfl (lo_eql rfl rfl) ?_)
      refine ow1 (op1_l rfl (lo_pick_t (v := .bool _) rfl h5 rfl) ?_)
      refine ow1 (op1_l rfl (lo_move (v := .bool _) rfl) ?_)
      refine ow_sp (j := 19) rfl (fun h7 => ?_) (fun h7 => ?_)
      · have p8 := dt h7
        refine ow1 (op1_g rfl h7 rfl (lo_fieldAddr rfl fl32_3) ?_)
        refine ow1 (op1_g rfl h7 rfl (lo_load1 (i := 0) (v := .int _ _) rfl ag22 rfl rfl) ?_)
        refine ow1 (op1_g rfl h7 rfl (lo_fieldAddr rfl fl32_3) ?_)
        refine ow1 (op1_g rfl h7 rfl (lo_load1 (i := 1) (v := .int _ _) rfl ag22 rfl rfl) ?_)
        refine ow1 (op1_g rfl h7 rfl (lo_eql rfl rfl) ?_)
        refine ow1 (op1_l rfl (lo_pick_t (v := .bool _) rfl h7 rfl) ?_)
        refine ow1 (op1_l rfl (lo_move (v := .bool _) rfl) ?_)
        refine ow_sp (j := 26) rfl (fun h9 => ?_) (fun h9 => ?_)
        · have p10 := dt h9
          refine ow1 (op1_g rfl h9 rfl (lo_fieldAddr rfl fl32_4) ?_)
          refine ow1 (op1_g rfl h9 rfl (lo_load1 (i := 0) (v := .bool _) rfl ag4 rfl rfl) ?_)
          refine ow1 (op1_g rfl h9 rfl (lo_fieldAddr rfl fl32_4) ?_)
          refine ow1 (op1_g rfl h9 rfl (lo_load1 (i := 1) (v := .bool _) rfl ag4 rfl rfl) ?_)
          refine ow1 (op1_g rfl h9 rfl (lo_beql rfl rfl Tryd.underlying4) ?_)
          refine ow1 (op1_l rfl (lo_pick_t (v := .bool _) rfl h9 rfl) ?_)
          refine ow1 (op1_l rfl (lo_move (v := .bool _) rfl) ?_)
          refine ow_sp (j := 33) rfl (fun h11 => ?_) (fun h11 => ?_)
          · have p12 := beqT h11
            refine ow1 (op1_g rfl h11 rfl (lo_fieldAddr rfl fl32_5) ?_)
            refine ow1 (op1_g rfl h11 rfl (lo_load1 (i := 0) (v := str _) rfl ag9 rfl rfl) ?_)
            refine ow1 (op1_g rfl h11 rfl (lo_fieldAddr rfl fl32_5) ?_)
            refine ow1 (op1_g rfl h11 rfl (lo_load1 (i := 1) (v := str _) rfl ag9 rfl rfl) ?_)
            refine ow1 (op1_g rfl h11 rfl (lo_seql rfl rfl) ?_)
            refine ow1 (op1_l rfl (lo_pick_t (v := .bool _) rfl h11 rfl) ?_)
            refine ow1 (op1_l rfl (lo_move (v := .bool _) rfl) ?_)
            refine ow_sp (j := 40) rfl (fun h13 => ?_) (fun h13 => ?_)
            · have p14 := dt h13
              refine ow1 (op1_g rfl h13 rfl (lo_fieldAddr rfl fl32_6) ?_)
              refine ow1 (op1_g rfl h13 rfl (lo_loadA (i := 0) (vs := [_, _, _, _, _, _, _]) rfl ag25 sz25 rfl rfl rfl) ?_)
              refine ow1 (op1_g rfl h13 rfl (lo_fieldAddr rfl fl32_6) ?_)
              refine ow1 (op1_g rfl h13 rfl (lo_loadA (i := 1) (vs := [_, _, _, _, _, _, _]) rfl ag25 sz25 rfl rfl rfl) ?_)
              refine ow1 (op1_prg rfl h13 (r12_SameMail _ a.mail a_mail_head_a a_mail_head_c a_mail_head_h (by simp only [Mail.wf]; first | omega | (simp; done) | (simp; omega)) b.mail b_mail_head_a b_mail_head_c b_mail_head_h (by simp only [Mail.wf]; first | omega | (simp; done) | (simp; omega))) (en_f cb34 rfl) rfl ?_)
              refine ow1 (op1_l rfl (lo_pick_t (v := .bool _) rfl h13 rfl) ?_)
              refine ow1 (op1_l rfl (lo_assign (v := .bool _) rfl) ?_)
              refine ow_nil ?_
              refine seqK_n ?_
              refine cw_ret ?_
              refine fnK_r (res1 rfl (rv_t (v := .bool _) rfl)) (.refl _) ?_
              first | (simp [Reply.eq_iff, *]; done)
            · have p15 := df h13
              refine ow1 (op1_gs rfl h13 rfl ?_)
              refine ow1 (op1_gs rfl h13 rfl ?_)
              refine ow1 (op1_gs rfl h13 rfl ?_)
              refine ow1 (op1_gs rfl h13 rfl ?_)
              refine ow1 (op1_gs rfl h13 rfl ?_)
              refine ow1 (op1_l rfl (lo_pick_f (v := .bool _) rfl h13 rfl) ?_)
              refine ow1 (op1_l rfl (lo_assign (v := .bool _) rfl) ?_)
              refine ow_nil ?_
              refine seqK_n ?_
              refine cw_ret ?_
              refine fnK_r (res1 rfl (rv_t (v := .bool _) rfl)) (.refl _) ?_
              first | (simp [Reply.eq_iff, *]; done)
          · have p16 := beqF h11
            refine ow1 (op1_gs rfl h11 rfl ?_)
            refine ow1 (op1_gs rfl h11 rfl ?_)
            refine ow1 (op1_gs rfl h11 rfl ?_)
            refine ow1 (op1_gs rfl h11 rfl ?_)
            refine ow1 (op1_gs rfl h11 rfl ?_)
            refine ow1 (op1_l rfl (lo_pick_f (v := .bool _) rfl h11 rfl) ?_)
            refine ow1 (op1_l rfl (lo_move (v := .bool _) rfl) ?_)
            refine ow1 (op1_gs rfl rfl rfl ?_)
            refine ow1 (op1_gs rfl rfl rfl ?_)
            refine ow1 (op1_gs rfl rfl rfl ?_)
            refine ow1 (op1_gs rfl rfl rfl ?_)
            refine ow1 (op1_gs rfl rfl rfl ?_)
            refine ow1 (op1_l rfl (lo_pick_f (v := .bool _) rfl rfl rfl) ?_)
            refine ow1 (op1_l rfl (lo_assign (v := .bool _) rfl) ?_)
            refine ow_nil ?_
            refine seqK_n ?_
            refine cw_ret ?_
            refine fnK_r (res1 rfl (rv_t (v := .bool _) rfl)) (.refl _) ?_
            first | (simp [Reply.eq_iff, *]; done)
        · have p17 := df h9
          refine ow1 (op1_gs rfl h9 rfl ?_)
          refine ow1 (op1_gs rfl h9 rfl ?_)
          refine ow1 (op1_gs rfl h9 rfl ?_)
          refine ow1 (op1_gs rfl h9 rfl ?_)
          refine ow1 (op1_gs rfl h9 rfl ?_)
          refine ow1 (op1_l rfl (lo_pick_f (v := .bool _) rfl h9 rfl) ?_)
          refine ow1 (op1_l rfl (lo_move (v := .bool _) rfl) ?_)
          refine ow1 (op1_gs rfl rfl rfl ?_)
          refine ow1 (op1_gs rfl rfl rfl ?_)
          refine ow1 (op1_gs rfl rfl rfl ?_)
          refine ow1 (op1_gs rfl rfl rfl ?_)
          refine ow1 (op1_gs rfl rfl rfl ?_)
          refine ow1 (op1_l rfl (lo_pick_f (v := .bool _) rfl rfl rfl) ?_)
          refine ow1 (op1_l rfl (lo_move (v := .bool _) rfl) ?_)
          refine ow1 (op1_gs rfl rfl rfl ?_)
          refine ow1 (op1_gs rfl rfl rfl ?_)
          refine ow1 (op1_gs rfl rfl rfl ?_)
          refine ow1 (op1_gs rfl rfl rfl ?_)
          refine ow1 (op1_gs rfl rfl rfl ?_)
          refine ow1 (op1_l rfl (lo_pick_f (v := .bool _) rfl rfl rfl) ?_)
          refine ow1 (op1_l rfl (lo_assign (v := .bool _) rfl) ?_)
          refine ow_nil ?_
          refine seqK_n ?_
          refine cw_ret ?_
          refine fnK_r (res1 rfl (rv_t (v := .bool _) rfl)) (.refl _) ?_
          first | (simp [Reply.eq_iff, *]; done)
      · have p18 := df h7
        refine ow1 (op1_gs rfl h7 rfl ?_)
        refine ow1 (op1_gs rfl h7 rfl ?_)
        refine ow1 (op1_gs rfl h7 rfl ?_)
        refine ow1 (op1_gs rfl h7 rfl ?_)
        refine ow1 (op1_gs rfl h7 rfl ?_)
        refine ow1 (op1_l rfl (lo_pick_f (v := .bool _) rfl h7 rfl) ?_)
        refine ow1 (op1_l rfl (lo_move (v := .bool _) rfl) ?_)
        refine ow1 (op1_gs rfl rfl rfl ?_)
        refine ow1 (op1_gs rfl rfl rfl ?_)
        refine ow1 (op1_gs rfl rfl rfl ?_)
        refine ow1 (op1_gs rfl rfl rfl ?_)
        refine ow1 (op1_gs rfl rfl rfl ?_)
        refine ow1 (op1_l rfl (lo_pick_f (v := .bool _) rfl rfl rfl) ?_)
        refine ow1 (op1_l rfl (lo_move (v := .bool _) rfl) ?_)
        refine ow1 (op1_gs rfl rfl rfl ?_)
        refine ow1 (op1_gs rfl rfl rfl ?_)
        refine ow1 (op1_gs rfl rfl rfl ?_)
        refine ow1 (op1_gs rfl rfl rfl ?_)
        refine ow1 (op1_gs rfl rfl rfl ?_)
        refine ow1 (op1_l rfl (lo_pick_f (v := .bool _) rfl rfl rfl) ?_)
        refine ow1 (op1_l rfl (lo_move (v := .bool _) rfl) ?_)
        refine ow1 (op1_gs rfl rfl rfl ?_)
        refine ow1 (op1_gs rfl rfl rfl ?_)
        refine ow1 (op1_gs rfl rfl rfl ?_)
        refine ow1 (op1_gs rfl rfl rfl ?_)
        refine ow1 (op1_gs rfl rfl rfl ?_)
        refine ow1 (op1_l rfl (lo_pick_f (v := .bool _) rfl rfl rfl) ?_)
        refine ow1 (op1_l rfl (lo_assign (v := .bool _) rfl) ?_)
        refine ow_nil ?_
        refine seqK_n ?_
        refine cw_ret ?_
        refine fnK_r (res1 rfl (rv_t (v := .bool _) rfl)) (.refl _) ?_
        first | (simp [Reply.eq_iff, *]; done)
    · have p19 := df h5
      refine ow1 (op1_gs rfl h5 rfl ?_)
      refine ow1 (op1_gs rfl h5 rfl ?_)
      refine ow1 (op1_gs rfl h5 rfl ?_)
      refine ow1 (op1_gs rfl h5 rfl ?_)
      refine ow1 (op1_gs rfl h5 rfl ?_)
      refine ow1 (op1_l rfl (lo_pick_f (v := .bool _) rfl h5 rfl) ?_)
      refine ow1 (op1_l rfl (lo_move (v := .bool _) rfl) ?_)
      refine ow1 (op1_gs rfl rfl rfl ?_)
      refine ow1 (op1_gs rfl rfl rfl ?_)
      refine ow1 (op1_gs rfl rfl rfl ?_)
      refine ow1 (op1_gs rfl rfl rfl ?_)
      refine ow1 (op1_gs rfl rfl rfl ?_)
      refine ow1 (op1_l rfl (lo_pick_f (v := .bool _) rfl rfl rfl) ?_)
      refine ow1 (op1_l rfl (lo_move (v := .bool _) rfl) ?_)
      refine ow1 (op1_gs rfl rfl rfl ?_)
      refine ow1 (op1_gs rfl rfl rfl ?_)
      refine ow1 (op1_gs rfl rfl rfl ?_)
      refine ow1 (op1_gs rfl rfl rfl ?_)
      refine ow1 (op1_gs rfl rfl rfl ?_)
      refine ow1 (op1_l rfl (lo_pick_f (v := .bool _) rfl rfl rfl) ?_)
      refine ow1 (op1_l rfl (lo_move (v := .bool _) rfl) ?_)
      refine ow1 (op1_gs rfl rfl rfl ?_)
      refine ow1 (op1_gs rfl rfl rfl ?_)
      refine ow1 (op1_gs rfl rfl rfl ?_)
      refine ow1 (op1_gs rfl rfl rfl ?_)
      refine ow1 (op1_gs rfl rfl rfl ?_)
      refine ow1 (op1_l rfl (lo_pick_f (v := .bool _) rfl rfl rfl) ?_)
      refine ow1 (op1_l rfl (lo_move (v := .bool _) rfl) ?_)
      refine ow1 (op1_gs rfl rfl rfl ?_)
      refine ow1 (op1_gs rfl rfl rfl ?_)
      refine ow1 (op1_gs rfl rfl rfl ?_)
      refine ow1 (op1_gs rfl rfl rfl ?_)
      refine ow1 (op1_gs rfl rfl rfl ?_)
      refine ow1 (op1_l rfl (lo_pick_f (v := .bool _) rfl rfl rfl) ?_)
      refine ow1 (op1_l rfl (lo_assign (v := .bool _) rfl) ?_)
      refine ow_nil ?_
      refine seqK_n ?_
      refine cw_ret ?_
      refine fnK_r (res1 rfl (rv_t (v := .bool _) rfl)) (.refl _) ?_
      first | (simp [Reply.eq_iff, *]; done)
  · have p20 := df h3
    refine ow1 (op1_gs rfl h3 rfl ?_)
    refine ow1 (op1_gs rfl h3 rfl ?_)
    refine ow1 (op1_gs rfl h3 rfl ?_)
    refine ow1 (op1_gs rfl h3 rfl ?_)
    refine ow1 (op1_gs rfl h3 rfl ?_)
    refine ow1 (op1_l rfl (lo_pick_f (v := .bool _) rfl h3 rfl) ?_)
    refine ow1 (op1_l rfl (lo_move (v := .bool _) rfl) ?_)
    refine ow1 (op1_gs rfl rfl rfl ?_)
    refine ow1 (op1_gs rfl rfl rfl ?_)
    refine ow1 (op1_gs rfl rfl rfl ?_)
    refine ow1 (op1_gs rfl rfl rfl ?_)
    refine ow1 (op1_gs rfl rfl rfl ?_)
    refine ow1 (op1_l rfl (lo_pick_f (v := .bool _) rfl rfl rfl) ?_)
    refine ow1 (op1_l rfl (lo_move (v := .bool _) rfl) ?_)
    refine ow1 (op1_gs rfl rfl rfl ?_)
    refine ow1 (op1_gs rfl rfl rfl ?_)
    refine ow1 (op1_gs rfl rfl rfl ?_)
    refine ow1 (op1_gs rfl rfl rfl ?_)
    refine ow1 (op1_gs rfl rfl rfl ?_)
    refine ow1 (op1_l rfl (lo_pick_f (v := .bool _) rfl rfl rfl) ?_)
    refine ow1 (op1_l rfl (lo_move (v := .bool _) rfl) ?_)
    refine ow1 (op1_gs rfl rfl rfl ?_)
    refine ow1 (op1_gs rfl rfl rfl ?_)
    refine ow1 (op1_gs rfl rfl rfl ?_)
    refine ow1 (op1_gs rfl rfl rfl ?_)
    refine ow1 (op1_gs rfl rfl rfl ?_)
    refine ow1 (op1_l rfl (lo_pick_f (v := .bool _) rfl rfl rfl) ?_)
    refine ow1 (op1_l rfl (lo_move (v := .bool _) rfl) ?_)
    refine ow1 (op1_gs rfl rfl rfl ?_)
    refine ow1 (op1_gs rfl rfl rfl ?_)
    refine ow1 (op1_gs rfl rfl rfl ?_)
    refine ow1 (op1_gs rfl rfl rfl ?_)
    refine ow1 (op1_gs rfl rfl rfl ?_)
    refine ow1 (op1_l rfl (lo_pick_f (v := .bool _) rfl rfl rfl) ?_)
    refine ow1 (op1_l rfl (lo_move (v := .bool _) rfl) ?_)
    refine ow1 (op1_gs rfl rfl rfl ?_)
    refine ow1 (op1_gs rfl rfl rfl ?_)
    refine ow1 (op1_gs rfl rfl rfl ?_)
    refine ow1 (op1_gs rfl rfl rfl ?_)
    refine ow1 (op1_gs rfl rfl rfl ?_)
    refine ow1 (op1_l rfl (lo_pick_f (v := .bool _) rfl rfl rfl) ?_)
    refine ow1 (op1_l rfl (lo_assign (v := .bool _) rfl) ?_)
    refine ow_nil ?_
    refine seqK_n ?_
    refine cw_ret ?_
    refine fnK_r (res1 rfl (rv_t (v := .bool _) rfl)) (.refl _) ?_
    first | (simp [Reply.eq_iff, *]; done)

theorem l09_Light (H : Hp) (h_a : Option Addr) (h_l h_c : Nat) (h : List Pair) (h_h : SlH pairE 4 H (.slice h_a h_l h_c) h) : Pr Tryd.prog 32 #[.slice h_a h_l h_c] H (.bool (lightH h)) := by
  refine pr_cw Tryd.func32 rfl Tryd.ntmps32 rfl (fun N => ?_)
  refine cw_seq ?_
  refine cw_region ?_
  refine ow1 (op1_l rfl (lo_assign (v := .bool _) rfl) ?_)
  refine ow_nil ?_
  refine seqK_n ?_
  refine cw_seq ?_
  refine cw_seq ?_
  refine cw_region ?_
  refine ow1 (op1_l rfl (lo_move (v := .slice _ _ _) rfl) ?_)
  refine ow1 (op1_l rfl (lo_len_slh rfl h_h Tryd.underlying23) ?_)
  refine ow1 (op1_l rfl (lo_gtr rfl rfl) ?_)
  refine ow_nil ?_
  refine seqK_n ?_
  refine cw_cond rfl (fun h1 => ?_) (fun h1 => ?_)
  · have p2 := dt h1
    refine cw_seq ?_
    refine cw_region ?_
    refine ow1 (op1_l rfl (lo_assign (v := .bool _) rfl) ?_)
    refine ow_nil ?_
    refine seqK_n ?_
    refine cw_ret ?_
    refine seqK_r ?_
    refine fnK_r (res1 rfl (rv_t (v := .bool _) rfl)) (.refl _) ?_
    exact congrArg Value.bool (by simp [lightH]; omega)
  · have p3 := df h1
    refine cw_skip ?_
    refine seqK_n ?_
    refine cw_seq ?_
    refine cw_seq ?_
    refine cw_region ?_
    refine ow1 (op1_l rfl (lo_move (v := .slice _ _ _) rfl) ?_)
    refine ow1 (op1_l rfl (lo_len_slh rfl h_h Tryd.underlying23) ?_)
    refine ow1 (op1_l rfl (lo_move (v := .int _ _) rfl) ?_)
    refine ow_nil ?_
    refine seqK_n ?_
    refine cw_block ?_
    refine cw_loop1 [2, 4, 10, 11, 12, 13, 14, 15, 16, 17, 18, 19, 20, 21, 22, 23, 24] [0] (fun (k : Nat) G => upd (G) 10 (.int .i64 (k : Int))) (fun (k : Nat) G => G) (fun (k : Nat) H' => k ≤ h.length ∧ h.all lightP = (h.drop k).all lightP) (fun (k : Nat) => h.length - k) 0 (upd_intro (mask_intro (by first | exact off_refl | (repeat (first | exact off_mask | refine off_upd rfl ?_ | refine off_mask2 rfl ?_)))) rfl) (lmask_intro offl_refl) ?_ ?_
    · exact ⟨Nat.zero_le _, rfl⟩
    · intro k J5 JL5 H5 hp4 hl5
      obtain ⟨hk1, hk2⟩ := hp4
      refine cw_seq ?_
      refine cw_region ?_
      refine ow1 (op1_l rfl (lo_lss rfl rfl) ?_)
      refine ow_nil ?_
      refine seqK_n ?_
      refine cw_seq ?_
      refine cw_cond rfl (fun h6 => ?_) (fun h6 => ?_)
      · have p7 := dt h6
        refine cw_skip ?_
        refine seqK_n ?_
        refine cw_seq ?_
        refine cw_block ?_
        refine cw_seq ?_
        refine cw_region ?_
        obtain ⟨c8, hc9⟩ := getE (xs := h) (m := k) (by omega)
        obtain ⟨cs10, hE11, at12⟩ := (h_h.mono ((HLe.refl _).trans hl5) (fun _ _ h => h)).get hc9
        obtain ⟨rfl, c8_w⟩ := hE11
        have c8_w' := c8_w
        simp only [Pair.wf] at c8_w'
        refine ow1 (op1_l rfl (lo_indexAddr rfl rfl (h_h.mono ((HLe.refl _).trans hl5) (fun _ _ h => h)).1 at12 Tryd.underlying23 sz94 (by omega) (by omega)) ?_)
        refine ow1 (op1_l rfl (lo_loadEA rfl ag94 sz94 at12) ?_)
        refine ow1 (op1_alloc 0 rfl zr94 (fun b13 => ?_))
        refine ow1 (op1_storeA (i := 0) (vs := [_, _, _, _]) rfl rfl rfl sz94 rfl rfl rfl ?_)
        refine ow_nil ?_
        refine seqK_n ?_
        refine cw_seq ?_
        refine cw_region ?_
        refine ow1 (op1_l rfl (lo_fieldAddr rfl fl94_0) ?_)
        refine ow1 (op1_l rfl (lo_load1 (i := 0) (v := str _) rfl ag9 rfl rfl) ?_)
        refine ow1 (op1_l rfl (lo_len_str rfl Tryd.underlying9) ?_)
        refine ow1 (op1_l rfl (lo_gtr rfl rfl) ?_)
        refine ow1 (op1_l rfl (lo_move (v := .bool _) rfl) ?_)
        refine ow_sp (j := 4) rfl (fun h14 => ?_) (fun h14 => ?_)
        · have p15 := dt h14
          refine ow1 (op1_gs rfl h14 rfl ?_)
          refine ow1 (op1_gs rfl h14 rfl ?_)
          refine ow1 (op1_gs rfl h14 rfl ?_)
          refine ow1 (op1_gs rfl h14 rfl ?_)
          refine ow1 (op1_l rfl (lo_pick_t (v := .bool _) rfl h14 rfl) ?_)
          refine ow_nil ?_
          refine seqK_n ?_
          refine cw_cond_t rfl rfl ?_
          refine cw_seq ?_
          refine cw_region ?_
          refine ow1 (op1_l rfl (lo_assign (v := .bool _) rfl) ?_)
          refine ow_nil ?_
          refine seqK_n ?_
          refine cw_ret ?_
          refine blkK_r ?_
          refine seqK_r ?_
          refine loopK_r ?_
          refine blkK_r ?_
          refine seqK_r ?_
          refine fnK_r (res1 rfl (rv_t (v := .bool _) rfl)) ((HLe.refl _).trans hl5) ?_
          exact congrArg Value.bool (by unfold lightH; rw [all_miss hk2 (dropE hc9) (by simp [lightP]; omega)]; simp)
        · have p16 := df h14
          refine ow1 (op1_g rfl h14 rfl (lo_fieldAddr rfl fl94_3) ?_)
          refine ow1 (op1_g rfl h14 rfl (lo_load1 (i := 0) (v := str _) rfl ag9 rfl rfl) ?_)
          refine ow1 (op1_g rfl h14 rfl (lo_len_str rfl Tryd.underlying9) ?_)
          refine ow1 (op1_g rfl h14 rfl (lo_gtr rfl rfl) ?_)
          refine ow1 (op1_l rfl (lo_pick_f (v := .bool _) rfl h14 rfl) ?_)
          refine ow_nil ?_
          refine seqK_n ?_
          refine cw_cond rfl (fun h17 => ?_) (fun h17 => ?_)
          · have p18 := dt h17
            refine cw_seq ?_
            refine cw_region ?_
            refine ow1 (op1_l rfl (lo_assign (v := .bool _) rfl) ?_)
            refine ow_nil ?_
            refine seqK_n ?_
            refine cw_ret ?_
            refine blkK_r ?_
            refine seqK_r ?_
            refine loopK_r ?_
            refine blkK_r ?_
            refine seqK_r ?_
            refine fnK_r (res1 rfl (rv_t (v := .bool _) rfl)) ((HLe.refl _).trans hl5) ?_
            exact congrArg Value.bool (by unfold lightH; rw [all_miss hk2 (dropE hc9) (by simp [lightP]; omega)]; simp)
          · have p19 := df h17
            refine cw_skip ?_
            refine blkK_n ?_
            refine seqK_n ?_
            refine cw_region ?_
            refine ow1 (op1_l rfl (lo_add rfl rfl (rg_i64 (by omega))) ?_)
            refine ow1 (op1_l rfl (lo_move (v := .int _ _) rfl) ?_)
            refine ow_nil ?_
            refine next1 (k + 1) (upd_intro (mask_intro (by first | exact off_refl | (repeat (first | exact off_mask | refine off_upd rfl ?_ | refine off_mask2 rfl ?_)))) rfl) (lmask_intro (by first | exact offl_refl | (repeat (first | exact offl_mask | refine offl_upd rfl ?_ | refine offl_mask2 rfl ?_)))) hl5 ?_ ?_
            · exact ⟨by omega, all_step hk2 (dropE hc9) (by simp [lightP]; omega)⟩
            · omega
      · have p20 := df h6
        refine cw_exit ?_
        refine seqK_e ?_
        refine loopK_e ?_
        refine blkK_hit ?_
        refine seqK_n ?_
        refine cw_seq ?_
        refine cw_region ?_
        refine ow1 (op1_l rfl (lo_assign (v := .bool _) rfl) ?_)
        refine ow_nil ?_
        refine seqK_n ?_
        refine cw_ret ?_
        refine fnK_r (res1 rfl (rv_t (v := .bool _) rfl)) ((HLe.refl _).trans hl5) ?_
        exact congrArg Value.bool (by unfold lightH; rw [all_end hk2 (by omega)]; simp; omega)

theorem l12_Light (H : Hp) (r : Reply) (r_mail_head_a : Option Addr) (r_mail_head_c : Nat) (r_mail_head_h : SlH pairE 4 H (.slice r_mail_head_a r.mail.head.length r_mail_head_c) r.mail.head) (r_w : Reply.wf r) : Pr Tryd.prog 9 #[.agg (Reply.cells r r_mail_head_a r_mail_head_c).toArray] H (.bool (lightR r)) := by
  refine pr_cw Tryd.func9 rfl Tryd.ntmps9 rfl (fun N => ?_)
  have r_w' := r_w
  simp only [Reply.wf, Mail.wf] at r_w'
  refine cw_seq ?_
  refine cw_region ?_
  refine ow1 (op1_box (cs := [_, _, _, _, _, _, _, _, _, _, _, _, _]) 0 rfl rfl (fun b1 => ?_))
  refine ow1 (op1_l rfl (lo_assign (v := .bool _) rfl) ?_)
  refine ow_nil ?_
  refine seqK_n ?_
  refine cw_seq ?_
  refine cw_region ?_
  refine ow1 (op1_l rfl (lo_fieldAddr rfl fl27_5) ?_)
  refine ow1 (op1_l rfl (lo_load1 (i := 0) (v := str _) rfl ag9 rfl rfl) ?_)
  refine ow1 (op1_l rfl (lo_len_str rfl Tryd.underlying9) ?_)
  refine ow1 (op1_l rfl (lo_fieldAddr rfl fl27_6) ?_)
  refine ow1 (op1_l rfl (lo_fieldAddr rfl fl25_1) ?_)
  refine ow1 (op1_l rfl (lo_load1 (i := 0) (v := str _) rfl ag9 rfl rfl) ?_)
  refine ow1 (op1_l rfl (lo_len_str rfl Tryd.underlying9) ?_)
  refine ow1 (op1_l rfl (lo_max rfl rfl) ?_)
  refine ow1 (op1_l rfl (lo_leq rfl rfl) ?_)
  refine ow1 (op1_l rfl (lo_move (v := .bool _) rfl) ?_)
  refine ow_sp (j := 9) rfl (fun h2 => ?_) (fun h2 => ?_)
  · have p3 := dt h2
    refine ow1 (op1_g rfl h2 rfl (lo_fieldAddr rfl fl27_6) ?_)
    refine ow1 (op1_g rfl h2 rfl (lo_fieldAddr rfl fl25_2) ?_)
    refine ow1 (op1_g rfl h2 rfl (lo_load1 (i := 0) (v := str _) rfl ag9 rfl rfl) ?_)
    refine ow1 (op1_g rfl h2 rfl (lo_len_str rfl Tryd.underlying9) ?_)
    refine ow1 (op1_g rfl h2 rfl (lo_leq rfl rfl) ?_)
    refine ow1 (op1_l rfl (lo_pick_t (v := .bool _) rfl h2 rfl) ?_)
    refine ow1 (op1_l rfl (lo_move (v := .bool _) rfl) ?_)
    refine ow_sp (j := 16) rfl (fun h4 => ?_) (fun h4 => ?_)
    · have p5 := dt h4
      refine ow1 (op1_g rfl h4 rfl (lo_fieldAddr rfl fl27_6) ?_)
      refine ow1 (op1_g rfl h4 rfl (lo_fieldAddr rfl fl25_3) ?_)
      refine ow1 (op1_g rfl h4 rfl (lo_load1 (i := 0) (v := .slice _ _ _) rfl ag23 rfl rfl) ?_)
      refine ow1 (op1_prg rfl h4 (l09_Light _ r_mail_head_a r.mail.head.length r_mail_head_c r.mail.head r_mail_head_h) (en_f cb32 rfl) rfl ?_)
      refine ow1 (op1_l rfl (lo_pick_t (v := .bool _) rfl h4 rfl) ?_)
      refine ow1 (op1_l rfl (lo_move (v := .bool _) rfl) ?_)
      refine ow_sp (j := 22) rfl (fun h6 => ?_) (fun h6 => ?_)
      · refine ow1 (op1_g rfl h6 rfl (lo_fieldAddr rfl fl27_6) ?_)
        refine ow1 (op1_g rfl h6 rfl (lo_fieldAddr rfl fl25_4) ?_)
        refine ow1 (op1_g rfl h6 rfl (lo_load1 (i := 0) (v := str _) rfl ag9 rfl rfl) ?_)
        refine ow1 (op1_g rfl h6 rfl (lo_len_str rfl Tryd.underlying9) ?_)
        refine ow1 (op1_g rfl h6 rfl (lo_leq rfl rfl) ?_)
        refine ow1 (op1_l rfl (lo_pick_t (v := .bool _) rfl h6 rfl) ?_)
        refine ow1 (op1_l rfl (lo_assign (v := .bool _) rfl) ?_)
        refine ow_nil ?_
        refine seqK_n ?_
        refine cw_ret ?_
        refine fnK_r (res1 rfl (rv_t (v := .bool _) rfl)) (.refl _) ?_
        refine congrArg Value.bool ?_; unfold lightR; simp only [*, Bool.and_true, Bool.true_and, Bool.false_and, Bool.and_false, decide_true, decide_false]
      · refine ow1 (op1_gs rfl h6 rfl ?_)
        refine ow1 (op1_gs rfl h6 rfl ?_)
        refine ow1 (op1_gs rfl h6 rfl ?_)
        refine ow1 (op1_gs rfl h6 rfl ?_)
        refine ow1 (op1_gs rfl h6 rfl ?_)
        refine ow1 (op1_l rfl (lo_pick_f (v := .bool _) rfl h6 rfl) ?_)
        refine ow1 (op1_l rfl (lo_assign (v := .bool _) rfl) ?_)
        refine ow_nil ?_
        refine seqK_n ?_
        refine cw_ret ?_
        refine fnK_r (res1 rfl (rv_t (v := .bool _) rfl)) (.refl _) ?_
        refine congrArg Value.bool ?_; unfold lightR; simp only [*, Bool.and_true, Bool.true_and, Bool.false_and, Bool.and_false, decide_true, decide_false]
    · have p7 := df h4
      refine ow1 (op1_gs rfl h4 rfl ?_)
      refine ow1 (op1_gs rfl h4 rfl ?_)
      refine ow1 (op1_gs rfl h4 rfl ?_)
      refine ow1 (op1_gs rfl h4 rfl ?_)
      refine ow1 (op1_l rfl (lo_pick_f (v := .bool _) rfl h4 rfl) ?_)
      refine ow1 (op1_l rfl (lo_move (v := .bool _) rfl) ?_)
      refine ow1 (op1_gs rfl rfl rfl ?_)
      refine ow1 (op1_gs rfl rfl rfl ?_)
      refine ow1 (op1_gs rfl rfl rfl ?_)
      refine ow1 (op1_gs rfl rfl rfl ?_)
      refine ow1 (op1_gs rfl rfl rfl ?_)
      refine ow1 (op1_l rfl (lo_pick_f (v := .bool _) rfl rfl rfl) ?_)
      refine ow1 (op1_l rfl (lo_assign (v := .bool _) rfl) ?_)
      refine ow_nil ?_
      refine seqK_n ?_
      refine cw_ret ?_
      refine fnK_r (res1 rfl (rv_t (v := .bool _) rfl)) (.refl _) ?_
      refine congrArg Value.bool ?_; unfold lightR; simp only [*, Bool.and_true, Bool.true_and, Bool.false_and, Bool.and_false, decide_true, decide_false]
  · have p8 := df h2
    refine ow1 (op1_gs rfl h2 rfl ?_)
    refine ow1 (op1_gs rfl h2 rfl ?_)
    refine ow1 (op1_gs rfl h2 rfl ?_)
    refine ow1 (op1_gs rfl h2 rfl ?_)
    refine ow1 (op1_gs rfl h2 rfl ?_)
    refine ow1 (op1_l rfl (lo_pick_f (v := .bool _) rfl h2 rfl) ?_)
    refine ow1 (op1_l rfl (lo_move (v := .bool _) rfl) ?_)
    refine ow1 (op1_gs rfl rfl rfl ?_)
    refine ow1 (op1_gs rfl rfl rfl ?_)
    refine ow1 (op1_gs rfl rfl rfl ?_)
    refine ow1 (op1_gs rfl rfl rfl ?_)
    refine ow1 (op1_l rfl (lo_pick_f (v := .bool _) rfl rfl rfl) ?_)
    refine ow1 (op1_l rfl (lo_move (v := .bool _) rfl) ?_)
    refine ow1 (op1_gs rfl rfl rfl ?_)
    refine ow1 (op1_gs rfl rfl rfl ?_)
    refine ow1 (op1_gs rfl rfl rfl ?_)
    refine ow1 (op1_gs rfl rfl rfl ?_)
    refine ow1 (op1_gs rfl rfl rfl ?_)
    refine ow1 (op1_l rfl (lo_pick_f (v := .bool _) rfl rfl rfl) ?_)
    refine ow1 (op1_l rfl (lo_assign (v := .bool _) rfl) ?_)
    refine ow_nil ?_
    refine seqK_n ?_
    refine cw_ret ?_
    refine fnK_r (res1 rfl (rv_t (v := .bool _) rfl)) (.refl _) ?_
    refine congrArg Value.bool ?_; unfold lightR; simp only [*, Bool.and_true, Bool.true_and, Bool.false_and, Bool.and_false, decide_true, decide_false]

theorem l12_To (H : Hp) (r : Reply) (r_mail_head_a : Option Addr) (r_mail_head_c : Nat) (r_mail_head_h : SlH pairE 4 H (.slice r_mail_head_a r.mail.head.length r_mail_head_c) r.mail.head) (r_w : Reply.wf r) (hl : r.mail.head.length ≤ 1000000) : Ph Tryd.prog 12 #[.agg (Reply.cells r r_mail_head_a r_mail_head_c).toArray] H (fun v H' => ∃ (a1 : Option Addr) (c1 : Nat), v = .agg (Reply.cells r a1 c1).toArray ∧ SlH pairE 4 H' (.slice a1 r.mail.head.length c1) r.mail.head) := by
  refine ph_cw Tryd.func12 rfl Tryd.ntmps12 rfl (fun N => ?_)
  have r_w' := r_w
  simp only [Reply.wf, Mail.wf] at r_w'
  refine cw_seq ?_
  refine cw_region ?_
  refine ow1 (op1_box (cs := [_, _, _, _, _, _, _, _, _, _, _, _, _]) 0 rfl rfl (fun b1 => ?_))
  refine ow1 (op1_alloc 1 rfl zr32 (fun b2 => ?_))
  refine ow_nil ?_
  refine seqK_n ?_
  refine cw_seq ?_
  refine cw_region ?_
  refine ow1 (op1_l rfl (lo_loadA (i := 0) (vs := [_, _, _, _, _, _, _, _, _, _, _, _, _]) rfl ag27 sz27 rfl rfl rfl) ?_)
  refine ow1 (op1_alloc 2 rfl zr32 (fun b3 => ?_))
  refine ow1 (op1_storeA (i := 2) (vs := [_, _, _, _, _, _, _, _, _, _, _, _, _]) rfl rfl rfl sz32 rfl rfl rfl ?_)
  refine ow_nil ?_
  refine seqK_n ?_
  refine cw_seq ?_
  refine cw_region ?_
  refine ow1 (op1_bslice (cs := []) 3 rfl Tryd.underlying23 sz94 zx94 rfl trivial rfl rfl (by decide) (fun b4 => ?_))
  refine ow1 (op1_l rfl (lo_fieldAddr rfl fl27_6) ?_)
  refine ow1 (op1_l rfl (lo_fieldAddr rfl fl25_3) ?_)
  refine ow1 (op1_l rfl (lo_load1 (i := 0) (v := .slice _ _ _) rfl ag23 rfl rfl) ?_)
  refine ow1 (op1_app 3 rfl rfl Tryd.underlying23 Tryd.underlying23 rfl sz94 by94 (by decide) zr94 (ownV_bx rfl) (src_slh (enc := Pair.cells) (wf := Pair.wf) (fun _ => rfl) r_mail_head_h) (one_flat (fun _ => rfl) _) rfl (by omega) rfl (fun v5 en6 ho7 => ?_))
  have ho8 := own_cat0 (enc := Pair.cells) r.mail.head ho7
  refine ow1 (op1_l rfl (lo_fieldAddr rfl fl32_6) ?_)
  refine ow1 (op1_l rfl (lo_fieldAddr rfl fl25_3) ?_)
  refine ow1 (op1_store1 (i := 2) rfl rfl (ownV_one ho8) sz23 rfl rfl ?_)
  refine ow_nil ?_
  refine seqK_n ?_
  refine cw_seq ?_
  refine cw_region ?_
  refine ow_giveO 3 rfl (fun _ hl9 hg10 => ?_)
  have hs11 := slh_own (enc := Pair.cells) (wf := Pair.wf) (fun _ => rfl) ho8 (slh_wf r_mail_head_h) hg10
  obtain ⟨⟨a12, c13, rfl, -⟩, -⟩ := id hs11
  refine ow1 (op1_l rfl (lo_loadA (i := 2) (vs := [_, _, _, _, _, _, _, _, _, _, _, _, _]) rfl ag32 sz32 rfl rfl rfl) ?_)
  refine ow1 (op1_storeA (i := 1) (vs := [_, _, _, _, _, _, _, _, _, _, _, _, _]) rfl rfl rfl sz32 rfl rfl rfl ?_)
  refine ow_nil ?_
  refine seqK_n ?_
  refine cw_ret ?_
  refine fnK_r (res1 rfl (rv_c (i := 1) (vs := [_, _, _, _, _, _, _, _, _, _, _, _, _]) rfl ag32 sz32 rfl rfl rfl)) ((HLe.refl _).trans hl9) ?_
  exact ⟨_, _, rfl, hs11⟩

theorem reply_law_Same (H : Hp) (a : Reply) (a_mail_head_a : Option Addr) (a_mail_head_c : Nat) (a_mail_head_h : SlH pairE 4 H (.slice a_mail_head_a a.mail.head.length a_mail_head_c) a.mail.head) (a_w : Reply.wf a) (b : Reply) (b_mail_head_a : Option Addr) (b_mail_head_c : Nat) (b_mail_head_h : SlH pairE 4 H (.slice b_mail_head_a b.mail.head.length b_mail_head_c) b.mail.head) (b_w : Reply.wf b) (hML : GInt H 2) (hCrc : GTab H 1 laidT) : Pr Tryd.prog 3 #[.agg (Reply.cells a a_mail_head_a a_mail_head_c).toArray, .agg (Reply.cells b b_mail_head_a b_mail_head_c).toArray] H (.bool true) := by
  refine pr_cw Tryd.func3 rfl Tryd.ntmps3 rfl (fun N => ?_)
  have a_w' := a_w
  simp only [Reply.wf, Mail.wf] at a_w'
  have b_w' := b_w
  simp only [Reply.wf, Mail.wf] at b_w'
  refine cw_seq ?_
  refine cw_region ?_
  refine ow1 (op1_box (cs := [_, _, _, _, _, _, _, _, _, _, _, _, _]) 0 rfl rfl (fun b1 => ?_))
  refine ow1 (op1_box (cs := [_, _, _, _, _, _, _, _, _, _, _, _, _]) 1 rfl rfl (fun b2 => ?_))
  refine ow1 (op1_l rfl (lo_assign (v := .bool _) rfl) ?_)
  refine ow_nil ?_
  refine seqK_n ?_
  refine cw_seq ?_
  refine cw_seq ?_
  refine cw_region ?_
  refine ow1 (op1_pr (l12_awake _ hML hCrc) (en_f cb8 rfl) rfl ?_)
  refine ow1 (op1_l rfl (lo_not rfl) ?_)
  refine ow_nil ?_
  refine seqK_n ?_
  refine cw_cond_f rfl rfl ?_
  refine cw_skip ?_
  refine seqK_n ?_
  refine cw_seq ?_
  refine cw_seq ?_
  refine cw_region ?_
  refine ow1 (op1_l rfl (lo_loadA (i := 0) (vs := [_, _, _, _, _, _, _, _, _, _, _, _, _]) rfl ag27 sz27 rfl rfl rfl) ?_)
  refine ow1 (op1_pr (l12_Light _ a a_mail_head_a a_mail_head_c a_mail_head_h a_w) (en_f cb9 rfl) rfl ?_)
  have hlr2 := lightR_len a
  refine ow1 (op1_l rfl (lo_not rfl) ?_)
  refine ow1 (op1_l rfl (lo_move (v := .bool _) rfl) ?_)
  refine ow_sp (j := 3) rfl (fun h3 => ?_) (fun h3 => ?_)
  · have h4 := not_t h3
    refine ow1 (op1_gs rfl h3 rfl ?_)
    refine ow1 (op1_gs rfl h3 rfl ?_)
    refine ow1 (op1_gs rfl h3 rfl ?_)
    refine ow1 (op1_l rfl (lo_pick_t (v := .bool _) rfl h3 rfl) ?_)
    refine ow_nil ?_
    refine seqK_n ?_
    refine cw_cond_t rfl rfl ?_
    refine cw_seq ?_
    refine cw_region ?_
    refine ow1 (op1_l rfl (lo_assign (v := .bool _) rfl) ?_)
    refine ow_nil ?_
    refine seqK_n ?_
    refine cw_ret ?_
    refine seqK_r ?_
    refine fnK_r (res1 rfl (rv_t (v := .bool _) rfl)) (.refl _) ?_
    first | rfl | (exfalso; simp at *; done) | (refine congrArg Value.bool ?_; simp; done)
  · have h5 := not_f h3
    refine ow1 (op1_g rfl h3 rfl (lo_loadA (i := 1) (vs := [_, _, _, _, _, _, _, _, _, _, _, _, _]) rfl ag27 sz27 rfl rfl rfl) ?_)
    refine ow1 (op1_prg rfl h3 (l12_Light _ b b_mail_head_a b_mail_head_c b_mail_head_h b_w) (en_f cb9 rfl) rfl ?_)
    have hlr5 := lightR_len b
    refine ow1 (op1_g rfl h3 rfl (lo_not rfl) ?_)
    refine ow1 (op1_l rfl (lo_pick_f (v := .bool _) rfl h3 rfl) ?_)
    refine ow_nil ?_
    refine seqK_n ?_
    refine cw_cond rfl (fun h6 => ?_) (fun h6 => ?_)
    · have h7 := not_t h6
      refine cw_seq ?_
      refine cw_region ?_
      refine ow1 (op1_l rfl (lo_assign (v := .bool _) rfl) ?_)
      refine ow_nil ?_
      refine seqK_n ?_
      refine cw_ret ?_
      refine seqK_r ?_
      refine fnK_r (res1 rfl (rv_t (v := .bool _) rfl)) (.refl _) ?_
      first | rfl | (exfalso; simp at *; done) | (refine congrArg Value.bool ?_; simp; done)
    · have h8 := not_f h6
      refine cw_skip ?_
      refine seqK_n ?_
      refine cw_seq ?_
      refine cw_anyL mixd ?_
      refine vw_q 0 rfl (by kernel_rfl) (by repeat (first | exact lle_l0 | exact LLe.refl _ | exact lle_none | refine lle_up ?_ rfl)) (fun _ _ hh hl => lo_loadA (i := 0) (vs := [_, _, _, _, _, _, _, _, _, _, _, _, _]) rfl ag27 sz27 (hl _ _ rfl) rfl rfl) ?_
      refine vw_q 1 rfl (by kernel_rfl) (by repeat (first | exact lle_l0 | exact LLe.refl _ | exact lle_none | refine lle_up ?_ rfl)) (fun _ _ hh hl => lo_loadA (i := 1) (vs := [_, _, _, _, _, _, _, _, _, _, _, _, _]) rfl ag27 sz27 (hl _ _ rfl) rfl rfl) ?_
      refine vw_qc 2 rfl (by kernel_rfl) (by repeat (first | exact lle_l0 | exact LLe.refl _ | exact lle_none | refine lle_up ?_ rfl)) (reply_Same _ a a_mail_head_a a_mail_head_c a_mail_head_h a_w b b_mail_head_a b_mail_head_c b_mail_head_h b_w) (en_f cb10 rfl) ?_
      refine vw_q 3 rfl (by kernel_rfl) (by repeat (first | exact lle_l0 | exact LLe.refl _ | exact lle_none | refine lle_up ?_ rfl)) (fun _ _ hh hl => lo_loadA (i := 0) (vs := [_, _, _, _, _, _, _, _, _, _, _, _, _]) rfl ag27 sz27 (hl _ _ rfl) rfl rfl) ?_
      refine vw_q 5 rfl (by kernel_rfl) (by repeat (first | exact lle_l0 | exact LLe.refl _ | exact lle_none | refine lle_up ?_ rfl)) (fun _ _ hh hl => lo_loadA (i := 1) (vs := [_, _, _, _, _, _, _, _, _, _, _, _, _]) rfl ag27 sz27 (hl _ _ rfl) rfl rfl) ?_
      refine vw_e 4 rfl (by kernel_rfl) (op1_ph (l12_To _ a a_mail_head_a a_mail_head_c a_mail_head_h a_w (by first | omega | (have := lightR_len a (by assumption); omega))) (en_f cb12 rfl) rfl ?_)
      rintro _ H13 ⟨a9, c10, rfl, hs11⟩ hl12
      refine ⟨⟨((HLe.refl _).trans hl12), (by repeat (first | exact lle_l0 | exact LLe.refl _ | exact lle_none | refine lle_up ?_ rfl))⟩, ?_⟩
      refine vw_e 6 rfl (by kernel_rfl) (op1_ph (l12_To _ b b_mail_head_a b_mail_head_c (b_mail_head_h.mono ((HLe.refl _).trans hl12) (fun _ _ h => h)) b_w (by first | omega | (have := lightR_len b (by assumption); omega))) (en_f cb12 rfl) rfl ?_)
      rintro _ H18 ⟨a14, c15, rfl, hs16⟩ hl17
      refine ⟨⟨((HLe.refl _).trans hl17), (by repeat (first | exact lle_l0 | exact LLe.refl _ | exact lle_none | refine lle_up ?_ rfl))⟩, ?_⟩
      refine vw_qc 7 rfl (by kernel_rfl) (by repeat (first | exact lle_l0 | exact LLe.refl _ | exact lle_none | refine lle_up ?_ rfl)) (r12_Same _ a a9 c10 (hs11.mono ((HLe.refl _).trans hl17) (fun _ _ h => h)) a_w b a14 c15 hs16 b_w) (en_f cb11 rfl) ?_
      refine vw_q 8 rfl (by kernel_rfl) (by repeat (first | exact lle_l0 | exact LLe.refl _ | exact lle_none | refine lle_up ?_ rfl)) (fun _ _ hh hl => lo_beql rfl rfl Tryd.underlying4) ?_
      refine vw_q 9 rfl (by kernel_rfl) (by repeat (first | exact lle_l0 | exact LLe.refl _ | exact lle_none | refine lle_up ?_ rfl)) (fun _ _ hh hl => lo_move (v := .bool _) rfl) ?_
      refine vw_sp (j := 9) rfl (fun h19 => ?_) (fun h19 => ?_)
      · have p20 := beqT h19
        refine vw_qg 10 rfl (by kernel_rfl) (by repeat (first | exact lle_l0 | exact LLe.refl _ | exact lle_none | refine lle_up ?_ rfl)) rfl h19 (fun _ _ hh hl => lo_loadA (i := 0) (vs := [_, _, _, _, _, _, _, _, _, _, _, _, _]) rfl ag27 sz27 (hl _ _ rfl) rfl rfl) ?_
        refine vw_qg 11 rfl (by kernel_rfl) (by repeat (first | exact lle_l0 | exact LLe.refl _ | exact lle_none | refine lle_up ?_ rfl)) rfl h19 (fun _ _ hh hl => lo_loadA (i := 0) (vs := [_, _, _, _, _, _, _, _, _, _, _, _, _]) rfl ag27 sz27 (hl _ _ rfl) rfl rfl) ?_
        refine vw_qgc 12 rfl (by kernel_rfl) (by repeat (first | exact lle_l0 | exact LLe.refl _ | exact lle_none | refine lle_up ?_ rfl)) rfl h19 (reply_Same _ a a_mail_head_a a_mail_head_c (a_mail_head_h.mono (((HLe.refl _).trans hl12).trans hl17) (fun _ _ h => h)) a_w a a_mail_head_a a_mail_head_c (a_mail_head_h.mono (((HLe.refl _).trans hl12).trans hl17) (fun _ _ h => h)) a_w) (en_f cb10 rfl) ?_
        refine vw_q 13 rfl (by kernel_rfl) (by repeat (first | exact lle_l0 | exact LLe.refl _ | exact lle_none | refine lle_up ?_ rfl)) (fun _ _ hh hl => lo_pick_t (v := .bool _) rfl h19 rfl) ?_
        refine vw_q 14 rfl (by kernel_rfl) (by repeat (first | exact lle_l0 | exact LLe.refl _ | exact lle_none | refine lle_up ?_ rfl)) (fun _ _ hh hl => lo_assign (v := .bool _) rfl) ?_
        refine vw_done (by kernel_rfl) ?_
        refine seqK_n ?_
        refine cw_ret ?_
        refine fnK_r (res1 rfl (rv_t (v := .bool _) rfl)) (((HLe.refl _).trans hl12).trans hl17) ?_
        first | rfl | (exfalso; simp at *; done) | (refine congrArg Value.bool ?_; simp; done)
      · have p21 := beqF h19
        refine vw_qgs 10 rfl (by kernel_rfl) (by repeat (first | exact lle_l0 | exact LLe.refl _ | exact lle_none | refine lle_up ?_ rfl)) rfl h19 ?_
        refine vw_qgs 11 rfl (by kernel_rfl) (by repeat (first | exact lle_l0 | exact LLe.refl _ | exact lle_none | refine lle_up ?_ rfl)) rfl h19 ?_
        refine vw_qgs 12 rfl (by kernel_rfl) (by repeat (first | exact lle_l0 | exact LLe.refl _ | exact lle_none | refine lle_up ?_ rfl)) rfl h19 ?_
        refine vw_q 13 rfl (by kernel_rfl) (by repeat (first | exact lle_l0 | exact LLe.refl _ | exact lle_none | refine lle_up ?_ rfl)) (fun _ _ hh hl => lo_pick_f (v := .bool _) rfl h19 rfl) ?_
        refine vw_q 14 rfl (by kernel_rfl) (by repeat (first | exact lle_l0 | exact LLe.refl _ | exact lle_none | refine lle_up ?_ rfl)) (fun _ _ hh hl => lo_assign (v := .bool _) rfl) ?_
        refine vw_done (by kernel_rfl) ?_
        refine seqK_n ?_
        refine cw_ret ?_
        refine fnK_r (res1 rfl (rv_t (v := .bool _) rfl)) (((HLe.refl _).trans hl12).trans hl17) ?_
        first | rfl | (exfalso; simp at *; done) | (refine congrArg Value.bool ?_; simp; done)

end Go.SW


namespace Go.SW
open Go.ChangeShapes Go.WideShapes Go.ChangeAt Go.RowKit

def hp (w : World) : Hp := fun b => w.heap[b]?
def rest0 (w : World) : Rest := ⟨fun _ => none, w.os, w.tape, w.output⟩
theorem mem0 (w : World) : Mem (rest0 w) (hp w) l0 w :=
  { os := rfl, tape := rfl, output := rfl, n := fun _ _ h => (by cases h), h := fun _ _ h => h, l := fun _ _ _ h => (by cases h), nh := fun _ _ h => (by cases h), nl := fun _ _ _ h => (by cases h), ll := fun _ _ _ _ _ h => (by cases h) }
theorem mem0_below {w w' : World} {L : Ls} (h : Mem (rest0 w) (hp w) L w') : Below w.heap.size w w' := by
  have hb : ∀ k, k < w.heap.size → w'.heap[k]? = w.heap[k]? := fun k hk => by
    have e : w.heap[k]? = some w.heap[k] := Array.getElem?_eq_getElem hk
    rw [e]; exact h.h k _ e
  refine ⟨h.os, h.tape, h.output, ?_, hb⟩
  by_cases z : w.heap.size = 0
  · omega
  · have := hb (w.heap.size - 1) (by omega)
    rw [Array.getElem?_eq_getElem (show w.heap.size - 1 < w.heap.size by omega)] at this
    have := (Array.getElem?_eq_some_iff.1 this).1
    omega

section
variable {Ht : Type} {enc : TypeId × Value → Ht} {P : Program} {w : World} {base fuel : Nat} {spare : Nat → Bool} {held : Bool} {cs : List Value} {x : DataW Ht × List MemPlace} {t : TypeId}

theorem rd_int {k : IntKind} (ht : P.underlying t = some (.int k)) (h : DataW.trod enc P w base spare held fuel t cs = some x) : ∃ z : Int, cs = [.int k z] ∧ k.min ≤ z ∧ z ≤ k.max := by
  obtain ⟨z, h1, _, h2⟩ := DataW.trod_int ht h
  refine ⟨z, h1, ?_⟩
  simp only [Lit.wf, Bool.and_eq_true, decide_eq_true_eq] at h2; exact h2
theorem rd_u8 (ht : P.underlying t = some (.int .u8)) (h : DataW.trod enc P w base spare held fuel t cs = some x) : ∃ z : Int, cs = [.int .u8 z] ∧ 0 ≤ z ∧ z ≤ 255 := rd_int ht h
theorem rd_u16 (ht : P.underlying t = some (.int .u16)) (h : DataW.trod enc P w base spare held fuel t cs = some x) : ∃ z : Int, cs = [.int .u16 z] ∧ 0 ≤ z ∧ z ≤ 65535 := rd_int ht h
theorem rd_u32 (ht : P.underlying t = some (.int .u32)) (h : DataW.trod enc P w base spare held fuel t cs = some x) : ∃ z : Int, cs = [.int .u32 z] ∧ 0 ≤ z ∧ z ≤ 4294967295 := rd_int ht h
theorem rd_u64 (ht : P.underlying t = some (.int .u64)) (h : DataW.trod enc P w base spare held fuel t cs = some x) : ∃ z : Int, cs = [.int .u64 z] ∧ 0 ≤ z ∧ z ≤ 18446744073709551615 := rd_int ht h
theorem rd_i64 (ht : P.underlying t = some (.int .i64)) (h : DataW.trod enc P w base spare held fuel t cs = some x) : ∃ z : Int, cs = [.int .i64 z] ∧ -9223372036854775808 ≤ z ∧ z ≤ 9223372036854775807 := rd_int ht h
theorem rd_bool (ht : P.underlying t = some .bool) (h : DataW.trod enc P w base spare held fuel t cs = some x) : ∃ z : Bool, cs = [.bool z] := by
  obtain ⟨z, h1, _⟩ := DataW.trod_bool ht h
  exact ⟨z, h1⟩
theorem rd_str (ht : P.underlying t = some .string) (h : DataW.trod enc P w base spare held fuel t cs = some x) : ∃ s : Bs, cs = [str s] ∧ s.length ≤ 9223372036854775807 := by
  obtain ⟨s, h1, _, h2⟩ := DataW.trod_string ht h
  refine ⟨s.data.toList, by rw [h1, str_of], ?_⟩
  have : s.data.toList.length = s.size := Array.length_toList
  rw [this]; exact h2
theorem list_of {α : Type} {Q : Nat → α → Prop} : ∀ n, (∀ i, i < n → ∃ r, Q i r) → ∃ rs : List α, rs.length = n ∧ ∀ i (h : i < rs.length), Q i rs[i]
  | 0, _ => ⟨[], rfl, fun i h => by cases h⟩
  | n + 1, hq => by
    obtain ⟨rs, hl, hr⟩ := list_of n (fun i hi => hq i (by omega))
    obtain ⟨r, hr0⟩ := hq n (by omega)
    refine ⟨rs ++ [r], by simp [hl], fun i hi => ?_⟩
    by_cases e : i < rs.length
    · rw [List.getElem_append_left e]; exact hr i e
    · have : i = rs.length := by simp at hi; omega
      subst this
      rw [List.getElem_append_right (Nat.le_refl _)]
      simp only [Nat.sub_self, List.getElem_cons_zero]
      rw [hl]; exact hr0
theorem rd_slice {α : Type} {E : Hp → α → List Value → Prop} {k : Nat} {e : TypeId} (ht : P.underlying t = some (.slice e)) (hk : P.cellsOf e = k) (h0 : 0 < k) (he : ∀ fuel cs x, DataW.trod enc P w base spare held fuel e cs = some x → ∃ r, E (hp w) r cs)
    (h : DataW.trod enc P w base spare held fuel t cs = some x) : ∃ (a : Option Addr) (c : Nat) (rs : List α), cs = [.slice a rs.length c] ∧ SlH E k (hp w) (.slice a rs.length c) rs ∧ rs.length ≤ 9223372036854775807 := by
  rcases Go.Deep.open_slice ht h with ⟨h1, _⟩ | ⟨a, len, cap, m, nf, D, Pl, h1, _, hl, hm, hmm, _, hi⟩
  · exact ⟨none, 0, [], h1, slh_nil, Nat.zero_le _⟩
  · have hs0 : 0 < len → a = ⟨a.block, a.off, none⟩ := by
      intro hl0
      obtain ⟨cs', hc, hT⟩ := hi 0 (by rw [hmm]; split <;> omega)
      rw [hk, Nat.zero_mul] at hc
      obtain ⟨_, hcl, hat⟩ := World.cells?_some hc
      have ha0 := hat 0 h0
      rw [List.getElem?_eq_getElem (by omega)] at ha0
      obtain ⟨ab, ao, asp⟩ := a
      cases asp with
      | none => rfl
      | some z =>
        exfalso
        unfold World.cell? at ha0
        simp only [Addr.add] at ha0
        split at ha0 <;> simp at ha0
    have key : ∀ i, i < len → ∃ r : α, ∃ cs', E (hp w) r cs' ∧ SlAt (hp w) (.slice (some a) len cap) k i cs' := by
      intro i hil
      have ha := hs0 (by omega)
      obtain ⟨cs', hc, hT⟩ := hi i (by rw [hmm]; split <;> omega)
      obtain ⟨r, hr⟩ := he _ _ _ hT
      rw [hk] at hc
      obtain ⟨_, hcl, hat⟩ := World.cells?_some hc
      refine ⟨r, cs', hr, ?_⟩
      generalize a.block = ab at ha
      generalize a.off = ao at ha
      subst ha
      simp only [add_none] at hat
      have ha0 := hat 0 h0
      rw [List.getElem?_eq_getElem (by omega)] at ha0
      unfold World.cell? at ha0
      simp only at ha0
      split at ha0
      · rename_i c T fr hb
        refine ⟨ab, ao, len, cap, c, T, fr, rfl, hb, hcl, fun j hj => ?_⟩
        have := hat j hj
        unfold World.cell? at this
        simp only at this
        rw [hb] at this
        simpa using this
      · cases ha0
    obtain ⟨rs, hlen, hr⟩ := list_of (Q := fun i (r : α) => ∃ cs', E (hp w) r cs' ∧ SlAt (hp w) (.slice (some a) len cap) k i cs') len key
    refine ⟨some a, cap, rs, by rw [h1, hlen], ⟨⟨some a, cap, rfl, by omega⟩, fun i hi => ?_⟩, ?_⟩
    · rw [hlen]; exact hr i hi
    · have : cap ≤ 9223372036854775807 := hm
      omega

/-- A struct's field. -/
theorem rd_fld {fs : Array Field} {xs : List (DataW Ht × List MemPlace)} {n i o k : Nat} {f : Field} {ft : TypeId} (hf : ∀ (i : Nat) (f : Field), fs[i]? = some f → DataW.trod enc P w base spare held n f.type ((cs.drop f.offset).take (P.cellsOf f.type)) = xs[i]?) (hl : xs.length = fs.size)
    (hi : fs[i]? = some f) (ho : f.offset = o) (ht : f.type = ft) (hk : P.cellsOf ft = k) : ∃ y, DataW.trod enc P w base spare held n ft ((cs.drop o).take k) = some y := by
  have h := hf i f hi
  have hlt : i < fs.size := (Array.getElem?_eq_some_iff.1 hi).1
  rw [ho, ht, hk, List.getElem?_eq_getElem (by omega)] at h
  exact ⟨_, h⟩
theorem cs_last {l : List Value} {o k : Nat} (hl : cs.length = o + k) (h : (cs.drop o).take k = l) : cs.drop o = l := by
  rw [← h, List.take_of_length_le (by simp; omega)]
theorem cs_step {l r : List Value} {o k : Nat} (h : (cs.drop o).take k = l) (hr : cs.drop (o + k) = r) : cs.drop o = l ++ r := by
  rw [← h, ← hr, ← List.drop_drop, List.take_append_drop]
end

/-- A struct that is handed over. -/
theorem rd_agg {Ht : Type} {enc : TypeId × Value → Ht} {P : Program} {w : World} {r : Reach} {b0 base : Nat} {spare : Nat → Bool} {held : Bool} {t : TypeId} {fs : Array Field} {v : Value} {d : DataW Ht} {p : List MemPlace} (hs : P.underlying t = some (.struct fs)) (hv : Value.okWide P w r b0 t v)
    (h : DataW.Trod enc P w base spare held t v d p) : ∃ (l : List Value) (fuel : Nat), v = .agg l.toArray ∧ DataW.trod enc P w base spare held fuel t l = some (d, p) := by
  obtain ⟨cs, rfl, _⟩ := okWide_struct hs hv
  obtain ⟨fuel, hf⟩ := h
  exact ⟨cs.toList, fuel, rfl, hf⟩
theorem params_ok {P : Program} {ts : Array TypeId} (h : (ts.toList.all fun t => P.readableRec t && decide (t < P.types.size)) = true) : ∀ t ∈ ts.toList, P.readableRec t = true ∧ t < P.types.size := fun t ht => by
  have := List.all_eq_true.1 h t ht
  simpa using this
theorem rd_one_int {Ht : Type} {enc : TypeId × Value → Ht} {P : Program} {w : World} {r : Reach} {b0 base : Nat} {spare : Nat → Bool} {held : Bool} {t : TypeId} {k : IntKind} {v : Value} {d : DataW Ht} {p : List MemPlace} (hs : P.underlying t = some (.int k)) (hv : Value.okWide P w r b0 t v)
    (h : DataW.Trod enc P w base spare held t v d p) : ∃ z : Int, v = .int k z ∧ k.min ≤ z ∧ z ≤ k.max := by
  obtain ⟨z, rfl, _, _, hw⟩ := open_int hs hv h
  refine ⟨z, rfl, ?_⟩
  simp only [Lit.wf, Bool.and_eq_true, decide_eq_true_eq] at hw; exact hw
theorem rd_one_str {Ht : Type} {enc : TypeId × Value → Ht} {P : Program} {w : World} {r : Reach} {b0 base : Nat} {spare : Nat → Bool} {held : Bool} {t : TypeId} {v : Value} {d : DataW Ht} {p : List MemPlace} (hs : P.underlying t = some .string) (hv : Value.okWide P w r b0 t v)
    (h : DataW.Trod enc P w base spare held t v d p) : ∃ z : Bs, v = str z ∧ z.length ≤ 9223372036854775807 := by
  obtain ⟨s, rfl, _, _, hw⟩ := ChangeMaps.open_string hs hv h
  refine ⟨s.data.toList, str_of s, ?_⟩
  have : s.data.toList.length = s.size := Array.length_toList
  rw [this]; exact hw
/-- The cells of a datum. -/
def flatD : Nat → DataW Unit → List Value
  | _, .lit (.int k n) => [.int k n]
  | _, .lit (.string s) => [.string ⟨s.toArray⟩]
  | _, .lit (.bool b) => [.bool b]
  | n + 1, .agg l => l.flatMap (flatD n)
  | _, _ => []
/-- The settled world, with data laid in its variables. -/
def layD (d : DataW Unit) : Obj → Obj
  | .cells _ t frozen => .cells (flatD 5 d).toArray t frozen
  | o => o
noncomputable def laidW (P : Program) (os : Os) (l : List (Nat × DataW Unit)) : World :=
  let w0 := World.holding P os ⟨#[], #[], []⟩
  { w0 with heap := List.foldl (fun h x => h.modify x.1 (layD x.2)) w0.heap l }

/-- Each argument reads as it did, where below the heap's old size nothing has turned. -/
theorem trodAll_stays {Ht : Type} {enc : TypeId × Value → Ht} {P : Program} (hl : laidOutB P = true) {W W' : World} (hb : Below W.heap.size W W') {sp : Nat → Bool} : ∀ {ts : List TypeId} {vs : List Value} {ds : List (DataW Ht)} {ps : List MemPlace}, (∀ t ∈ ts, P.readableRec t = true ∧ t < P.types.size) →
    DataW.TrodAll enc P W 0 (fun _ => true) true ts vs ds ps → (∀ x ∈ ps, x.block < W.heap.size) → (∀ x ∈ ps, sp x.block = true) → DataW.TrodAll enc P W' 0 sp true ts vs ds ps := by
  intro ts
  induction ts with
  | nil => intro vs ds ps _ h _ _; cases vs <;> cases ds <;> first | exact h | exact h.elim
  | cons t ts ih =>
    intro vs ds ps hr h hlt hsp
    obtain ⟨v, vs', d, ds', p, q, rfl, rfl, rfl, h1, h2⟩ := trodAll_cons h
    exact trodAll_cons_mk (WideElems.Trod_stays hl (hr t (by simp)).1 (hr t (by simp)).2 h1 (fun x hx => hb.same (hlt x (by simp [hx]))) (fun x hx => hsp x (by simp [hx]))) (ih (fun u hu => hr u (by simp [hu])) h2 (fun x hx => hlt x (by simp [hx])) (fun x hx => hsp x (by simp [hx])))

section
variable {Ht : Type} {enc : TypeId × Value → Ht} {P : Program}
/-- A row's last step where below the heap's old size nothing has turned: it hands back true, and the arguments read as they did. -/
theorem law_post {f : Func} {s : ChangeSpec} {apart fresh again : Bool} {W W' : World} {args : Array Value} {ds : List (DataW Ht)} {before : List MemPlace} {tb : TypeId} (hvars : s.vars = [])
    (hW : DataW.Whole enc P f.params.toList s.vars apart W args.toList ds [] before) (hb : Below W.heap.size W W') (hl : laidOutB P = true) (hr : ∀ t ∈ f.params.toList, P.readableRec t = true ∧ t < P.types.size)
    (hres : f.resultTypes = #[tb]) (hu : P.underlying tb = some .bool) (hfn : s.fn Ht (ds ++ []) = { results := [.lit (.bool true)], args := ds }) : s.post enc P f apart fresh false again W args (.bool true) W' := by
  have hlt : ∀ p ∈ before, p.block < W.heap.size := fun p hp => hW.lt p hp
  have hold : ∀ p ∈ before, (fun b => decide (b < W.heap.size)) p.block = true := fun p hp => by simpa using hlt p hp
  have hW0 := hW
  obtain ⟨p, q, hA, hV, rfl, hz, hn⟩ := hW0
  have hq : q = [] := by
    rw [hvars] at hV
    exact (trodVars_none hV).2
  subst hq
  rw [List.append_nil] at hlt hold hz hn hW
  have hA0 : DataW.TrodAll enc P W 0 (fun _ => true) true f.params.toList args.toList ds p := hA
  have hargs : ∀ sp : Nat → Bool, (∀ x ∈ p, sp x.block = true) → DataW.TrodAll enc P W' 0 sp true f.params.toList args.toList ds p := fun sp hs => trodAll_stays hl hb hr hA0 hlt hs
  have hvs : ∀ sp : Nat → Bool, DataW.TrodVars enc P W' sp s.vars ([] : List (DataW Ht)) [] := fun sp => by rw [hvars]; rfl
  have hR : ∀ (b : Nat) (sp : Nat → Bool) (hd : Bool), DataW.TrodAll enc P W' b sp hd f.resultTypes.toList ((Value.bool true).resultList f.resultTypes.size) [.lit (.bool true)] [] := fun b sp hd => by
    rw [hres]
    exact trodAll_mk1 (shut_bool hu true)
  have hok : ∀ (j : Nat) (t : TypeId) (r : Value), f.resultTypes[j]? = some t → ((Value.bool true).resultList f.resultTypes.size)[j]? = some r → Value.okWide P W' .any 0 t r := ok_one hres rfl (okWide_bool_mk hu true)
  refine ⟨ds, [], p, [], p, [], hW, ?_, ?_, ?_, World.keptBut_mono (fun x hx => ⟨hx, Or.inr (by simpa using hx)⟩) (hb.frame (· ∈ p)), fun _ => ?_⟩
  · rw [hfn]; exact hR _ _ _
  · rw [hfn]; exact hargs _ hold
  · rw [hfn]; exact hvs _
  · refine ⟨hok, _, _, ([] ++ p) ++ [], ⟨[] ++ p, [], trodAll_append (hargs _ (fun _ _ => rfl)) (hR _ _ _), hvs _, rfl, ?_, ?_⟩, ?_⟩
    · intro b off hp
      have hin : MemPlace.cell b off ∈ p := by simpa using hp
      rw [hb.frozen (hlt _ hin)]
      exact hz b off hin
    · intro ha
      have := hn ha
      simpa using this
    · intro x hx _
      simpa using hx

/-- A variable of type int holds an int. -/
theorem gint_of_shape {w : World} {g : Nat} {t : TypeId} {zero : Array Value} (h : w.ShapedOpen P) (hg : g < P.globals.size)
    (h0 : ((begin P (fun _ _ => 0) default).world.heap[g]?).bind Obj.row? = some (zero, t)) (hz : zero.size = 1)
    (hb : P.buildable t = true) (hc : P.cellTypes P.depth t = some [t]) (hu : P.underlying t = some (.int .i64)) : GInt (hp w) g := by
  obtain ⟨cs, hh, hs, hr⟩ := h.1 g zero t hg h0
  obtain ⟨ts, hts, _, hall⟩ := hr hb
  rw [hc] at hts
  cases hts
  have h1 : 0 < cs.size := by omega
  obtain ⟨u, hu', hok⟩ := hall 0 cs[0] (by simp [h1])
  have : u = t := by simpa using hu'.symm
  subst this
  unfold Cell.ok at hok
  rw [hu] at hok
  have hv : ∃ m, cs[0] = .int .i64 m := by
    cases hv : cs[0] <;> rw [hv] at hok <;> first | exact ⟨_, by rw [hok.1]⟩ | simp at hok
  obtain ⟨m, hm⟩ := hv
  refine ⟨m, u, (0, 0), ?_⟩
  show w.heap[g]? = _
  rw [hh]
  have e : cs = #[.int .i64 m] := by
    apply Array.ext
    · simp; omega
    · intro i hi1 hi2
      have : i = 0 := by simp at hi2; omega
      subst this
      simpa using hm
  rw [e]

/-- A table of integers that the row lists. -/
theorem gtab_of {w : World} {g n : Nat} {name : String} {k : IntKind} {zs : List Int} {rest : List (String × DataW Unit)} {t e : TypeId} (hg : P.globalNamed name = some g) (hty : (P.globals[g]?).map (·.type) = some t) (ht : P.underlying t = some (.array n e)) (he : P.underlying e = some (.int k)) (hce : P.cellsOf e = 1) (hct : P.cellsOf t = n)
    (h : laidMet P ((name, Lib.tabData k zs) :: rest) w) : ∃ T fr, hp w g = some (.cells (zs.map (Value.int k)).toArray T fr) := by
  have hT := Lib.tabIs_of_head hg hty ht he hce hct h
  unfold Lib.TabIs World.var? at hT
  rw [hg] at hT
  simp only [Option.bind_some] at hT
  split at hT
  · rename_i cs T fr hh
    cases hT
    exact ⟨T, fr, hh⟩
  · cases hT
end
end Go.SW
