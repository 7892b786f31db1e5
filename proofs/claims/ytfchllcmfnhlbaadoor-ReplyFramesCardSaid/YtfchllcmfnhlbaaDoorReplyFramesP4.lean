/-
  A part of the proof of ReplyFrames: The walks of this seat, printed by program: words.Matches, stairwelllaw04.awake, stairwelllaw04.Awake, stairwelllaw09.awake, stairwelllaw09.Awake, stairwelllaw12.awake, stairwelllaw12.Awake. The walks of this seat, printed by program: api.Pair], head.Same, stairwellref09.Same, reply.sameMail, reply.Same, stairwellref12.SameMail, stairwellref12.Same, stairwelllaw09.Light, stairwelllaw12.Light, stairwelllaw12.To, stairwelllaw12.ReplySame. The walks of this seat, printed by program: stairwellref01.In.Fail, stairwellref01.In.Raw, stairwellref01.In.Num, stairwellref01.In.Text, stairwellref01.In.End, stairwellref12.tellsN, stairwellref12.tellsM. The walks of this seat, printed by program: stairwellref04.Name, stairwellref04.Split.
-/
import Derived.Test.YtfchllcmfnhlbaaDoorProg
import Derived.Test.YtfchllcmfnhlbaaDoorReplyFramesP2
import Derived.KernelRfl
import Derived.Test.YtfchllcmfnhlbaaDoorReplyFramesP3
set_option linter.unusedVariables false
set_option linter.unusedSimpArgs false

set_option linter.unusedVariables false
set_option maxRecDepth 100000
set_option maxHeartbeats 4000000
namespace Go.SW
open Go.Proofs
theorem bd27_0u8_1u8 (a1 : Int) (a2 : Int) (w : World) : (Instr.build 27 #[(0, .int .u8 a1), (1, .int .u8 a2)]).run Tryd.prog w = .ok (.agg #[.int .u8 a1, .int .u8 a2, .int .u64 0, .int .u64 0, .bool false, str [], .int .u64 0, str [], str [], .slice none 0 0, str [], .int .u64 0, .int .u8 0]) w := by kernel_rfl
theorem cb110 : Callable Tryd.prog 110 := callable_of Tryd.func110 (by kernel_rfl) (by kernel_rfl)
theorem cb117 : Callable Tryd.prog 117 := callable_of Tryd.func117 (by kernel_rfl) (by kernel_rfl)
theorem cb15 : Callable Tryd.prog 15 := callable_of Tryd.func15 (by kernel_rfl) (by kernel_rfl)
theorem cb30 : Callable Tryd.prog 30 := callable_of Tryd.func30 (by kernel_rfl) (by kernel_rfl)
theorem cb31 : Callable Tryd.prog 31 := callable_of Tryd.func31 (by kernel_rfl) (by kernel_rfl)
theorem cb67 : Callable Tryd.prog 67 := callable_of Tryd.func67 (by kernel_rfl) (by kernel_rfl)
theorem cb93 : Callable Tryd.prog 93 := callable_of Tryd.func93 (by kernel_rfl) (by kernel_rfl)

theorem words_Matches (H : Hp) (pattern : Bs) (key : Bs) (hML : GInt H 2) (hp : pattern.length < 4294967281) (hk : key.length < 4294967281) : Pr Tryd.prog 117 #[str pattern, str key] H (.bool (mt (wordsOf pattern) (wordsOf key))) := by
  refine pr_cw Tryd.func117 rfl Tryd.ntmps117 rfl (fun N => ?_)
  refine cw_seq ?_
  refine cw_region ?_
  refine ow1 (op1_l rfl (lo_assign (v := .bool _) rfl) ?_)
  refine ow_nil ?_
  refine seqK_n ?_
  refine cw_seq ?_
  refine cw_region ?_
  refine ow1 (op1_l rfl (lo_move (v := str _) rfl) ?_)
  refine ow1 (op1_ph (words_Split _ pattern hML (by omega)) (en_f cb113 rfl) rfl ?_)
  rintro _ H5 ⟨a1, c2, rfl, hs3⟩ hl4
  refine ow1 (op1_l rfl (lo_move (v := str _) rfl) ?_)
  refine ow1 (op1_ph (words_Split _ key (hML.mono ((HLe.refl _).trans hl4)) (by omega)) (en_f cb113 rfl) rfl ?_)
  rintro _ H10 ⟨a6, c7, rfl, hs8⟩ hl9
  refine ow1 (op1_l rfl (lo_assign (v := .slice _ _ _) rfl) ?_)
  refine ow1 (op1_l rfl (lo_assign (v := .slice _ _ _) rfl) ?_)
  refine ow_nil ?_
  refine seqK_n ?_
  refine cw_seq ?_
  refine cw_region ?_
  refine ow1 (op1_l rfl (lo_assign (v := .int _ _) rfl) ?_)
  refine ow1 (op1_l rfl (lo_assign (v := .int _ _) rfl) ?_)
  refine ow_nil ?_
  refine seqK_n ?_
  refine cw_seq ?_
  refine cw_region ?_
  refine ow1 (op1_l rfl (lo_assign (v := .int _ _) rfl) ?_)
  refine ow1 (op1_l rfl (lo_assign (v := .int _ _) rfl) ?_)
  refine ow_nil ?_
  refine seqK_n ?_
  refine cw_seq ?_
  refine cw_block ?_
  refine cw_loop4 [4, 7, 8, 9, 10, 15, 16, 17, 18, 19, 20, 21, 22, 23, 24, 25, 26, 27, 28, 29, 30, 31, 32, 33, 34, 35, 36, 37, 38, 39, 40, 41, 42, 43, 44, 45, 46, 47, 48, 49, 50, 51, 52, 53, 54, 55, 56, 57, 58, 59, 60, 61, 62, 63, 64, 65, 66, 67, 68] [] (fun (i : Nat) (j : Nat) (b : Int) (f : Nat) G => upd (upd (upd (upd (G) 7 (.int .i64 (i : Int))) 8 (.int .i64 (j : Int))) 9 (.int .i64 b)) 10 (.int .i64 (f : Int))) (fun (i : Nat) (j : Nat) (b : Int) (f : Nat) G => G) (fun (i : Nat) (j : Nat) (b : Int) (f : Nat) H' => MI (wordsOf pattern) (wordsOf key) i j b f) (fun (i : Nat) (j : Nat) (b : Int) (f : Nat) => mmu (wordsOf pattern) (wordsOf key) j b f) 0 0 (-1) 0 (upd_intro (upd_intro (upd_intro (upd_intro (mask_intro (by first | exact off_refl | (repeat (first | exact off_mask | refine off_upd rfl ?_ | refine off_mask2 rfl ?_)))) rfl) rfl) rfl) rfl) (lmask_intro offl_refl) ?_ ?_
  · exact MI.start _ _
  · intro i j b f J12 JL12 H12 hp11 hl12
    have hmi := hp11
    have hwp := words_le pattern
    have hwk := words_le key
    have := hmi.hi
    have := hmi.hj
    have := hmi.hf
    have := hmi.hb
    have := hmi.hbi
    refine cw_seq ?_
    refine cw_seq ?_
    refine cw_region ?_
    refine ow1 (op1_l rfl (lo_move (v := .int _ _) rfl) ?_)
    refine ow1 (op1_l rfl (lo_move (v := .slice _ _ _) rfl) ?_)
    refine ow1 (op1_l rfl (lo_len_slh rfl (hs8.mono ((HLe.refl _).trans hl12) (fun _ _ h => h)) Tryd.underlying108) ?_)
    refine ow1 (op1_l rfl (lo_lss rfl rfl) ?_)
    refine ow_nil ?_
    refine seqK_n ?_
    refine cw_cond rfl (fun h13 => ?_) (fun h13 => ?_)
    · have p14 := dt h13
      refine cw_skip ?_
      refine seqK_n ?_
      refine cw_block ?_
      refine cw_block ?_
      refine cw_seq ?_
      refine cw_region ?_
      refine ow1 (op1_l rfl (lo_move (v := .int _ _) rfl) ?_)
      refine ow1 (op1_l rfl (lo_move (v := .slice _ _ _) rfl) ?_)
      refine ow1 (op1_l rfl (lo_len_slh rfl (hs3.mono (((HLe.refl _).trans hl9).trans hl12) (fun _ _ h => h)) Tryd.underlying108) ?_)
      refine ow1 (op1_l rfl (lo_lss rfl rfl) ?_)
      refine ow1 (op1_l rfl (lo_move (v := .bool _) rfl) ?_)
      refine ow_sp (j := 4) rfl (fun h15 => ?_) (fun h15 => ?_)
      · have p16 := dt h15
        refine ow1 (op1_g rfl h15 rfl (lo_move (v := .slice _ _ _) rfl) ?_)
        refine ow1 (op1_g rfl h15 rfl (lo_move (v := .int _ _) rfl) ?_)
        obtain ⟨c17, hc18⟩ := getE (xs := wordsOf pattern) (m := i) (by omega)
        obtain ⟨cs19, hE20, at21⟩ := (hs3.mono (((HLe.refl _).trans hl9).trans hl12) (fun _ _ h => h)).get hc18
        obtain ⟨rfl, c17_w⟩ := hE20
        have c17_w : c17.length ≤ 9223372036854775807 := c17_w
        refine ow1 (op1_g rfl h15 rfl (lo_indexAddr rfl rfl (hs3.mono (((HLe.refl _).trans hl9).trans hl12) (fun _ _ h => h)).1 at21 Tryd.underlying108 sz9 (by omega) (by omega)) ?_)
        refine ow1 (op1_g rfl h15 rfl (lo_loadE1 rfl ag9 at21) ?_)
        refine ow1 (op1_g rfl h15 rfl (lo_seql rfl rfl) ?_)
        refine ow1 (op1_l rfl (lo_pick_t (v := .bool _) rfl h15 rfl) ?_)
        refine ow1 (op1_l rfl (lo_assign (v := .bool _) rfl) ?_)
        refine ow_nil ?_
        refine seqK_n ?_
        refine cw_cond rfl (fun h22 => ?_) (fun h22 => ?_)
        · have p23 := dt h22
          refine cw_seq ?_
          refine cw_region ?_
          refine ow1 (op1_l rfl (lo_move (v := .int _ _) rfl) ?_)
          refine ow1 (op1_l rfl (lo_add rfl rfl (rg_i64 (by omega))) ?_)
          refine ow1 (op1_l rfl (lo_assign (v := .int _ _) rfl) ?_)
          refine ow_nil ?_
          refine seqK_n ?_
          refine cw_region ?_
          refine ow1 (op1_l rfl (lo_move (v := .int _ _) rfl) ?_)
          refine ow1 (op1_l rfl (lo_move (v := .int _ _) rfl) ?_)
          refine ow1 (op1_l rfl (lo_assign (v := .int _ _) rfl) ?_)
          refine ow1 (op1_l rfl (lo_assign (v := .int _ _) rfl) ?_)
          refine ow_nil ?_
          refine blkK_n ?_
          refine blkK_n ?_
          obtain ⟨c24, hc25⟩ := getE (xs := wordsOf key) (m := j) (by omega)
          refine next4 (i + 1) j ((i : Int) + 1) j (upd_intro (upd_intro (upd_intro (upd_intro (mask_intro (by first | exact off_refl | (repeat (first | exact off_mask | refine off_upd rfl ?_ | refine off_mask2 rfl ?_)))) (congrArg (Value.int .i64) (by omega))) rfl) rfl) rfl) (lmask_intro (by first | exact offl_refl | (repeat (first | exact offl_mask | refine offl_upd rfl ?_ | refine offl_mask2 rfl ?_)))) hl12 ?_ ?_
          · exact MI.hash hmi (by rw [hc18]; simp [*])
          · exact mmu_hash hmi (by omega)
        · have p26 := df h22
          refine cw_seq ?_
          refine cw_anyL mixd ?_
          refine vw_q 0 rfl (by kernel_rfl) (by repeat (first | exact lle_l0 | exact LLe.refl _ | exact lle_none | refine lle_up ?_ rfl)) (fun _ _ hh hl => lo_move (v := .int _ _) rfl) ?_
          refine vw_q 1 rfl (by kernel_rfl) (by repeat (first | exact lle_l0 | exact LLe.refl _ | exact lle_none | refine lle_up ?_ rfl)) (fun _ _ hh hl => lo_move (v := .slice _ _ _) rfl) ?_
          refine vw_q 2 rfl (by kernel_rfl) (by repeat (first | exact lle_l0 | exact LLe.refl _ | exact lle_none | refine lle_up ?_ rfl)) (fun _ _ hh hl => lo_len_slh rfl (hs3.mono ((((HLe.refl _).trans hl9).trans hl12).trans hh) (fun _ _ h => h)) Tryd.underlying108) ?_
          refine vw_q 3 rfl (by kernel_rfl) (by repeat (first | exact lle_l0 | exact LLe.refl _ | exact lle_none | refine lle_up ?_ rfl)) (fun _ _ hh hl => lo_lss rfl rfl) ?_
          refine vw_q 4 rfl (by kernel_rfl) (by repeat (first | exact lle_l0 | exact LLe.refl _ | exact lle_none | refine lle_up ?_ rfl)) (fun _ _ hh hl => lo_move (v := .bool _) rfl) ?_
          refine vw_qg 5 rfl (by kernel_rfl) (by repeat (first | exact lle_l0 | exact LLe.refl _ | exact lle_none | refine lle_up ?_ rfl)) rfl h15 (fun _ _ hh hl => lo_move (v := .slice _ _ _) rfl) ?_
          refine vw_qg 6 rfl (by kernel_rfl) (by repeat (first | exact lle_l0 | exact LLe.refl _ | exact lle_none | refine lle_up ?_ rfl)) rfl h15 (fun _ _ hh hl => lo_move (v := .int _ _) rfl) ?_
          refine vw_qg 7 rfl (by kernel_rfl) (by repeat (first | exact lle_l0 | exact LLe.refl _ | exact lle_none | refine lle_up ?_ rfl)) rfl h15 (fun _ _ hh hl => lo_indexAddr rfl rfl (hs3.mono (((HLe.refl _).trans hl9).trans hl12) (fun _ _ h => h)).1 (at21.mono hh) Tryd.underlying108 sz9 (by omega) (by omega)) ?_
          refine vw_qg 8 rfl (by kernel_rfl) (by repeat (first | exact lle_l0 | exact LLe.refl _ | exact lle_none | refine lle_up ?_ rfl)) rfl h15 (fun _ _ hh hl => lo_loadE1 rfl ag9 (at21.mono hh)) ?_
          refine vw_qg 9 rfl (by kernel_rfl) (by repeat (first | exact lle_l0 | exact LLe.refl _ | exact lle_none | refine lle_up ?_ rfl)) rfl h15 (fun _ _ hh hl => lo_seql rfl rfl) ?_
          refine vw_qg 10 rfl (by kernel_rfl) (by repeat (first | exact lle_l0 | exact LLe.refl _ | exact lle_none | refine lle_up ?_ rfl)) rfl h15 (fun _ _ hh hl => lo_move (v := .bool _) rfl) ?_
          refine vw_sp (j := 10) rfl (fun h27 => ?_) (fun h27 => ?_)
          · have p28 := dt h27
            refine vw_qgs 11 rfl (by kernel_rfl) (by repeat (first | exact lle_l0 | exact LLe.refl _ | exact lle_none | refine lle_up ?_ rfl)) rfl h27 ?_
            refine vw_qgs 12 rfl (by kernel_rfl) (by repeat (first | exact lle_l0 | exact LLe.refl _ | exact lle_none | refine lle_up ?_ rfl)) rfl h27 ?_
            refine vw_qgs 13 rfl (by kernel_rfl) (by repeat (first | exact lle_l0 | exact LLe.refl _ | exact lle_none | refine lle_up ?_ rfl)) rfl h27 ?_
            refine vw_qgs 14 rfl (by kernel_rfl) (by repeat (first | exact lle_l0 | exact LLe.refl _ | exact lle_none | refine lle_up ?_ rfl)) rfl h27 ?_
            refine vw_qgs 15 rfl (by kernel_rfl) (by repeat (first | exact lle_l0 | exact LLe.refl _ | exact lle_none | refine lle_up ?_ rfl)) rfl h27 ?_
            refine vw_qgs 16 rfl (by kernel_rfl) (by repeat (first | exact lle_l0 | exact LLe.refl _ | exact lle_none | refine lle_up ?_ rfl)) rfl h27 ?_
            refine vw_qgs 17 rfl (by kernel_rfl) (by repeat (first | exact lle_l0 | exact LLe.refl _ | exact lle_none | refine lle_up ?_ rfl)) rfl h27 ?_
            refine vw_qgs 18 rfl (by kernel_rfl) (by repeat (first | exact lle_l0 | exact LLe.refl _ | exact lle_none | refine lle_up ?_ rfl)) rfl h27 ?_
            refine vw_qgs 19 rfl (by kernel_rfl) (by repeat (first | exact lle_l0 | exact LLe.refl _ | exact lle_none | refine lle_up ?_ rfl)) rfl h27 ?_
            refine vw_qg 20 rfl (by kernel_rfl) (by repeat (first | exact lle_l0 | exact LLe.refl _ | exact lle_none | refine lle_up ?_ rfl)) rfl h15 (fun _ _ hh hl => lo_pick_t (v := .bool _) rfl h27 rfl) ?_
            refine vw_q 21 rfl (by kernel_rfl) (by repeat (first | exact lle_l0 | exact LLe.refl _ | exact lle_none | refine lle_up ?_ rfl)) (fun _ _ hh hl => lo_pick_t (v := .bool _) rfl h15 rfl) ?_
            refine vw_q 22 rfl (by kernel_rfl) (by repeat (first | exact lle_l0 | exact LLe.refl _ | exact lle_none | refine lle_up ?_ rfl)) (fun _ _ hh hl => lo_assign (v := .bool _) rfl) ?_
            refine vw_done (by kernel_rfl) ?_
            refine seqK_n ?_
            refine cw_cond_t rfl rfl ?_
            refine cw_region ?_
            refine ow1 (op1_l rfl (lo_move (v := .int _ _) rfl) ?_)
            refine ow1 (op1_l rfl (lo_add rfl rfl (rg_i64 (by omega))) ?_)
            refine ow1 (op1_l rfl (lo_move (v := .int _ _) rfl) ?_)
            refine ow1 (op1_l rfl (lo_add rfl rfl (rg_i64 (by omega))) ?_)
            refine ow1 (op1_l rfl (lo_assign (v := .int _ _) rfl) ?_)
            refine ow1 (op1_l rfl (lo_assign (v := .int _ _) rfl) ?_)
            refine ow_nil ?_
            refine blkK_n ?_
            refine blkK_n ?_
            obtain ⟨c29, hc30⟩ := getE (xs := wordsOf key) (m := j) (by omega)
            refine next4 (i + 1) (j + 1) b f (upd_intro (upd_intro (upd_intro (upd_intro (mask_intro (by first | exact off_refl | (repeat (first | exact off_mask | refine off_upd rfl ?_ | refine off_mask2 rfl ?_)))) (congrArg (Value.int .i64) (by omega))) rfl) rfl) rfl) (lmask_intro (by first | exact offl_refl | (repeat (first | exact offl_mask | refine offl_upd rfl ?_ | refine offl_mask2 rfl ?_)))) hl12 ?_ ?_
            · exact MI.step hmi hc18 hc30 (by assumption) (by first | exact .inl (by assumption) | exact .inr (by assumption))
            · exact mmu_step (by omega)
          · have p31 := df h27
            refine vw_qg 11 rfl (by kernel_rfl) (by repeat (first | exact lle_l0 | exact LLe.refl _ | exact lle_none | refine lle_up ?_ rfl)) rfl h27 (fun _ _ hh hl => lo_move (v := .slice _ _ _) rfl) ?_
            refine vw_qg 12 rfl (by kernel_rfl) (by repeat (first | exact lle_l0 | exact LLe.refl _ | exact lle_none | refine lle_up ?_ rfl)) rfl h27 (fun _ _ hh hl => lo_move (v := .int _ _) rfl) ?_
            refine vw_qg 13 rfl (by kernel_rfl) (by repeat (first | exact lle_l0 | exact LLe.refl _ | exact lle_none | refine lle_up ?_ rfl)) rfl h27 (fun _ _ hh hl => lo_indexAddr rfl rfl (hs3.mono (((HLe.refl _).trans hl9).trans hl12) (fun _ _ h => h)).1 (at21.mono hh) Tryd.underlying108 sz9 (by omega) (by omega)) ?_
            refine vw_qg 14 rfl (by kernel_rfl) (by repeat (first | exact lle_l0 | exact LLe.refl _ | exact lle_none | refine lle_up ?_ rfl)) rfl h27 (fun _ _ hh hl => lo_loadE1 rfl ag9 (at21.mono hh)) ?_
            refine vw_qg 15 rfl (by kernel_rfl) (by repeat (first | exact lle_l0 | exact LLe.refl _ | exact lle_none | refine lle_up ?_ rfl)) rfl h27 (fun _ _ hh hl => lo_move (v := .slice _ _ _) rfl) ?_
            refine vw_qg 16 rfl (by kernel_rfl) (by repeat (first | exact lle_l0 | exact LLe.refl _ | exact lle_none | refine lle_up ?_ rfl)) rfl h27 (fun _ _ hh hl => lo_move (v := .int _ _) rfl) ?_
            obtain ⟨c32, hc33⟩ := getE (xs := wordsOf key) (m := j) (by omega)
            obtain ⟨cs34, hE35, at36⟩ := (hs8.mono ((HLe.refl _).trans hl12) (fun _ _ h => h)).get hc33
            obtain ⟨rfl, c32_w⟩ := hE35
            have c32_w : c32.length ≤ 9223372036854775807 := c32_w
            refine vw_qg 17 rfl (by kernel_rfl) (by repeat (first | exact lle_l0 | exact LLe.refl _ | exact lle_none | refine lle_up ?_ rfl)) rfl h27 (fun _ _ hh hl => lo_indexAddr rfl rfl (hs8.mono ((HLe.refl _).trans hl12) (fun _ _ h => h)).1 (at36.mono hh) Tryd.underlying108 sz9 (by omega) (by omega)) ?_
            refine vw_qg 18 rfl (by kernel_rfl) (by repeat (first | exact lle_l0 | exact LLe.refl _ | exact lle_none | refine lle_up ?_ rfl)) rfl h27 (fun _ _ hh hl => lo_loadE1 rfl ag9 (at36.mono hh)) ?_
            refine vw_qg 19 rfl (by kernel_rfl) (by repeat (first | exact lle_l0 | exact LLe.refl _ | exact lle_none | refine lle_up ?_ rfl)) rfl h27 (fun _ _ hh hl => lo_seql rfl rfl) ?_
            refine vw_qg 20 rfl (by kernel_rfl) (by repeat (first | exact lle_l0 | exact LLe.refl _ | exact lle_none | refine lle_up ?_ rfl)) rfl h15 (fun _ _ hh hl => lo_pick_f (v := .bool _) rfl h27 rfl) ?_
            refine vw_q 21 rfl (by kernel_rfl) (by repeat (first | exact lle_l0 | exact LLe.refl _ | exact lle_none | refine lle_up ?_ rfl)) (fun _ _ hh hl => lo_pick_t (v := .bool _) rfl h15 rfl) ?_
            refine vw_q 22 rfl (by kernel_rfl) (by repeat (first | exact lle_l0 | exact LLe.refl _ | exact lle_none | refine lle_up ?_ rfl)) (fun _ _ hh hl => lo_assign (v := .bool _) rfl) ?_
            refine vw_done (by kernel_rfl) ?_
            refine seqK_n ?_
            refine cw_cond rfl (fun h37 => ?_) (fun h37 => ?_)
            · have p38 := dt h37
              refine cw_region ?_
              refine ow1 (op1_l rfl (lo_move (v := .int _ _) rfl) ?_)
              refine ow1 (op1_l rfl (lo_add rfl rfl (rg_i64 (by omega))) ?_)
              refine ow1 (op1_l rfl (lo_move (v := .int _ _) rfl) ?_)
              refine ow1 (op1_l rfl (lo_add rfl rfl (rg_i64 (by omega))) ?_)
              refine ow1 (op1_l rfl (lo_assign (v := .int _ _) rfl) ?_)
              refine ow1 (op1_l rfl (lo_assign (v := .int _ _) rfl) ?_)
              refine ow_nil ?_
              refine blkK_n ?_
              refine blkK_n ?_
              refine next4 (i + 1) (j + 1) b f (upd_intro (upd_intro (upd_intro (upd_intro (mask_intro (by first | exact off_refl | (repeat (first | exact off_mask | refine off_upd rfl ?_ | refine off_mask2 rfl ?_)))) (congrArg (Value.int .i64) (by omega))) rfl) rfl) rfl) (lmask_intro (by first | exact offl_refl | (repeat (first | exact offl_mask | refine offl_upd rfl ?_ | refine offl_mask2 rfl ?_)))) hl12 ?_ ?_
              · exact MI.step hmi hc18 hc33 (by assumption) (by first | exact .inl (by assumption) | exact .inr (by assumption))
              · exact mmu_step (by omega)
            · have p39 := df h37
              refine cw_seq ?_
              refine cw_region ?_
              refine ow1 (op1_l rfl (lo_move (v := .int _ _) rfl) ?_)
              refine ow1 (op1_l rfl (lo_geq rfl rfl) ?_)
              refine ow1 (op1_l rfl (lo_assign (v := .bool _) rfl) ?_)
              refine ow_nil ?_
              refine seqK_n ?_
              refine cw_cond rfl (fun h40 => ?_) (fun h40 => ?_)
              · have p41 := dt h40
                refine cw_seq ?_
                refine cw_region ?_
                refine ow1 (op1_l rfl (lo_move (v := .int _ _) rfl) ?_)
                refine ow1 (op1_l rfl (lo_add rfl rfl (rg_i64 (by omega))) ?_)
                refine ow1 (op1_l rfl (lo_assign (v := .int _ _) rfl) ?_)
                refine ow_nil ?_
                refine seqK_n ?_
                refine cw_region ?_
                refine ow1 (op1_l rfl (lo_move (v := .int _ _) rfl) ?_)
                refine ow1 (op1_l rfl (lo_move (v := .int _ _) rfl) ?_)
                refine ow1 (op1_l rfl (lo_assign (v := .int _ _) rfl) ?_)
                refine ow1 (op1_l rfl (lo_assign (v := .int _ _) rfl) ?_)
                refine ow_nil ?_
                refine blkK_n ?_
                refine blkK_n ?_
                have hbad : ∀ w, (wordsOf pattern)[i]? = some w → w ≠ [35] ∧ w ≠ [42] ∧ w ≠ c32 := by
                  intro w hw
                  rw [hc18] at hw; cases hw
                  exact ⟨by assumption, by assumption, by assumption⟩
                refine next4 b.toNat (f + 1) b (f + 1) (upd_intro (upd_intro (upd_intro (upd_intro (mask_intro (by first | exact off_refl | (repeat (first | exact off_mask | refine off_upd rfl ?_ | refine off_mask2 rfl ?_)))) (congrArg (Value.int .i64) (by omega))) rfl) rfl) rfl) (lmask_intro (by first | exact offl_refl | (repeat (first | exact offl_mask | refine offl_upd rfl ?_ | refine offl_mask2 rfl ?_)))) hl12 ?_ ?_
                · exact MI.back hmi hc33 (by omega) hbad
                · exact mmu_back hmi.hf (by omega)
              · have p42 := df h40
                refine cw_seq ?_
                refine cw_region ?_
                refine ow1 (op1_l rfl (lo_assign (v := .bool _) rfl) ?_)
                refine ow_nil ?_
                refine seqK_n ?_
                refine cw_ret ?_
                refine blkK_r ?_
                refine blkK_r ?_
                refine loopK_r ?_
                refine blkK_r ?_
                refine seqK_r ?_
                refine fnK_r (res1 rfl (rv_t (v := .bool _) rfl)) ((((HLe.refl _).trans hl4).trans hl9).trans hl12) ?_
                have hbad : ∀ w, (wordsOf pattern)[i]? = some w → w ≠ [35] ∧ w ≠ [42] ∧ w ≠ c32 := by
                  intro w hw
                  rw [hc18] at hw; cases hw
                  exact ⟨by assumption, by assumption, by assumption⟩
                exact congrArg Value.bool (MI.none hmi hc33 (by omega) hbad).symm
      · have p43 := df h15
        refine ow1 (op1_gs rfl h15 rfl ?_)
        refine ow1 (op1_gs rfl h15 rfl ?_)
        refine ow1 (op1_gs rfl h15 rfl ?_)
        refine ow1 (op1_gs rfl h15 rfl ?_)
        refine ow1 (op1_gs rfl h15 rfl ?_)
        refine ow1 (op1_l rfl (lo_pick_f (v := .bool _) rfl h15 rfl) ?_)
        refine ow1 (op1_l rfl (lo_assign (v := .bool _) rfl) ?_)
        refine ow_nil ?_
        refine seqK_n ?_
        refine cw_cond_f rfl rfl ?_
        refine cw_seq ?_
        refine cw_anyL mixd ?_
        refine vw_q 0 rfl (by kernel_rfl) (by repeat (first | exact lle_l0 | exact LLe.refl _ | exact lle_none | refine lle_up ?_ rfl)) (fun _ _ hh hl => lo_move (v := .int _ _) rfl) ?_
        refine vw_q 1 rfl (by kernel_rfl) (by repeat (first | exact lle_l0 | exact LLe.refl _ | exact lle_none | refine lle_up ?_ rfl)) (fun _ _ hh hl => lo_move (v := .slice _ _ _) rfl) ?_
        refine vw_q 2 rfl (by kernel_rfl) (by repeat (first | exact lle_l0 | exact LLe.refl _ | exact lle_none | refine lle_up ?_ rfl)) (fun _ _ hh hl => lo_len_slh rfl (hs3.mono ((((HLe.refl _).trans hl9).trans hl12).trans hh) (fun _ _ h => h)) Tryd.underlying108) ?_
        refine vw_q 3 rfl (by kernel_rfl) (by repeat (first | exact lle_l0 | exact LLe.refl _ | exact lle_none | refine lle_up ?_ rfl)) (fun _ _ hh hl => lo_lss rfl rfl) ?_
        refine vw_q 4 rfl (by kernel_rfl) (by repeat (first | exact lle_l0 | exact LLe.refl _ | exact lle_none | refine lle_up ?_ rfl)) (fun _ _ hh hl => lo_move (v := .bool _) rfl) ?_
        refine vw_qgs 5 rfl (by kernel_rfl) (by repeat (first | exact lle_l0 | exact LLe.refl _ | exact lle_none | refine lle_up ?_ rfl)) rfl h15 ?_
        refine vw_qgs 6 rfl (by kernel_rfl) (by repeat (first | exact lle_l0 | exact LLe.refl _ | exact lle_none | refine lle_up ?_ rfl)) rfl h15 ?_
        refine vw_qgs 7 rfl (by kernel_rfl) (by repeat (first | exact lle_l0 | exact LLe.refl _ | exact lle_none | refine lle_up ?_ rfl)) rfl h15 ?_
        refine vw_qgs 8 rfl (by kernel_rfl) (by repeat (first | exact lle_l0 | exact LLe.refl _ | exact lle_none | refine lle_up ?_ rfl)) rfl h15 ?_
        refine vw_qgs 9 rfl (by kernel_rfl) (by repeat (first | exact lle_l0 | exact LLe.refl _ | exact lle_none | refine lle_up ?_ rfl)) rfl h15 ?_
        refine vw_qgs 10 rfl (by kernel_rfl) (by repeat (first | exact lle_l0 | exact LLe.refl _ | exact lle_none | refine lle_up ?_ rfl)) rfl h15 ?_
        refine vw_qgx (j := 10) 11 rfl (by kernel_rfl) (by repeat (first | exact lle_l0 | exact LLe.refl _ | exact lle_none | refine lle_up ?_ rfl)) rfl ?_
        refine vw_qgx (j := 10) 12 rfl (by kernel_rfl) (by repeat (first | exact lle_l0 | exact LLe.refl _ | exact lle_none | refine lle_up ?_ rfl)) rfl ?_
        refine vw_qgx (j := 10) 13 rfl (by kernel_rfl) (by repeat (first | exact lle_l0 | exact LLe.refl _ | exact lle_none | refine lle_up ?_ rfl)) rfl ?_
        refine vw_qgx (j := 10) 14 rfl (by kernel_rfl) (by repeat (first | exact lle_l0 | exact LLe.refl _ | exact lle_none | refine lle_up ?_ rfl)) rfl ?_
        refine vw_qgx (j := 10) 15 rfl (by kernel_rfl) (by repeat (first | exact lle_l0 | exact LLe.refl _ | exact lle_none | refine lle_up ?_ rfl)) rfl ?_
        refine vw_qgx (j := 10) 16 rfl (by kernel_rfl) (by repeat (first | exact lle_l0 | exact LLe.refl _ | exact lle_none | refine lle_up ?_ rfl)) rfl ?_
        refine vw_qgx (j := 10) 17 rfl (by kernel_rfl) (by repeat (first | exact lle_l0 | exact LLe.refl _ | exact lle_none | refine lle_up ?_ rfl)) rfl ?_
        refine vw_qgx (j := 10) 18 rfl (by kernel_rfl) (by repeat (first | exact lle_l0 | exact LLe.refl _ | exact lle_none | refine lle_up ?_ rfl)) rfl ?_
        refine vw_qgx (j := 10) 19 rfl (by kernel_rfl) (by repeat (first | exact lle_l0 | exact LLe.refl _ | exact lle_none | refine lle_up ?_ rfl)) rfl ?_
        refine vw_qgs 20 rfl (by kernel_rfl) (by repeat (first | exact lle_l0 | exact LLe.refl _ | exact lle_none | refine lle_up ?_ rfl)) rfl h15 ?_
        refine vw_q 21 rfl (by kernel_rfl) (by repeat (first | exact lle_l0 | exact LLe.refl _ | exact lle_none | refine lle_up ?_ rfl)) (fun _ _ hh hl => lo_pick_f (v := .bool _) rfl h15 rfl) ?_
        refine vw_q 22 rfl (by kernel_rfl) (by repeat (first | exact lle_l0 | exact LLe.refl _ | exact lle_none | refine lle_up ?_ rfl)) (fun _ _ hh hl => lo_assign (v := .bool _) rfl) ?_
        refine vw_done (by kernel_rfl) ?_
        refine seqK_n ?_
        refine cw_cond_f rfl rfl ?_
        refine cw_seq ?_
        refine cw_region ?_
        refine ow1 (op1_l rfl (lo_move (v := .int _ _) rfl) ?_)
        refine ow1 (op1_l rfl (lo_geq rfl rfl) ?_)
        refine ow1 (op1_l rfl (lo_assign (v := .bool _) rfl) ?_)
        refine ow_nil ?_
        refine seqK_n ?_
        refine cw_cond rfl (fun h44 => ?_) (fun h44 => ?_)
        · have p45 := dt h44
          refine cw_seq ?_
          refine cw_region ?_
          refine ow1 (op1_l rfl (lo_move (v := .int _ _) rfl) ?_)
          refine ow1 (op1_l rfl (lo_add rfl rfl (rg_i64 (by omega))) ?_)
          refine ow1 (op1_l rfl (lo_assign (v := .int _ _) rfl) ?_)
          refine ow_nil ?_
          refine seqK_n ?_
          refine cw_region ?_
          refine ow1 (op1_l rfl (lo_move (v := .int _ _) rfl) ?_)
          refine ow1 (op1_l rfl (lo_move (v := .int _ _) rfl) ?_)
          refine ow1 (op1_l rfl (lo_assign (v := .int _ _) rfl) ?_)
          refine ow1 (op1_l rfl (lo_assign (v := .int _ _) rfl) ?_)
          refine ow_nil ?_
          refine blkK_n ?_
          refine blkK_n ?_
          obtain ⟨c46, hc47⟩ := getE (xs := wordsOf key) (m := j) (by omega)
          have hbad : ∀ w, (wordsOf pattern)[i]? = some w → w ≠ [35] ∧ w ≠ [42] ∧ w ≠ c46 := by
            intro w hw
            rw [List.getElem?_eq_none (by omega)] at hw; cases hw
          refine next4 b.toNat (f + 1) b (f + 1) (upd_intro (upd_intro (upd_intro (upd_intro (mask_intro (by first | exact off_refl | (repeat (first | exact off_mask | refine off_upd rfl ?_ | refine off_mask2 rfl ?_)))) (congrArg (Value.int .i64) (by omega))) rfl) rfl) rfl) (lmask_intro (by first | exact offl_refl | (repeat (first | exact offl_mask | refine offl_upd rfl ?_ | refine offl_mask2 rfl ?_)))) hl12 ?_ ?_
          · exact MI.back hmi hc47 (by omega) hbad
          · exact mmu_back hmi.hf (by omega)
        · have p48 := df h44
          refine cw_seq ?_
          refine cw_region ?_
          refine ow1 (op1_l rfl (lo_assign (v := .bool _) rfl) ?_)
          refine ow_nil ?_
          refine seqK_n ?_
          refine cw_ret ?_
          refine blkK_r ?_
          refine blkK_r ?_
          refine loopK_r ?_
          refine blkK_r ?_
          refine seqK_r ?_
          refine fnK_r (res1 rfl (rv_t (v := .bool _) rfl)) ((((HLe.refl _).trans hl4).trans hl9).trans hl12) ?_
          obtain ⟨cz, hcz⟩ := getE (xs := wordsOf key) (m := j) (by omega)
          have hbad : ∀ w, (wordsOf pattern)[i]? = some w → w ≠ [35] ∧ w ≠ [42] ∧ w ≠ cz := by
            intro w hw
            rw [List.getElem?_eq_none (by omega)] at hw; cases hw
          exact congrArg Value.bool (MI.none hmi hcz (by omega) hbad).symm
    · have p49 := df h13
      refine cw_exit ?_
      refine seqK_e ?_
      refine loopK_e ?_
      refine blkK_hit ?_
      refine seqK_n ?_
      refine cw_seq ?_
      refine cw_block ?_
      refine cw_loop1 [7, 69, 70, 71, 72, 73, 74, 75, 76, 77, 78, 79, 80, 81] [] (fun (q : Nat) G => upd (G) 7 (.int .i64 (q : Int))) (fun (q : Nat) G => G) (fun (q : Nat) H' => q ≤ (wordsOf pattern).length ∧ mt (wordsOf pattern) (wordsOf key) = mt ((wordsOf pattern).drop q) []) (fun (q : Nat) => (wordsOf pattern).length - q) i (upd_intro (mask_intro (by first | exact off_refl | (repeat (first | exact off_mask | refine off_upd rfl ?_ | refine off_mask2 rfl ?_)))) rfl) (lmask_intro offl_refl) ?_ ?_
      · exact ⟨by omega, hmi.fin (by omega)⟩
      · intro q J51 JL51 H51 hp50 hl51
        obtain ⟨hq1, hq2⟩ := hp50
        refine cw_seq ?_
        refine cw_seq ?_
        refine cw_region ?_
        refine ow1 (op1_l rfl (lo_move (v := .int _ _) rfl) ?_)
        refine ow1 (op1_l rfl (lo_move (v := .slice _ _ _) rfl) ?_)
        refine ow1 (op1_l rfl (lo_len_slh rfl (hs3.mono ((((HLe.refl _).trans hl9).trans hl12).trans hl51) (fun _ _ h => h)) Tryd.underlying108) ?_)
        refine ow1 (op1_l rfl (lo_lss rfl rfl) ?_)
        refine ow1 (op1_l rfl (lo_move (v := .bool _) rfl) ?_)
        refine ow_sp (j := 4) rfl (fun h52 => ?_) (fun h52 => ?_)
        · have p53 := dt h52
          refine ow1 (op1_g rfl h52 rfl (lo_move (v := .slice _ _ _) rfl) ?_)
          refine ow1 (op1_g rfl h52 rfl (lo_move (v := .int _ _) rfl) ?_)
          obtain ⟨c54, hc55⟩ := getE (xs := wordsOf pattern) (m := q) (by omega)
          obtain ⟨cs56, hE57, at58⟩ := (hs3.mono ((((HLe.refl _).trans hl9).trans hl12).trans hl51) (fun _ _ h => h)).get hc55
          obtain ⟨rfl, c54_w⟩ := hE57
          have c54_w : c54.length ≤ 9223372036854775807 := c54_w
          refine ow1 (op1_g rfl h52 rfl (lo_indexAddr rfl rfl (hs3.mono ((((HLe.refl _).trans hl9).trans hl12).trans hl51) (fun _ _ h => h)).1 at58 Tryd.underlying108 sz9 (by omega) (by omega)) ?_)
          refine ow1 (op1_g rfl h52 rfl (lo_loadE1 rfl ag9 at58) ?_)
          refine ow1 (op1_g rfl h52 rfl (lo_seql rfl rfl) ?_)
          refine ow1 (op1_l rfl (lo_pick_t (v := .bool _) rfl h52 rfl) ?_)
          refine ow_nil ?_
          refine seqK_n ?_
          refine cw_cond rfl (fun h59 => ?_) (fun h59 => ?_)
          · have p60 := dt h59
            refine cw_skip ?_
            refine seqK_n ?_
            refine cw_block ?_
            refine cw_region ?_
            refine ow1 (op1_l rfl (lo_move (v := .int _ _) rfl) ?_)
            refine ow1 (op1_l rfl (lo_add rfl rfl (rg_i64 (by omega))) ?_)
            refine ow1 (op1_l rfl (lo_assign (v := .int _ _) rfl) ?_)
            refine ow_nil ?_
            refine blkK_n ?_
            refine next1 (q + 1) (upd_intro (mask_intro (by first | exact off_refl | (repeat (first | exact off_mask | refine off_upd rfl ?_ | refine off_mask2 rfl ?_)))) rfl) (lmask_intro (by first | exact offl_refl | (repeat (first | exact offl_mask | refine offl_upd rfl ?_ | refine offl_mask2 rfl ?_)))) hl51 ?_ ?_
            · exact ⟨by omega, mt_end hq2 (by rw [hc55]; simp [*])⟩
            · omega
          · have p61 := df h59
            refine cw_exit ?_
            refine seqK_e ?_
            refine loopK_e ?_
            refine blkK_hit ?_
            refine seqK_n ?_
            refine cw_seq ?_
            refine cw_region ?_
            refine ow1 (op1_l rfl (lo_move (v := .int _ _) rfl) ?_)
            refine ow1 (op1_l rfl (lo_move (v := .slice _ _ _) rfl) ?_)
            refine ow1 (op1_l rfl (lo_len_slh rfl (hs3.mono ((((HLe.refl _).trans hl9).trans hl12).trans hl51) (fun _ _ h => h)) Tryd.underlying108) ?_)
            refine ow1 (op1_l rfl (lo_eql rfl rfl) ?_)
            refine ow1 (op1_l rfl (lo_assign (v := .bool _) rfl) ?_)
            refine ow_nil ?_
            refine seqK_n ?_
            refine cw_ret ?_
            refine fnK_r (res1 rfl (rv_t (v := .bool _) rfl)) (((((HLe.refl _).trans hl4).trans hl9).trans hl12).trans hl51) ?_
            refine congrArg Value.bool ?_
            rw [hq2]
            rw [mt_endN hc55 (by assumption)]
            rw [decide_eq_false_iff_not]; omega
        · have p62 := df h52
          refine ow1 (op1_gs rfl h52 rfl ?_)
          refine ow1 (op1_gs rfl h52 rfl ?_)
          refine ow1 (op1_gs rfl h52 rfl ?_)
          refine ow1 (op1_gs rfl h52 rfl ?_)
          refine ow1 (op1_gs rfl h52 rfl ?_)
          refine ow1 (op1_l rfl (lo_pick_f (v := .bool _) rfl h52 rfl) ?_)
          refine ow_nil ?_
          refine seqK_n ?_
          refine cw_cond_f rfl rfl ?_
          refine cw_exit ?_
          refine seqK_e ?_
          refine loopK_e ?_
          refine blkK_hit ?_
          refine seqK_n ?_
          refine cw_seq ?_
          refine cw_region ?_
          refine ow1 (op1_l rfl (lo_move (v := .int _ _) rfl) ?_)
          refine ow1 (op1_l rfl (lo_move (v := .slice _ _ _) rfl) ?_)
          refine ow1 (op1_l rfl (lo_len_slh rfl (hs3.mono ((((HLe.refl _).trans hl9).trans hl12).trans hl51) (fun _ _ h => h)) Tryd.underlying108) ?_)
          refine ow1 (op1_l rfl (lo_eql rfl rfl) ?_)
          refine ow1 (op1_l rfl (lo_assign (v := .bool _) rfl) ?_)
          refine ow_nil ?_
          refine seqK_n ?_
          refine cw_ret ?_
          refine fnK_r (res1 rfl (rv_t (v := .bool _) rfl)) (((((HLe.refl _).trans hl4).trans hl9).trans hl12).trans hl51) ?_
          refine congrArg Value.bool ?_
          rw [hq2]
          have hqe : q = (wordsOf pattern).length := by omega
          subst hqe
          rw [List.drop_length]; simp [mt]

theorem l04_awake (H : Hp)  (hML : GInt H 2) : Pr Tryd.prog 110 #[] H (.bool true) := by
  refine pr_cw Tryd.func110 rfl Tryd.ntmps110 rfl (fun N => ?_)
  refine cw_seq ?_
  refine cw_region ?_
  refine ow1 (op1_l rfl (lo_assign (v := .bool _) rfl) ?_)
  refine ow_nil ?_
  refine seqK_n ?_
  refine cw_seq ?_
  refine cw_region ?_
  refine ow1 (op1_pr (words_Matches _ [97, 46, 42, 46, 35] [97, 46, 98] hML (by first | omega | (simp; done) | decide) (by first | omega | (simp; done) | decide)) (en_f cb117 rfl) rfl ?_)
  refine ow1 (op1_l rfl (lo_move (v := .bool _) rfl) ?_)
  refine ow1 (op1_prg rfl (by decide +kernel) (words_Matches _ [97, 46, 42, 46, 35] [97, 46, 98, 46, 99, 46, 100] hML (by first | omega | (simp; done) | decide) (by first | omega | (simp; done) | decide)) (en_f cb117 rfl) rfl ?_)
  refine ow1 (op1_l rfl (lo_pick_t (v := .bool _) rfl (by decide +kernel) rfl) ?_)
  refine ow1 (op1_l rfl (lo_move (v := .bool _) rfl) ?_)
  refine ow1 (op1_prg rfl (by decide +kernel) (words_Matches _ [97, 46, 42, 46, 35] [97] hML (by first | omega | (simp; done) | decide) (by first | omega | (simp; done) | decide)) (en_f cb117 rfl) rfl ?_)
  refine ow1 (op1_g rfl (by decide +kernel) rfl (lo_not rfl) ?_)
  refine ow1 (op1_l rfl (lo_pick_t (v := .bool _) rfl (by decide +kernel) rfl) ?_)
  refine ow1 (op1_l rfl (lo_move (v := .bool _) rfl) ?_)
  refine ow1 (op1_prg rfl (by decide +kernel) (words_Name _ [97, 45, 49] (by first | omega | decide | (simp; done))) (en_f cb54 rfl) rfl ?_)
  refine ow1 (op1_g rfl (by decide +kernel) rfl (lo_eql rfl rfl) ?_)
  refine ow1 (op1_l rfl (lo_pick_t (v := .bool _) rfl (by decide +kernel) rfl) ?_)
  refine ow1 (op1_l rfl (lo_assign (v := .bool _) rfl) ?_)
  refine ow_nil ?_
  refine seqK_n ?_
  refine cw_ret ?_
  refine fnK_r (res1 rfl (rv_t (v := .bool _) rfl)) (.refl _) ?_
  exact congrArg Value.bool (by decide +kernel)

theorem l04_Awake (H : Hp)  (hML : GInt H 2) : Pr Tryd.prog 93 #[] H (.bool true) := by
  refine pr_cw Tryd.func93 rfl Tryd.ntmps93 rfl (fun N => ?_)
  refine cw_seq ?_
  refine cw_region ?_
  refine ow1 (op1_l rfl (lo_assign (v := .bool _) rfl) ?_)
  refine ow_nil ?_
  refine seqK_n ?_
  refine cw_seq ?_
  refine cw_region ?_
  refine ow1 (op1_pr (l04_awake _ hML) (en_f cb110 rfl) rfl ?_)
  refine ow1 (op1_l rfl (lo_assign (v := .bool _) rfl) ?_)
  refine ow_nil ?_
  refine seqK_n ?_
  refine cw_ret ?_
  refine fnK_r (res1 rfl (rv_t (v := .bool _) rfl)) (.refl _) ?_
  rfl

theorem l09_awake (H : Hp)  (hML : GInt H 2) : Pr Tryd.prog 67 #[] H (.bool true) := by
  refine pr_cw Tryd.func67 rfl Tryd.ntmps67 rfl (fun N => ?_)
  refine cw_seq ?_
  refine cw_region ?_
  refine ow1 (op1_l rfl (lo_assign (v := .bool _) rfl) ?_)
  refine ow_nil ?_
  refine seqK_n ?_
  refine cw_seq ?_
  refine cw_region ?_
  refine ow1 (op1_pr (head_Bytes _ none 0 0 [] slh_nil (by first | omega | (simp <;> omega))) (en_f cb47 rfl) rfl ?_)
  have := headBytes_len []
  refine ow1 (op1_l rfl (lo_move (v := .tuple #[_, _]) rfl) ?_)
  refine ow1 (op1_l rfl (lo_extract (v := str _) rfl rfl) ?_)
  refine ow1 (op1_l rfl (lo_extract (v := .int _ _) rfl rfl) ?_)
  refine ow1 (op1_l rfl (lo_assign (v := str _) rfl) ?_)
  refine ow1 (op1_l rfl (lo_assign (v := .int _ _) rfl) ?_)
  refine ow_nil ?_
  refine seqK_n ?_
  refine cw_seq ?_
  refine cw_region ?_
  refine ow1 (op1_pr (l01_Awake _ ) (en_f cb92 rfl) rfl ?_)
  refine ow1 (op1_l rfl (lo_move (v := .bool _) rfl) ?_)
  refine ow1 (op1_prg rfl rfl (l04_Awake _ hML) (en_f cb93 rfl) rfl ?_)
  refine ow1 (op1_l rfl (lo_pick_t (v := .bool _) rfl rfl rfl) ?_)
  refine ow1 (op1_l rfl (lo_move (v := .bool _) rfl) ?_)
  refine ow1 (op1_g rfl rfl rfl (lo_move (v := .int _ _) rfl) ?_)
  refine ow1 (op1_g rfl rfl rfl (lo_eql rfl rfl) ?_)
  refine ow1 (op1_l rfl (lo_pick_t (v := .bool _) rfl rfl rfl) ?_)
  refine ow1 (op1_l rfl (lo_move (v := .bool _) rfl) ?_)
  refine ow1 (op1_g rfl (by decide +kernel) rfl (lo_move (v := str _) rfl) ?_)
  refine ow1 (op1_g rfl (by decide +kernel) rfl (lo_seql rfl rfl) ?_)
  refine ow1 (op1_l rfl (lo_pick_t (v := .bool _) rfl (by decide +kernel) rfl) ?_)
  refine ow1 (op1_l rfl (lo_assign (v := .bool _) rfl) ?_)
  refine ow_nil ?_
  refine seqK_n ?_
  refine cw_ret ?_
  refine fnK_r (res1 rfl (rv_t (v := .bool _) rfl)) (.refl _) ?_
  exact congrArg Value.bool (by decide +kernel)

theorem l09_Awake (H : Hp)  (hML : GInt H 2) : Pr Tryd.prog 31 #[] H (.bool true) := by
  refine pr_cw Tryd.func31 rfl Tryd.ntmps31 rfl (fun N => ?_)
  refine cw_seq ?_
  refine cw_region ?_
  refine ow1 (op1_l rfl (lo_assign (v := .bool _) rfl) ?_)
  refine ow_nil ?_
  refine seqK_n ?_
  refine cw_seq ?_
  refine cw_region ?_
  refine ow1 (op1_pr (l09_awake _ hML) (en_f cb67 rfl) rfl ?_)
  refine ow1 (op1_l rfl (lo_assign (v := .bool _) rfl) ?_)
  refine ow_nil ?_
  refine seqK_n ?_
  refine cw_ret ?_
  refine fnK_r (res1 rfl (rv_t (v := .bool _) rfl)) (.refl _) ?_
  rfl

theorem l12_awake (H : Hp)  (hML : GInt H 2) (hCrc : GTab H 1 laidT) : Pr Tryd.prog 8 #[] H (.bool true) := by
  refine pr_cw Tryd.func8 rfl Tryd.ntmps8 rfl (fun N => ?_)
  refine cw_seq ?_
  refine cw_region ?_
  refine ow1 (op1_l rfl (lo_assign (v := .bool _) rfl) ?_)
  refine ow_nil ?_
  refine seqK_n ?_
  refine cw_seq ?_
  refine cw_region ?_
  refine ow1 (op1_l rfl (lo_build (v := .agg #[_, _, _, _, _, _, _, _, _, _, _, _, _]) rfl (bd27_0u8_1u8 _ _)) ?_)
  refine ow1 (op1_pr (reply_Frame _ (⟨1, 1, 0, 0, false, [], (⟨0, [], [], [], [], 0, 0⟩ : Mail)⟩ : Reply) none 0 slh_nil (by simp only [Reply.wf, Mail.wf]; first | omega | (simp; done) | (simp; omega)) hML) (en_f cb15 rfl) rfl ?_)
  refine ow1 (op1_l rfl (lo_move (v := .tuple #[_, _]) rfl) ?_)
  refine ow1 (op1_l rfl (lo_extract (v := .agg #[_, _, _]) rfl rfl) ?_)
  refine ow1 (op1_l rfl (lo_extract (v := .int _ _) rfl rfl) ?_)
  refine ow1 (op1_alloc 0 rfl zr35 (fun b1 => ?_))
  refine ow1 (op1_storeA (i := 0) (vs := [_, _, _]) rfl rfl rfl sz35 rfl rfl rfl ?_)
  refine ow1 (op1_l rfl (lo_assign (v := .int _ _) rfl) ?_)
  refine ow_nil ?_
  refine seqK_n ?_
  refine cw_seq ?_
  refine cw_region ?_
  refine ow1 (op1_pr (l08_Awake _ hCrc) (en_f cb30 rfl) rfl ?_)
  refine ow1 (op1_l rfl (lo_move (v := .bool _) rfl) ?_)
  refine ow1 (op1_prg rfl rfl (l09_Awake _ hML) (en_f cb31 rfl) rfl ?_)
  refine ow1 (op1_l rfl (lo_pick_t (v := .bool _) rfl rfl rfl) ?_)
  refine ow1 (op1_l rfl (lo_move (v := .bool _) rfl) ?_)
  refine ow1 (op1_g rfl rfl rfl (lo_move (v := .int _ _) rfl) ?_)
  refine ow1 (op1_g rfl rfl rfl (lo_eql rfl rfl) ?_)
  refine ow1 (op1_l rfl (lo_pick_t (v := .bool _) rfl rfl rfl) ?_)
  refine ow1 (op1_l rfl (lo_move (v := .bool _) rfl) ?_)
  refine ow1 (op1_g rfl (by decide +kernel) rfl (lo_fieldAddr rfl fl35_1) ?_)
  refine ow1 (op1_g rfl (by decide +kernel) rfl (lo_load1 (i := 0) (v := .int _ _) rfl ag5 rfl rfl) ?_)
  refine ow1 (op1_g rfl (by decide +kernel) rfl (lo_eql rfl rfl) ?_)
  refine ow1 (op1_l rfl (lo_pick_t (v := .bool _) rfl (by decide +kernel) rfl) ?_)
  refine ow1 (op1_l rfl (lo_move (v := .bool _) rfl) ?_)
  refine ow1 (op1_g rfl (by decide +kernel) rfl (lo_fieldAddr rfl fl35_2) ?_)
  refine ow1 (op1_g rfl (by decide +kernel) rfl (lo_load1 (i := 0) (v := str _) rfl ag9 rfl rfl) ?_)
  refine ow1 (op1_g rfl (by decide +kernel) rfl (lo_seql rfl rfl) ?_)
  refine ow1 (op1_l rfl (lo_pick_t (v := .bool _) rfl (by decide +kernel) rfl) ?_)
  refine ow1 (op1_l rfl (lo_assign (v := .bool _) rfl) ?_)
  refine ow_nil ?_
  refine seqK_n ?_
  refine cw_ret ?_
  refine fnK_r (res1 rfl (rv_t (v := .bool _) rfl)) (.refl _) ?_
  exact congrArg Value.bool (by decide +kernel)

end Go.SW


set_option linter.unusedVariables false
set_option maxRecDepth 100000
set_option maxHeartbeats 4000000
namespace Go.SW
open Go.Proofs
theorem ag32 : Ag Tryd.prog 32 true := fun w => by kernel_rfl
theorem by94 : By Tryd.prog 94 48 := by_of (by kernel_rfl)
theorem cb10 : Callable Tryd.prog 10 := callable_of Tryd.func10 (by kernel_rfl) (by kernel_rfl)
theorem cb11 : Callable Tryd.prog 11 := callable_of Tryd.func11 (by kernel_rfl) (by kernel_rfl)
theorem cb12 : Callable Tryd.prog 12 := callable_of Tryd.func12 (by kernel_rfl) (by kernel_rfl)
theorem cb32 : Callable Tryd.prog 32 := callable_of Tryd.func32 (by kernel_rfl) (by kernel_rfl)
theorem cb33 : Callable Tryd.prog 33 := callable_of Tryd.func33 (by kernel_rfl) (by kernel_rfl)
theorem cb34 : Callable Tryd.prog 34 := callable_of Tryd.func34 (by kernel_rfl) (by kernel_rfl)
theorem cb62 : Callable Tryd.prog 62 := callable_of Tryd.func62 (by kernel_rfl) (by kernel_rfl)
theorem cb63 : Callable Tryd.prog 63 := callable_of Tryd.func63 (by kernel_rfl) (by kernel_rfl)
theorem cb64 : Callable Tryd.prog 64 := callable_of Tryd.func64 (by kernel_rfl) (by kernel_rfl)
theorem cb8 : Callable Tryd.prog 8 := callable_of Tryd.func8 (by kernel_rfl) (by kernel_rfl)
theorem cb9 : Callable Tryd.prog 9 := callable_of Tryd.func9 (by kernel_rfl) (by kernel_rfl)
theorem eqr94 (p q : Pair) (d : Nat) : EqV Tryd.prog (d + 1 + 1) 94 (.agg (Pair.cells p).toArray) (.agg (Pair.cells q).toArray) (decide (p = q)) :=
  EqV.to (eqv_agg Tryd.underlying94 (by kernel_rfl) (eqf_1 (by decide) ag9 rfl rfl (eqv_str Tryd.underlying9) (eqf_1 (by decide) ag5 rfl rfl (eqv_int Tryd.underlying5) (eqf_1 (by decide) ag2 rfl rfl (eqv_int Tryd.underlying2) (eqf_1 (by decide) ag9 rfl rfl (eqv_str Tryd.underlying9) eqf_nil))))) (by obtain ⟨a0, a1, a2, a3⟩ := p; obtain ⟨b0, b1, b2, b3⟩ := q; rw [Bool.eq_iff_iff]; simp)
theorem eqg94 : Tryd.prog.eqGuardType Tryd.prog.depth 94 = false := by kernel_rfl
theorem fl32_0 : Fld Tryd.prog 32 0 0 := fun b o w => by kernel_rfl
theorem fl32_1 : Fld Tryd.prog 32 1 1 := fun b o w => by kernel_rfl
theorem fl32_2 : Fld Tryd.prog 32 2 2 := fun b o w => by kernel_rfl
theorem fl32_3 : Fld Tryd.prog 32 3 3 := fun b o w => by kernel_rfl
theorem fl32_4 : Fld Tryd.prog 32 4 4 := fun b o w => by kernel_rfl
theorem fl32_5 : Fld Tryd.prog 32 5 5 := fun b o w => by kernel_rfl
theorem fl32_6 : Fld Tryd.prog 32 6 6 := fun b o w => by kernel_rfl
theorem sz23 : Sz Tryd.prog 23 1 := fun w => by kernel_rfl
theorem sz32 : Sz Tryd.prog 32 13 := fun w => by kernel_rfl
theorem zr32 : Zr Tryd.prog 32 [.int .u8 0, .int .u8 0, .int .u64 0, .int .u64 0, .bool false, str [], .int .u64 0, str [], str [], .slice none 0 0, str [], .int .u64 0, .int .u8 0] := fun w => ⟨.agg #[.int .u8 0, .int .u8 0, .int .u64 0, .int .u64 0, .bool false, str [], .int .u64 0, str [], str [], .slice none 0 0, str [], .int .u64 0, .int .u8 0], by kernel_rfl, rfl⟩
theorem zx94 : ∃ z, ∀ w, (zeroValue 94).run Tryd.prog w = .ok z w := ⟨.agg #[str [], .int .u8 0, .int .i64 0, str []], fun w => by kernel_rfl⟩

theorem eq_Pair (H : Hp) (a_a : Option Addr) (a_l a_c : Nat) (a : List Pair) (a_h : SlH pairE 4 H (.slice a_a a_l a_c) a) (b_a : Option Addr) (b_l b_c : Nat) (b : List Pair) (b_h : SlH pairE 4 H (.slice b_a b_l b_c) b) (hal : a.length ≤ 9223372036854775807) : Pr Tryd.prog 64 #[.slice a_a a_l a_c, .slice b_a b_l b_c] H (.bool (decide (a = b))) := by
  refine pr_cw Tryd.func64 rfl Tryd.ntmps64 rfl (fun N => ?_)
  refine cw_seq ?_
  refine cw_region ?_
  refine ow1 (op1_l rfl (lo_assign (v := .bool _) rfl) ?_)
  refine ow_nil ?_
  refine seqK_n ?_
  refine cw_seq ?_
  refine cw_seq ?_
  refine cw_region ?_
  refine ow1 (op1_l rfl (lo_move (v := .slice _ _ _) rfl) ?_)
  refine ow1 (op1_l rfl (lo_len_slh rfl a_h Tryd.underlying23) ?_)
  refine ow1 (op1_l rfl (lo_move (v := .slice _ _ _) rfl) ?_)
  refine ow1 (op1_l rfl (lo_len_slh rfl b_h Tryd.underlying23) ?_)
  refine ow1 (op1_l rfl (lo_neq rfl rfl) ?_)
  refine ow_nil ?_
  refine seqK_n ?_
  refine cw_cond rfl (fun h1 => ?_) (fun h1 => ?_)
  · have h2 := not_t h1
    have p3 := df h2
    refine cw_seq ?_
    refine cw_region ?_
    refine ow1 (op1_l rfl (lo_assign (v := .bool _) rfl) ?_)
    refine ow_nil ?_
    refine seqK_n ?_
    refine cw_ret ?_
    refine seqK_r ?_
    refine fnK_r (res1 rfl (rv_t (v := .bool _) rfl)) (.refl _) ?_
    exact congrArg Value.bool (eqL_len (by assumption)).symm
  · have h4 := not_f h1
    have p5 := dt h4
    refine cw_skip ?_
    refine seqK_n ?_
    refine cw_seq ?_
    refine cw_seq ?_
    refine cw_region ?_
    refine ow1 (op1_l rfl (lo_move (v := .slice _ _ _) rfl) ?_)
    refine ow1 (op1_l rfl (lo_len_slh rfl a_h Tryd.underlying23) ?_)
    refine ow1 (op1_l rfl (lo_move (v := .int _ _) rfl) ?_)
    refine ow_nil ?_
    refine seqK_n ?_
    refine cw_block ?_
    refine cw_loop1 [4, 5, 13, 14, 15, 16, 17, 18, 19, 20, 21, 22, 23, 24, 25] [] (fun (k : Nat) G => upd (G) 13 (.int .i64 (k : Int))) (fun (k : Nat) G => G) (fun (k : Nat) H' => k ≤ a.length ∧ decide (a = b) = decide (a.drop k = b.drop k)) (fun (k : Nat) => a.length - k) 0 (upd_intro (mask_intro (by first | exact off_refl | (repeat (first | exact off_mask | refine off_upd rfl ?_ | refine off_mask2 rfl ?_)))) rfl) (lmask_intro offl_refl) ?_ ?_
    · exact ⟨Nat.zero_le _, rfl⟩
    · intro k J7 JL7 H7 hp6 hl7
      obtain ⟨hk1, hk2⟩ := hp6
      refine cw_seq ?_
      refine cw_region ?_
      refine ow1 (op1_l rfl (lo_lss rfl rfl) ?_)
      refine ow_nil ?_
      refine seqK_n ?_
      refine cw_seq ?_
      refine cw_cond rfl (fun h8 => ?_) (fun h8 => ?_)
      · have p9 := dt h8
        refine cw_skip ?_
        refine seqK_n ?_
        refine cw_seq ?_
        refine cw_block ?_
        refine cw_seq ?_
        refine cw_region ?_
        refine ow1 (op1_l rfl (lo_move (v := .int _ _) rfl) ?_)
        refine ow1 (op1_l rfl (lo_assign (v := .int _ _) rfl) ?_)
        refine ow_nil ?_
        refine seqK_n ?_
        refine cw_seq ?_
        refine cw_anyL mixd ?_
        refine vw_q 0 rfl (by kernel_rfl) (by repeat (first | exact lle_l0 | exact LLe.refl _ | exact lle_none | refine lle_up ?_ rfl)) (fun _ _ hh hl => lo_move (v := .slice _ _ _) rfl) ?_
        refine vw_q 1 rfl (by kernel_rfl) (by repeat (first | exact lle_l0 | exact LLe.refl _ | exact lle_none | refine lle_up ?_ rfl)) (fun _ _ hh hl => lo_move (v := .int _ _) rfl) ?_
        obtain ⟨c10, hc11⟩ := getE (xs := a) (m := k) (by omega)
        obtain ⟨cs12, hE13, at14⟩ := (a_h.mono ((HLe.refl _).trans hl7) (fun _ _ h => h)).get hc11
        obtain ⟨rfl, c10_w⟩ := hE13
        have c10_w' := c10_w
        simp only [Pair.wf] at c10_w'
        refine vw_q 2 rfl (by kernel_rfl) (by repeat (first | exact lle_l0 | exact LLe.refl _ | exact lle_none | refine lle_up ?_ rfl)) (fun _ _ hh hl => lo_indexAddr rfl rfl (a_h.mono ((HLe.refl _).trans hl7) (fun _ _ h => h)).1 (at14.mono hh) Tryd.underlying23 sz94 (by omega) (by omega)) ?_
        refine vw_q 3 rfl (by kernel_rfl) (by repeat (first | exact lle_l0 | exact LLe.refl _ | exact lle_none | refine lle_up ?_ rfl)) (fun _ _ hh hl => lo_loadEA rfl ag94 sz94 (at14.mono hh)) ?_
        refine vw_q 4 rfl (by kernel_rfl) (by repeat (first | exact lle_l0 | exact LLe.refl _ | exact lle_none | refine lle_up ?_ rfl)) (fun _ _ hh hl => lo_move (v := .slice _ _ _) rfl) ?_
        refine vw_q 5 rfl (by kernel_rfl) (by repeat (first | exact lle_l0 | exact LLe.refl _ | exact lle_none | refine lle_up ?_ rfl)) (fun _ _ hh hl => lo_move (v := .int _ _) rfl) ?_
        obtain ⟨c15, hc16⟩ := getE (xs := b) (m := k) (by omega)
        obtain ⟨cs17, hE18, at19⟩ := (b_h.mono ((HLe.refl _).trans hl7) (fun _ _ h => h)).get hc16
        obtain ⟨rfl, c15_w⟩ := hE18
        have c15_w' := c15_w
        simp only [Pair.wf] at c15_w'
        refine vw_q 6 rfl (by kernel_rfl) (by repeat (first | exact lle_l0 | exact LLe.refl _ | exact lle_none | refine lle_up ?_ rfl)) (fun _ _ hh hl => lo_indexAddr rfl rfl (b_h.mono ((HLe.refl _).trans hl7) (fun _ _ h => h)).1 (at19.mono hh) Tryd.underlying23 sz94 (by omega) (by omega)) ?_
        refine vw_q 7 rfl (by kernel_rfl) (by repeat (first | exact lle_l0 | exact LLe.refl _ | exact lle_none | refine lle_up ?_ rfl)) (fun _ _ hh hl => lo_loadEA rfl ag94 sz94 (at19.mono hh)) ?_
        refine vw_q 8 rfl (by kernel_rfl) (by repeat (first | exact lle_l0 | exact LLe.refl _ | exact lle_none | refine lle_up ?_ rfl)) (fun _ _ hh hl => lo_aneq (u := (Pair.cells c10).toArray) (v := (Pair.cells c15).toArray) rfl rfl eqg94 (eqr94 _ _ 9998)) ?_
        refine vw_done (by kernel_rfl) ?_
        refine seqK_n ?_
        refine cw_cond rfl (fun h20 => ?_) (fun h20 => ?_)
        · have h21 := not_t h20
          have p22 := df h21
          refine cw_seq ?_
          refine cw_region ?_
          refine ow1 (op1_l rfl (lo_assign (v := .bool _) rfl) ?_)
          refine ow_nil ?_
          refine seqK_n ?_
          refine cw_ret ?_
          refine blkK_r ?_
          refine seqK_r ?_
          refine loopK_r ?_
          refine blkK_r ?_
          refine seqK_r ?_
          refine fnK_r (res1 rfl (rv_t (v := .bool _) rfl)) ((HLe.refl _).trans hl7) ?_
          exact congrArg Value.bool (eqL_miss hk2 (dropE hc11) (dropE hc16) (by assumption)).symm
        · have h23 := not_f h20
          have p24 := dt h23
          refine cw_skip ?_
          refine blkK_n ?_
          refine seqK_n ?_
          refine cw_region ?_
          refine ow1 (op1_l rfl (lo_add rfl rfl (rg_i64 (by omega))) ?_)
          refine ow1 (op1_l rfl (lo_move (v := .int _ _) rfl) ?_)
          refine ow_nil ?_
          refine next1 (k + 1) (upd_intro (mask_intro (by first | exact off_refl | (repeat (first | exact off_mask | refine off_upd rfl ?_ | refine off_mask2 rfl ?_)))) rfl) (lmask_intro (by first | exact offl_refl | (repeat (first | exact offl_mask | refine offl_upd rfl ?_ | refine offl_mask2 rfl ?_)))) hl7 ?_ ?_
          · exact ⟨by omega, eqL_step hk2 (dropE hc11) (dropE hc16) (by assumption)⟩
          · omega
      · have p25 := df h8
        refine cw_exit ?_
        refine seqK_e ?_
        refine loopK_e ?_
        refine blkK_hit ?_
        refine seqK_n ?_
        refine cw_seq ?_
        refine cw_region ?_
        refine ow1 (op1_l rfl (lo_assign (v := .bool _) rfl) ?_)
        refine ow_nil ?_
        refine seqK_n ?_
        refine cw_ret ?_
        refine fnK_r (res1 rfl (rv_t (v := .bool _) rfl)) ((HLe.refl _).trans hl7) ?_
        exact congrArg Value.bool (eqL_end hk2 (by omega) (by omega)).symm

theorem head_Same (H : Hp) (a_a : Option Addr) (a_l a_c : Nat) (a : List Pair) (a_h : SlH pairE 4 H (.slice a_a a_l a_c) a) (b_a : Option Addr) (b_l b_c : Nat) (b : List Pair) (b_h : SlH pairE 4 H (.slice b_a b_l b_c) b) (hal : a.length ≤ 9223372036854775807) : Pr Tryd.prog 62 #[.slice a_a a_l a_c, .slice b_a b_l b_c] H (.bool (decide (a = b))) := by
  refine pr_cw Tryd.func62 rfl Tryd.ntmps62 rfl (fun N => ?_)
  refine cw_seq ?_
  refine cw_region ?_
  refine ow1 (op1_l rfl (lo_assign (v := .bool _) rfl) ?_)
  refine ow_nil ?_
  refine seqK_n ?_
  refine cw_seq ?_
  refine cw_region ?_
  refine ow1 (op1_l rfl (lo_move (v := .slice _ _ _) rfl) ?_)
  refine ow1 (op1_l rfl (lo_move (v := .slice _ _ _) rfl) ?_)
  refine ow1 (op1_pr (eq_Pair _ a_a a_l a_c a a_h b_a b_l b_c b b_h (by first | omega | (simp <;> omega))) (en_f cb64 rfl) rfl ?_)
  refine ow1 (op1_l rfl (lo_assign (v := .bool _) rfl) ?_)
  refine ow_nil ?_
  refine seqK_n ?_
  refine cw_ret ?_
  refine fnK_r (res1 rfl (rv_t (v := .bool _) rfl)) (.refl _) ?_
  rfl

theorem r9_Same (H : Hp) (a_a : Option Addr) (a_l a_c : Nat) (a : List Pair) (a_h : SlH pairE 4 H (.slice a_a a_l a_c) a) (b_a : Option Addr) (b_l b_c : Nat) (b : List Pair) (b_h : SlH pairE 4 H (.slice b_a b_l b_c) b) (hal : a.length ≤ 9223372036854775807) : Pr Tryd.prog 63 #[.slice a_a a_l a_c, .slice b_a b_l b_c] H (.bool (decide (a = b))) := by
  refine pr_cw Tryd.func63 rfl Tryd.ntmps63 rfl (fun N => ?_)
  refine cw_seq ?_
  refine cw_region ?_
  refine ow1 (op1_l rfl (lo_assign (v := .bool _) rfl) ?_)
  refine ow_nil ?_
  refine seqK_n ?_
  refine cw_seq ?_
  refine cw_seq ?_
  refine cw_region ?_
  refine ow1 (op1_l rfl (lo_move (v := .slice _ _ _) rfl) ?_)
  refine ow1 (op1_l rfl (lo_len_slh rfl a_h Tryd.underlying23) ?_)
  refine ow1 (op1_l rfl (lo_move (v := .slice _ _ _) rfl) ?_)
  refine ow1 (op1_l rfl (lo_len_slh rfl b_h Tryd.underlying23) ?_)
  refine ow1 (op1_l rfl (lo_neq rfl rfl) ?_)
  refine ow_nil ?_
  refine seqK_n ?_
  refine cw_cond rfl (fun h1 => ?_) (fun h1 => ?_)
  · have h2 := not_t h1
    have p3 := df h2
    refine cw_seq ?_
    refine cw_region ?_
    refine ow1 (op1_l rfl (lo_assign (v := .bool _) rfl) ?_)
    refine ow_nil ?_
    refine seqK_n ?_
    refine cw_ret ?_
    refine seqK_r ?_
    refine fnK_r (res1 rfl (rv_t (v := .bool _) rfl)) (.refl _) ?_
    exact congrArg Value.bool (eqL_len (by assumption)).symm
  · have h4 := not_f h1
    have p5 := dt h4
    refine cw_skip ?_
    refine seqK_n ?_
    refine cw_seq ?_
    refine cw_seq ?_
    refine cw_region ?_
    refine ow1 (op1_l rfl (lo_move (v := .slice _ _ _) rfl) ?_)
    refine ow1 (op1_l rfl (lo_len_slh rfl a_h Tryd.underlying23) ?_)
    refine ow1 (op1_l rfl (lo_move (v := .int _ _) rfl) ?_)
    refine ow_nil ?_
    refine seqK_n ?_
    refine cw_block ?_
    refine cw_loop1 [4, 5, 13, 14, 15, 16, 17, 18, 19, 20, 21, 22, 23, 24, 25] [] (fun (k : Nat) G => upd (G) 13 (.int .i64 (k : Int))) (fun (k : Nat) G => G) (fun (k : Nat) H' => k ≤ a.length ∧ decide (a = b) = decide (a.drop k = b.drop k)) (fun (k : Nat) => a.length - k) 0 (upd_intro (mask_intro (by first | exact off_refl | (repeat (first | exact off_mask | refine off_upd rfl ?_ | refine off_mask2 rfl ?_)))) rfl) (lmask_intro offl_refl) ?_ ?_
    · exact ⟨Nat.zero_le _, rfl⟩
    · intro k J7 JL7 H7 hp6 hl7
      obtain ⟨hk1, hk2⟩ := hp6
      refine cw_seq ?_
      refine cw_region ?_
      refine ow1 (op1_l rfl (lo_lss rfl rfl) ?_)
      refine ow_nil ?_
      refine seqK_n ?_
      refine cw_seq ?_
      refine cw_cond rfl (fun h8 => ?_) (fun h8 => ?_)
      · have p9 := dt h8
        refine cw_skip ?_
        refine seqK_n ?_
        refine cw_seq ?_
        refine cw_block ?_
        refine cw_seq ?_
        refine cw_region ?_
        refine ow1 (op1_l rfl (lo_move (v := .int _ _) rfl) ?_)
        refine ow1 (op1_l rfl (lo_assign (v := .int _ _) rfl) ?_)
        refine ow_nil ?_
        refine seqK_n ?_
        refine cw_seq ?_
        refine cw_anyL mixd ?_
        refine vw_q 0 rfl (by kernel_rfl) (by repeat (first | exact lle_l0 | exact LLe.refl _ | exact lle_none | refine lle_up ?_ rfl)) (fun _ _ hh hl => lo_move (v := .slice _ _ _) rfl) ?_
        refine vw_q 1 rfl (by kernel_rfl) (by repeat (first | exact lle_l0 | exact LLe.refl _ | exact lle_none | refine lle_up ?_ rfl)) (fun _ _ hh hl => lo_move (v := .int _ _) rfl) ?_
        obtain ⟨c10, hc11⟩ := getE (xs := a) (m := k) (by omega)
        obtain ⟨cs12, hE13, at14⟩ := (a_h.mono ((HLe.refl _).trans hl7) (fun _ _ h => h)).get hc11
        obtain ⟨rfl, c10_w⟩ := hE13
        have c10_w' := c10_w
        simp only [Pair.wf] at c10_w'
        refine vw_q 2 rfl (by kernel_rfl) (by repeat (first | exact lle_l0 | exact LLe.refl _ | exact lle_none | refine lle_up ?_ rfl)) (fun _ _ hh hl => lo_indexAddr rfl rfl (a_h.mono ((HLe.refl _).trans hl7) (fun _ _ h => h)).1 (at14.mono hh) Tryd.underlying23 sz94 (by omega) (by omega)) ?_
        refine vw_q 3 rfl (by kernel_rfl) (by repeat (first | exact lle_l0 | exact LLe.refl _ | exact lle_none | refine lle_up ?_ rfl)) (fun _ _ hh hl => lo_loadEA rfl ag94 sz94 (at14.mono hh)) ?_
        refine vw_q 4 rfl (by kernel_rfl) (by repeat (first | exact lle_l0 | exact LLe.refl _ | exact lle_none | refine lle_up ?_ rfl)) (fun _ _ hh hl => lo_move (v := .slice _ _ _) rfl) ?_
        refine vw_q 5 rfl (by kernel_rfl) (by repeat (first | exact lle_l0 | exact LLe.refl _ | exact lle_none | refine lle_up ?_ rfl)) (fun _ _ hh hl => lo_move (v := .int _ _) rfl) ?_
        obtain ⟨c15, hc16⟩ := getE (xs := b) (m := k) (by omega)
        obtain ⟨cs17, hE18, at19⟩ := (b_h.mono ((HLe.refl _).trans hl7) (fun _ _ h => h)).get hc16
        obtain ⟨rfl, c15_w⟩ := hE18
        have c15_w' := c15_w
        simp only [Pair.wf] at c15_w'
        refine vw_q 6 rfl (by kernel_rfl) (by repeat (first | exact lle_l0 | exact LLe.refl _ | exact lle_none | refine lle_up ?_ rfl)) (fun _ _ hh hl => lo_indexAddr rfl rfl (b_h.mono ((HLe.refl _).trans hl7) (fun _ _ h => h)).1 (at19.mono hh) Tryd.underlying23 sz94 (by omega) (by omega)) ?_
        refine vw_q 7 rfl (by kernel_rfl) (by repeat (first | exact lle_l0 | exact LLe.refl _ | exact lle_none | refine lle_up ?_ rfl)) (fun _ _ hh hl => lo_loadEA rfl ag94 sz94 (at19.mono hh)) ?_
        refine vw_q 8 rfl (by kernel_rfl) (by repeat (first | exact lle_l0 | exact LLe.refl _ | exact lle_none | refine lle_up ?_ rfl)) (fun _ _ hh hl => lo_aneq (u := (Pair.cells c10).toArray) (v := (Pair.cells c15).toArray) rfl rfl eqg94 (eqr94 _ _ 9998)) ?_
        refine vw_done (by kernel_rfl) ?_
        refine seqK_n ?_
        refine cw_cond rfl (fun h20 => ?_) (fun h20 => ?_)
        · have h21 := not_t h20
          have p22 := df h21
          refine cw_seq ?_
          refine cw_region ?_
          refine ow1 (op1_l rfl (lo_assign (v := .bool _) rfl) ?_)
          refine ow_nil ?_
          refine seqK_n ?_
          refine cw_ret ?_
          refine blkK_r ?_
          refine seqK_r ?_
          refine loopK_r ?_
          refine blkK_r ?_
          refine seqK_r ?_
          refine fnK_r (res1 rfl (rv_t (v := .bool _) rfl)) ((HLe.refl _).trans hl7) ?_
          exact congrArg Value.bool (eqL_miss hk2 (dropE hc11) (dropE hc16) (by assumption)).symm
        · have h23 := not_f h20
          have p24 := dt h23
          refine cw_skip ?_
          refine blkK_n ?_
          refine seqK_n ?_
          refine cw_region ?_
          refine ow1 (op1_l rfl (lo_add rfl rfl (rg_i64 (by omega))) ?_)
          refine ow1 (op1_l rfl (lo_move (v := .int _ _) rfl) ?_)
          refine ow_nil ?_
          refine next1 (k + 1) (upd_intro (mask_intro (by first | exact off_refl | (repeat (first | exact off_mask | refine off_upd rfl ?_ | refine off_mask2 rfl ?_)))) rfl) (lmask_intro (by first | exact offl_refl | (repeat (first | exact offl_mask | refine offl_upd rfl ?_ | refine offl_mask2 rfl ?_)))) hl7 ?_ ?_
          · exact ⟨by omega, eqL_step hk2 (dropE hc11) (dropE hc16) (by assumption)⟩
          · omega
      · have p25 := df h8
        refine cw_exit ?_
        refine seqK_e ?_
        refine loopK_e ?_
        refine blkK_hit ?_
        refine seqK_n ?_
        refine cw_seq ?_
        refine cw_region ?_
        refine ow1 (op1_l rfl (lo_assign (v := .bool _) rfl) ?_)
        refine ow_nil ?_
        refine seqK_n ?_
        refine cw_ret ?_
        refine fnK_r (res1 rfl (rv_t (v := .bool _) rfl)) ((HLe.refl _).trans hl7) ?_
        exact congrArg Value.bool (eqL_end hk2 (by omega) (by omega)).symm

theorem reply_sameMail (H : Hp) (a : Mail) (a_head_a : Option Addr) (a_head_c : Nat) (a_head_h : SlH pairE 4 H (.slice a_head_a a.head.length a_head_c) a.head) (a_w : Mail.wf a) (b : Mail) (b_head_a : Option Addr) (b_head_c : Nat) (b_head_h : SlH pairE 4 H (.slice b_head_a b.head.length b_head_c) b.head) (b_w : Mail.wf b) : Pr Tryd.prog 33 #[.agg (Mail.cells a a_head_a a_head_c).toArray, .agg (Mail.cells b b_head_a b_head_c).toArray] H (.bool (decide (a = b))) := by
  refine pr_cw Tryd.func33 rfl Tryd.ntmps33 rfl (fun N => ?_)
  have a_w' := a_w
  simp only [Mail.wf] at a_w'
  have b_w' := b_w
  simp only [Mail.wf] at b_w'
  refine cw_seq ?_
  refine cw_region ?_
  refine ow1 (op1_box (cs := [_, _, _, _, _, _, _]) 0 rfl rfl (fun b1 => ?_))
  refine ow1 (op1_box (cs := [_, _, _, _, _, _, _]) 1 rfl rfl (fun b2 => ?_))
  refine ow1 (op1_l rfl (lo_assign (v := .bool _) rfl) ?_)
  refine ow_nil ?_
  refine seqK_n ?_
  refine cw_seq ?_
  refine cw_region ?_
  refine ow1 (op1_l rfl (lo_fieldAddr rfl fl25_0) ?_)
  refine ow1 (op1_l rfl (lo_load1 (i := 0) (v := .int _ _) rfl ag22 rfl rfl) ?_)
  refine ow1 (op1_l rfl (lo_fieldAddr rfl fl25_0) ?_)
  refine ow1 (op1_l rfl (lo_load1 (i := 1) (v := .int _ _) rfl ag22 rfl rfl) ?_)
  refine ow1 (op1_l rfl (lo_eql rfl rfl) ?_)
  refine ow1 (op1_l rfl (lo_move (v := .bool _) rfl) ?_)
  refine ow_sp (j := 5) rfl (fun h3 => ?_) (fun h3 => ?_)
  · have p4 := dt h3
    refine ow1 (op1_g rfl h3 rfl (lo_fieldAddr rfl fl25_1) ?_)
    refine ow1 (op1_g rfl h3 rfl (lo_load1 (i := 0) (v := str _) rfl ag9 rfl rfl) ?_)
    refine ow1 (op1_g rfl h3 rfl (lo_fieldAddr rfl fl25_1) ?_)
    refine ow1 (op1_g rfl h3 rfl (lo_load1 (i := 1) (v := str _) rfl ag9 rfl rfl) ?_)
    refine ow1 (op1_g rfl h3 rfl (lo_seql rfl rfl) ?_)
    refine ow1 (op1_l rfl (lo_pick_t (v := .bool _) rfl h3 rfl) ?_)
    refine ow1 (op1_l rfl (lo_move (v := .bool _) rfl) ?_)
    refine ow_sp (j := 12) rfl (fun h5 => ?_) (fun h5 => ?_)
    · have p6 := dt h5
      refine ow1 (op1_g rfl h5 rfl (lo_fieldAddr rfl fl25_2) ?_)
      refine ow1 (op1_g rfl h5 rfl (lo_load1 (i := 0) (v := str _) rfl ag9 rfl rfl) ?_)
      refine ow1 (op1_g rfl h5 rfl (lo_fieldAddr rfl fl25_2) ?_)
      refine ow1 (op1_g rfl h5 rfl (lo_load1 (i := 1) (v := str _) rfl ag9 rfl rfl) ?_)
      refine ow1 (op1_g rfl h5 rfl (lo_seql rfl rfl) ?_)
      refine ow1 (op1_l rfl (lo_pick_t (v := .bool _) rfl h5 rfl) ?_)
      refine ow1 (op1_l rfl (lo_move (v := .bool _) rfl) ?_)
      refine ow_sp (j := 19) rfl (fun h7 => ?_) (fun h7 => ?_)
      · have p8 := dt h7
        refine ow1 (op1_g rfl h7 rfl (lo_fieldAddr rfl fl25_3) ?_)
        refine ow1 (op1_g rfl h7 rfl (lo_load1 (i := 0) (v := .slice _ _ _) rfl ag23 rfl rfl) ?_)
        refine ow1 (op1_g rfl h7 rfl (lo_fieldAddr rfl fl25_3) ?_)
        refine ow1 (op1_g rfl h7 rfl (lo_load1 (i := 1) (v := .slice _ _ _) rfl ag23 rfl rfl) ?_)
        refine ow1 (op1_prg rfl h7 (head_Same _ a_head_a a.head.length a_head_c a.head a_head_h b_head_a b.head.length b_head_c b.head b_head_h (by first | omega | (simp <;> omega))) (en_f cb62 rfl) rfl ?_)
        refine ow1 (op1_l rfl (lo_pick_t (v := .bool _) rfl h7 rfl) ?_)
        refine ow1 (op1_l rfl (lo_move (v := .bool _) rfl) ?_)
        refine ow_sp (j := 26) rfl (fun h9 => ?_) (fun h9 => ?_)
        · refine ow1 (op1_g rfl h9 rfl (lo_fieldAddr rfl fl25_4) ?_)
          refine ow1 (op1_g rfl h9 rfl (lo_load1 (i := 0) (v := str _) rfl ag9 rfl rfl) ?_)
          refine ow1 (op1_g rfl h9 rfl (lo_fieldAddr rfl fl25_4) ?_)
          refine ow1 (op1_g rfl h9 rfl (lo_load1 (i := 1) (v := str _) rfl ag9 rfl rfl) ?_)
          refine ow1 (op1_g rfl h9 rfl (lo_seql rfl rfl) ?_)
          refine ow1 (op1_l rfl (lo_pick_t (v := .bool _) rfl h9 rfl) ?_)
          refine ow1 (op1_l rfl (lo_move (v := .bool _) rfl) ?_)
          refine ow_sp (j := 33) rfl (fun h10 => ?_) (fun h10 => ?_)
          · have p11 := dt h10
            refine ow1 (op1_g rfl h10 rfl (lo_fieldAddr rfl fl25_5) ?_)
            refine ow1 (op1_g rfl h10 rfl (lo_load1 (i := 0) (v := .int _ _) rfl ag22 rfl rfl) ?_)
            refine ow1 (op1_g rfl h10 rfl (lo_fieldAddr rfl fl25_5) ?_)
            refine ow1 (op1_g rfl h10 rfl (lo_load1 (i := 1) (v := .int _ _) rfl ag22 rfl rfl) ?_)
            refine ow1 (op1_g rfl h10 rfl (lo_eql rfl rfl) ?_)
            refine ow1 (op1_l rfl (lo_pick_t (v := .bool _) rfl h10 rfl) ?_)
            refine ow1 (op1_l rfl (lo_move (v := .bool _) rfl) ?_)
            refine ow_sp (j := 40) rfl (fun h12 => ?_) (fun h12 => ?_)
            · have p13 := dt h12
              refine ow1 (op1_g rfl h12 rfl (lo_fieldAddr rfl fl25_6) ?_)
              refine ow1 (op1_g rfl h12 rfl (lo_load1 (i := 0) (v := .int _ _) rfl ag5 rfl rfl) ?_)
              refine ow1 (op1_g rfl h12 rfl (lo_fieldAddr rfl fl25_6) ?_)
              refine ow1 (op1_g rfl h12 rfl (lo_load1 (i := 1) (v := .int _ _) rfl ag5 rfl rfl) ?_)
              refine ow1 (op1_g rfl h12 rfl (lo_eql rfl rfl) ?_)
              refine ow1 (op1_l rfl (lo_pick_t (v := .bool _) rfl h12 rfl) ?_)
              refine ow1 (op1_l rfl (lo_assign (v := .bool _) rfl) ?_)
              refine ow_nil ?_
              refine seqK_n ?_
              refine cw_ret ?_
              refine fnK_r (res1 rfl (rv_t (v := .bool _) rfl)) (.refl _) ?_
              first | (simp [Mail.eq_iff, *]; done)
            · have p14 := df h12
              refine ow1 (op1_gs rfl h12 rfl ?_)
              refine ow1 (op1_gs rfl h12 rfl ?_)
              refine ow1 (op1_gs rfl h12 rfl ?_)
              refine ow1 (op1_gs rfl h12 rfl ?_)
              refine ow1 (op1_gs rfl h12 rfl ?_)
              refine ow1 (op1_l rfl (lo_pick_f (v := .bool _) rfl h12 rfl) ?_)
              refine ow1 (op1_l rfl (lo_assign (v := .bool _) rfl) ?_)
              refine ow_nil ?_
              refine seqK_n ?_
              refine cw_ret ?_
              refine fnK_r (res1 rfl (rv_t (v := .bool _) rfl)) (.refl _) ?_
              first | (simp [Mail.eq_iff, *]; done)
          · have p15 := df h10
            refine ow1 (op1_gs rfl h10 rfl ?_)
            refine ow1 (op1_gs rfl h10 rfl ?_)
            refine ow1 (op1_gs rfl h10 rfl ?_)
            refine ow1 (op1_gs rfl h10 rfl ?_)
            refine ow1 (op1_gs rfl h10 rfl ?_)
            refine ow1 (op1_l rfl (lo_pick_f (v := .bool _) rfl h10 rfl) ?_)
            refine ow1 (op1_l rfl (lo_move (v := .bool _) rfl) ?_)
            refine ow1 (op1_gs rfl rfl rfl ?_)
            refine ow1 (op1_gs rfl rfl rfl ?_)
            refine ow1 (op1_gs rfl rfl rfl ?_)
            refine ow1 (op1_gs rfl rfl rfl ?_)
            refine ow1 (op1_gs rfl rfl rfl ?_)
            refine ow1 (op1_l rfl (lo_pick_f (v := .bool _) rfl rfl rfl) ?_)
            refine ow1 (op1_l rfl (lo_assign (v := .bool _) rfl) ?_)
            refine ow_nil ?_
            refine seqK_n ?_
            refine cw_ret ?_
            refine fnK_r (res1 rfl (rv_t (v := .bool _) rfl)) (.refl _) ?_
            first | (simp [Mail.eq_iff, *]; done)
        · refine ow1 (op1_gs rfl h9 rfl ?_)
          refine ow1 (op1_gs rfl h9 rfl ?_)
          refine ow1 (op1_gs rfl h9 rfl ?_)
          refine ow1 (op1_gs rfl h9 rfl ?_)
          refine ow1 (op1_gs rfl h9 rfl ?_)
          refine ow1 (op1_l rfl (lo_pick_f (v := .bool _) rfl h9 rfl) ?_)
          refine ow1 (op1_l rfl (lo_move (v := .bool _) rfl) ?_)
          refine ow1 (op1_gs rfl rfl rfl ?_)
          refine ow1 (op1_gs rfl rfl rfl ?_)
          refine ow1 (op1_gs rfl rfl rfl ?_)
          refine ow1 (op1_gs rfl rfl rfl ?_)
          refine ow1 (op1_gs rfl rfl rfl ?_)
          refine ow1 (op1_l rfl (lo_pick_f (v := .bool _) rfl rfl rfl) ?_)
          refine ow1 (op1_l rfl (lo_move (v := .bool _) rfl) ?_)
          refine ow1 (op1_gs rfl rfl rfl ?_)
          refine ow1 (op1_gs rfl rfl rfl ?_)
          refine ow1 (op1_gs rfl rfl rfl ?_)
          refine ow1 (op1_gs rfl rfl rfl ?_)
          refine ow1 (op1_gs rfl rfl rfl ?_)
          refine ow1 (op1_l rfl (lo_pick_f (v := .bool _) rfl rfl rfl) ?_)
          refine ow1 (op1_l rfl (lo_assign (v := .bool _) rfl) ?_)
          refine ow_nil ?_
          refine seqK_n ?_
          refine cw_ret ?_
          refine fnK_r (res1 rfl (rv_t (v := .bool _) rfl)) (.refl _) ?_
          first | (simp [Mail.eq_iff, *]; done)
      · have p16 := df h7
        refine ow1 (op1_gs rfl h7 rfl ?_)
        refine ow1 (op1_gs rfl h7 rfl ?_)
        refine ow1 (op1_gs rfl h7 rfl ?_)
        refine ow1 (op1_gs rfl h7 rfl ?_)
        refine ow1 (op1_gs rfl h7 rfl ?_)
        refine ow1 (op1_l rfl (lo_pick_f (v := .bool _) rfl h7 rfl) ?_)
        refine ow1 (op1_l rfl (lo_move (v := .bool _) rfl) ?_)
        refine ow1 (op1_gs rfl rfl rfl ?_)
        refine ow1 (op1_gs rfl rfl rfl ?_)
        refine ow1 (op1_gs rfl rfl rfl ?_)
        refine ow1 (op1_gs rfl rfl rfl ?_)
        refine ow1 (op1_gs rfl rfl rfl ?_)
        refine ow1 (op1_l rfl (lo_pick_f (v := .bool _) rfl rfl rfl) ?_)
        refine ow1 (op1_l rfl (lo_move (v := .bool _) rfl) ?_)
        refine ow1 (op1_gs rfl rfl rfl ?_)
        refine ow1 (op1_gs rfl rfl rfl ?_)
        refine ow1 (op1_gs rfl rfl rfl ?_)
        refine ow1 (op1_gs rfl rfl rfl ?_)
        refine ow1 (op1_gs rfl rfl rfl ?_)
        refine ow1 (op1_l rfl (lo_pick_f (v := .bool _) rfl rfl rfl) ?_)
        refine ow1 (op1_l rfl (lo_move (v := .bool _) rfl) ?_)
        refine ow1 (op1_gs rfl rfl rfl ?_)
        refine ow1 (op1_gs rfl rfl rfl ?_)
        refine ow1 (op1_gs rfl rfl rfl ?_)
        refine ow1 (op1_gs rfl rfl rfl ?_)
        refine ow1 (op1_gs rfl rfl rfl ?_)
        refine ow1 (op1_l rfl (lo_pick_f (v := .bool _) rfl rfl rfl) ?_)
        refine ow1 (op1_l rfl (lo_assign (v := .bool _) rfl) ?_)
        refine ow_nil ?_
        refine seqK_n ?_
        refine cw_ret ?_
        refine fnK_r (res1 rfl (rv_t (v := .bool _) rfl)) (.refl _) ?_
        first | (simp [Mail.eq_iff, *]; done)
    · have p17 := df h5
      refine ow1 (op1_gs rfl h5 rfl ?_)
      refine ow1 (op1_gs rfl h5 rfl ?_)
      refine ow1 (op1_gs rfl h5 rfl ?_)
      refine ow1 (op1_gs rfl h5 rfl ?_)
      refine ow1 (op1_gs rfl h5 rfl ?_)
      refine ow1 (op1_l rfl (lo_pick_f (v := .bool _) rfl h5 rfl) ?_)
      refine ow1 (op1_l rfl (lo_move (v := .bool _) rfl) ?_)
      refine ow1 (op1_gs rfl rfl rfl ?_)
      refine ow1 (op1_gs rfl rfl rfl ?_)
      refine ow1 (op1_gs rfl rfl rfl ?_)
      refine ow1 (op1_gs rfl rfl rfl ?_)
      refine ow1 (op1_gs rfl rfl rfl ?_)
      refine ow1 (op1_l rfl (lo_pick_f (v := .bool _) rfl rfl rfl) ?_)
      refine ow1 (op1_l rfl (lo_move (v := .bool _) rfl) ?_)
      refine ow1 (op1_gs rfl rfl rfl ?_)
      refine ow1 (op1_gs rfl rfl rfl ?_)
      refine ow1 (op1_gs rfl rfl rfl ?_)
      refine ow1 (op1_gs rfl rfl rfl ?_)
      refine ow1 (op1_gs rfl rfl rfl ?_)
      refine ow1 (op1_l rfl (lo_pick_f (v := .bool _) rfl rfl rfl) ?_)
      refine ow1 (op1_l rfl (lo_move (v := .bool _) rfl) ?_)
      refine ow1 (op1_gs rfl rfl rfl ?_)
      refine ow1 (op1_gs rfl rfl rfl ?_)
      refine ow1 (op1_gs rfl rfl rfl ?_)
      refine ow1 (op1_gs rfl rfl rfl ?_)
      refine ow1 (op1_gs rfl rfl rfl ?_)
      refine ow1 (op1_l rfl (lo_pick_f (v := .bool _) rfl rfl rfl) ?_)
      refine ow1 (op1_l rfl (lo_move (v := .bool _) rfl) ?_)
      refine ow1 (op1_gs rfl rfl rfl ?_)
      refine ow1 (op1_gs rfl rfl rfl ?_)
      refine ow1 (op1_gs rfl rfl rfl ?_)
      refine ow1 (op1_gs rfl rfl rfl ?_)
      refine ow1 (op1_gs rfl rfl rfl ?_)
      refine ow1 (op1_l rfl (lo_pick_f (v := .bool _) rfl rfl rfl) ?_)
      refine ow1 (op1_l rfl (lo_assign (v := .bool _) rfl) ?_)
      refine ow_nil ?_
      refine seqK_n ?_
      refine cw_ret ?_
      refine fnK_r (res1 rfl (rv_t (v := .bool _) rfl)) (.refl _) ?_
      first | (simp [Mail.eq_iff, *]; done)
  · have p18 := df h3
    refine ow1 (op1_gs rfl h3 rfl ?_)
    refine ow1 (op1_gs rfl h3 rfl ?_)
    refine ow1 (op1_gs rfl h3 rfl ?_)
    refine ow1 (op1_gs rfl h3 rfl ?_)
    refine ow1 (op1_gs rfl h3 rfl ?_)
    refine ow1 (op1_l rfl (lo_pick_f (v := .bool _) rfl h3 rfl) ?_)
    refine ow1 (op1_l rfl (lo_move (v := .bool _) rfl) ?_)
    refine ow1 (op1_gs rfl rfl rfl ?_)
    refine ow1 (op1_gs rfl rfl rfl ?_)
    refine ow1 (op1_gs rfl rfl rfl ?_)
    refine ow1 (op1_gs rfl rfl rfl ?_)
    refine ow1 (op1_gs rfl rfl rfl ?_)
    refine ow1 (op1_l rfl (lo_pick_f (v := .bool _) rfl rfl rfl) ?_)
    refine ow1 (op1_l rfl (lo_move (v := .bool _) rfl) ?_)
    refine ow1 (op1_gs rfl rfl rfl ?_)
    refine ow1 (op1_gs rfl rfl rfl ?_)
    refine ow1 (op1_gs rfl rfl rfl ?_)
    refine ow1 (op1_gs rfl rfl rfl ?_)
    refine ow1 (op1_gs rfl rfl rfl ?_)
    refine ow1 (op1_l rfl (lo_pick_f (v := .bool _) rfl rfl rfl) ?_)
    refine ow1 (op1_l rfl (lo_move (v := .bool _) rfl) ?_)
    refine ow1 (op1_gs rfl rfl rfl ?_)
    refine ow1 (op1_gs rfl rfl rfl ?_)
    refine ow1 (op1_gs rfl rfl rfl ?_)
    refine ow1 (op1_gs rfl rfl rfl ?_)
    refine ow1 (op1_gs rfl rfl rfl ?_)
    refine ow1 (op1_l rfl (lo_pick_f (v := .bool _) rfl rfl rfl) ?_)
    refine ow1 (op1_l rfl (lo_move (v := .bool _) rfl) ?_)
    refine ow1 (op1_gs rfl rfl rfl ?_)
    refine ow1 (op1_gs rfl rfl rfl ?_)
    refine ow1 (op1_gs rfl rfl rfl ?_)
    refine ow1 (op1_gs rfl rfl rfl ?_)
    refine ow1 (op1_gs rfl rfl rfl ?_)
    refine ow1 (op1_l rfl (lo_pick_f (v := .bool _) rfl rfl rfl) ?_)
    refine ow1 (op1_l rfl (lo_move (v := .bool _) rfl) ?_)
    refine ow1 (op1_gs rfl rfl rfl ?_)
    refine ow1 (op1_gs rfl rfl rfl ?_)
    refine ow1 (op1_gs rfl rfl rfl ?_)
    refine ow1 (op1_gs rfl rfl rfl ?_)
    refine ow1 (op1_gs rfl rfl rfl ?_)
    refine ow1 (op1_l rfl (lo_pick_f (v := .bool _) rfl rfl rfl) ?_)
    refine ow1 (op1_l rfl (lo_assign (v := .bool _) rfl) ?_)
    refine ow_nil ?_
    refine seqK_n ?_
    refine cw_ret ?_
    refine fnK_r (res1 rfl (rv_t (v := .bool _) rfl)) (.refl _) ?_
    first | (simp [Mail.eq_iff, *]; done)

theorem reply_Same (H : Hp) (a : Reply) (a_mail_head_a : Option Addr) (a_mail_head_c : Nat) (a_mail_head_h : SlH pairE 4 H (.slice a_mail_head_a a.mail.head.length a_mail_head_c) a.mail.head) (a_w : Reply.wf a) (b : Reply) (b_mail_head_a : Option Addr) (b_mail_head_c : Nat) (b_mail_head_h : SlH pairE 4 H (.slice b_mail_head_a b.mail.head.length b_mail_head_c) b.mail.head) (b_w : Reply.wf b) : Pr Tryd.prog 10 #[.agg (Reply.cells a a_mail_head_a a_mail_head_c).toArray, .agg (Reply.cells b b_mail_head_a b_mail_head_c).toArray] H (.bool (decide (a = b))) := by
  refine pr_cw Tryd.func10 rfl Tryd.ntmps10 rfl (fun N => ?_)
  have a_w' := a_w
  simp only [Reply.wf, Mail.wf] at a_w'
  have b_w' := b_w
  simp only [Reply.wf, Mail.wf] at b_w'
  refine cw_seq ?_
  refine cw_region ?_
  refine ow1 (op1_box (cs := [_, _, _, _, _, _, _, _, _, _, _, _, _]) 0 rfl rfl (fun b1 => ?_))
  refine ow1 (op1_box (cs := [_, _, _, _, _, _, _, _, _, _, _, _, _]) 1 rfl rfl (fun b2 => ?_))
  refine ow1 (op1_l rfl (lo_assign (v := .bool _) rfl) ?_)
  refine ow_nil ?_
  refine seqK_n ?_
  refine cw_seq ?_
  refine cw_region ?_
  refine ow1 (op1_l rfl (lo_fieldAddr rfl fl27_0) ?_)
  refine ow1 (op1_l rfl (lo_load1 (i := 0) (v := .int _ _) rfl ag5 rfl rfl) ?_)
  refine ow1 (op1_l rfl (lo_fieldAddr rfl fl27_0) ?_)
  refine ow1 (op1_l rfl (lo_load1 (i := 1) (v := .int _ _) rfl ag5 rfl rfl) ?_)
  refine ow1 (op1_l rfl (lo_eql rfl rfl) ?_)
  refine ow1 (op1_l rfl (lo_move (v := .bool _) rfl) ?_)
  refine ow_sp (j := 5) rfl (fun h3 => ?_) (fun h3 => ?_)
  · have p4 := dt h3
    refine ow1 (op1_g rfl h3 rfl (lo_fieldAddr rfl fl27_1) ?_)
    refine ow1 (op1_g rfl h3 rfl (lo_load1 (i := 0) (v := .int _ _) rfl ag5 rfl rfl) ?_)
    refine ow1 (op1_g rfl h3 rfl (lo_fieldAddr rfl fl27_1) ?_)
    refine ow1 (op1_g rfl h3 rfl (lo_load1 (i := 1) (v := .int _ _) rfl ag5 rfl rfl) ?_)
    refine ow1 (op1_g rfl h3 rfl (lo_eql rfl rfl) ?_)
    refine ow1 (op1_l rfl (lo_pick_t (v := .bool _) rfl h3 rfl) ?_)
    refine ow1 (op1_l rfl (lo_move (v := .bool _) rfl) ?_)
    refine ow_sp (j := 12) rfl (fun h5 => ?_) (fun h5 => ?_)
    · have p6 := dt h5
      refine ow1 (op1_g rfl h5 rfl (lo_fieldAddr rfl fl27_2) ?_)
      refine ow1 (op1_g rfl h5 rfl (lo_load1 (i := 0) (v := .int _ _) rfl ag22 rfl rfl) ?_)
      refine ow1 (op1_g rfl h5 rfl (lo_fieldAddr rfl fl27_2) ?_)
      refine ow1 (op1_g rfl h5 rfl (lo_load1 (i := 1) (v := .int _ _) rfl ag22 rfl rfl) ?_)
      refine ow1 (op1_g rfl h5 rfl (lo_eql rfl rfl) ?_)
      refine ow1 (op1_l rfl (lo_pick_t (v := .bool _) rfl h5 rfl) ?_)
      refine ow1 (op1_l rfl (lo_move (v := .bool _) rfl) ?_)
      refine ow_sp (j := 19) rfl (fun h7 => ?_) (fun h7 => ?_)
      · have p8 := dt h7
        refine ow1 (op1_g rfl h7 rfl (lo_fieldAddr rfl fl27_3) ?_)
        refine ow1 (op1_g rfl h7 rfl (lo_load1 (i := 0) (v := .int _ _) rfl ag22 rfl rfl) ?_)
        refine ow1 (op1_g rfl h7 rfl (lo_fieldAddr rfl fl27_3) ?_)
        refine ow1 (op1_g rfl h7 rfl (lo_load1 (i := 1) (v := .int _ _) rfl ag22 rfl rfl) ?_)
        refine ow1 (op1_g rfl h7 rfl (lo_eql rfl rfl) ?_)
        refine ow1 (op1_l rfl (lo_pick_t (v := .bool _) rfl h7 rfl) ?_)
        refine ow1 (op1_l rfl (lo_move (v := .bool _) rfl) ?_)
        refine ow_sp (j := 26) rfl (fun h9 => ?_) (fun h9 => ?_)
        · have p10 := dt h9
          refine ow1 (op1_g rfl h9 rfl (lo_fieldAddr rfl fl27_4) ?_)
          refine ow1 (op1_g rfl h9 rfl (lo_load1 (i := 0) (v := .bool _) rfl ag4 rfl rfl) ?_)
          refine ow1 (op1_g rfl h9 rfl (lo_fieldAddr rfl fl27_4) ?_)
          refine ow1 (op1_g rfl h9 rfl (lo_load1 (i := 1) (v := .bool _) rfl ag4 rfl rfl) ?_)
          refine ow1 (op1_g rfl h9 rfl (lo_beql rfl rfl Tryd.underlying4) ?_)
          refine ow1 (op1_l rfl (lo_pick_t (v := .bool _) rfl h9 rfl) ?_)
          refine ow1 (op1_l rfl (lo_move (v := .bool _) rfl) ?_)
          refine ow_sp (j := 33) rfl (fun h11 => ?_) (fun h11 => ?_)
          · have p12 := beqT h11
            refine ow1 (op1_g rfl h11 rfl (lo_fieldAddr rfl fl27_5) ?_)
            refine ow1 (op1_g rfl h11 rfl (lo_load1 (i := 0) (v := str _) rfl ag9 rfl rfl) ?_)
            refine ow1 (op1_g rfl h11 rfl (lo_fieldAddr rfl fl27_5) ?_)
            refine ow1 (op1_g rfl h11 rfl (lo_load1 (i := 1) (v := str _) rfl ag9 rfl rfl) ?_)
            refine ow1 (op1_g rfl h11 rfl (lo_seql rfl rfl) ?_)
            refine ow1 (op1_l rfl (lo_pick_t (v := .bool _) rfl h11 rfl) ?_)
            refine ow1 (op1_l rfl (lo_move (v := .bool _) rfl) ?_)
            refine ow_sp (j := 40) rfl (fun h13 => ?_) (fun h13 => ?_)
            · have p14 := dt h13
              refine ow1 (op1_g rfl h13 rfl (lo_fieldAddr rfl fl27_6) ?_)
              refine ow1 (op1_g rfl h13 rfl (lo_loadA (i := 0) (vs := [_, _, _, _, _, _, _]) rfl ag25 sz25 rfl rfl rfl) ?_)
              refine ow1 (op1_g rfl h13 rfl (lo_fieldAddr rfl fl27_6) ?_)
              refine ow1 (op1_g rfl h13 rfl (lo_loadA (i := 1) (vs := [_, _, _, _, _, _, _]) rfl ag25 sz25 rfl rfl rfl) ?_)
              refine ow1 (op1_prg rfl h13 (reply_sameMail _ a.mail a_mail_head_a a_mail_head_c a_mail_head_h (by simp only [Mail.wf]; first | omega | (simp; done) | (simp; omega)) b.mail b_mail_head_a b_mail_head_c b_mail_head_h (by simp only [Mail.wf]; first | omega | (simp; done) | (simp; omega))) (en_f cb33 rfl) rfl ?_)
              refine ow1 (op1_l rfl (lo_pick_t (v := .bool _) rfl h13 rfl) ?_)
              refine ow1 (op1_l rfl (lo_assign (v := .bool _) rfl) ?_)
              refine ow_nil ?_
              refine seqK_n ?_
              refine cw_ret ?_
              refine fnK_r (res1 rfl (rv_t (v := .bool _) rfl)) (.refl _) ?_
              first | (simp [Reply.eq_iff, *]; done)
            · have p15 := df h13
              refine ow1 (op1_gs rfl h13 rfl ?_)
              refine ow1 (op1_gs rfl h13 rfl ?_)
              refine ow1 (op1_gs rfl h13 rfl ?_)
              refine ow1 (op1_gs rfl h13 rfl ?_)
              refine ow1 (op1_gs rfl h13 rfl ?_)
              refine ow1 (op1_l rfl (lo_pick_f (v := .bool _) rfl h13 rfl) ?_)
              refine ow1 (op1_l rfl (lo_assign (v := .bool _) rfl) ?_)
              refine ow_nil ?_
              refine seqK_n ?_
              refine cw_ret ?_
              refine fnK_r (res1 rfl (rv_t (v := .bool _) rfl)) (.refl _) ?_
              first | (simp [Reply.eq_iff, *]; done)
          · have p16 := beqF h11
            refine ow1 (op1_gs rfl h11 rfl ?_)
            refine ow1 (op1_gs rfl h11 rfl ?_)
            refine ow1 (op1_gs rfl h11 rfl ?_)
            refine ow1 (op1_gs rfl h11 rfl ?_)
            refine ow1 (op1_gs rfl h11 rfl ?_)
            refine ow1 (op1_l rfl (lo_pick_f (v := .bool _) rfl h11 rfl) ?_)
            refine ow1 (op1_l rfl (lo_move (v := .bool _) rfl) ?_)
            refine ow1 (op1_gs rfl rfl rfl ?_)
            refine ow1 (op1_gs rfl rfl rfl ?_)
            refine ow1 (op1_gs rfl rfl rfl ?_)
            refine ow1 (op1_gs rfl rfl rfl ?_)
            refine ow1 (op1_gs rfl rfl rfl ?_)
            refine ow1 (op1_l rfl (lo_pick_f (v := .bool _) rfl rfl rfl) ?_)
            refine ow1 (op1_l rfl (lo_assign (v := .bool _) rfl) ?_)
            refine ow_nil ?_
            refine seqK_n ?_
            refine cw_ret ?_
            refine fnK_r (res1 rfl (rv_t (v := .bool _) rfl)) (.refl _) ?_
            first | (simp [Reply.eq_iff, *]; done)
        · have p17 := df h9
          refine ow1 (op1_gs rfl h9 rfl ?_)
          refine ow1 (op1_gs rfl h9 rfl ?_)
          refine ow1 (op1_gs rfl h9 rfl ?_)
          refine ow1 (op1_gs rfl h9 rfl ?_)
          refine ow1 (op1_gs rfl h9 rfl ?_)
          refine ow1 (op1_l rfl (lo_pick_f (v := .bool _) rfl h9 rfl) ?_)
          refine ow1 (op1_l rfl (lo_move (v := .bool _) rfl) ?_)
          refine ow1 (op1_gs rfl rfl rfl ?_)
          refine ow1 (op1_gs rfl rfl rfl ?_)
          refine ow1 (op1_gs rfl rfl rfl ?_)
          refine ow1 (op1_gs rfl rfl rfl ?_)
          refine ow1 (op1_gs rfl rfl rfl ?_)
          refine ow1 (op1_l rfl (lo_pick_f (v := .bool _) rfl rfl rfl) ?_)
          refine ow1 (op1_l rfl (lo_move (v := .bool _) rfl) ?_)
          refine ow1 (op1_gs rfl rfl rfl ?_)
          refine ow1 (op1_gs rfl rfl rfl ?_)
          refine ow1 (op1_gs rfl rfl rfl ?_)
          refine ow1 (op1_gs rfl rfl rfl ?_)
          refine ow1 (op1_gs rfl rfl rfl ?_)
          refine ow1 (op1_l rfl (lo_pick_f (v := .bool _) rfl rfl rfl) ?_)
          refine ow1 (op1_l rfl (lo_assign (v := .bool _) rfl) ?_)
          refine ow_nil ?_
          refine seqK_n ?_
          refine cw_ret ?_
          refine fnK_r (res1 rfl (rv_t (v := .bool _) rfl)) (.refl _) ?_
          first | (simp [Reply.eq_iff, *]; done)
      · have p18 := df h7
        refine ow1 (op1_gs rfl h7 rfl ?_)
        refine ow1 (op1_gs rfl h7 rfl ?_)
        refine ow1 (op1_gs rfl h7 rfl ?_)
        refine ow1 (op1_gs rfl h7 rfl ?_)
        refine ow1 (op1_gs rfl h7 rfl ?_)
        refine ow1 (op1_l rfl (lo_pick_f (v := .bool _) rfl h7 rfl) ?_)
        refine ow1 (op1_l rfl (lo_move (v := .bool _) rfl) ?_)
        refine ow1 (op1_gs rfl rfl rfl ?_)
        refine ow1 (op1_gs rfl rfl rfl ?_)
        refine ow1 (op1_gs rfl rfl rfl ?_)
        refine ow1 (op1_gs rfl rfl rfl ?_)
        refine ow1 (op1_gs rfl rfl rfl ?_)
        refine ow1 (op1_l rfl (lo_pick_f (v := .bool _) rfl rfl rfl) ?_)
        refine ow1 (op1_l rfl (lo_move (v := .bool _) rfl) ?_)
        refine ow1 (op1_gs rfl rfl rfl ?_)
        refine ow1 (op1_gs rfl rfl rfl ?_)
        refine ow1 (op1_gs rfl rfl rfl ?_)
        refine ow1 (op1_gs rfl rfl rfl ?_)
        refine ow1 (op1_gs rfl rfl rfl ?_)
        refine ow1 (op1_l rfl (lo_pick_f (v := .bool _) rfl rfl rfl) ?_)
        refine ow1 (op1_l rfl (lo_move (v := .bool _) rfl) ?_)
        refine ow1 (op1_gs rfl rfl rfl ?_)
        refine ow1 (op1_gs rfl rfl rfl ?_)
        refine ow1 (op1_gs rfl rfl rfl ?_)
        refine ow1 (op1_gs rfl rfl rfl ?_)
        refine ow1 (op1_gs rfl rfl rfl ?_)
        refine ow1 (op1_l rfl (lo_pick_f (v := .bool _) rfl rfl rfl) ?_)
        refine ow1 (op1_l rfl (lo_assign (v := .bool _) rfl) ?_)
        refine ow_nil ?_
        refine seqK_n ?_
        refine cw_ret ?_
        refine fnK_r (res1 rfl (rv_t (v := .bool _) rfl)) (.refl _) ?_
        first | (simp [Reply.eq_iff, *]; done)
    · have p19 := df h5
      refine ow1 (op1_gs rfl h5 rfl ?_)
      refine ow1 (op1_gs rfl h5 rfl ?_)
      refine ow1 (op1_gs rfl h5 rfl ?_)
      refine ow1 (op1_gs rfl h5 rfl ?_)
      refine ow1 (op1_gs rfl h5 rfl ?_)
      refine ow1 (op1_l rfl (lo_pick_f (v := .bool _) rfl h5 rfl) ?_)
      refine ow1 (op1_l rfl (lo_move (v := .bool _) rfl) ?_)
      refine ow1 (op1_gs rfl rfl rfl ?_)
      refine ow1 (op1_gs rfl rfl rfl ?_)
      refine ow1 (op1_gs rfl rfl rfl ?_)
      refine ow1 (op1_gs rfl rfl rfl ?_)
      refine ow1 (op1_gs rfl rfl rfl ?_)
      refine ow1 (op1_l rfl (lo_pick_f (v := .bool _) rfl rfl rfl) ?_)
      refine ow1 (op1_l rfl (lo_move (v := .bool _) rfl) ?_)
      refine ow1 (op1_gs rfl rfl rfl ?_)
      refine ow1 (op1_gs rfl rfl rfl ?_)
      refine ow1 (op1_gs rfl rfl rfl ?_)
      refine ow1 (op1_gs rfl rfl rfl ?_)
      refine ow1 (op1_gs rfl rfl rfl ?_)
      refine ow1 (op1_l rfl (lo_pick_f (v := .bool _) rfl rfl rfl) ?_)
      refine ow1 (op1_l rfl (lo_move (v := .bool _) rfl) ?_)
      refine ow1 (op1_gs rfl rfl rfl ?_)
      refine ow1 (op1_gs rfl rfl rfl ?_)
      refine ow1 (op1_gs rfl rfl rfl ?_)
      refine ow1 (op1_gs rfl rfl rfl ?_)
      refine ow1 (op1_gs rfl rfl rfl ?_)
      refine ow1 (op1_l rfl (lo_pick_f (v := .bool _) rfl rfl rfl) ?_)
      refine ow1 (op1_l rfl (lo_move (v := .bool _) rfl) ?_)
      refine ow1 (op1_gs rfl rfl rfl ?_)
      refine ow1 (op1_gs rfl rfl rfl ?_)
      refine ow1 (op1_gs rfl rfl rfl ?_)
      refine ow1 (op1_gs rfl rfl rfl ?_)
      refine ow1 (op1_gs rfl rfl rfl ?_)
      refine ow1 (op1_l rfl (lo_pick_f (v := .bool _) rfl rfl rfl) ?_)
      refine ow1 (op1_l rfl (lo_assign (v := .bool _) rfl) ?_)
      refine ow_nil ?_
      refine seqK_n ?_
      refine cw_ret ?_
      refine fnK_r (res1 rfl (rv_t (v := .bool _) rfl)) (.refl _) ?_
      first | (simp [Reply.eq_iff, *]; done)
  · have p20 := df h3
    refine ow1 (op1_gs rfl h3 rfl ?_)
    refine ow1 (op1_gs rfl h3 rfl ?_)
    refine ow1 (op1_gs rfl h3 rfl ?_)
    refine ow1 (op1_gs rfl h3 rfl ?_)
    refine ow1 (op1_gs rfl h3 rfl ?_)
    refine ow1 (op1_l rfl (lo_pick_f (v := .bool _) rfl h3 rfl) ?_)
    refine ow1 (op1_l rfl (lo_move (v := .bool _) rfl) ?_)
    refine ow1 (op1_gs rfl rfl rfl ?_)
    refine ow1 (op1_gs rfl rfl rfl ?_)
    refine ow1 (op1_gs rfl rfl rfl ?_)
    refine ow1 (op1_gs rfl rfl rfl ?_)
    refine ow1 (op1_gs rfl rfl rfl ?_)
    refine ow1 (op1_l rfl (lo_pick_f (v := .bool _) rfl rfl rfl) ?_)
    refine ow1 (op1_l rfl (lo_move (v := .bool _) rfl) ?_)
    refine ow1 (op1_gs rfl rfl rfl ?_)
    refine ow1 (op1_gs rfl rfl rfl ?_)
    refine ow1 (op1_gs rfl rfl rfl ?_)
    refine ow1 (op1_gs rfl rfl rfl ?_)
    refine ow1 (op1_gs rfl rfl rfl ?_)
    refine ow1 (op1_l rfl (lo_pick_f (v := .bool _) rfl rfl rfl) ?_)
    refine ow1 (op1_l rfl (lo_move (v := .bool _) rfl) ?_)
    refine ow1 (op1_gs rfl rfl rfl ?_)
    refine ow1 (op1_gs rfl rfl rfl ?_)
    refine ow1 (op1_gs rfl rfl rfl ?_)
    refine ow1 (op1_gs rfl rfl rfl ?_)
    refine ow1 (op1_gs rfl rfl rfl ?_)
    refine ow1 (op1_l rfl (lo_pick_f (v := .bool _) rfl rfl rfl) ?_)
    refine ow1 (op1_l rfl (lo_move (v := .bool _) rfl) ?_)
    refine ow1 (op1_gs rfl rfl rfl ?_)
    refine ow1 (op1_gs rfl rfl rfl ?_)
    refine ow1 (op1_gs rfl rfl rfl ?_)
    refine ow1 (op1_gs rfl rfl rfl ?_)
    refine ow1 (op1_gs rfl rfl rfl ?_)
    refine ow1 (op1_l rfl (lo_pick_f (v := .bool _) rfl rfl rfl) ?_)
    refine ow1 (op1_l rfl (lo_move (v := .bool _) rfl) ?_)
    refine ow1 (op1_gs rfl rfl rfl ?_)
    refine ow1 (op1_gs rfl rfl rfl ?_)
    refine ow1 (op1_gs rfl rfl rfl ?_)
    refine ow1 (op1_gs rfl rfl rfl ?_)
    refine ow1 (op1_gs rfl rfl rfl ?_)
    refine ow1 (op1_l rfl (lo_pick_f (v := .bool _) rfl rfl rfl) ?_)
    refine ow1 (op1_l rfl (lo_assign (v := .bool _) rfl) ?_)
    refine ow_nil ?_
    refine seqK_n ?_
    refine cw_ret ?_
    refine fnK_r (res1 rfl (rv_t (v := .bool _) rfl)) (.refl _) ?_
    first | (simp [Reply.eq_iff, *]; done)

theorem r12_SameMail (H : Hp) (a : Mail) (a_head_a : Option Addr) (a_head_c : Nat) (a_head_h : SlH pairE 4 H (.slice a_head_a a.head.length a_head_c) a.head) (a_w : Mail.wf a) (b : Mail) (b_head_a : Option Addr) (b_head_c : Nat) (b_head_h : SlH pairE 4 H (.slice b_head_a b.head.length b_head_c) b.head) (b_w : Mail.wf b) : Pr Tryd.prog 34 #[.agg (Mail.cells a a_head_a a_head_c).toArray, .agg (Mail.cells b b_head_a b_head_c).toArray] H (.bool (decide (a = b))) := by
  refine pr_cw Tryd.func34 rfl Tryd.ntmps34 rfl (fun N => ?_)
  have a_w' := a_w
  simp only [Mail.wf] at a_w'
  have b_w' := b_w
  simp only [Mail.wf] at b_w'
  refine cw_seq ?_
  refine cw_region ?_
  refine ow1 (op1_box (cs := [_, _, _, _, _, _, _]) 0 rfl rfl (fun b1 => ?_))
  refine ow1 (op1_box (cs := [_, _, _, _, _, _, _]) 1 rfl rfl (fun b2 => ?_))
  refine ow1 (op1_l rfl (lo_assign (v := .bool _) rfl) ?_)
  refine ow_nil ?_
  refine seqK_n ?_
  refine cw_seq ?_
  refine cw_region ?_
  refine ow1 (op1_l rfl (lo_fieldAddr rfl fl25_0) ?_)
  refine ow1 (op1_l rfl (lo_load1 (i := 0) (v := .int _ _) rfl ag22 rfl rfl) ?_)
  refine ow1 (op1_l rfl (lo_fieldAddr rfl fl25_0) ?_)
  refine ow1 (op1_l rfl (lo_load1 (i := 1) (v := .int _ _) rfl ag22 rfl rfl) ?_)
  refine ow1 (op1_l rfl (lo_eql rfl rfl) ?_)
  refine ow1 (op1_l rfl (lo_move (v := .bool _) rfl) ?_)
  refine ow_sp (j := 5) rfl (fun h3 => ?_) (fun h3 => ?_)
  · have p4 := dt h3
    refine ow1 (op1_g rfl h3 rfl (lo_fieldAddr rfl fl25_1) ?_)
    refine ow1 (op1_g rfl h3 rfl (lo_load1 (i := 0) (v := str _) rfl ag9 rfl rfl) ?_)
    refine ow1 (op1_g rfl h3 rfl (lo_fieldAddr rfl fl25_1) ?_)
    refine ow1 (op1_g rfl h3 rfl (lo_load1 (i := 1) (v := str _) rfl ag9 rfl rfl) ?_)
    refine ow1 (op1_g rfl h3 rfl (lo_seql rfl rfl) ?_)
    refine ow1 (op1_l rfl (lo_pick_t (v := .bool _) rfl h3 rfl) ?_)
    refine ow1 (op1_l rfl (lo_move (v := .bool _) rfl) ?_)
    refine ow_sp (j := 12) rfl (fun h5 => ?_) (fun h5 => ?_)
    · have p6 := dt h5
      refine ow1 (op1_g rfl h5 rfl (lo_fieldAddr rfl fl25_2) ?_)
      refine ow1 (op1_g rfl h5 rfl (lo_load1 (i := 0) (v := str _) rfl ag9 rfl rfl) ?_)
      refine ow1 (op1_g rfl h5 rfl (lo_fieldAddr rfl fl25_2) ?_)
      refine ow1 (op1_g rfl h5 rfl (lo_load1 (i := 1) (v := str _) rfl ag9 rfl rfl) ?_)
      refine ow1 (op1_g rfl h5 rfl (lo_seql rfl rfl) ?_)
      refine ow1 (op1_l rfl (lo_pick_t (v := .bool _) rfl h5 rfl) ?_)
      refine ow1 (op1_l rfl (lo_move (v := .bool _) rfl) ?_)
      refine ow_sp (j := 19) rfl (fun h7 => ?_) (fun h7 => ?_)
      · have p8 := dt h7
        refine ow1 (op1_g rfl h7 rfl (lo_fieldAddr rfl fl25_3) ?_)
        refine ow1 (op1_g rfl h7 rfl (lo_load1 (i := 0) (v := .slice _ _ _) rfl ag23 rfl rfl) ?_)
        refine ow1 (op1_g rfl h7 rfl (lo_fieldAddr rfl fl25_3) ?_)
        refine ow1 (op1_g rfl h7 rfl (lo_load1 (i := 1) (v := .slice _ _ _) rfl ag23 rfl rfl) ?_)
        refine ow1 (op1_prg rfl h7 (r9_Same _ a_head_a a.head.length a_head_c a.head a_head_h b_head_a b.head.length b_head_c b.head b_head_h (by first | omega | (simp <;> omega))) (en_f cb63 rfl) rfl ?_)
        refine ow1 (op1_l rfl (lo_pick_t (v := .bool _) rfl h7 rfl) ?_)
        refine ow1 (op1_l rfl (lo_move (v := .bool _) rfl) ?_)
        refine ow_sp (j := 26) rfl (fun h9 => ?_) (fun h9 => ?_)
        · refine ow1 (op1_g rfl h9 rfl (lo_fieldAddr rfl fl25_4) ?_)
          refine ow1 (op1_g rfl h9 rfl (lo_load1 (i := 0) (v := str _) rfl ag9 rfl rfl) ?_)
          refine ow1 (op1_g rfl h9 rfl (lo_fieldAddr rfl fl25_4) ?_)
          refine ow1 (op1_g rfl h9 rfl (lo_load1 (i := 1) (v := str _) rfl ag9 rfl rfl) ?_)
          refine ow1 (op1_g rfl h9 rfl (lo_seql rfl rfl) ?_)
          refine ow1 (op1_l rfl (lo_pick_t (v := .bool _) rfl h9 rfl) ?_)
          refine ow1 (op1_l rfl (lo_move (v := .bool _) rfl) ?_)
          refine ow_sp (j := 33) rfl (fun h10 => ?_) (fun h10 => ?_)
          · have p11 := dt h10
            refine ow1 (op1_g rfl h10 rfl (lo_fieldAddr rfl fl25_5) ?_)
            refine ow1 (op1_g rfl h10 rfl (lo_load1 (i := 0) (v := .int _ _) rfl ag22 rfl rfl) ?_)
            refine ow1 (op1_g rfl h10 rfl (lo_fieldAddr rfl fl25_5) ?_)
            refine ow1 (op1_g rfl h10 rfl (lo_load1 (i := 1) (v := .int _ _) rfl ag22 rfl rfl) ?_)
            refine ow1 (op1_g rfl h10 rfl (lo_eql rfl rfl) ?_)
            refine ow1 (op1_l rfl (lo_pick_t (v := .bool _) rfl h10 rfl) ?_)
            refine ow1 (op1_l rfl (lo_move (v := .bool _) rfl) ?_)
            refine ow_sp (j := 40) rfl (fun h12 => ?_) (fun h12 => ?_)
            · have p13 := dt h12
              refine ow1 (op1_g rfl h12 rfl (lo_fieldAddr rfl fl25_6) ?_)
              refine ow1 (op1_g rfl h12 rfl (lo_load1 (i := 0) (v := .int _ _) rfl ag5 rfl rfl) ?_)
              refine ow1 (op1_g rfl h12 rfl (lo_fieldAddr rfl fl25_6) ?_)
              refine ow1 (op1_g rfl h12 rfl (lo_load1 (i := 1) (v := .int _ _) rfl ag5 rfl rfl) ?_)
              refine ow1 (op1_g rfl h12 rfl (lo_eql rfl rfl) ?_)
              refine ow1 (op1_l rfl (lo_pick_t (v := .bool _) rfl h12 rfl) ?_)
              refine ow1 (op1_l rfl (lo_assign (v := .bool _) rfl) ?_)
              refine ow_nil ?_
              refine seqK_n ?_
              refine cw_ret ?_
              refine fnK_r (res1 rfl (rv_t (v := .bool _) rfl)) (.refl _) ?_
              first | (simp [Mail.eq_iff, *]; done)
            · have p14 := df h12
              refine ow1 (op1_gs rfl h12 rfl ?_)
              refine ow1 (op1_gs rfl h12 rfl ?_)
              refine ow1 (op1_gs rfl h12 rfl ?_)
              refine ow1 (op1_gs rfl h12 rfl ?_)
              refine ow1 (op1_gs rfl h12 rfl ?_)
              refine ow1 (op1_l rfl (lo_pick_f (v := .bool _) rfl h12 rfl) ?_)
              refine ow1 (op1_l rfl (lo_assign (v := .bool _) rfl) ?_)
              refine ow_nil ?_
              refine seqK_n ?_
              refine cw_ret ?_
              refine fnK_r (res1 rfl (rv_t (v := .bool _) rfl)) (.refl _) ?_
              first | (simp [Mail.eq_iff, *]; done)
          · have p15 := df h10
            refine ow1 (op1_gs rfl h10 rfl ?_)
            refine ow1 (op1_gs rfl h10 rfl ?_)
            refine ow1 (op1_gs rfl h10 rfl ?_)
            refine ow1 (op1_gs rfl h10 rfl ?_)
            refine ow1 (op1_gs rfl h10 rfl ?_)
            refine ow1 (op1_l rfl (lo_pick_f (v := .bool _) rfl h10 rfl) ?_)
            refine ow1 (op1_l rfl (lo_move (v := .bool _) rfl) ?_)
            refine ow1 (op1_gs rfl rfl rfl ?_)
            refine ow1 (op1_gs rfl rfl rfl ?_)
            refine ow1 (op1_gs rfl rfl rfl ?_)
            refine ow1 (op1_gs rfl rfl rfl ?_)
            refine ow1 (op1_gs rfl rfl rfl ?_)
            refine ow1 (op1_l rfl (lo_pick_f (v := .bool _) rfl rfl rfl) ?_)
            refine ow1 (op1_l rfl (lo_assign (v := .bool _) rfl) ?_)
            refine ow_nil ?_
            refine seqK_n ?_
            refine cw_ret ?_
            refine fnK_r (res1 rfl (rv_t (v := .bool _) rfl)) (.refl _) ?_
            first | (simp [Mail.eq_iff, *]; done)
        · refine ow1 (op1_gs rfl h9 rfl ?_)
          refine ow1 (op1_gs rfl h9 rfl ?_)
          refine ow1 (op1_gs rfl h9 rfl ?_)
          refine ow1 (op1_gs rfl h9 rfl ?_)
          refine ow1 (op1_gs rfl h9 rfl ?_)
          refine ow1 (op1_l rfl (lo_pick_f (v := .bool _) rfl h9 rfl) ?_)
          refine ow1 (op1_l rfl (lo_move (v := .bool _) rfl) ?_)
          refine ow1 (op1_gs rfl rfl rfl ?_)
          refine ow1 (op1_gs rfl rfl rfl ?_)
          refine ow1 (op1_gs rfl rfl rfl ?_)
          refine ow1 (op1_gs rfl rfl rfl ?_)
          refine ow1 (op1_gs rfl rfl rfl ?_)
          refine ow1 (op1_l rfl (lo_pick_f (v := .bool _) rfl rfl rfl) ?_)
          refine ow1 (op1_l rfl (lo_move (v := .bool _) rfl) ?_)
          refine ow1 (op1_gs rfl rfl rfl ?_)
          refine ow1 (op1_gs rfl rfl rfl ?_)
          refine ow1 (op1_gs rfl rfl rfl ?_)
          refine ow1 (op1_gs rfl rfl rfl ?_)
          refine ow1 (op1_gs rfl rfl rfl ?_)
          refine ow1 (op1_l rfl (lo_pick_f (v := .bool _) rfl rfl rfl) ?_)
          refine ow1 (op1_l rfl (lo_assign (v := .bool _) rfl) ?_)
          refine ow_nil ?_
          refine seqK_n ?_
          refine cw_ret ?_
          refine fnK_r (res1 rfl (rv_t (v := .bool _) rfl)) (.refl _) ?_
          first | (simp [Mail.eq_iff, *]; done)
      · have p16 := df h7
        refine ow1 (op1_gs rfl h7 rfl ?_)
        refine ow1 (op1_gs rfl h7 rfl ?_)
        refine ow1 (op1_gs rfl h7 rfl ?_)
        refine ow1 (op1_gs rfl h7 rfl ?_)
        refine ow1 (op1_gs rfl h7 rfl ?_)
        refine ow1 (op1_l rfl (lo_pick_f (v := .bool _) rfl h7 rfl) ?_)
        refine ow1 (op1_l rfl (lo_move (v := .bool _) rfl) ?_)
        refine ow1 (op1_gs rfl rfl rfl ?_)
        refine ow1 (op1_gs rfl rfl rfl ?_)
        refine ow1 (op1_gs rfl rfl rfl ?_)
        refine ow1 (op1_gs rfl rfl rfl ?_)
        refine ow1 (op1_gs rfl rfl rfl ?_)
        refine ow1 (op1_l rfl (lo_pick_f (v := .bool _) rfl rfl rfl) ?_)
        refine ow1 (op1_l rfl (lo_move (v := .bool _) rfl) ?_)
        refine ow1 (op1_gs rfl rfl rfl ?_)
        refine ow1 (op1_gs rfl rfl rfl ?_)
        refine ow1 (op1_gs rfl rfl rfl ?_)
        refine ow1 (op1_gs rfl rfl rfl ?_)
        refine ow1 (op1_gs rfl rfl rfl ?_)
        refine ow1 (op1_l rfl (lo_pick_f (v := .bool _) rfl rfl rfl) ?_)
        refine ow1 (op1_l rfl (lo_move (v := .bool _) rfl) ?_)
        refine ow1 (op1_gs rfl rfl rfl ?_)
        refine ow1 (op1_gs rfl rfl rfl ?_)
        refine ow1 (op1_gs rfl rfl rfl ?_)
        refine ow1 (op1_gs rfl rfl rfl ?_)
        refine ow1 (op1_gs rfl rfl rfl ?_)
        refine ow1 (op1_l rfl (lo_pick_f (v := .bool _) rfl rfl rfl) ?_)
        refine ow1 (op1_l rfl (lo_assign (v := .bool _) rfl) ?_)
        refine ow_nil ?_
        refine seqK_n ?_
        refine cw_ret ?_
        refine fnK_r (res1 rfl (rv_t (v := .bool _) rfl)) (.refl _) ?_
        first | (simp [Mail.eq_iff, *]; done)
    · have p17 := df h5
      refine ow1 (op1_gs rfl h5 rfl ?_)
      refine ow1 (op1_gs rfl h5 rfl ?_)
      refine ow1 (op1_gs rfl h5 rfl ?_)
      refine ow1 (op1_gs rfl h5 rfl ?_)
      refine ow1 (op1_gs rfl h5 rfl ?_)
      refine ow1 (op1_l rfl (lo_pick_f (v := .bool _) rfl h5 rfl) ?_)
      refine ow1 (op1_l rfl (lo_move (v := .bool _) rfl) ?_)
      refine ow1 (op1_gs rfl rfl rfl ?_)
      refine ow1 (op1_gs rfl rfl rfl ?_)
      refine ow1 (op1_gs rfl rfl rfl ?_)
      refine ow1 (op1_gs rfl rfl rfl ?_)
      refine ow1 (op1_gs rfl rfl rfl ?_)
      refine ow1 (op1_l rfl (lo_pick_f (v := .bool _) rfl rfl rfl) ?_)
      refine ow1 (op1_l rfl (lo_move (v := .bool _) rfl) ?_)
      refine ow1 (op1_gs rfl rfl rfl ?_)
      refine ow1 (op1_gs rfl rfl rfl ?_)
      refine ow1 (op1_gs rfl rfl rfl ?_)
      refine ow1 (op1_gs rfl rfl rfl ?_)
      refine ow1 (op1_gs rfl rfl rfl ?_)
      refine ow1 (op1_l rfl (lo_pick_f (v := .bool _) rfl rfl rfl) ?_)
      refine ow1 (op1_l rfl (lo_move (v := .bool _) rfl) ?_)
      refine ow1 (op1_gs rfl rfl rfl ?_)
      refine ow1 (op1_gs rfl rfl rfl ?_)
      refine ow1 (op1_gs rfl rfl rfl ?_)
      refine ow1 (op1_gs rfl rfl rfl ?_)
      refine ow1 (op1_gs rfl rfl rfl ?_)
      refine ow1 (op1_l rfl (lo_pick_f (v := .bool _) rfl rfl rfl) ?_)
      refine ow1 (op1_l rfl (lo_move (v := .bool _) rfl) ?_)
      refine ow1 (op1_gs rfl rfl rfl ?_)
      refine ow1 (op1_gs rfl rfl rfl ?_)
      refine ow1 (op1_gs rfl rfl rfl ?_)
      refine ow1 (op1_gs rfl rfl rfl ?_)
      refine ow1 (op1_gs rfl rfl rfl ?_)
      refine ow1 (op1_l rfl (lo_pick_f (v := .bool _) rfl rfl rfl) ?_)
      refine ow1 (op1_l rfl (lo_assign (v := .bool _) rfl) ?_)
      refine ow_nil ?_
      refine seqK_n ?_
      refine cw_ret ?_
      refine fnK_r (res1 rfl (rv_t (v := .bool _) rfl)) (.refl _) ?_
      first | (simp [Mail.eq_iff, *]; done)
  · have p18 := df h3
    refine ow1 (op1_gs rfl h3 rfl ?_)
    refine ow1 (op1_gs rfl h3 rfl ?_)
    refine ow1 (op1_gs rfl h3 rfl ?_)
    refine ow1 (op1_gs rfl h3 rfl ?_)
    refine ow1 (op1_gs rfl h3 rfl ?_)
    refine ow1 (op1_l rfl (lo_pick_f (v := .bool _) rfl h3 rfl) ?_)
    refine ow1 (op1_l rfl (lo_move (v := .bool _) rfl) ?_)
    refine ow1 (op1_gs rfl rfl rfl ?_)
    refine ow1 (op1_gs rfl rfl rfl ?_)
    refine ow1 (op1_gs rfl rfl rfl ?_)
    refine ow1 (op1_gs rfl rfl rfl ?_)
    refine ow1 (op1_gs rfl rfl rfl ?_)
    refine ow1 (op1_l rfl (lo_pick_f (v := .bool _) rfl rfl rfl) ?_)
    refine ow1 (op1_l rfl (lo_move (v := .bool _) rfl) ?_)
    refine ow1 (op1_gs rfl rfl rfl ?_)
    refine ow1 (op1_gs rfl rfl rfl ?_)
    refine ow1 (op1_gs rfl rfl rfl ?_)
    refine ow1 (op1_gs rfl rfl rfl ?_)
    refine ow1 (op1_gs rfl rfl rfl ?_)
    refine ow1 (op1_l rfl (lo_pick_f (v := .bool _) rfl rfl rfl) ?_)
    refine ow1 (op1_l rfl (lo_move (v := .bool _) rfl) ?_)
    refine ow1 (op1_gs rfl rfl rfl ?_)
    refine ow1 (op1_gs rfl rfl rfl ?_)
    refine ow1 (op1_gs rfl rfl rfl ?_)
    refine ow1 (op1_gs rfl rfl rfl ?_)
    refine ow1 (op1_gs rfl rfl rfl ?_)
    refine ow1 (op1_l rfl (lo_pick_f (v := .bool _) rfl rfl rfl) ?_)
    refine ow1 (op1_l rfl (lo_move (v := .bool _) rfl) ?_)
    refine ow1 (op1_gs rfl rfl rfl ?_)
    refine ow1 (op1_gs rfl rfl rfl ?_)
    refine ow1 (op1_gs rfl rfl rfl ?_)
    refine ow1 (op1_gs rfl rfl rfl ?_)
    refine ow1 (op1_gs rfl rfl rfl ?_)
    refine ow1 (op1_l rfl (lo_pick_f (v := .bool _) rfl rfl rfl) ?_)
    refine ow1 (op1_l rfl (lo_move (v := .bool _) rfl) ?_)
    refine ow1 (op1_gs rfl rfl rfl ?_)
    refine ow1 (op1_gs rfl rfl rfl ?_)
    refine ow1 (op1_gs rfl rfl rfl ?_)
    refine ow1 (op1_gs rfl rfl rfl ?_)
    refine ow1 (op1_gs rfl rfl rfl ?_)
    refine ow1 (op1_l rfl (lo_pick_f (v := .bool _) rfl rfl rfl) ?_)
    refine ow1 (op1_l rfl (lo_assign (v := .bool _) rfl) ?_)
    refine ow_nil ?_
    refine seqK_n ?_
    refine cw_ret ?_
    refine fnK_r (res1 rfl (rv_t (v := .bool _) rfl)) (.refl _) ?_
    first | (simp [Mail.eq_iff, *]; done)

theorem r12_Same (H : Hp) (a : Reply) (a_mail_head_a : Option Addr) (a_mail_head_c : Nat) (a_mail_head_h : SlH pairE 4 H (.slice a_mail_head_a a.mail.head.length a_mail_head_c) a.mail.head) (a_w : Reply.wf a) (b : Reply) (b_mail_head_a : Option Addr) (b_mail_head_c : Nat) (b_mail_head_h : SlH pairE 4 H (.slice b_mail_head_a b.mail.head.length b_mail_head_c) b.mail.head) (b_w : Reply.wf b) : Pr Tryd.prog 11 #[.agg (Reply.cells a a_mail_head_a a_mail_head_c).toArray, .agg (Reply.cells b b_mail_head_a b_mail_head_c).toArray] H (.bool (decide (a = b))) := by
  refine pr_cw Tryd.func11 rfl Tryd.ntmps11 rfl (fun N => ?_)
  have a_w' := a_w
  simp only [Reply.wf, Mail.wf] at a_w'
  have b_w' := b_w
  simp only [Reply.wf, Mail.wf] at b_w'
  refine cw_seq ?_
  refine cw_region ?_
  refine ow1 (op1_box (cs := [_, _, _, _, _, _, _, _, _, _, _, _, _]) 0 rfl rfl (fun b1 => ?_))
  refine ow1 (op1_box (cs := [_, _, _, _, _, _, _, _, _, _, _, _, _]) 1 rfl rfl (fun b2 => ?_))
  refine ow1 (op1_l rfl (lo_assign (v := .bool _) rfl) ?_)
  refine ow_nil ?_
  refine seqK_n ?_
  refine cw_seq ?_
  refine cw_region ?_
  refine ow1 (op1_l rfl (lo_fieldAddr rfl fl32_0) ?_)
  refine ow1 (op1_l rfl (lo_load1 (i := 0) (v := .int _ _) rfl ag5 rfl rfl) ?_)
  refine ow1 (op1_l rfl (lo_fieldAddr rfl fl32_0) ?_)
  refine ow1 (op1_l rfl (lo_load1 (i := 1) (v := .int _ _) rfl ag5 rfl rfl) ?_)
  refine ow1 (op1_l rfl (lo_eql rfl rfl) ?_)
  refine ow1 (op1_l rfl (lo_move (v := .bool _) rfl) ?_)
  refine ow_sp (j := 5) rfl (fun h3 => ?_) (fun h3 => ?_)
  · have p4 := dt h3
    refine ow1 (op1_g rfl h3 rfl (lo_fieldAddr rfl fl32_1) ?_)
    refine ow1 (op1_g rfl h3 rfl (lo_load1 (i := 0) (v := .int _ _) rfl ag5 rfl rfl) ?_)
    refine ow1 (op1_g rfl h3 rfl (lo_fieldAddr rfl fl32_1) ?_)
    refine ow1 (op1_g rfl h3 rfl (lo_load1 (i := 1) (v := .int _ _) rfl ag5 rfl rfl) ?_)
    refine ow1 (op1_g rfl h3 rfl (lo_eql rfl rfl) ?_)
    refine ow1 (op1_l rfl (lo_pick_t (v := .bool _) rfl h3 rfl) ?_)
    refine ow1 (op1_l rfl (lo_move (v := .bool _) rfl) ?_)
    refine ow_sp (j := 12) rfl (fun h5 => ?_) (fun h5 => ?_)
    · have p6 := dt h5
      refine ow1 (op1_g rfl h5 rfl (lo_fieldAddr rfl fl32_2) ?_)
      refine ow1 (op1_g rfl h5 rfl (lo_load1 (i := 0) (v := .int _ _) rfl ag22 rfl rfl) ?_)
      refine ow1 (op1_g rfl h5 rfl (lo_fieldAddr rfl fl32_2) ?_)
      refine ow1 (op1_g rfl h5 rfl (lo_load1 (i := 1) (v := .int _ _) rfl ag22 rfl rfl) ?_)
      refine ow1 (op1_g rfl h5 rfl (lo_eql rfl rfl) ?_)
      refine ow1 (op1_l rfl (lo_pick_t (v := .bool _) rfl h5 rfl) ?_)
      refine ow1 (op1_l rfl (lo_move (v := .bool _) rfl) ?_)
      refine ow_sp (j := 19) rfl (fun h7 => ?_) (fun h7 => ?_)
      · have p8 := dt h7
        refine ow1 (op1_g rfl h7 rfl (lo_fieldAddr rfl fl32_3) ?_)
        refine ow1 (op1_g rfl h7 rfl (lo_load1 (i := 0) (v := .int _ _) rfl ag22 rfl rfl) ?_)
        refine ow1 (op1_g rfl h7 rfl (lo_fieldAddr rfl fl32_3) ?_)
        refine ow1 (op1_g rfl h7 rfl (lo_load1 (i := 1) (v := .int _ _) rfl ag22 rfl rfl) ?_)
        refine ow1 (op1_g rfl h7 rfl (lo_eql rfl rfl) ?_)
        refine ow1 (op1_l rfl (lo_pick_t (v := .bool _) rfl h7 rfl) ?_)
        refine ow1 (op1_l rfl (lo_move (v := .bool _) rfl) ?_)
        refine ow_sp (j := 26) rfl (fun h9 => ?_) (fun h9 => ?_)
        · have p10 := dt h9
          refine ow1 (op1_g rfl h9 rfl (lo_fieldAddr rfl fl32_4) ?_)
          refine ow1 (op1_g rfl h9 rfl (lo_load1 (i := 0) (v := .bool _) rfl ag4 rfl rfl) ?_)
          refine ow1 (op1_g rfl h9 rfl (lo_fieldAddr rfl fl32_4) ?_)
          refine ow1 (op1_g rfl h9 rfl (lo_load1 (i := 1) (v := .bool _) rfl ag4 rfl rfl) ?_)
          refine ow1 (op1_g rfl h9 rfl (lo_beql rfl rfl Tryd.underlying4) ?_)
          refine ow1 (op1_l rfl (lo_pick_t (v := .bool _) rfl h9 rfl) ?_)
          refine ow1 (op1_l rfl (lo_move (v := .bool _) rfl) ?_)
          refine ow_sp (j := 33) rfl (fun h11 => ?_) (fun h11 => ?_)
          · have p12 := beqT h11
            refine ow1 (op1_g rfl h11 rfl (lo_fieldAddr rfl fl32_5) ?_)
            refine ow1 (op1_g rfl h11 rfl (lo_load1 (i := 0) (v := str _) rfl ag9 rfl rfl) ?_)
            refine ow1 (op1_g rfl h11 rfl (lo_fieldAddr rfl fl32_5) ?_)
            refine ow1 (op1_g rfl h11 rfl (lo_load1 (i := 1) (v := str _) rfl ag9 rfl rfl) ?_)
            refine ow1 (op1_g rfl h11 rfl (lo_seql rfl rfl) ?_)
            refine ow1 (op1_l rfl (lo_pick_t (v := .bool _) rfl h11 rfl) ?_)
            refine ow1 (op1_l rfl (lo_move (v := .bool _) rfl) ?_)
            refine ow_sp (j := 40) rfl (fun h13 => ?_) (fun h13 => ?_)
            · have p14 := dt h13
              refine ow1 (op1_g rfl h13 rfl (lo_fieldAddr rfl fl32_6) ?_)
              refine ow1 (op1_g rfl h13 rfl (lo_loadA (i := 0) (vs := [_, _, _, _, _, _, _]) rfl ag25 sz25 rfl rfl rfl) ?_)
              refine ow1 (op1_g rfl h13 rfl (lo_fieldAddr rfl fl32_6) ?_)
              refine ow1 (op1_g rfl h13 rfl (lo_loadA (i := 1) (vs := [_, _, _, _, _, _, _]) rfl ag25 sz25 rfl rfl rfl) ?_)
              refine ow1 (op1_prg rfl h13 (r12_SameMail _ a.mail a_mail_head_a a_mail_head_c a_mail_head_h (by simp only [Mail.wf]; first | omega | (simp; done) | (simp; omega)) b.mail b_mail_head_a b_mail_head_c b_mail_head_h (by simp only [Mail.wf]; first | omega | (simp; done) | (simp; omega))) (en_f cb34 rfl) rfl ?_)
              refine ow1 (op1_l rfl (lo_pick_t (v := .bool _) rfl h13 rfl) ?_)
              refine ow1 (op1_l rfl (lo_assign (v := .bool _) rfl) ?_)
              refine ow_nil ?_
              refine seqK_n ?_
              refine cw_ret ?_
              refine fnK_r (res1 rfl (rv_t (v := .bool _) rfl)) (.refl _) ?_
              first | (simp [Reply.eq_iff, *]; done)
            · have p15 := df h13
              refine ow1 (op1_gs rfl h13 rfl ?_)
              refine ow1 (op1_gs rfl h13 rfl ?_)
              refine ow1 (op1_gs rfl h13 rfl ?_)
              refine ow1 (op1_gs rfl h13 rfl ?_)
              refine ow1 (op1_gs rfl h13 rfl ?_)
              refine ow1 (op1_l rfl (lo_pick_f (v := .bool _) rfl h13 rfl) ?_)
              refine ow1 (op1_l rfl (lo_assign (v := .bool _) rfl) ?_)
              refine ow_nil ?_
              refine seqK_n ?_
              refine cw_ret ?_
              refine fnK_r (res1 rfl (rv_t (v := .bool _) rfl)) (.refl _) ?_
              first | (simp [Reply.eq_iff, *]; done)
          · have p16 := beqF h11
            refine ow1 (op1_gs rfl h11 rfl ?_)
            refine ow1 (op1_gs rfl h11 rfl ?_)
            refine ow1 (op1_gs rfl h11 rfl ?_)
            refine ow1 (op1_gs rfl h11 rfl ?_)
            refine ow1 (op1_gs rfl h11 rfl ?_)
            refine ow1 (op1_l rfl (lo_pick_f (v := .bool _) rfl h11 rfl) ?_)
            refine ow1 (op1_l rfl (lo_move (v := .bool _) rfl) ?_)
            refine ow1 (op1_gs rfl rfl rfl ?_)
            refine ow1 (op1_gs rfl rfl rfl ?_)
            refine ow1 (op1_gs rfl rfl rfl ?_)
            refine ow1 (op1_gs rfl rfl rfl ?_)
            refine ow1 (op1_gs rfl rfl rfl ?_)
            refine ow1 (op1_l rfl (lo_pick_f (v := .bool _) rfl rfl rfl) ?_)
            refine ow1 (op1_l rfl (lo_assign (v := .bool _) rfl) ?_)
            refine ow_nil ?_
            refine seqK_n ?_
            refine cw_ret ?_
            refine fnK_r (res1 rfl (rv_t (v := .bool _) rfl)) (.refl _) ?_
            first | (simp [Reply.eq_iff, *]; done)
        · have p17 := df h9
          refine ow1 (op1_gs rfl h9 rfl ?_)
          refine ow1 (op1_gs rfl h9 rfl ?_)
          refine ow1 (op1_gs rfl h9 rfl ?_)
          refine ow1 (op1_gs rfl h9 rfl ?_)
          refine ow1 (op1_gs rfl h9 rfl ?_)
          refine ow1 (op1_l rfl (lo_pick_f (v := .bool _) rfl h9 rfl) ?_)
          refine ow1 (op1_l rfl (lo_move (v := .bool _) rfl) ?_)
          refine ow1 (op1_gs rfl rfl rfl ?_)
          refine ow1 (op1_gs rfl rfl rfl ?_)
          refine ow1 (op1_gs rfl rfl rfl ?_)
          refine ow1 (op1_gs rfl rfl rfl ?_)
          refine ow1 (op1_gs rfl rfl rfl ?_)
          refine ow1 (op1_l rfl (lo_pick_f (v := .bool _) rfl rfl rfl) ?_)
          refine ow1 (op1_l rfl (lo_move (v := .bool _) rfl) ?_)
          refine ow1 (op1_gs rfl rfl rfl ?_)
          refine ow1 (op1_gs rfl rfl rfl ?_)
          refine ow1 (op1_gs rfl rfl rfl ?_)
          refine ow1 (op1_gs rfl rfl rfl ?_)
          refine ow1 (op1_gs rfl rfl rfl ?_)
          refine ow1 (op1_l rfl (lo_pick_f (v := .bool _) rfl rfl rfl) ?_)
          refine ow1 (op1_l rfl (lo_assign (v := .bool _) rfl) ?_)
          refine ow_nil ?_
          refine seqK_n ?_
          refine cw_ret ?_
          refine fnK_r (res1 rfl (rv_t (v := .bool _) rfl)) (.refl _) ?_
          first | (simp [Reply.eq_iff, *]; done)
      · have p18 := df h7
        refine ow1 (op1_gs rfl h7 rfl ?_)
        refine ow1 (op1_gs rfl h7 rfl ?_)
        refine ow1 (op1_gs rfl h7 rfl ?_)
        refine ow1 (op1_gs rfl h7 rfl ?_)
        refine ow1 (op1_gs rfl h7 rfl ?_)
        refine ow1 (op1_l rfl (lo_pick_f (v := .bool _) rfl h7 rfl) ?_)
        refine ow1 (op1_l rfl (lo_move (v := .bool _) rfl) ?_)
        refine ow1 (op1_gs rfl rfl rfl ?_)
        refine ow1 (op1_gs rfl rfl rfl ?_)
        refine ow1 (op1_gs rfl rfl rfl ?_)
        refine ow1 (op1_gs rfl rfl rfl ?_)
        refine ow1 (op1_gs rfl rfl rfl ?_)
        refine ow1 (op1_l rfl (lo_pick_f (v := .bool _) rfl rfl rfl) ?_)
        refine ow1 (op1_l rfl (lo_move (v := .bool _) rfl) ?_)
        refine ow1 (op1_gs rfl rfl rfl ?_)
        refine ow1 (op1_gs rfl rfl rfl ?_)
        refine ow1 (op1_gs rfl rfl rfl ?_)
        refine ow1 (op1_gs rfl rfl rfl ?_)
        refine ow1 (op1_gs rfl rfl rfl ?_)
        refine ow1 (op1_l rfl (lo_pick_f (v := .bool _) rfl rfl rfl) ?_)
        refine ow1 (op1_l rfl (lo_move (v := .bool _) rfl) ?_)
        refine ow1 (op1_gs rfl rfl rfl ?_)
        refine ow1 (op1_gs rfl rfl rfl ?_)
        refine ow1 (op1_gs rfl rfl rfl ?_)
        refine ow1 (op1_gs rfl rfl rfl ?_)
        refine ow1 (op1_gs rfl rfl rfl ?_)
        refine ow1 (op1_l rfl (lo_pick_f (v := .bool _) rfl rfl rfl) ?_)
        refine ow1 (op1_l rfl (lo_assign (v := .bool _) rfl) ?_)
        refine ow_nil ?_
        refine seqK_n ?_
        refine cw_ret ?_
        refine fnK_r (res1 rfl (rv_t (v := .bool _) rfl)) (.refl _) ?_
        first | (simp [Reply.eq_iff, *]; done)
    · have p19 := df h5
      refine ow1 (op1_gs rfl h5 rfl ?_)
      refine ow1 (op1_gs rfl h5 rfl ?_)
      refine ow1 (op1_gs rfl h5 rfl ?_)
      refine ow1 (op1_gs rfl h5 rfl ?_)
      refine ow1 (op1_gs rfl h5 rfl ?_)
      refine ow1 (op1_l rfl (lo_pick_f (v := .bool _) rfl h5 rfl) ?_)
      refine ow1 (op1_l rfl (lo_move (v := .bool _) rfl) ?_)
      refine ow1 (op1_gs rfl rfl rfl ?_)
      refine ow1 (op1_gs rfl rfl rfl ?_)
      refine ow1 (op1_gs rfl rfl rfl ?_)
      refine ow1 (op1_gs rfl rfl rfl ?_)
      refine ow1 (op1_gs rfl rfl rfl ?_)
      refine ow1 (op1_l rfl (lo_pick_f (v := .bool _) rfl rfl rfl) ?_)
      refine ow1 (op1_l rfl (lo_move (v := .bool _) rfl) ?_)
      refine ow1 (op1_gs rfl rfl rfl ?_)
      refine ow1 (op1_gs rfl rfl rfl ?_)
      refine ow1 (op1_gs rfl rfl rfl ?_)
      refine ow1 (op1_gs rfl rfl rfl ?_)
      refine ow1 (op1_gs rfl rfl rfl ?_)
      refine ow1 (op1_l rfl (lo_pick_f (v := .bool _) rfl rfl rfl) ?_)
      refine ow1 (op1_l rfl (lo_move (v := .bool _) rfl) ?_)
      refine ow1 (op1_gs rfl rfl rfl ?_)
      refine ow1 (op1_gs rfl rfl rfl ?_)
      refine ow1 (op1_gs rfl rfl rfl ?_)
      refine ow1 (op1_gs rfl rfl rfl ?_)
      refine ow1 (op1_gs rfl rfl rfl ?_)
      refine ow1 (op1_l rfl (lo_pick_f (v := .bool _) rfl rfl rfl) ?_)
      refine ow1 (op1_l rfl (lo_move (v := .bool _) rfl) ?_)
      refine ow1 (op1_gs rfl rfl rfl ?_)
      refine ow1 (op1_gs rfl rfl rfl ?_)
      refine ow1 (op1_gs rfl rfl rfl ?_)
      refine ow1 (op1_gs rfl rfl rfl ?_)
      refine ow1 (op1_gs rfl rfl rfl ?_)
      refine ow1 (op1_l rfl (lo_pick_f (v := .bool _) rfl rfl rfl) ?_)
      refine ow1 (op1_l rfl (lo_assign (v := .bool _) rfl) ?_)
      refine ow_nil ?_
      refine seqK_n ?_
      refine cw_ret ?_
      refine fnK_r (res1 rfl (rv_t (v := .bool _) rfl)) (.refl _) ?_
      first | (simp [Reply.eq_iff, *]; done)
  · have p20 := df h3
    refine ow1 (op1_gs rfl h3 rfl ?_)
    refine ow1 (op1_gs rfl h3 rfl ?_)
    refine ow1 (op1_gs rfl h3 rfl ?_)
    refine ow1 (op1_gs rfl h3 rfl ?_)
    refine ow1 (op1_gs rfl h3 rfl ?_)
    refine ow1 (op1_l rfl (lo_pick_f (v := .bool _) rfl h3 rfl) ?_)
    refine ow1 (op1_l rfl (lo_move (v := .bool _) rfl) ?_)
    refine ow1 (op1_gs rfl rfl rfl ?_)
    refine ow1 (op1_gs rfl rfl rfl ?_)
    refine ow1 (op1_gs rfl rfl rfl ?_)
    refine ow1 (op1_gs rfl rfl rfl ?_)
    refine ow1 (op1_gs rfl rfl rfl ?_)
    refine ow1 (op1_l rfl (lo_pick_f (v := .bool _) rfl rfl rfl) ?_)
    refine ow1 (op1_l rfl (lo_move (v := .bool _) rfl) ?_)
    refine ow1 (op1_gs rfl rfl rfl ?_)
    refine ow1 (op1_gs rfl rfl rfl ?_)
    refine ow1 (op1_gs rfl rfl rfl ?_)
    refine ow1 (op1_gs rfl rfl rfl ?_)
    refine ow1 (op1_gs rfl rfl rfl ?_)
    refine ow1 (op1_l rfl (lo_pick_f (v := .bool _) rfl rfl rfl) ?_)
    refine ow1 (op1_l rfl (lo_move (v := .bool _) rfl) ?_)
    refine ow1 (op1_gs rfl rfl rfl ?_)
    refine ow1 (op1_gs rfl rfl rfl ?_)
    refine ow1 (op1_gs rfl rfl rfl ?_)
    refine ow1 (op1_gs rfl rfl rfl ?_)
    refine ow1 (op1_gs rfl rfl rfl ?_)
    refine ow1 (op1_l rfl (lo_pick_f (v := .bool _) rfl rfl rfl) ?_)
    refine ow1 (op1_l rfl (lo_move (v := .bool _) rfl) ?_)
    refine ow1 (op1_gs rfl rfl rfl ?_)
    refine ow1 (op1_gs rfl rfl rfl ?_)
    refine ow1 (op1_gs rfl rfl rfl ?_)
    refine ow1 (op1_gs rfl rfl rfl ?_)
    refine ow1 (op1_gs rfl rfl rfl ?_)
    refine ow1 (op1_l rfl (lo_pick_f (v := .bool _) rfl rfl rfl) ?_)
    refine ow1 (op1_l rfl (lo_move (v := .bool _) rfl) ?_)
    refine ow1 (op1_gs rfl rfl rfl ?_)
    refine ow1 (op1_gs rfl rfl rfl ?_)
    refine ow1 (op1_gs rfl rfl rfl ?_)
    refine ow1 (op1_gs rfl rfl rfl ?_)
    refine ow1 (op1_gs rfl rfl rfl ?_)
    refine ow1 (op1_l rfl (lo_pick_f (v := .bool _) rfl rfl rfl) ?_)
    refine ow1 (op1_l rfl (lo_assign (v := .bool _) rfl) ?_)
    refine ow_nil ?_
    refine seqK_n ?_
    refine cw_ret ?_
    refine fnK_r (res1 rfl (rv_t (v := .bool _) rfl)) (.refl _) ?_
    first | (simp [Reply.eq_iff, *]; done)

theorem l09_Light (H : Hp) (h_a : Option Addr) (h_l h_c : Nat) (h : List Pair) (h_h : SlH pairE 4 H (.slice h_a h_l h_c) h) : Pr Tryd.prog 32 #[.slice h_a h_l h_c] H (.bool (lightH h)) := by
  refine pr_cw Tryd.func32 rfl Tryd.ntmps32 rfl (fun N => ?_)
  refine cw_seq ?_
  refine cw_region ?_
  refine ow1 (op1_l rfl (lo_assign (v := .bool _) rfl) ?_)
  refine ow_nil ?_
  refine seqK_n ?_
  refine cw_seq ?_
  refine cw_seq ?_
  refine cw_region ?_
  refine ow1 (op1_l rfl (lo_move (v := .slice _ _ _) rfl) ?_)
  refine ow1 (op1_l rfl (lo_len_slh rfl h_h Tryd.underlying23) ?_)
  refine ow1 (op1_l rfl (lo_gtr rfl rfl) ?_)
  refine ow_nil ?_
  refine seqK_n ?_
  refine cw_cond rfl (fun h1 => ?_) (fun h1 => ?_)
  · have p2 := dt h1
    refine cw_seq ?_
    refine cw_region ?_
    refine ow1 (op1_l rfl (lo_assign (v := .bool _) rfl) ?_)
    refine ow_nil ?_
    refine seqK_n ?_
    refine cw_ret ?_
    refine seqK_r ?_
    refine fnK_r (res1 rfl (rv_t (v := .bool _) rfl)) (.refl _) ?_
    exact congrArg Value.bool (by simp [lightH]; omega)
  · have p3 := df h1
    refine cw_skip ?_
    refine seqK_n ?_
    refine cw_seq ?_
    refine cw_seq ?_
    refine cw_region ?_
    refine ow1 (op1_l rfl (lo_move (v := .slice _ _ _) rfl) ?_)
    refine ow1 (op1_l rfl (lo_len_slh rfl h_h Tryd.underlying23) ?_)
    refine ow1 (op1_l rfl (lo_move (v := .int _ _) rfl) ?_)
    refine ow_nil ?_
    refine seqK_n ?_
    refine cw_block ?_
    refine cw_loop1 [2, 4, 10, 11, 12, 13, 14, 15, 16, 17, 18, 19, 20, 21, 22, 23, 24] [0] (fun (k : Nat) G => upd (G) 10 (.int .i64 (k : Int))) (fun (k : Nat) G => G) (fun (k : Nat) H' => k ≤ h.length ∧ h.all lightP = (h.drop k).all lightP) (fun (k : Nat) => h.length - k) 0 (upd_intro (mask_intro (by first | exact off_refl | (repeat (first | exact off_mask | refine off_upd rfl ?_ | refine off_mask2 rfl ?_)))) rfl) (lmask_intro offl_refl) ?_ ?_
    · exact ⟨Nat.zero_le _, rfl⟩
    · intro k J5 JL5 H5 hp4 hl5
      obtain ⟨hk1, hk2⟩ := hp4
      refine cw_seq ?_
      refine cw_region ?_
      refine ow1 (op1_l rfl (lo_lss rfl rfl) ?_)
      refine ow_nil ?_
      refine seqK_n ?_
      refine cw_seq ?_
      refine cw_cond rfl (fun h6 => ?_) (fun h6 => ?_)
      · have p7 := dt h6
        refine cw_skip ?_
        refine seqK_n ?_
        refine cw_seq ?_
        refine cw_block ?_
        refine cw_seq ?_
        refine cw_region ?_
        obtain ⟨c8, hc9⟩ := getE (xs := h) (m := k) (by omega)
        obtain ⟨cs10, hE11, at12⟩ := (h_h.mono ((HLe.refl _).trans hl5) (fun _ _ h => h)).get hc9
        obtain ⟨rfl, c8_w⟩ := hE11
        have c8_w' := c8_w
        simp only [Pair.wf] at c8_w'
        refine ow1 (op1_l rfl (lo_indexAddr rfl rfl (h_h.mono ((HLe.refl _).trans hl5) (fun _ _ h => h)).1 at12 Tryd.underlying23 sz94 (by omega) (by omega)) ?_)
        refine ow1 (op1_l rfl (lo_loadEA rfl ag94 sz94 at12) ?_)
        refine ow1 (op1_alloc 0 rfl zr94 (fun b13 => ?_))
        refine ow1 (op1_storeA (i := 0) (vs := [_, _, _, _]) rfl rfl rfl sz94 rfl rfl rfl ?_)
        refine ow_nil ?_
        refine seqK_n ?_
        refine cw_seq ?_
        refine cw_region ?_
        refine ow1 (op1_l rfl (lo_fieldAddr rfl fl94_0) ?_)
        refine ow1 (op1_l rfl (lo_load1 (i := 0) (v := str _) rfl ag9 rfl rfl) ?_)
        refine ow1 (op1_l rfl (lo_len_str rfl Tryd.underlying9) ?_)
        refine ow1 (op1_l rfl (lo_gtr rfl rfl) ?_)
        refine ow1 (op1_l rfl (lo_move (v := .bool _) rfl) ?_)
        refine ow_sp (j := 4) rfl (fun h14 => ?_) (fun h14 => ?_)
        · have p15 := dt h14
          refine ow1 (op1_gs rfl h14 rfl ?_)
          refine ow1 (op1_gs rfl h14 rfl ?_)
          refine ow1 (op1_gs rfl h14 rfl ?_)
          refine ow1 (op1_gs rfl h14 rfl ?_)
          refine ow1 (op1_l rfl (lo_pick_t (v := .bool _) rfl h14 rfl) ?_)
          refine ow_nil ?_
          refine seqK_n ?_
          refine cw_cond_t rfl rfl ?_
          refine cw_seq ?_
          refine cw_region ?_
          refine ow1 (op1_l rfl (lo_assign (v := .bool _) rfl) ?_)
          refine ow_nil ?_
          refine seqK_n ?_
          refine cw_ret ?_
          refine blkK_r ?_
          refine seqK_r ?_
          refine loopK_r ?_
          refine blkK_r ?_
          refine seqK_r ?_
          refine fnK_r (res1 rfl (rv_t (v := .bool _) rfl)) ((HLe.refl _).trans hl5) ?_
          exact congrArg Value.bool (by unfold lightH; rw [all_miss hk2 (dropE hc9) (by simp [lightP]; omega)]; simp)
        · have p16 := df h14
          refine ow1 (op1_g rfl h14 rfl (lo_fieldAddr rfl fl94_3) ?_)
          refine ow1 (op1_g rfl h14 rfl (lo_load1 (i := 0) (v := str _) rfl ag9 rfl rfl) ?_)
          refine ow1 (op1_g rfl h14 rfl (lo_len_str rfl Tryd.underlying9) ?_)
          refine ow1 (op1_g rfl h14 rfl (lo_gtr rfl rfl) ?_)
          refine ow1 (op1_l rfl (lo_pick_f (v := .bool _) rfl h14 rfl) ?_)
          refine ow_nil ?_
          refine seqK_n ?_
          refine cw_cond rfl (fun h17 => ?_) (fun h17 => ?_)
          · have p18 := dt h17
            refine cw_seq ?_
            refine cw_region ?_
            refine ow1 (op1_l rfl (lo_assign (v := .bool _) rfl) ?_)
            refine ow_nil ?_
            refine seqK_n ?_
            refine cw_ret ?_
            refine blkK_r ?_
            refine seqK_r ?_
            refine loopK_r ?_
            refine blkK_r ?_
            refine seqK_r ?_
            refine fnK_r (res1 rfl (rv_t (v := .bool _) rfl)) ((HLe.refl _).trans hl5) ?_
            exact congrArg Value.bool (by unfold lightH; rw [all_miss hk2 (dropE hc9) (by simp [lightP]; omega)]; simp)
          · have p19 := df h17
            refine cw_skip ?_
            refine blkK_n ?_
            refine seqK_n ?_
            refine cw_region ?_
            refine ow1 (op1_l rfl (lo_add rfl rfl (rg_i64 (by omega))) ?_)
            refine ow1 (op1_l rfl (lo_move (v := .int _ _) rfl) ?_)
            refine ow_nil ?_
            refine next1 (k + 1) (upd_intro (mask_intro (by first | exact off_refl | (repeat (first | exact off_mask | refine off_upd rfl ?_ | refine off_mask2 rfl ?_)))) rfl) (lmask_intro (by first | exact offl_refl | (repeat (first | exact offl_mask | refine offl_upd rfl ?_ | refine offl_mask2 rfl ?_)))) hl5 ?_ ?_
            · exact ⟨by omega, all_step hk2 (dropE hc9) (by simp [lightP]; omega)⟩
            · omega
      · have p20 := df h6
        refine cw_exit ?_
        refine seqK_e ?_
        refine loopK_e ?_
        refine blkK_hit ?_
        refine seqK_n ?_
        refine cw_seq ?_
        refine cw_region ?_
        refine ow1 (op1_l rfl (lo_assign (v := .bool _) rfl) ?_)
        refine ow_nil ?_
        refine seqK_n ?_
        refine cw_ret ?_
        refine fnK_r (res1 rfl (rv_t (v := .bool _) rfl)) ((HLe.refl _).trans hl5) ?_
        exact congrArg Value.bool (by unfold lightH; rw [all_end hk2 (by omega)]; simp; omega)

theorem l12_Light (H : Hp) (r : Reply) (r_mail_head_a : Option Addr) (r_mail_head_c : Nat) (r_mail_head_h : SlH pairE 4 H (.slice r_mail_head_a r.mail.head.length r_mail_head_c) r.mail.head) (r_w : Reply.wf r) : Pr Tryd.prog 9 #[.agg (Reply.cells r r_mail_head_a r_mail_head_c).toArray] H (.bool (lightR r)) := by
  refine pr_cw Tryd.func9 rfl Tryd.ntmps9 rfl (fun N => ?_)
  have r_w' := r_w
  simp only [Reply.wf, Mail.wf] at r_w'
  refine cw_seq ?_
  refine cw_region ?_
  refine ow1 (op1_box (cs := [_, _, _, _, _, _, _, _, _, _, _, _, _]) 0 rfl rfl (fun b1 => ?_))
  refine ow1 (op1_l rfl (lo_assign (v := .bool _) rfl) ?_)
  refine ow_nil ?_
  refine seqK_n ?_
  refine cw_seq ?_
  refine cw_region ?_
  refine ow1 (op1_l rfl (lo_fieldAddr rfl fl27_5) ?_)
  refine ow1 (op1_l rfl (lo_load1 (i := 0) (v := str _) rfl ag9 rfl rfl) ?_)
  refine ow1 (op1_l rfl (lo_len_str rfl Tryd.underlying9) ?_)
  refine ow1 (op1_l rfl (lo_fieldAddr rfl fl27_6) ?_)
  refine ow1 (op1_l rfl (lo_fieldAddr rfl fl25_1) ?_)
  refine ow1 (op1_l rfl (lo_load1 (i := 0) (v := str _) rfl ag9 rfl rfl) ?_)
  refine ow1 (op1_l rfl (lo_len_str rfl Tryd.underlying9) ?_)
  refine ow1 (op1_l rfl (lo_max rfl rfl) ?_)
  refine ow1 (op1_l rfl (lo_leq rfl rfl) ?_)
  refine ow1 (op1_l rfl (lo_move (v := .bool _) rfl) ?_)
  refine ow_sp (j := 9) rfl (fun h2 => ?_) (fun h2 => ?_)
  · have p3 := dt h2
    refine ow1 (op1_g rfl h2 rfl (lo_fieldAddr rfl fl27_6) ?_)
    refine ow1 (op1_g rfl h2 rfl (lo_fieldAddr rfl fl25_2) ?_)
    refine ow1 (op1_g rfl h2 rfl (lo_load1 (i := 0) (v := str _) rfl ag9 rfl rfl) ?_)
    refine ow1 (op1_g rfl h2 rfl (lo_len_str rfl Tryd.underlying9) ?_)
    refine ow1 (op1_g rfl h2 rfl (lo_leq rfl rfl) ?_)
    refine ow1 (op1_l rfl (lo_pick_t (v := .bool _) rfl h2 rfl) ?_)
    refine ow1 (op1_l rfl (lo_move (v := .bool _) rfl) ?_)
    refine ow_sp (j := 16) rfl (fun h4 => ?_) (fun h4 => ?_)
    · have p5 := dt h4
      refine ow1 (op1_g rfl h4 rfl (lo_fieldAddr rfl fl27_6) ?_)
      refine ow1 (op1_g rfl h4 rfl (lo_fieldAddr rfl fl25_3) ?_)
      refine ow1 (op1_g rfl h4 rfl (lo_load1 (i := 0) (v := .slice _ _ _) rfl ag23 rfl rfl) ?_)
      refine ow1 (op1_prg rfl h4 (l09_Light _ r_mail_head_a r.mail.head.length r_mail_head_c r.mail.head r_mail_head_h) (en_f cb32 rfl) rfl ?_)
      refine ow1 (op1_l rfl (lo_pick_t (v := .bool _) rfl h4 rfl) ?_)
      refine ow1 (op1_l rfl (lo_move (v := .bool _) rfl) ?_)
      refine ow_sp (j := 22) rfl (fun h6 => ?_) (fun h6 => ?_)
      · refine ow1 (op1_g rfl h6 rfl (lo_fieldAddr rfl fl27_6) ?_)
        refine ow1 (op1_g rfl h6 rfl (lo_fieldAddr rfl fl25_4) ?_)
        refine ow1 (op1_g rfl h6 rfl (lo_load1 (i := 0) (v := str _) rfl ag9 rfl rfl) ?_)
        refine ow1 (op1_g rfl h6 rfl (lo_len_str rfl Tryd.underlying9) ?_)
        refine ow1 (op1_g rfl h6 rfl (lo_leq rfl rfl) ?_)
        refine ow1 (op1_l rfl (lo_pick_t (v := .bool _) rfl h6 rfl) ?_)
        refine ow1 (op1_l rfl (lo_assign (v := .bool _) rfl) ?_)
        refine ow_nil ?_
        refine seqK_n ?_
        refine cw_ret ?_
        refine fnK_r (res1 rfl (rv_t (v := .bool _) rfl)) (.refl _) ?_
        refine congrArg Value.bool ?_; unfold lightR; simp only [*, Bool.and_true, Bool.true_and, Bool.false_and, Bool.and_false, decide_true, decide_false]
      · refine ow1 (op1_gs rfl h6 rfl ?_)
        refine ow1 (op1_gs rfl h6 rfl ?_)
        refine ow1 (op1_gs rfl h6 rfl ?_)
        refine ow1 (op1_gs rfl h6 rfl ?_)
        refine ow1 (op1_gs rfl h6 rfl ?_)
        refine ow1 (op1_l rfl (lo_pick_f (v := .bool _) rfl h6 rfl) ?_)
        refine ow1 (op1_l rfl (lo_assign (v := .bool _) rfl) ?_)
        refine ow_nil ?_
        refine seqK_n ?_
        refine cw_ret ?_
        refine fnK_r (res1 rfl (rv_t (v := .bool _) rfl)) (.refl _) ?_
        refine congrArg Value.bool ?_; unfold lightR; simp only [*, Bool.and_true, Bool.true_and, Bool.false_and, Bool.and_false, decide_true, decide_false]
    · have p7 := df h4
      refine ow1 (op1_gs rfl h4 rfl ?_)
      refine ow1 (op1_gs rfl h4 rfl ?_)
      refine ow1 (op1_gs rfl h4 rfl ?_)
      refine ow1 (op1_gs rfl h4 rfl ?_)
      refine ow1 (op1_l rfl (lo_pick_f (v := .bool _) rfl h4 rfl) ?_)
      refine ow1 (op1_l rfl (lo_move (v := .bool _) rfl) ?_)
      refine ow1 (op1_gs rfl rfl rfl ?_)
      refine ow1 (op1_gs rfl rfl rfl ?_)
      refine ow1 (op1_gs rfl rfl rfl ?_)
      refine ow1 (op1_gs rfl rfl rfl ?_)
      refine ow1 (op1_gs rfl rfl rfl ?_)
      refine ow1 (op1_l rfl (lo_pick_f (v := .bool _) rfl rfl rfl) ?_)
      refine ow1 (op1_l rfl (lo_assign (v := .bool _) rfl) ?_)
      refine ow_nil ?_
      refine seqK_n ?_
      refine cw_ret ?_
      refine fnK_r (res1 rfl (rv_t (v := .bool _) rfl)) (.refl _) ?_
      refine congrArg Value.bool ?_; unfold lightR; simp only [*, Bool.and_true, Bool.true_and, Bool.false_and, Bool.and_false, decide_true, decide_false]
  · have p8 := df h2
    refine ow1 (op1_gs rfl h2 rfl ?_)
    refine ow1 (op1_gs rfl h2 rfl ?_)
    refine ow1 (op1_gs rfl h2 rfl ?_)
    refine ow1 (op1_gs rfl h2 rfl ?_)
    refine ow1 (op1_gs rfl h2 rfl ?_)
    refine ow1 (op1_l rfl (lo_pick_f (v := .bool _) rfl h2 rfl) ?_)
    refine ow1 (op1_l rfl (lo_move (v := .bool _) rfl) ?_)
    refine ow1 (op1_gs rfl rfl rfl ?_)
    refine ow1 (op1_gs rfl rfl rfl ?_)
    refine ow1 (op1_gs rfl rfl rfl ?_)
    refine ow1 (op1_gs rfl rfl rfl ?_)
    refine ow1 (op1_l rfl (lo_pick_f (v := .bool _) rfl rfl rfl) ?_)
    refine ow1 (op1_l rfl (lo_move (v := .bool _) rfl) ?_)
    refine ow1 (op1_gs rfl rfl rfl ?_)
    refine ow1 (op1_gs rfl rfl rfl ?_)
    refine ow1 (op1_gs rfl rfl rfl ?_)
    refine ow1 (op1_gs rfl rfl rfl ?_)
    refine ow1 (op1_gs rfl rfl rfl ?_)
    refine ow1 (op1_l rfl (lo_pick_f (v := .bool _) rfl rfl rfl) ?_)
    refine ow1 (op1_l rfl (lo_assign (v := .bool _) rfl) ?_)
    refine ow_nil ?_
    refine seqK_n ?_
    refine cw_ret ?_
    refine fnK_r (res1 rfl (rv_t (v := .bool _) rfl)) (.refl _) ?_
    refine congrArg Value.bool ?_; unfold lightR; simp only [*, Bool.and_true, Bool.true_and, Bool.false_and, Bool.and_false, decide_true, decide_false]

theorem l12_To (H : Hp) (r : Reply) (r_mail_head_a : Option Addr) (r_mail_head_c : Nat) (r_mail_head_h : SlH pairE 4 H (.slice r_mail_head_a r.mail.head.length r_mail_head_c) r.mail.head) (r_w : Reply.wf r) (hl : r.mail.head.length ≤ 1000000) : Ph Tryd.prog 12 #[.agg (Reply.cells r r_mail_head_a r_mail_head_c).toArray] H (fun v H' => ∃ (a1 : Option Addr) (c1 : Nat), v = .agg (Reply.cells r a1 c1).toArray ∧ SlH pairE 4 H' (.slice a1 r.mail.head.length c1) r.mail.head) := by
  refine ph_cw Tryd.func12 rfl Tryd.ntmps12 rfl (fun N => ?_)
  have r_w' := r_w
  simp only [Reply.wf, Mail.wf] at r_w'
  refine cw_seq ?_
  refine cw_region ?_
  refine ow1 (op1_box (cs := [_, _, _, _, _, _, _, _, _, _, _, _, _]) 0 rfl rfl (fun b1 => ?_))
  refine ow1 (op1_alloc 1 rfl zr32 (fun b2 => ?_))
  refine ow_nil ?_
  refine seqK_n ?_
  refine cw_seq ?_
  refine cw_region ?_
  refine ow1 (op1_l rfl (lo_loadA (i := 0) (vs := [_, _, _, _, _, _, _, _, _, _, _, _, _]) rfl ag27 sz27 rfl rfl rfl) ?_)
  refine ow1 (op1_alloc 2 rfl zr32 (fun b3 => ?_))
  refine ow1 (op1_storeA (i := 2) (vs := [_, _, _, _, _, _, _, _, _, _, _, _, _]) rfl rfl rfl sz32 rfl rfl rfl ?_)
  refine ow_nil ?_
  refine seqK_n ?_
  refine cw_seq ?_
  refine cw_region ?_
  refine ow1 (op1_bslice (cs := []) 3 rfl Tryd.underlying23 sz94 zx94 rfl trivial rfl rfl (by decide) (fun b4 => ?_))
  refine ow1 (op1_l rfl (lo_fieldAddr rfl fl27_6) ?_)
  refine ow1 (op1_l rfl (lo_fieldAddr rfl fl25_3) ?_)
  refine ow1 (op1_l rfl (lo_load1 (i := 0) (v := .slice _ _ _) rfl ag23 rfl rfl) ?_)
  refine ow1 (op1_app 3 rfl rfl Tryd.underlying23 Tryd.underlying23 rfl sz94 by94 (by decide) zr94 (ownV_bx rfl) (src_slh (enc := Pair.cells) (wf := Pair.wf) (fun _ => rfl) r_mail_head_h) (one_flat (fun _ => rfl) _) rfl (by omega) rfl (fun v5 en6 ho7 => ?_))
  have ho8 := own_cat0 (enc := Pair.cells) r.mail.head ho7
  refine ow1 (op1_l rfl (lo_fieldAddr rfl fl32_6) ?_)
  refine ow1 (op1_l rfl (lo_fieldAddr rfl fl25_3) ?_)
  refine ow1 (op1_store1 (i := 2) rfl rfl (ownV_one ho8) sz23 rfl rfl ?_)
  refine ow_nil ?_
  refine seqK_n ?_
  refine cw_seq ?_
  refine cw_region ?_
  refine ow_giveO 3 rfl (fun _ hl9 hg10 => ?_)
  have hs11 := slh_own (enc := Pair.cells) (wf := Pair.wf) (fun _ => rfl) ho8 (slh_wf r_mail_head_h) hg10
  obtain ⟨⟨a12, c13, rfl, -⟩, -⟩ := id hs11
  refine ow1 (op1_l rfl (lo_loadA (i := 2) (vs := [_, _, _, _, _, _, _, _, _, _, _, _, _]) rfl ag32 sz32 rfl rfl rfl) ?_)
  refine ow1 (op1_storeA (i := 1) (vs := [_, _, _, _, _, _, _, _, _, _, _, _, _]) rfl rfl rfl sz32 rfl rfl rfl ?_)
  refine ow_nil ?_
  refine seqK_n ?_
  refine cw_ret ?_
  refine fnK_r (res1 rfl (rv_c (i := 1) (vs := [_, _, _, _, _, _, _, _, _, _, _, _, _]) rfl ag32 sz32 rfl rfl rfl)) ((HLe.refl _).trans hl9) ?_
  exact ⟨_, _, rfl, hs11⟩

theorem reply_law_Same (H : Hp) (a : Reply) (a_mail_head_a : Option Addr) (a_mail_head_c : Nat) (a_mail_head_h : SlH pairE 4 H (.slice a_mail_head_a a.mail.head.length a_mail_head_c) a.mail.head) (a_w : Reply.wf a) (b : Reply) (b_mail_head_a : Option Addr) (b_mail_head_c : Nat) (b_mail_head_h : SlH pairE 4 H (.slice b_mail_head_a b.mail.head.length b_mail_head_c) b.mail.head) (b_w : Reply.wf b) (hML : GInt H 2) (hCrc : GTab H 1 laidT) : Pr Tryd.prog 3 #[.agg (Reply.cells a a_mail_head_a a_mail_head_c).toArray, .agg (Reply.cells b b_mail_head_a b_mail_head_c).toArray] H (.bool true) := by
  refine pr_cw Tryd.func3 rfl Tryd.ntmps3 rfl (fun N => ?_)
  have a_w' := a_w
  simp only [Reply.wf, Mail.wf] at a_w'
  have b_w' := b_w
  simp only [Reply.wf, Mail.wf] at b_w'
  refine cw_seq ?_
  refine cw_region ?_
  refine ow1 (op1_box (cs := [_, _, _, _, _, _, _, _, _, _, _, _, _]) 0 rfl rfl (fun b1 => ?_))
  refine ow1 (op1_box (cs := [_, _, _, _, _, _, _, _, _, _, _, _, _]) 1 rfl rfl (fun b2 => ?_))
  refine ow1 (op1_l rfl (lo_assign (v := .bool _) rfl) ?_)
  refine ow_nil ?_
  refine seqK_n ?_
  refine cw_seq ?_
  refine cw_seq ?_
  refine cw_region ?_
  refine ow1 (op1_pr (l12_awake _ hML hCrc) (en_f cb8 rfl) rfl ?_)
  refine ow1 (op1_l rfl (lo_not rfl) ?_)
  refine ow_nil ?_
  refine seqK_n ?_
  refine cw_cond_f rfl rfl ?_
  refine cw_skip ?_
  refine seqK_n ?_
  refine cw_seq ?_
  refine cw_seq ?_
  refine cw_region ?_
  refine ow1 (op1_l rfl (lo_loadA (i := 0) (vs := [_, _, _, _, _, _, _, _, _, _, _, _, _]) rfl ag27 sz27 rfl rfl rfl) ?_)
  refine ow1 (op1_pr (l12_Light _ a a_mail_head_a a_mail_head_c a_mail_head_h a_w) (en_f cb9 rfl) rfl ?_)
  have hlr2 := lightR_len a
  refine ow1 (op1_l rfl (lo_not rfl) ?_)
  refine ow1 (op1_l rfl (lo_move (v := .bool _) rfl) ?_)
  refine ow_sp (j := 3) rfl (fun h3 => ?_) (fun h3 => ?_)
  · have h4 := not_t h3
    refine ow1 (op1_gs rfl h3 rfl ?_)
    refine ow1 (op1_gs rfl h3 rfl ?_)
    refine ow1 (op1_gs rfl h3 rfl ?_)
    refine ow1 (op1_l rfl (lo_pick_t (v := .bool _) rfl h3 rfl) ?_)
    refine ow_nil ?_
    refine seqK_n ?_
    refine cw_cond_t rfl rfl ?_
    refine cw_seq ?_
    refine cw_region ?_
    refine ow1 (op1_l rfl (lo_assign (v := .bool _) rfl) ?_)
    refine ow_nil ?_
    refine seqK_n ?_
    refine cw_ret ?_
    refine seqK_r ?_
    refine fnK_r (res1 rfl (rv_t (v := .bool _) rfl)) (.refl _) ?_
    first | rfl | (exfalso; simp at *; done) | (refine congrArg Value.bool ?_; simp; done)
  · have h5 := not_f h3
    refine ow1 (op1_g rfl h3 rfl (lo_loadA (i := 1) (vs := [_, _, _, _, _, _, _, _, _, _, _, _, _]) rfl ag27 sz27 rfl rfl rfl) ?_)
    refine ow1 (op1_prg rfl h3 (l12_Light _ b b_mail_head_a b_mail_head_c b_mail_head_h b_w) (en_f cb9 rfl) rfl ?_)
    have hlr5 := lightR_len b
    refine ow1 (op1_g rfl h3 rfl (lo_not rfl) ?_)
    refine ow1 (op1_l rfl (lo_pick_f (v := .bool _) rfl h3 rfl) ?_)
    refine ow_nil ?_
    refine seqK_n ?_
    refine cw_cond rfl (fun h6 => ?_) (fun h6 => ?_)
    · have h7 := not_t h6
      refine cw_seq ?_
      refine cw_region ?_
      refine ow1 (op1_l rfl (lo_assign (v := .bool _) rfl) ?_)
      refine ow_nil ?_
      refine seqK_n ?_
      refine cw_ret ?_
      refine seqK_r ?_
      refine fnK_r (res1 rfl (rv_t (v := .bool _) rfl)) (.refl _) ?_
      first | rfl | (exfalso; simp at *; done) | (refine congrArg Value.bool ?_; simp; done)
    · have h8 := not_f h6
      refine cw_skip ?_
      refine seqK_n ?_
      refine cw_seq ?_
      refine cw_anyL mixd ?_
      refine vw_q 0 rfl (by kernel_rfl) (by repeat (first | exact lle_l0 | exact LLe.refl _ | exact lle_none | refine lle_up ?_ rfl)) (fun _ _ hh hl => lo_loadA (i := 0) (vs := [_, _, _, _, _, _, _, _, _, _, _, _, _]) rfl ag27 sz27 (hl _ _ rfl) rfl rfl) ?_
      refine vw_q 1 rfl (by kernel_rfl) (by repeat (first | exact lle_l0 | exact LLe.refl _ | exact lle_none | refine lle_up ?_ rfl)) (fun _ _ hh hl => lo_loadA (i := 1) (vs := [_, _, _, _, _, _, _, _, _, _, _, _, _]) rfl ag27 sz27 (hl _ _ rfl) rfl rfl) ?_
      refine vw_qc 2 rfl (by kernel_rfl) (by repeat (first | exact lle_l0 | exact LLe.refl _ | exact lle_none | refine lle_up ?_ rfl)) (reply_Same _ a a_mail_head_a a_mail_head_c a_mail_head_h a_w b b_mail_head_a b_mail_head_c b_mail_head_h b_w) (en_f cb10 rfl) ?_
      refine vw_q 3 rfl (by kernel_rfl) (by repeat (first | exact lle_l0 | exact LLe.refl _ | exact lle_none | refine lle_up ?_ rfl)) (fun _ _ hh hl => lo_loadA (i := 0) (vs := [_, _, _, _, _, _, _, _, _, _, _, _, _]) rfl ag27 sz27 (hl _ _ rfl) rfl rfl) ?_
      refine vw_q 5 rfl (by kernel_rfl) (by repeat (first | exact lle_l0 | exact LLe.refl _ | exact lle_none | refine lle_up ?_ rfl)) (fun _ _ hh hl => lo_loadA (i := 1) (vs := [_, _, _, _, _, _, _, _, _, _, _, _, _]) rfl ag27 sz27 (hl _ _ rfl) rfl rfl) ?_
      refine vw_e 4 rfl (by kernel_rfl) (op1_ph (l12_To _ a a_mail_head_a a_mail_head_c a_mail_head_h a_w (by first | omega | (have := lightR_len a (by assumption); omega))) (en_f cb12 rfl) rfl ?_)
      rintro _ H13 ⟨a9, c10, rfl, hs11⟩ hl12
      refine ⟨⟨((HLe.refl _).trans hl12), (by repeat (first | exact lle_l0 | exact LLe.refl _ | exact lle_none | refine lle_up ?_ rfl))⟩, ?_⟩
      refine vw_e 6 rfl (by kernel_rfl) (op1_ph (l12_To _ b b_mail_head_a b_mail_head_c (b_mail_head_h.mono ((HLe.refl _).trans hl12) (fun _ _ h => h)) b_w (by first | omega | (have := lightR_len b (by assumption); omega))) (en_f cb12 rfl) rfl ?_)
      rintro _ H18 ⟨a14, c15, rfl, hs16⟩ hl17
      refine ⟨⟨((HLe.refl _).trans hl17), (by repeat (first | exact lle_l0 | exact LLe.refl _ | exact lle_none | refine lle_up ?_ rfl))⟩, ?_⟩
      refine vw_qc 7 rfl (by kernel_rfl) (by repeat (first | exact lle_l0 | exact LLe.refl _ | exact lle_none | refine lle_up ?_ rfl)) (r12_Same _ a a9 c10 (hs11.mono ((HLe.refl _).trans hl17) (fun _ _ h => h)) a_w b a14 c15 hs16 b_w) (en_f cb11 rfl) ?_
      refine vw_q 8 rfl (by kernel_rfl) (by repeat (first | exact lle_l0 | exact LLe.refl _ | exact lle_none | refine lle_up ?_ rfl)) (fun _ _ hh hl => lo_beql rfl rfl Tryd.underlying4) ?_
      refine vw_q 9 rfl (by kernel_rfl) (by repeat (first | exact lle_l0 | exact LLe.refl _ | exact lle_none | refine lle_up ?_ rfl)) (fun _ _ hh hl => lo_move (v := .bool _) rfl) ?_
      refine vw_sp (j := 9) rfl (fun h19 => ?_) (fun h19 => ?_)
      · have p20 := beqT h19
        refine vw_qg 10 rfl (by kernel_rfl) (by repeat (first | exact lle_l0 | exact LLe.refl _ | exact lle_none | refine lle_up ?_ rfl)) rfl h19 (fun _ _ hh hl => lo_loadA (i := 0) (vs := [_, _, _, _, _, _, _, _, _, _, _, _, _]) rfl ag27 sz27 (hl _ _ rfl) rfl rfl) ?_
        refine vw_qg 11 rfl (by kernel_rfl) (by repeat (first | exact lle_l0 | exact LLe.refl _ | exact lle_none | refine lle_up ?_ rfl)) rfl h19 (fun _ _ hh hl => lo_loadA (i := 0) (vs := [_, _, _, _, _, _, _, _, _, _, _, _, _]) rfl ag27 sz27 (hl _ _ rfl) rfl rfl) ?_
        refine vw_qgc 12 rfl (by kernel_rfl) (by repeat (first | exact lle_l0 | exact LLe.refl _ | exact lle_none | refine lle_up ?_ rfl)) rfl h19 (reply_Same _ a a_mail_head_a a_mail_head_c (a_mail_head_h.mono (((HLe.refl _).trans hl12).trans hl17) (fun _ _ h => h)) a_w a a_mail_head_a a_mail_head_c (a_mail_head_h.mono (((HLe.refl _).trans hl12).trans hl17) (fun _ _ h => h)) a_w) (en_f cb10 rfl) ?_
        refine vw_q 13 rfl (by kernel_rfl) (by repeat (first | exact lle_l0 | exact LLe.refl _ | exact lle_none | refine lle_up ?_ rfl)) (fun _ _ hh hl => lo_pick_t (v := .bool _) rfl h19 rfl) ?_
        refine vw_q 14 rfl (by kernel_rfl) (by repeat (first | exact lle_l0 | exact LLe.refl _ | exact lle_none | refine lle_up ?_ rfl)) (fun _ _ hh hl => lo_assign (v := .bool _) rfl) ?_
        refine vw_done (by kernel_rfl) ?_
        refine seqK_n ?_
        refine cw_ret ?_
        refine fnK_r (res1 rfl (rv_t (v := .bool _) rfl)) (((HLe.refl _).trans hl12).trans hl17) ?_
        first | rfl | (exfalso; simp at *; done) | (refine congrArg Value.bool ?_; simp; done)
      · have p21 := beqF h19
        refine vw_qgs 10 rfl (by kernel_rfl) (by repeat (first | exact lle_l0 | exact LLe.refl _ | exact lle_none | refine lle_up ?_ rfl)) rfl h19 ?_
        refine vw_qgs 11 rfl (by kernel_rfl) (by repeat (first | exact lle_l0 | exact LLe.refl _ | exact lle_none | refine lle_up ?_ rfl)) rfl h19 ?_
        refine vw_qgs 12 rfl (by kernel_rfl) (by repeat (first | exact lle_l0 | exact LLe.refl _ | exact lle_none | refine lle_up ?_ rfl)) rfl h19 ?_
        refine vw_q 13 rfl (by kernel_rfl) (by repeat (first | exact lle_l0 | exact LLe.refl _ | exact lle_none | refine lle_up ?_ rfl)) (fun _ _ hh hl => lo_pick_f (v := .bool _) rfl h19 rfl) ?_
        refine vw_q 14 rfl (by kernel_rfl) (by repeat (first | exact lle_l0 | exact LLe.refl _ | exact lle_none | refine lle_up ?_ rfl)) (fun _ _ hh hl => lo_assign (v := .bool _) rfl) ?_
        refine vw_done (by kernel_rfl) ?_
        refine seqK_n ?_
        refine cw_ret ?_
        refine fnK_r (res1 rfl (rv_t (v := .bool _) rfl)) (((HLe.refl _).trans hl12).trans hl17) ?_
        first | rfl | (exfalso; simp at *; done) | (refine congrArg Value.bool ?_; simp; done)

end Go.SW


set_option linter.unusedVariables false
set_option maxRecDepth 100000
set_option maxHeartbeats 4000000
namespace Go.SW
open Go.Proofs
theorem ag3 : Ag Tryd.prog 3 false := fun w => by kernel_rfl
theorem cb40 : Callable Tryd.prog 40 := callable_of Tryd.func40 (by kernel_rfl) (by kernel_rfl)
theorem cb42 : Callable Tryd.prog 42 := callable_of Tryd.func42 (by kernel_rfl) (by kernel_rfl)
theorem cb74 : Callable Tryd.prog 74 := callable_of Tryd.func74 (by kernel_rfl) (by kernel_rfl)
theorem fl70_0 : Fld Tryd.prog 70 0 0 := fun b o w => by kernel_rfl
theorem fl70_1 : Fld Tryd.prog 70 1 1 := fun b o w => by kernel_rfl
theorem fl70_2 : Fld Tryd.prog 70 2 2 := fun b o w => by kernel_rfl
theorem sz3 : Sz Tryd.prog 3 1 := fun w => by kernel_rfl

theorem rin_Fail (H : Hp) (i_b : Nat) (i_r : RIn) (i : In) (i_R : RSt i_r i) (code : Int) (code_r : -9223372036854775808 ≤ code ∧ code ≤ 9223372036854775807) : Pm Tryd.prog 42 #[.pointer (some ⟨i_b, 0, none⟩), .int .i64 code] H i_b (bx 70 (RIn.cells i_r)) (fun v H' o' => ∃ (j : RIn), v = .tuple #[] ∧ H = H' ∧ o' = bx 70 (RIn.cells j) ∧ RSt j (inFail i code)) := by
  refine pm_cw Tryd.func42 rfl Tryd.ntmps42 rfl (fun N => ?_)
  have := i_R.err
  have := i_R.lo
  have := i_R.hi
  have := i_R.len
  refine cw_seq ?_
  refine cw_region ?_
  refine ow1 (op1_l rfl (lo_move (v := .pointer (some ⟨_, _, none⟩)) rfl) ?_)
  refine ow1 (op1_l rfl (lo_nilCheck rfl) ?_)
  refine ow1 (op1_l rfl (lo_fieldAddr rfl fl70_2) ?_)
  refine ow1 (op1_l rfl (lo_load1 (i := 0) (v := .int _ _) rfl ag3 rfl rfl) ?_)
  refine ow1 (op1_l rfl (lo_eql rfl rfl) ?_)
  refine ow_nil ?_
  refine seqK_n ?_
  refine cw_cond rfl (fun h1 => ?_) (fun h1 => ?_)
  · have p2 := dt h1
    refine cw_region ?_
    refine ow1 (op1_l rfl (lo_move (v := .pointer (some ⟨_, _, none⟩)) rfl) ?_)
    refine ow1 (op1_l rfl (lo_move (v := .int _ _) rfl) ?_)
    refine ow1 (op1_l rfl (lo_nilCheck rfl) ?_)
    refine ow1 (op1_l rfl (lo_fieldAddr rfl fl70_2) ?_)
    refine ow1 (op1_store1 (i := 0) (v := .int _ _) rfl rfl rfl sz3 rfl rfl ?_)
    refine ow_nil ?_
    refine fnK_n (res0 rfl) (.refl _) ?_
    refine ⟨_, rfl, rFail i_r code, rfl, rfl, ?_, i_R.failA code⟩
    simp [rFail, RIn.cells, *]
  · have p3 := df h1
    refine cw_skip ?_
    refine fnK_n (res0 rfl) (.refl _) ?_
    refine ⟨_, rfl, rFail i_r code, rfl, rfl, ?_, i_R.failA code⟩
    simp [rFail, RIn.cells, *]

theorem rin_Raw (H : Hp) (i_b : Nat) (i_r : RIn) (i : In) (i_R : RSt i_r i) (n : Int) (n_r : -9223372036854775808 ≤ n ∧ n ≤ 9223372036854775807) : Pm Tryd.prog 74 #[.pointer (some ⟨i_b, 0, none⟩), .int .i64 n] H i_b (bx 70 (RIn.cells i_r)) (fun v H' o' => ∃ (j : RIn), v = str ((inRaw i n).1) ∧ H = H' ∧ o' = bx 70 (RIn.cells j) ∧ RSt j ((inRaw i n).2)) := by
  refine pm_cw Tryd.func74 rfl Tryd.ntmps74 rfl (fun N => ?_)
  have := i_R.err
  have := i_R.lo
  have := i_R.hi
  have := i_R.len
  refine cw_seq ?_
  refine cw_region ?_
  refine ow1 (op1_l rfl (lo_assign (v := str _) rfl) ?_)
  refine ow_nil ?_
  refine seqK_n ?_
  refine cw_seq ?_
  refine cw_seq ?_
  refine cw_region ?_
  refine ow1 (op1_l rfl (lo_move (v := .pointer (some ⟨_, _, none⟩)) rfl) ?_)
  refine ow1 (op1_l rfl (lo_nilCheck rfl) ?_)
  refine ow1 (op1_l rfl (lo_fieldAddr rfl fl70_2) ?_)
  refine ow1 (op1_l rfl (lo_load1 (i := 0) (v := .int _ _) rfl ag3 rfl rfl) ?_)
  refine ow1 (op1_l rfl (lo_neq rfl rfl) ?_)
  refine ow1 (op1_l rfl (lo_move (v := .bool _) rfl) ?_)
  refine ow_sp (j := 5) rfl (fun h1 => ?_) (fun h1 => ?_)
  · have h2 := not_t h1
    have p3 := df h2
    refine ow1 (op1_gs rfl h1 rfl ?_)
    refine ow1 (op1_gs rfl h1 rfl ?_)
    refine ow1 (op1_l rfl (lo_pick_t (v := .bool _) rfl h1 rfl) ?_)
    refine ow_nil ?_
    refine seqK_n ?_
    refine cw_cond_t rfl rfl ?_
    refine cw_seq ?_
    refine cw_region ?_
    refine ow1 (op1_l rfl (lo_assign (v := str _) rfl) ?_)
    refine ow_nil ?_
    refine seqK_n ?_
    refine cw_ret ?_
    refine seqK_r ?_
    refine fnK_r (res1 rfl (rv_t (v := str _) rfl)) (.refl _) ?_
    have e := i_R.raw0 (n := n) (by omega)
    rw [e]
    exact ⟨_, rfl, i_r, rfl, rfl, rfl, i_R⟩
  · have h4 := not_f h1
    have p5 := dt h4
    refine ow1 (op1_g rfl h1 rfl (lo_move (v := .int _ _) rfl) ?_)
    refine ow1 (op1_g rfl h1 rfl (lo_leq rfl rfl) ?_)
    refine ow1 (op1_l rfl (lo_pick_f (v := .bool _) rfl h1 rfl) ?_)
    refine ow_nil ?_
    refine seqK_n ?_
    refine cw_cond rfl (fun h6 => ?_) (fun h6 => ?_)
    · have p7 := dt h6
      refine cw_seq ?_
      refine cw_region ?_
      refine ow1 (op1_l rfl (lo_assign (v := str _) rfl) ?_)
      refine ow_nil ?_
      refine seqK_n ?_
      refine cw_ret ?_
      refine seqK_r ?_
      refine fnK_r (res1 rfl (rv_t (v := str _) rfl)) (.refl _) ?_
      have e := i_R.raw0 (n := n) (by omega)
      rw [e]
      exact ⟨_, rfl, i_r, rfl, rfl, rfl, i_R⟩
    · have p8 := df h6
      refine cw_skip ?_
      refine seqK_n ?_
      refine cw_seq ?_
      refine cw_seq ?_
      refine cw_anyL mixd ?_
      refine vw_q 0 rfl (by kernel_rfl) (by repeat (first | exact lle_l0 | exact LLe.refl _ | exact lle_none | refine lle_up ?_ rfl)) (fun _ _ hh hl => lo_move (v := .int _ _) rfl) ?_
      refine vw_q 1 rfl (by kernel_rfl) (by repeat (first | exact lle_l0 | exact LLe.refl _ | exact lle_none | refine lle_up ?_ rfl)) (fun _ _ hh hl => lo_move (v := .pointer (some ⟨_, _, none⟩)) rfl) ?_
      refine vw_q 2 rfl (by kernel_rfl) (by repeat (first | exact lle_l0 | exact LLe.refl _ | exact lle_none | refine lle_up ?_ rfl)) (fun _ _ hh hl => lo_nilCheck rfl) ?_
      refine vw_q 3 rfl (by kernel_rfl) (by repeat (first | exact lle_l0 | exact LLe.refl _ | exact lle_none | refine lle_up ?_ rfl)) (fun _ _ hh hl => lo_fieldAddr rfl fl70_0) ?_
      refine vw_q 4 rfl (by kernel_rfl) (by repeat (first | exact lle_l0 | exact LLe.refl _ | exact lle_none | refine lle_up ?_ rfl)) (fun _ _ hh hl => lo_load1 (i := 0) (v := str _) rfl ag9 (hl _ _ rfl) rfl) ?_
      refine vw_q 5 rfl (by kernel_rfl) (by repeat (first | exact lle_l0 | exact LLe.refl _ | exact lle_none | refine lle_up ?_ rfl)) (fun _ _ hh hl => lo_len_str rfl Tryd.underlying9) ?_
      refine vw_q 6 rfl (by kernel_rfl) (by repeat (first | exact lle_l0 | exact LLe.refl _ | exact lle_none | refine lle_up ?_ rfl)) (fun _ _ hh hl => lo_move (v := .pointer (some ⟨_, _, none⟩)) rfl) ?_
      refine vw_q 7 rfl (by kernel_rfl) (by repeat (first | exact lle_l0 | exact LLe.refl _ | exact lle_none | refine lle_up ?_ rfl)) (fun _ _ hh hl => lo_nilCheck rfl) ?_
      refine vw_q 8 rfl (by kernel_rfl) (by repeat (first | exact lle_l0 | exact LLe.refl _ | exact lle_none | refine lle_up ?_ rfl)) (fun _ _ hh hl => lo_fieldAddr rfl fl70_1) ?_
      refine vw_q 9 rfl (by kernel_rfl) (by repeat (first | exact lle_l0 | exact LLe.refl _ | exact lle_none | refine lle_up ?_ rfl)) (fun _ _ hh hl => lo_load1 (i := 0) (v := .int _ _) rfl ag3 (hl _ _ rfl) rfl) ?_
      refine vw_q 10 rfl (by kernel_rfl) (by repeat (first | exact lle_l0 | exact LLe.refl _ | exact lle_none | refine lle_up ?_ rfl)) (fun _ _ hh hl => lo_sub rfl rfl (rg_i64 (by omega))) ?_
      refine vw_q 11 rfl (by kernel_rfl) (by repeat (first | exact lle_l0 | exact LLe.refl _ | exact lle_none | refine lle_up ?_ rfl)) (fun _ _ hh hl => lo_gtr rfl rfl) ?_
      refine vw_done (by kernel_rfl) ?_
      refine seqK_n ?_
      refine cw_cond rfl (fun h9 => ?_) (fun h9 => ?_)
      · have p10 := dt h9
        refine cw_seq ?_
        refine cw_region ?_
        refine ow1 (op1_l rfl (lo_move (v := .pointer (some ⟨_, _, none⟩)) rfl) ?_)
        refine ow1 (op1_pm 0 rfl (rin_Fail _ i_b i_r i i_R 3 (by omega)) (en_f cb42 rfl) rfl ?_)
        rintro _ _ _ ⟨j13, rfl, rfl, rfl, hj14⟩ _
        have := hj14.err
        have := hj14.lo
        have := hj14.hi
        have := hj14.len
        refine ow_nil ?_
        refine seqK_n ?_
        refine cw_seq ?_
        refine cw_region ?_
        refine ow1 (op1_l rfl (lo_assign (v := str _) rfl) ?_)
        refine ow_nil ?_
        refine seqK_n ?_
        refine cw_ret ?_
        refine seqK_r ?_
        refine fnK_r (res1 rfl (rv_t (v := str _) rfl)) (.refl _) ?_
        have e := i_R.raw3 (n := n) (by omega) (by omega) (by omega)
        rw [e]
        refine ⟨_, rfl, j13, rfl, rfl, rfl, ?_⟩
        have hq := hj14
        have e0 : inFail i 3 = ⟨[], 3⟩ := by unfold inFail; rw [if_pos ⟨by omega, by decide⟩]
        rw [e0] at hq
        exact hq
      · have p15 := df h9
        refine cw_skip ?_
        refine seqK_n ?_
        refine cw_seq ?_
        refine cw_region ?_
        refine ow1 (op1_l rfl (lo_move (v := .pointer (some ⟨_, _, none⟩)) rfl) ?_)
        refine ow1 (op1_l rfl (lo_move (v := .pointer (some ⟨_, _, none⟩)) rfl) ?_)
        refine ow1 (op1_l rfl (lo_nilCheck rfl) ?_)
        refine ow1 (op1_l rfl (lo_fieldAddr rfl fl70_1) ?_)
        refine ow1 (op1_l rfl (lo_load1 (i := 0) (v := .int _ _) rfl ag3 rfl rfl) ?_)
        refine ow1 (op1_l rfl (lo_move (v := .int _ _) rfl) ?_)
        refine ow1 (op1_l rfl (lo_add rfl rfl (rg_i64 (by omega))) ?_)
        refine ow1 (op1_l rfl (lo_nilCheck rfl) ?_)
        refine ow1 (op1_l rfl (lo_fieldAddr rfl fl70_1) ?_)
        refine ow1 (op1_store1 (i := 0) (v := .int _ _) rfl rfl rfl sz3 rfl rfl ?_)
        refine ow_nil ?_
        refine seqK_n ?_
        refine cw_seq ?_
        refine cw_anyL mixd ?_
        refine vw_q 0 rfl (by kernel_rfl) (by repeat (first | exact lle_l0 | exact LLe.refl _ | exact lle_none | refine lle_up ?_ rfl)) (fun _ _ hh hl => lo_move (v := .pointer (some ⟨_, _, none⟩)) rfl) ?_
        refine vw_q 1 rfl (by kernel_rfl) (by repeat (first | exact lle_l0 | exact LLe.refl _ | exact lle_none | refine lle_up ?_ rfl)) (fun _ _ hh hl => lo_nilCheck rfl) ?_
        refine vw_q 2 rfl (by kernel_rfl) (by repeat (first | exact lle_l0 | exact LLe.refl _ | exact lle_none | refine lle_up ?_ rfl)) (fun _ _ hh hl => lo_fieldAddr rfl fl70_0) ?_
        refine vw_q 3 rfl (by kernel_rfl) (by repeat (first | exact lle_l0 | exact LLe.refl _ | exact lle_none | refine lle_up ?_ rfl)) (fun _ _ hh hl => lo_load1 (i := 0) (v := str _) rfl ag9 (hl _ _ rfl) rfl) ?_
        refine vw_q 4 rfl (by kernel_rfl) (by repeat (first | exact lle_l0 | exact LLe.refl _ | exact lle_none | refine lle_up ?_ rfl)) (fun _ _ hh hl => lo_move (v := .pointer (some ⟨_, _, none⟩)) rfl) ?_
        refine vw_q 5 rfl (by kernel_rfl) (by repeat (first | exact lle_l0 | exact LLe.refl _ | exact lle_none | refine lle_up ?_ rfl)) (fun _ _ hh hl => lo_nilCheck rfl) ?_
        refine vw_q 6 rfl (by kernel_rfl) (by repeat (first | exact lle_l0 | exact LLe.refl _ | exact lle_none | refine lle_up ?_ rfl)) (fun _ _ hh hl => lo_fieldAddr rfl fl70_1) ?_
        refine vw_q 7 rfl (by kernel_rfl) (by repeat (first | exact lle_l0 | exact LLe.refl _ | exact lle_none | refine lle_up ?_ rfl)) (fun _ _ hh hl => lo_load1 (i := 0) (v := .int _ _) rfl ag3 (hl _ _ rfl) rfl) ?_
        refine vw_q 8 rfl (by kernel_rfl) (by repeat (first | exact lle_l0 | exact LLe.refl _ | exact lle_none | refine lle_up ?_ rfl)) (fun _ _ hh hl => lo_move (v := .int _ _) rfl) ?_
        refine vw_q 9 rfl (by kernel_rfl) (by repeat (first | exact lle_l0 | exact LLe.refl _ | exact lle_none | refine lle_up ?_ rfl)) (fun _ _ hh hl => lo_sub rfl rfl (rg_i64 (by omega))) ?_
        refine vw_q 10 rfl (by kernel_rfl) (by repeat (first | exact lle_l0 | exact LLe.refl _ | exact lle_none | refine lle_up ?_ rfl)) (fun _ _ hh hl => lo_move (v := .pointer (some ⟨_, _, none⟩)) rfl) ?_
        refine vw_q 11 rfl (by kernel_rfl) (by repeat (first | exact lle_l0 | exact LLe.refl _ | exact lle_none | refine lle_up ?_ rfl)) (fun _ _ hh hl => lo_nilCheck rfl) ?_
        refine vw_q 12 rfl (by kernel_rfl) (by repeat (first | exact lle_l0 | exact LLe.refl _ | exact lle_none | refine lle_up ?_ rfl)) (fun _ _ hh hl => lo_fieldAddr rfl fl70_1) ?_
        refine vw_q 13 rfl (by kernel_rfl) (by repeat (first | exact lle_l0 | exact LLe.refl _ | exact lle_none | refine lle_up ?_ rfl)) (fun _ _ hh hl => lo_load1 (i := 0) (v := .int _ _) rfl ag3 (hl _ _ rfl) rfl) ?_
        refine vw_q 14 rfl (by kernel_rfl) (by repeat (first | exact lle_l0 | exact LLe.refl _ | exact lle_none | refine lle_up ?_ rfl)) (fun _ _ hh hl => lo_slice_str (((i_r.pos + n) - n)).toNat ((i_r.pos + n)).toNat rfl rfl rfl Tryd.underlying9 (by omega) (by omega) (by omega) (by omega)) ?_
        refine vw_q 15 rfl (by kernel_rfl) (by repeat (first | exact lle_l0 | exact LLe.refl _ | exact lle_none | refine lle_up ?_ rfl)) (fun _ _ hh hl => lo_assign (v := str _) rfl) ?_
        refine vw_done (by kernel_rfl) ?_
        refine seqK_n ?_
        refine cw_ret ?_
        refine fnK_r (res1 rfl (rv_t (v := str _) rfl)) (.refl _) ?_
        obtain ⟨e, hq⟩ := i_R.rawS (n := n) (by omega) (by omega) (by omega)
        rw [e]
        refine ⟨_, rfl, _, ?_, rfl, rfl, hq⟩
        rw [show i_r.pos + n - n = i_r.pos by omega, show (i_r.pos + n).toNat - i_r.pos.toNat = n.toNat by omega]

theorem rin_Num (H : Hp) (i_b : Nat) (i_r : RIn) (i : In) (i_R : RSt i_r i) (bytes : Int) (bytes_r : -9223372036854775808 ≤ bytes ∧ bytes ≤ 9223372036854775807) : Pm Tryd.prog 40 #[.pointer (some ⟨i_b, 0, none⟩), .int .i64 bytes] H i_b (bx 70 (RIn.cells i_r)) (fun v H' o' => ∃ (j : RIn), v = .int .u64 ((inNum i bytes).1) ∧ H = H' ∧ o' = bx 70 (RIn.cells j) ∧ RSt j ((inNum i bytes).2)) := by
  refine pm_cw Tryd.func40 rfl Tryd.ntmps40 rfl (fun N => ?_)
  have := i_R.err
  have := i_R.lo
  have := i_R.hi
  have := i_R.len
  refine cw_seq ?_
  refine cw_region ?_
  refine ow1 (op1_l rfl (lo_assign (v := .int _ _) rfl) ?_)
  refine ow_nil ?_
  refine seqK_n ?_
  refine cw_seq ?_
  refine cw_seq ?_
  refine cw_region ?_
  refine ow1 (op1_l rfl (lo_move (v := .int _ _) rfl) ?_)
  refine ow1 (op1_l rfl (lo_gtr rfl rfl) ?_)
  refine ow_nil ?_
  refine seqK_n ?_
  refine cw_cond rfl (fun h1 => ?_) (fun h1 => ?_)
  · have p2 := dt h1
    refine cw_region ?_
    refine ow1 (op1_l rfl (lo_assign (v := .int _ _) rfl) ?_)
    refine ow_nil ?_
    refine seqK_n ?_
    refine cw_seq ?_
    refine cw_region ?_
    refine ow1 (op1_l rfl (lo_move (v := .pointer (some ⟨_, _, none⟩)) rfl) ?_)
    refine ow1 (op1_l rfl (lo_move (v := .int _ _) rfl) ?_)
    refine ow1 (op1_pm 0 rfl (rin_Raw _ i_b i_r i i_R 8 (by omega)) (en_f cb74 rfl) rfl ?_)
    rintro _ _ _ ⟨j5, rfl, rfl, rfl, hj6⟩ _
    have := hj6.err
    have := hj6.lo
    have := hj6.hi
    have := hj6.len
    have := inRaw_len i 8
    refine ow1 (op1_l rfl (lo_assign (v := str _) rfl) ?_)
    refine ow_nil ?_
    refine seqK_n ?_
    refine cw_seq ?_
    refine cw_region ?_
    refine ow1 (op1_l rfl (lo_assign (v := .int _ _) rfl) ?_)
    refine ow_nil ?_
    refine seqK_n ?_
    refine cw_seq ?_
    refine cw_seq ?_
    refine cw_region ?_
    refine ow1 (op1_l rfl (lo_assign (v := .int _ _) rfl) ?_)
    refine ow_nil ?_
    refine seqK_n ?_
    refine cw_block ?_
    refine cw_loop1 [6, 7, 13, 14, 15, 16, 17, 18, 19, 20, 21, 22, 23, 24, 25] [] (fun (k : Nat) G => upd (upd (G) 7 (.int .i64 (k : Int))) 6 (.int .u64 (beN ((inRaw i 8).1.take k) : Int))) (fun (k : Nat) G => G) (fun (k : Nat) H' => k ≤ (inRaw i 8).1.length) (fun (k : Nat) => (inRaw i 8).1.length - k) 0 (upd_intro (upd_intro (mask_intro (by first | exact off_refl | (repeat (first | exact off_mask | refine off_upd rfl ?_ | refine off_mask2 rfl ?_)))) rfl) rfl) (lmask_intro offl_refl) ?_ ?_
    · exact Nat.zero_le _
    · intro k J8 JL8 H8 hp7 hl8
      have hb8 : min bytes 8 = 8 := by omega
      refine cw_seq ?_
      refine cw_seq ?_
      refine cw_region ?_
      refine ow1 (op1_l rfl (lo_move (v := .int _ _) rfl) ?_)
      refine ow1 (op1_l rfl (lo_move (v := str _) rfl) ?_)
      refine ow1 (op1_l rfl (lo_len_str rfl Tryd.underlying9) ?_)
      refine ow1 (op1_l rfl (lo_lss rfl rfl) ?_)
      refine ow_nil ?_
      refine seqK_n ?_
      refine cw_cond rfl (fun h9 => ?_) (fun h9 => ?_)
      · have p10 := dt h9
        refine cw_skip ?_
        refine seqK_n ?_
        refine cw_seq ?_
        refine cw_block ?_
        refine cw_region ?_
        refine ow1 (op1_l rfl (lo_move (v := .int _ _) rfl) ?_)
        have := wr_u64 ((beN ((inRaw i 8).1.take k) : Int) * 256)
        refine ow1 (op1_l rfl (lo_mul_w rfl rfl) ?_)
        refine ow1 (op1_l rfl (lo_move (v := str _) rfl) ?_)
        refine ow1 (op1_l rfl (lo_move (v := .int _ _) rfl) ?_)
        have := u8r (((inRaw i 8).1).getD k 0)
        refine ow1 (op1_l rfl (lo_index_str k rfl rfl Tryd.underlying9 (by omega) (by omega)) ?_)
        refine ow1 (op1_l rfl (lo_conv_in rfl (by rw [Tryd.underlying5]; rfl) Tryd.underlying22 (rg_u64 (by omega))) ?_)
        have := wr_u64 ((IntKind.wrap .u64 ((beN ((inRaw i 8).1.take k) : Int) * 256)) + ((((inRaw i 8).1).getD k 0).toNat : Int))
        refine ow1 (op1_l rfl (lo_add_w rfl rfl) ?_)
        refine ow1 (op1_l rfl (lo_assign (v := .int _ _) rfl) ?_)
        refine ow_nil ?_
        refine blkK_n ?_
        refine seqK_n ?_
        refine cw_region ?_
        refine ow1 (op1_l rfl (lo_move (v := .int _ _) rfl) ?_)
        refine ow1 (op1_l rfl (lo_add rfl rfl (rg_i64 (by omega))) ?_)
        refine ow1 (op1_l rfl (lo_assign (v := .int _ _) rfl) ?_)
        refine ow_nil ?_
        refine next1 (k + 1) (upd_intro (upd_intro (mask_intro (by first | exact off_refl | (repeat (first | exact off_mask | refine off_upd rfl ?_ | refine off_mask2 rfl ?_)))) rfl) (congrArg (Value.int .u64) (beN_step (by omega) (by omega)))) (lmask_intro (by first | exact offl_refl | (repeat (first | exact offl_mask | refine offl_upd rfl ?_ | refine offl_mask2 rfl ?_)))) hl8 ?_ ?_
        · omega
        · omega
      · have p11 := df h9
        refine cw_exit ?_
        refine seqK_e ?_
        refine loopK_e ?_
        refine blkK_hit ?_
        refine seqK_n ?_
        refine cw_seq ?_
        refine cw_region ?_
        refine ow1 (op1_l rfl (lo_move (v := .int _ _) rfl) ?_)
        refine ow1 (op1_l rfl (lo_assign (v := .int _ _) rfl) ?_)
        refine ow_nil ?_
        refine seqK_n ?_
        refine cw_down ((HLe.refl _).trans hl8) ?_
        refine cw_ret ?_
        refine fnK_r (res1 rfl (rv_t (v := .int _ _) rfl)) (.refl _) ?_
        refine ⟨_, rfl, j5, ?_, rfl, rfl, ?_⟩
        · simp only [inNum]
          rw [hb8, List.take_of_length_le (by omega)]
        · simp only [inNum]
          rw [hb8]
          exact hj6
  · have p12 := df h1
    refine cw_skip ?_
    refine seqK_n ?_
    refine cw_seq ?_
    refine cw_region ?_
    refine ow1 (op1_l rfl (lo_move (v := .pointer (some ⟨_, _, none⟩)) rfl) ?_)
    refine ow1 (op1_l rfl (lo_move (v := .int _ _) rfl) ?_)
    refine ow1 (op1_pm 0 rfl (rin_Raw _ i_b i_r i i_R bytes (by omega)) (en_f cb74 rfl) rfl ?_)
    rintro _ _ _ ⟨j15, rfl, rfl, rfl, hj16⟩ _
    have := hj16.err
    have := hj16.lo
    have := hj16.hi
    have := hj16.len
    have := inRaw_len i bytes
    refine ow1 (op1_l rfl (lo_assign (v := str _) rfl) ?_)
    refine ow_nil ?_
    refine seqK_n ?_
    refine cw_seq ?_
    refine cw_region ?_
    refine ow1 (op1_l rfl (lo_assign (v := .int _ _) rfl) ?_)
    refine ow_nil ?_
    refine seqK_n ?_
    refine cw_seq ?_
    refine cw_seq ?_
    refine cw_region ?_
    refine ow1 (op1_l rfl (lo_assign (v := .int _ _) rfl) ?_)
    refine ow_nil ?_
    refine seqK_n ?_
    refine cw_block ?_
    refine cw_loop1 [6, 7, 13, 14, 15, 16, 17, 18, 19, 20, 21, 22, 23, 24, 25] [] (fun (k : Nat) G => upd (upd (G) 7 (.int .i64 (k : Int))) 6 (.int .u64 (beN ((inRaw i bytes).1.take k) : Int))) (fun (k : Nat) G => G) (fun (k : Nat) H' => k ≤ (inRaw i bytes).1.length) (fun (k : Nat) => (inRaw i bytes).1.length - k) 0 (upd_intro (upd_intro (mask_intro (by first | exact off_refl | (repeat (first | exact off_mask | refine off_upd rfl ?_ | refine off_mask2 rfl ?_)))) rfl) rfl) (lmask_intro offl_refl) ?_ ?_
    · exact Nat.zero_le _
    · intro k J18 JL18 H18 hp17 hl18
      have hb8 : min bytes 8 = bytes := by omega
      refine cw_seq ?_
      refine cw_seq ?_
      refine cw_region ?_
      refine ow1 (op1_l rfl (lo_move (v := .int _ _) rfl) ?_)
      refine ow1 (op1_l rfl (lo_move (v := str _) rfl) ?_)
      refine ow1 (op1_l rfl (lo_len_str rfl Tryd.underlying9) ?_)
      refine ow1 (op1_l rfl (lo_lss rfl rfl) ?_)
      refine ow_nil ?_
      refine seqK_n ?_
      refine cw_cond rfl (fun h19 => ?_) (fun h19 => ?_)
      · have p20 := dt h19
        refine cw_skip ?_
        refine seqK_n ?_
        refine cw_seq ?_
        refine cw_block ?_
        refine cw_region ?_
        refine ow1 (op1_l rfl (lo_move (v := .int _ _) rfl) ?_)
        have := wr_u64 ((beN ((inRaw i bytes).1.take k) : Int) * 256)
        refine ow1 (op1_l rfl (lo_mul_w rfl rfl) ?_)
        refine ow1 (op1_l rfl (lo_move (v := str _) rfl) ?_)
        refine ow1 (op1_l rfl (lo_move (v := .int _ _) rfl) ?_)
        have := u8r (((inRaw i bytes).1).getD k 0)
        refine ow1 (op1_l rfl (lo_index_str k rfl rfl Tryd.underlying9 (by omega) (by omega)) ?_)
        refine ow1 (op1_l rfl (lo_conv_in rfl (by rw [Tryd.underlying5]; rfl) Tryd.underlying22 (rg_u64 (by omega))) ?_)
        have := wr_u64 ((IntKind.wrap .u64 ((beN ((inRaw i bytes).1.take k) : Int) * 256)) + ((((inRaw i bytes).1).getD k 0).toNat : Int))
        refine ow1 (op1_l rfl (lo_add_w rfl rfl) ?_)
        refine ow1 (op1_l rfl (lo_assign (v := .int _ _) rfl) ?_)
        refine ow_nil ?_
        refine blkK_n ?_
        refine seqK_n ?_
        refine cw_region ?_
        refine ow1 (op1_l rfl (lo_move (v := .int _ _) rfl) ?_)
        refine ow1 (op1_l rfl (lo_add rfl rfl (rg_i64 (by omega))) ?_)
        refine ow1 (op1_l rfl (lo_assign (v := .int _ _) rfl) ?_)
        refine ow_nil ?_
        refine next1 (k + 1) (upd_intro (upd_intro (mask_intro (by first | exact off_refl | (repeat (first | exact off_mask | refine off_upd rfl ?_ | refine off_mask2 rfl ?_)))) rfl) (congrArg (Value.int .u64) (beN_step (by omega) (by omega)))) (lmask_intro (by first | exact offl_refl | (repeat (first | exact offl_mask | refine offl_upd rfl ?_ | refine offl_mask2 rfl ?_)))) hl18 ?_ ?_
        · omega
        · omega
      · have p21 := df h19
        refine cw_exit ?_
        refine seqK_e ?_
        refine loopK_e ?_
        refine blkK_hit ?_
        refine seqK_n ?_
        refine cw_seq ?_
        refine cw_region ?_
        refine ow1 (op1_l rfl (lo_move (v := .int _ _) rfl) ?_)
        refine ow1 (op1_l rfl (lo_assign (v := .int _ _) rfl) ?_)
        refine ow_nil ?_
        refine seqK_n ?_
        refine cw_down ((HLe.refl _).trans hl18) ?_
        refine cw_ret ?_
        refine fnK_r (res1 rfl (rv_t (v := .int _ _) rfl)) (.refl _) ?_
        refine ⟨_, rfl, j15, ?_, rfl, rfl, ?_⟩
        · simp only [inNum]
          rw [hb8, List.take_of_length_le (by omega)]
        · simp only [inNum]
          rw [hb8]
          exact hj16

theorem rin_Text (H : Hp) (i_b : Nat) (i_r : RIn) (i : In) (i_R : RSt i_r i) (most : Int) (most_r : -9223372036854775808 ≤ most ∧ most ≤ 9223372036854775807) : Pm Tryd.prog 38 #[.pointer (some ⟨i_b, 0, none⟩), .int .i64 most] H i_b (bx 70 (RIn.cells i_r)) (fun v H' o' => ∃ (j : RIn), v = str ((inText i most).1) ∧ H = H' ∧ o' = bx 70 (RIn.cells j) ∧ RSt j ((inText i most).2)) := by
  refine pm_cw Tryd.func38 rfl Tryd.ntmps38 rfl (fun N => ?_)
  have := i_R.err
  have := i_R.lo
  have := i_R.hi
  have := i_R.len
  refine cw_seq ?_
  refine cw_region ?_
  refine ow1 (op1_l rfl (lo_assign (v := str _) rfl) ?_)
  refine ow_nil ?_
  refine seqK_n ?_
  refine cw_seq ?_
  refine cw_region ?_
  refine ow1 (op1_l rfl (lo_move (v := .pointer (some ⟨_, _, none⟩)) rfl) ?_)
  refine ow1 (op1_pm 0 rfl (rin_Num _ i_b i_r i i_R 2 (by omega)) (en_f cb40 rfl) rfl ?_)
  rintro _ _ _ ⟨j3, rfl, rfl, rfl, hj4⟩ _
  have := hj4.err
  have := hj4.lo
  have := hj4.hi
  have := hj4.len
  have := inNum_r i 2
  refine ow1 (op1_l rfl (lo_conv_in rfl (by rw [Tryd.underlying22]; rfl) Tryd.underlying3 (rg_i64 (by omega))) ?_)
  refine ow1 (op1_l rfl (lo_assign (v := .int _ _) rfl) ?_)
  refine ow_nil ?_
  refine seqK_n ?_
  refine cw_seq ?_
  refine cw_seq ?_
  refine cw_region ?_
  refine ow1 (op1_l rfl (lo_move (v := .int _ _) rfl) ?_)
  refine ow1 (op1_l rfl (lo_move (v := .int _ _) rfl) ?_)
  refine ow1 (op1_l rfl (lo_gtr rfl rfl) ?_)
  refine ow_nil ?_
  refine seqK_n ?_
  refine cw_cond rfl (fun h5 => ?_) (fun h5 => ?_)
  · have p6 := dt h5
    refine cw_region ?_
    refine ow1 (op1_l rfl (lo_move (v := .pointer (some ⟨_, _, none⟩)) rfl) ?_)
    refine ow1 (op1_pm 0 rfl (rin_Fail _ i_b j3 ((inNum i 2).2) hj4 5 (by omega)) (en_f cb42 rfl) rfl ?_)
    rintro _ _ _ ⟨j9, rfl, rfl, rfl, hj10⟩ _
    have := hj10.err
    have := hj10.lo
    have := hj10.hi
    have := hj10.len
    refine ow_nil ?_
    refine seqK_n ?_
    refine cw_seq ?_
    refine cw_region ?_
    refine ow1 (op1_l rfl (lo_move (v := .pointer (some ⟨_, _, none⟩)) rfl) ?_)
    refine ow1 (op1_l rfl (lo_move (v := .int _ _) rfl) ?_)
    refine ow1 (op1_pm 0 rfl (rin_Raw _ i_b j9 (inFail ((inNum i 2).2) 5) hj10 ((inNum i 2).1) (by omega)) (en_f cb74 rfl) rfl ?_)
    rintro _ _ _ ⟨j13, rfl, rfl, rfl, hj14⟩ _
    have := hj14.err
    have := hj14.lo
    have := hj14.hi
    have := hj14.len
    have := inRaw_len (inFail ((inNum i 2).2) 5) ((inNum i 2).1)
    refine ow1 (op1_l rfl (lo_assign (v := str _) rfl) ?_)
    refine ow_nil ?_
    refine seqK_n ?_
    refine cw_ret ?_
    refine fnK_r (res1 rfl (rv_t (v := str _) rfl)) (.refl _) ?_
    refine ⟨_, rfl, j13, ?_, rfl, rfl, ?_⟩
    · unfold inText; first | (rw [if_pos (by omega)]; done) | (rw [if_neg (by omega)]; done)
    · unfold inText; first | (rw [if_pos (by omega)]; exact hj14) | (rw [if_neg (by omega)]; exact hj14)
  · have p15 := df h5
    refine cw_skip ?_
    refine seqK_n ?_
    refine cw_seq ?_
    refine cw_region ?_
    refine ow1 (op1_l rfl (lo_move (v := .pointer (some ⟨_, _, none⟩)) rfl) ?_)
    refine ow1 (op1_l rfl (lo_move (v := .int _ _) rfl) ?_)
    refine ow1 (op1_pm 0 rfl (rin_Raw _ i_b j3 ((inNum i 2).2) hj4 ((inNum i 2).1) (by omega)) (en_f cb74 rfl) rfl ?_)
    rintro _ _ _ ⟨j18, rfl, rfl, rfl, hj19⟩ _
    have := hj19.err
    have := hj19.lo
    have := hj19.hi
    have := hj19.len
    have := inRaw_len ((inNum i 2).2) ((inNum i 2).1)
    refine ow1 (op1_l rfl (lo_assign (v := str _) rfl) ?_)
    refine ow_nil ?_
    refine seqK_n ?_
    refine cw_ret ?_
    refine fnK_r (res1 rfl (rv_t (v := str _) rfl)) (.refl _) ?_
    refine ⟨_, rfl, j18, ?_, rfl, rfl, ?_⟩
    · unfold inText; first | (rw [if_pos (by omega)]; done) | (rw [if_neg (by omega)]; done)
    · unfold inText; first | (rw [if_pos (by omega)]; exact hj19) | (rw [if_neg (by omega)]; exact hj19)

theorem rin_End (H : Hp) (i_b : Nat) (i_r : RIn) (i : In) (i_R : RSt i_r i) : Pm Tryd.prog 44 #[.pointer (some ⟨i_b, 0, none⟩)] H i_b (bx 70 (RIn.cells i_r)) (fun v H' o' => ∃ (j : RIn), v = .int .i64 (inEnd i) ∧ H = H' ∧ o' = bx 70 (RIn.cells j) ∧ RSt j i) := by
  refine pm_cw Tryd.func44 rfl Tryd.ntmps44 rfl (fun N => ?_)
  have := i_R.err
  have := i_R.lo
  have := i_R.hi
  have := i_R.len
  refine cw_seq ?_
  refine cw_region ?_
  refine ow1 (op1_l rfl (lo_assign (v := .int _ _) rfl) ?_)
  refine ow_nil ?_
  refine seqK_n ?_
  refine cw_seq ?_
  refine cw_seq ?_
  refine cw_anyL mixd ?_
  refine vw_q 0 rfl (by kernel_rfl) (by repeat (first | exact lle_l0 | exact LLe.refl _ | exact lle_none | refine lle_up ?_ rfl)) (fun _ _ hh hl => lo_move (v := .pointer (some ⟨_, _, none⟩)) rfl) ?_
  refine vw_q 1 rfl (by kernel_rfl) (by repeat (first | exact lle_l0 | exact LLe.refl _ | exact lle_none | refine lle_up ?_ rfl)) (fun _ _ hh hl => lo_nilCheck rfl) ?_
  refine vw_q 2 rfl (by kernel_rfl) (by repeat (first | exact lle_l0 | exact LLe.refl _ | exact lle_none | refine lle_up ?_ rfl)) (fun _ _ hh hl => lo_fieldAddr rfl fl70_2) ?_
  refine vw_q 3 rfl (by kernel_rfl) (by repeat (first | exact lle_l0 | exact LLe.refl _ | exact lle_none | refine lle_up ?_ rfl)) (fun _ _ hh hl => lo_load1 (i := 0) (v := .int _ _) rfl ag3 (hl _ _ rfl) rfl) ?_
  refine vw_q 4 rfl (by kernel_rfl) (by repeat (first | exact lle_l0 | exact LLe.refl _ | exact lle_none | refine lle_up ?_ rfl)) (fun _ _ hh hl => lo_eql rfl rfl) ?_
  refine vw_q 5 rfl (by kernel_rfl) (by repeat (first | exact lle_l0 | exact LLe.refl _ | exact lle_none | refine lle_up ?_ rfl)) (fun _ _ hh hl => lo_move (v := .bool _) rfl) ?_
  refine vw_sp (j := 5) rfl (fun h1 => ?_) (fun h1 => ?_)
  · have p2 := dt h1
    refine vw_qg 6 rfl (by kernel_rfl) (by repeat (first | exact lle_l0 | exact LLe.refl _ | exact lle_none | refine lle_up ?_ rfl)) rfl h1 (fun _ _ hh hl => lo_move (v := .pointer (some ⟨_, _, none⟩)) rfl) ?_
    refine vw_qg 7 rfl (by kernel_rfl) (by repeat (first | exact lle_l0 | exact LLe.refl _ | exact lle_none | refine lle_up ?_ rfl)) rfl h1 (fun _ _ hh hl => lo_nilCheck rfl) ?_
    refine vw_qg 8 rfl (by kernel_rfl) (by repeat (first | exact lle_l0 | exact LLe.refl _ | exact lle_none | refine lle_up ?_ rfl)) rfl h1 (fun _ _ hh hl => lo_fieldAddr rfl fl70_1) ?_
    refine vw_qg 9 rfl (by kernel_rfl) (by repeat (first | exact lle_l0 | exact LLe.refl _ | exact lle_none | refine lle_up ?_ rfl)) rfl h1 (fun _ _ hh hl => lo_load1 (i := 0) (v := .int _ _) rfl ag3 (hl _ _ rfl) rfl) ?_
    refine vw_qg 10 rfl (by kernel_rfl) (by repeat (first | exact lle_l0 | exact LLe.refl _ | exact lle_none | refine lle_up ?_ rfl)) rfl h1 (fun _ _ hh hl => lo_move (v := .pointer (some ⟨_, _, none⟩)) rfl) ?_
    refine vw_qg 11 rfl (by kernel_rfl) (by repeat (first | exact lle_l0 | exact LLe.refl _ | exact lle_none | refine lle_up ?_ rfl)) rfl h1 (fun _ _ hh hl => lo_nilCheck rfl) ?_
    refine vw_qg 12 rfl (by kernel_rfl) (by repeat (first | exact lle_l0 | exact LLe.refl _ | exact lle_none | refine lle_up ?_ rfl)) rfl h1 (fun _ _ hh hl => lo_fieldAddr rfl fl70_0) ?_
    refine vw_qg 13 rfl (by kernel_rfl) (by repeat (first | exact lle_l0 | exact LLe.refl _ | exact lle_none | refine lle_up ?_ rfl)) rfl h1 (fun _ _ hh hl => lo_load1 (i := 0) (v := str _) rfl ag9 (hl _ _ rfl) rfl) ?_
    refine vw_qg 14 rfl (by kernel_rfl) (by repeat (first | exact lle_l0 | exact LLe.refl _ | exact lle_none | refine lle_up ?_ rfl)) rfl h1 (fun _ _ hh hl => lo_len_str rfl Tryd.underlying9) ?_
    refine vw_qg 15 rfl (by kernel_rfl) (by repeat (first | exact lle_l0 | exact LLe.refl _ | exact lle_none | refine lle_up ?_ rfl)) rfl h1 (fun _ _ hh hl => lo_lss rfl rfl) ?_
    refine vw_q 16 rfl (by kernel_rfl) (by repeat (first | exact lle_l0 | exact LLe.refl _ | exact lle_none | refine lle_up ?_ rfl)) (fun _ _ hh hl => lo_pick_t (v := .bool _) rfl h1 rfl) ?_
    refine vw_done (by kernel_rfl) ?_
    refine seqK_n ?_
    refine cw_cond rfl (fun h3 => ?_) (fun h3 => ?_)
    · have p4 := dt h3
      refine cw_seq ?_
      refine cw_region ?_
      refine ow1 (op1_l rfl (lo_assign (v := .int _ _) rfl) ?_)
      refine ow_nil ?_
      refine seqK_n ?_
      refine cw_ret ?_
      refine seqK_r ?_
      refine fnK_r (res1 rfl (rv_t (v := .int _ _) rfl)) (.refl _) ?_
      refine ⟨_, rfl, i_r, ?_, rfl, rfl, i_R⟩
      rw [i_R.end']
      first | (rw [if_pos (by omega)]; done) | (rw [if_neg (by omega)]; done)
    · have p5 := df h3
      refine cw_skip ?_
      refine seqK_n ?_
      refine cw_seq ?_
      refine cw_region ?_
      refine ow1 (op1_l rfl (lo_move (v := .pointer (some ⟨_, _, none⟩)) rfl) ?_)
      refine ow1 (op1_l rfl (lo_nilCheck rfl) ?_)
      refine ow1 (op1_l rfl (lo_fieldAddr rfl fl70_2) ?_)
      refine ow1 (op1_l rfl (lo_load1 (i := 0) (v := .int _ _) rfl ag3 rfl rfl) ?_)
      refine ow1 (op1_l rfl (lo_assign (v := .int _ _) rfl) ?_)
      refine ow_nil ?_
      refine seqK_n ?_
      refine cw_ret ?_
      refine fnK_r (res1 rfl (rv_t (v := .int _ _) rfl)) (.refl _) ?_
      refine ⟨_, rfl, i_r, ?_, rfl, rfl, i_R⟩
      rw [i_R.end']
      first | (rw [if_pos (by omega)]; done) | (rw [if_neg (by omega)]; done)
  · have p6 := df h1
    refine vw_qgs 6 rfl (by kernel_rfl) (by repeat (first | exact lle_l0 | exact LLe.refl _ | exact lle_none | refine lle_up ?_ rfl)) rfl h1 ?_
    refine vw_qgs 7 rfl (by kernel_rfl) (by repeat (first | exact lle_l0 | exact LLe.refl _ | exact lle_none | refine lle_up ?_ rfl)) rfl h1 ?_
    refine vw_qgs 8 rfl (by kernel_rfl) (by repeat (first | exact lle_l0 | exact LLe.refl _ | exact lle_none | refine lle_up ?_ rfl)) rfl h1 ?_
    refine vw_qgs 9 rfl (by kernel_rfl) (by repeat (first | exact lle_l0 | exact LLe.refl _ | exact lle_none | refine lle_up ?_ rfl)) rfl h1 ?_
    refine vw_qgs 10 rfl (by kernel_rfl) (by repeat (first | exact lle_l0 | exact LLe.refl _ | exact lle_none | refine lle_up ?_ rfl)) rfl h1 ?_
    refine vw_qgs 11 rfl (by kernel_rfl) (by repeat (first | exact lle_l0 | exact LLe.refl _ | exact lle_none | refine lle_up ?_ rfl)) rfl h1 ?_
    refine vw_qgs 12 rfl (by kernel_rfl) (by repeat (first | exact lle_l0 | exact LLe.refl _ | exact lle_none | refine lle_up ?_ rfl)) rfl h1 ?_
    refine vw_qgs 13 rfl (by kernel_rfl) (by repeat (first | exact lle_l0 | exact LLe.refl _ | exact lle_none | refine lle_up ?_ rfl)) rfl h1 ?_
    refine vw_qgs 14 rfl (by kernel_rfl) (by repeat (first | exact lle_l0 | exact LLe.refl _ | exact lle_none | refine lle_up ?_ rfl)) rfl h1 ?_
    refine vw_qgs 15 rfl (by kernel_rfl) (by repeat (first | exact lle_l0 | exact LLe.refl _ | exact lle_none | refine lle_up ?_ rfl)) rfl h1 ?_
    refine vw_q 16 rfl (by kernel_rfl) (by repeat (first | exact lle_l0 | exact LLe.refl _ | exact lle_none | refine lle_up ?_ rfl)) (fun _ _ hh hl => lo_pick_f (v := .bool _) rfl h1 rfl) ?_
    refine vw_done (by kernel_rfl) ?_
    refine seqK_n ?_
    refine cw_cond_f rfl rfl ?_
    refine cw_skip ?_
    refine seqK_n ?_
    refine cw_seq ?_
    refine cw_region ?_
    refine ow1 (op1_l rfl (lo_move (v := .pointer (some ⟨_, _, none⟩)) rfl) ?_)
    refine ow1 (op1_l rfl (lo_nilCheck rfl) ?_)
    refine ow1 (op1_l rfl (lo_fieldAddr rfl fl70_2) ?_)
    refine ow1 (op1_l rfl (lo_load1 (i := 0) (v := .int _ _) rfl ag3 rfl rfl) ?_)
    refine ow1 (op1_l rfl (lo_assign (v := .int _ _) rfl) ?_)
    refine ow_nil ?_
    refine seqK_n ?_
    refine cw_ret ?_
    refine fnK_r (res1 rfl (rv_t (v := .int _ _) rfl)) (.refl _) ?_
    refine ⟨_, rfl, i_r, ?_, rfl, rfl, i_R⟩
    rw [i_R.end']
    first | (rw [if_pos (by omega)]; done) | (rw [if_neg (by omega)]; done)

theorem r12_tellsN (H : Hp) (kind : Int) (kind_r : 0 ≤ kind ∧ kind ≤ 255) : Pr Tryd.prog 39 #[.int .u8 kind] H (.bool (decide (kind = 2 ∨ kind = 3 ∨ kind = 5 ∨ kind = 6 ∨ kind = 7))) := by
  refine pr_cw Tryd.func39 rfl Tryd.ntmps39 rfl (fun N => ?_)
  refine cw_seq ?_
  refine cw_region ?_
  refine ow1 (op1_l rfl (lo_assign (v := .bool _) rfl) ?_)
  refine ow_nil ?_
  refine seqK_n ?_
  refine cw_seq ?_
  refine cw_region ?_
  refine ow1 (op1_l rfl (lo_move (v := .int _ _) rfl) ?_)
  refine ow1 (op1_l rfl (lo_eql rfl rfl) ?_)
  refine ow1 (op1_l rfl (lo_move (v := .bool _) rfl) ?_)
  refine ow_sp (j := 2) rfl (fun h1 => ?_) (fun h1 => ?_)
  · have p2 := dt h1
    refine ow1 (op1_gs rfl h1 rfl ?_)
    refine ow1 (op1_gs rfl h1 rfl ?_)
    refine ow1 (op1_l rfl (lo_pick_t (v := .bool _) rfl h1 rfl) ?_)
    refine ow1 (op1_l rfl (lo_move (v := .bool _) rfl) ?_)
    refine ow1 (op1_gs rfl rfl rfl ?_)
    refine ow1 (op1_gs rfl rfl rfl ?_)
    refine ow1 (op1_l rfl (lo_pick_t (v := .bool _) rfl rfl rfl) ?_)
    refine ow1 (op1_l rfl (lo_move (v := .bool _) rfl) ?_)
    refine ow1 (op1_gs rfl rfl rfl ?_)
    refine ow1 (op1_gs rfl rfl rfl ?_)
    refine ow1 (op1_l rfl (lo_pick_t (v := .bool _) rfl rfl rfl) ?_)
    refine ow1 (op1_l rfl (lo_move (v := .bool _) rfl) ?_)
    refine ow1 (op1_gs rfl rfl rfl ?_)
    refine ow1 (op1_gs rfl rfl rfl ?_)
    refine ow1 (op1_l rfl (lo_pick_t (v := .bool _) rfl rfl rfl) ?_)
    refine ow1 (op1_l rfl (lo_assign (v := .bool _) rfl) ?_)
    refine ow_nil ?_
    refine seqK_n ?_
    refine cw_ret ?_
    refine fnK_r (res1 rfl (rv_t (v := .bool _) rfl)) (.refl _) ?_
    refine congrArg Value.bool ?_; rw [Bool.eq_iff_iff]; simp only [decide_eq_true_eq, Bool.false_eq_true, false_iff, true_iff]; omega
  · have p3 := df h1
    refine ow1 (op1_g rfl h1 rfl (lo_move (v := .int _ _) rfl) ?_)
    refine ow1 (op1_g rfl h1 rfl (lo_eql rfl rfl) ?_)
    refine ow1 (op1_l rfl (lo_pick_f (v := .bool _) rfl h1 rfl) ?_)
    refine ow1 (op1_l rfl (lo_move (v := .bool _) rfl) ?_)
    refine ow_sp (j := 6) rfl (fun h4 => ?_) (fun h4 => ?_)
    · have p5 := dt h4
      refine ow1 (op1_gs rfl h4 rfl ?_)
      refine ow1 (op1_gs rfl h4 rfl ?_)
      refine ow1 (op1_l rfl (lo_pick_t (v := .bool _) rfl h4 rfl) ?_)
      refine ow1 (op1_l rfl (lo_move (v := .bool _) rfl) ?_)
      refine ow1 (op1_gs rfl rfl rfl ?_)
      refine ow1 (op1_gs rfl rfl rfl ?_)
      refine ow1 (op1_l rfl (lo_pick_t (v := .bool _) rfl rfl rfl) ?_)
      refine ow1 (op1_l rfl (lo_move (v := .bool _) rfl) ?_)
      refine ow1 (op1_gs rfl rfl rfl ?_)
      refine ow1 (op1_gs rfl rfl rfl ?_)
      refine ow1 (op1_l rfl (lo_pick_t (v := .bool _) rfl rfl rfl) ?_)
      refine ow1 (op1_l rfl (lo_assign (v := .bool _) rfl) ?_)
      refine ow_nil ?_
      refine seqK_n ?_
      refine cw_ret ?_
      refine fnK_r (res1 rfl (rv_t (v := .bool _) rfl)) (.refl _) ?_
      refine congrArg Value.bool ?_; rw [Bool.eq_iff_iff]; simp only [decide_eq_true_eq, Bool.false_eq_true, false_iff, true_iff]; omega
    · have p6 := df h4
      refine ow1 (op1_g rfl h4 rfl (lo_move (v := .int _ _) rfl) ?_)
      refine ow1 (op1_g rfl h4 rfl (lo_eql rfl rfl) ?_)
      refine ow1 (op1_l rfl (lo_pick_f (v := .bool _) rfl h4 rfl) ?_)
      refine ow1 (op1_l rfl (lo_move (v := .bool _) rfl) ?_)
      refine ow_sp (j := 10) rfl (fun h7 => ?_) (fun h7 => ?_)
      · have p8 := dt h7
        refine ow1 (op1_gs rfl h7 rfl ?_)
        refine ow1 (op1_gs rfl h7 rfl ?_)
        refine ow1 (op1_l rfl (lo_pick_t (v := .bool _) rfl h7 rfl) ?_)
        refine ow1 (op1_l rfl (lo_move (v := .bool _) rfl) ?_)
        refine ow1 (op1_gs rfl rfl rfl ?_)
        refine ow1 (op1_gs rfl rfl rfl ?_)
        refine ow1 (op1_l rfl (lo_pick_t (v := .bool _) rfl rfl rfl) ?_)
        refine ow1 (op1_l rfl (lo_assign (v := .bool _) rfl) ?_)
        refine ow_nil ?_
        refine seqK_n ?_
        refine cw_ret ?_
        refine fnK_r (res1 rfl (rv_t (v := .bool _) rfl)) (.refl _) ?_
        refine congrArg Value.bool ?_; rw [Bool.eq_iff_iff]; simp only [decide_eq_true_eq, Bool.false_eq_true, false_iff, true_iff]; omega
      · have p9 := df h7
        refine ow1 (op1_g rfl h7 rfl (lo_move (v := .int _ _) rfl) ?_)
        refine ow1 (op1_g rfl h7 rfl (lo_eql rfl rfl) ?_)
        refine ow1 (op1_l rfl (lo_pick_f (v := .bool _) rfl h7 rfl) ?_)
        refine ow1 (op1_l rfl (lo_move (v := .bool _) rfl) ?_)
        refine ow_sp (j := 14) rfl (fun h10 => ?_) (fun h10 => ?_)
        · have p11 := dt h10
          refine ow1 (op1_gs rfl h10 rfl ?_)
          refine ow1 (op1_gs rfl h10 rfl ?_)
          refine ow1 (op1_l rfl (lo_pick_t (v := .bool _) rfl h10 rfl) ?_)
          refine ow1 (op1_l rfl (lo_assign (v := .bool _) rfl) ?_)
          refine ow_nil ?_
          refine seqK_n ?_
          refine cw_ret ?_
          refine fnK_r (res1 rfl (rv_t (v := .bool _) rfl)) (.refl _) ?_
          refine congrArg Value.bool ?_; rw [Bool.eq_iff_iff]; simp only [decide_eq_true_eq, Bool.false_eq_true, false_iff, true_iff]; omega
        · have p12 := df h10
          refine ow1 (op1_g rfl h10 rfl (lo_move (v := .int _ _) rfl) ?_)
          refine ow1 (op1_g rfl h10 rfl (lo_eql rfl rfl) ?_)
          refine ow1 (op1_l rfl (lo_pick_f (v := .bool _) rfl h10 rfl) ?_)
          refine ow1 (op1_l rfl (lo_assign (v := .bool _) rfl) ?_)
          refine ow_nil ?_
          refine seqK_n ?_
          refine cw_ret ?_
          refine fnK_r (res1 rfl (rv_t (v := .bool _) rfl)) (.refl _) ?_
          refine congrArg Value.bool ?_; rw [Bool.eq_iff_iff]; simp only [decide_eq_true_eq, Bool.false_eq_true, false_iff, true_iff]; omega

theorem r12_tellsM (H : Hp) (kind : Int) (kind_r : 0 ≤ kind ∧ kind ≤ 255) : Pr Tryd.prog 41 #[.int .u8 kind] H (.bool (decide (kind = 3 ∨ kind = 6))) := by
  refine pr_cw Tryd.func41 rfl Tryd.ntmps41 rfl (fun N => ?_)
  refine cw_seq ?_
  refine cw_region ?_
  refine ow1 (op1_l rfl (lo_assign (v := .bool _) rfl) ?_)
  refine ow_nil ?_
  refine seqK_n ?_
  refine cw_seq ?_
  refine cw_region ?_
  refine ow1 (op1_l rfl (lo_move (v := .int _ _) rfl) ?_)
  refine ow1 (op1_l rfl (lo_eql rfl rfl) ?_)
  refine ow1 (op1_l rfl (lo_move (v := .bool _) rfl) ?_)
  refine ow_sp (j := 2) rfl (fun h1 => ?_) (fun h1 => ?_)
  · have p2 := dt h1
    refine ow1 (op1_gs rfl h1 rfl ?_)
    refine ow1 (op1_gs rfl h1 rfl ?_)
    refine ow1 (op1_l rfl (lo_pick_t (v := .bool _) rfl h1 rfl) ?_)
    refine ow1 (op1_l rfl (lo_assign (v := .bool _) rfl) ?_)
    refine ow_nil ?_
    refine seqK_n ?_
    refine cw_ret ?_
    refine fnK_r (res1 rfl (rv_t (v := .bool _) rfl)) (.refl _) ?_
    refine congrArg Value.bool ?_; rw [Bool.eq_iff_iff]; simp only [decide_eq_true_eq, Bool.false_eq_true, false_iff, true_iff]; omega
  · have p3 := df h1
    refine ow1 (op1_g rfl h1 rfl (lo_move (v := .int _ _) rfl) ?_)
    refine ow1 (op1_g rfl h1 rfl (lo_eql rfl rfl) ?_)
    refine ow1 (op1_l rfl (lo_pick_f (v := .bool _) rfl h1 rfl) ?_)
    refine ow1 (op1_l rfl (lo_assign (v := .bool _) rfl) ?_)
    refine ow_nil ?_
    refine seqK_n ?_
    refine cw_ret ?_
    refine fnK_r (res1 rfl (rv_t (v := .bool _) rfl)) (.refl _) ?_
    refine congrArg Value.bool ?_; rw [Bool.eq_iff_iff]; simp only [decide_eq_true_eq, Bool.false_eq_true, false_iff, true_iff]; omega

end Go.SW


set_option linter.unusedVariables false
set_option maxRecDepth 100000
set_option maxHeartbeats 4000000
namespace Go.SW
open Go.Proofs
theorem by9 : By Tryd.prog 9 16 := by_of (by kernel_rfl)
theorem cb79 : Callable Tryd.prog 79 := callable_of Tryd.func79 (by kernel_rfl) (by kernel_rfl)
theorem zr9 : Zr Tryd.prog 9 [str []] := fun w => ⟨str [], by kernel_rfl, rfl⟩

theorem r4_Name (H : Hp) (s : Bs) (hs : s.length ≤ 9223372036854775807) : Pr Tryd.prog 50 #[str s] H (.int .i64 (nameE s)) := by
  refine pr_cw Tryd.func50 rfl Tryd.ntmps50 rfl (fun N => ?_)
  refine cw_seq ?_
  refine cw_region ?_
  refine ow1 (op1_l rfl (lo_assign (v := .int _ _) rfl) ?_)
  refine ow_nil ?_
  refine seqK_n ?_
  refine cw_seq ?_
  refine cw_seq ?_
  refine cw_region ?_
  refine ow1 (op1_l rfl (lo_move (v := str _) rfl) ?_)
  refine ow1 (op1_l rfl (lo_len_str rfl Tryd.underlying9) ?_)
  refine ow1 (op1_l rfl (lo_eql rfl rfl) ?_)
  refine ow_nil ?_
  refine seqK_n ?_
  refine cw_cond rfl (fun h1 => ?_) (fun h1 => ?_)
  · have p2 := dt h1
    refine cw_seq ?_
    refine cw_region ?_
    refine ow1 (op1_l rfl (lo_assign (v := .int _ _) rfl) ?_)
    refine ow_nil ?_
    refine seqK_n ?_
    refine cw_ret ?_
    refine seqK_r ?_
    refine fnK_r (res1 rfl (rv_t (v := .int _ _) rfl)) (.refl _) ?_
    have : s = [] := List.eq_nil_of_length_eq_zero (by omega)
    subst this
    rfl
  · have p3 := df h1
    refine cw_skip ?_
    refine seqK_n ?_
    refine cw_seq ?_
    refine cw_seq ?_
    refine cw_region ?_
    refine ow1 (op1_l rfl (lo_move (v := str _) rfl) ?_)
    refine ow1 (op1_l rfl (lo_len_str rfl Tryd.underlying9) ?_)
    refine ow1 (op1_l rfl (lo_gtr rfl rfl) ?_)
    refine ow_nil ?_
    refine seqK_n ?_
    refine cw_cond rfl (fun h4 => ?_) (fun h4 => ?_)
    · have p5 := dt h4
      refine cw_seq ?_
      refine cw_region ?_
      refine ow1 (op1_l rfl (lo_assign (v := .int _ _) rfl) ?_)
      refine ow_nil ?_
      refine seqK_n ?_
      refine cw_ret ?_
      refine seqK_r ?_
      refine fnK_r (res1 rfl (rv_t (v := .int _ _) rfl)) (.refl _) ?_
      have hne : ¬ s = [] := fun q => by subst q; simp at *
      unfold nameE
      rw [if_neg hne, if_pos (by omega)]
    · have p6 := df h4
      refine cw_skip ?_
      refine seqK_n ?_
      refine cw_seq ?_
      refine cw_seq ?_
      refine cw_region ?_
      refine ow1 (op1_l rfl (lo_assign (v := .int _ _) rfl) ?_)
      refine ow_nil ?_
      refine seqK_n ?_
      refine cw_block ?_
      refine cw_loop1 [2, 3, 10, 11, 12, 13, 14, 15, 16, 17, 18, 19, 20] [] (fun (k : Nat) G => upd (G) 3 (.int .i64 (k : Int))) (fun (k : Nat) G => G) (fun (k : Nat) H' => k ≤ s.length ∧ (s.drop k).all (fun c => letter c.toNat) = plain s) (fun (k : Nat) => s.length - k) 0 (upd_intro (mask_intro (by first | exact off_refl | (repeat (first | exact off_mask | refine off_upd rfl ?_ | refine off_mask2 rfl ?_)))) rfl) (lmask_intro offl_refl) ?_ ?_
      · exact ⟨by omega, rfl⟩
      · intro k J8 JL8 H8 hp7 hl8
        obtain ⟨hk1, hk2⟩ := hp7
        refine cw_seq ?_
        refine cw_seq ?_
        refine cw_region ?_
        refine ow1 (op1_l rfl (lo_move (v := .int _ _) rfl) ?_)
        refine ow1 (op1_l rfl (lo_move (v := str _) rfl) ?_)
        refine ow1 (op1_l rfl (lo_len_str rfl Tryd.underlying9) ?_)
        refine ow1 (op1_l rfl (lo_lss rfl rfl) ?_)
        refine ow_nil ?_
        refine seqK_n ?_
        refine cw_cond rfl (fun h9 => ?_) (fun h9 => ?_)
        · have p10 := dt h9
          refine cw_skip ?_
          refine seqK_n ?_
          refine cw_seq ?_
          refine cw_block ?_
          refine cw_seq ?_
          refine cw_region ?_
          refine ow1 (op1_l rfl (lo_move (v := str _) rfl) ?_)
          refine ow1 (op1_l rfl (lo_move (v := .int _ _) rfl) ?_)
          have := u8r (s.getD k 0)
          refine ow1 (op1_l rfl (lo_index_str k rfl rfl Tryd.underlying9 (by omega) (by omega)) ?_)
          refine ow1 (op1_pr (r4_letter _ ((s.getD k 0).toNat : Int) (by omega)) (en_f cb79 rfl) rfl ?_)
          refine ow1 (op1_l rfl (lo_not rfl) ?_)
          refine ow_nil ?_
          refine seqK_n ?_
          refine cw_cond rfl (fun h11 => ?_) (fun h11 => ?_)
          · have h12 := not_t h11
            refine cw_seq ?_
            refine cw_region ?_
            refine ow1 (op1_l rfl (lo_assign (v := .int _ _) rfl) ?_)
            refine ow_nil ?_
            refine seqK_n ?_
            refine cw_ret ?_
            refine blkK_r ?_
            refine seqK_r ?_
            refine loopK_r ?_
            refine blkK_r ?_
            refine seqK_r ?_
            refine fnK_r (res1 rfl (rv_t (v := .int _ _) rfl)) ((HLe.refl _).trans hl8) ?_
            have hne : ¬ s = [] := fun q => by subst q; simp at *
            unfold nameE
            rw [if_neg hne, if_neg (by omega), ← hk2, letter_all (k := k) (by omega)]
            simp only [*, Bool.false_and, Bool.false_eq_true, if_false]
          · have h13 := not_f h11
            refine cw_skip ?_
            refine blkK_n ?_
            refine seqK_n ?_
            refine cw_region ?_
            refine ow1 (op1_l rfl (lo_move (v := .int _ _) rfl) ?_)
            refine ow1 (op1_l rfl (lo_add rfl rfl (rg_i64 (by omega))) ?_)
            refine ow1 (op1_l rfl (lo_assign (v := .int _ _) rfl) ?_)
            refine ow_nil ?_
            refine next1 (k + 1) (upd_intro (mask_intro (by first | exact off_refl | (repeat (first | exact off_mask | refine off_upd rfl ?_ | refine off_mask2 rfl ?_)))) rfl) (lmask_intro (by first | exact offl_refl | (repeat (first | exact offl_mask | refine offl_upd rfl ?_ | refine offl_mask2 rfl ?_)))) hl8 ?_ ?_
            · refine ⟨by omega, ?_⟩
              rw [← hk2, letter_all (k := k) (by omega)]
              simp only [*, Bool.true_and]
            · omega
        · have p14 := df h9
          refine cw_exit ?_
          refine seqK_e ?_
          refine loopK_e ?_
          refine blkK_hit ?_
          refine seqK_n ?_
          refine cw_seq ?_
          refine cw_region ?_
          refine ow1 (op1_l rfl (lo_assign (v := .int _ _) rfl) ?_)
          refine ow_nil ?_
          refine seqK_n ?_
          refine cw_ret ?_
          refine fnK_r (res1 rfl (rv_t (v := .int _ _) rfl)) ((HLe.refl _).trans hl8) ?_
          have hne : ¬ s = [] := fun q => by subst q; simp at *
          unfold nameE
          rw [if_neg hne, if_neg (by omega), ← hk2, List.drop_of_length_le (by omega)]
          rfl

theorem r4_Split (H : Hp) (s : Bs) (hs : s.length ≤ 1000000) : Ph Tryd.prog 80 #[str s] H (fun v H' => ∃ (a1 : Option Addr) (c1 : Nat), v = .slice a1 (wordsOf s).length c1 ∧ SlH strE 1 H' (.slice a1 (wordsOf s).length c1) (wordsOf s)) := by
  refine ph_cw Tryd.func80 rfl Tryd.ntmps80 rfl (fun N => ?_)
  refine cw_seq ?_
  refine cw_region ?_
  refine ow1 (op1_l rfl (lo_assign (v := .slice _ _ _) rfl) ?_)
  refine ow_nil ?_
  refine seqK_n ?_
  refine cw_seq ?_
  refine cw_seq ?_
  refine cw_region ?_
  refine ow1 (op1_l rfl (lo_move (v := str _) rfl) ?_)
  refine ow1 (op1_l rfl (lo_len_str rfl Tryd.underlying9) ?_)
  refine ow1 (op1_l rfl (lo_eql rfl rfl) ?_)
  refine ow_nil ?_
  refine seqK_n ?_
  refine cw_cond rfl (fun h1 => ?_) (fun h1 => ?_)
  · have p2 := dt h1
    refine cw_seq ?_
    refine cw_region ?_
    refine ow1 (op1_l rfl (lo_assign (v := .slice _ _ _) rfl) ?_)
    refine ow_nil ?_
    refine seqK_n ?_
    refine cw_ret ?_
    refine seqK_r ?_
    refine fnK_r (res1 rfl (rv_t (v := .slice _ _ _) rfl)) (.refl _) ?_
    have e : wordsOf s = [] := by unfold wordsOf; rw [if_pos (List.eq_nil_of_length_eq_zero (by omega))]
    rw [e]
    exact ⟨none, 0, rfl, slh_nil⟩
  · have p3 := df h1
    refine cw_skip ?_
    refine seqK_n ?_
    refine cw_seq ?_
    refine cw_region ?_
    refine ow1 (op1_l rfl (lo_assign (v := .slice _ _ _) rfl) ?_)
    refine ow_nil ?_
    refine seqK_n ?_
    refine cw_seq ?_
    refine cw_region ?_
    refine ow1 (op1_l rfl (lo_assign (v := .int _ _) rfl) ?_)
    refine ow_nil ?_
    refine seqK_n ?_
    refine cw_seq ?_
    refine cw_seq ?_
    refine cw_region ?_
    refine ow1 (op1_l rfl (lo_assign (v := .int _ _) rfl) ?_)
    refine ow_nil ?_
    refine seqK_n ?_
    refine cw_block ?_
    refine cw_loop5 [3, 4, 5, 9, 10, 11, 12, 13, 14, 15, 16, 17, 18, 19, 20, 21, 22, 23, 24, 25, 26, 27] [0, 1] (fun (f : Nat) (k : Nat) (out : List Bs) (v : Value) (en : Option (Nat × Obj)) G => upd (upd (upd (G) 4 (.int .i64 (f : Int))) 5 (.int .i64 (k : Int))) 3 (v)) (fun (f : Nat) (k : Nat) (out : List Bs) (v : Value) (en : Option (Nat × Obj)) G => lupd (G) 0 (en)) (fun (f : Nat) (k : Nat) (out : List Bs) (v : Value) (en : Option (Nat × Obj)) H' => f ≤ k ∧ k ≤ s.length ∧ dots s = out ++ dots (s.drop f) ∧ noDot s f k ∧ out.length ≤ k ∧ OwnV 1 9 v en out.length (out.flatMap (fun s => [str s])) ∧ (∀ x ∈ out, (fun s : Bs => s.length ≤ 9223372036854775807) x)) (fun (f : Nat) (k : Nat) (out : List Bs) (v : Value) (en : Option (Nat × Obj)) => s.length - k) 0 0 [] (.slice none 0 0) none (upd_intro (upd_intro (upd_intro (mask_intro (by first | exact off_refl | (repeat (first | exact off_mask | refine off_upd rfl ?_ | refine off_mask2 rfl ?_)))) rfl) rfl) rfl) (lupd_intro (lmask_intro offl_refl) rfl) ?_ ?_
    · exact ⟨Nat.le_refl _, Nat.zero_le _, rfl, noDot_nil, Nat.zero_le _, ownV_nil, wf_nil⟩
    · intro f k out v en J5 JL5 H5 hp4 hl5
      obtain ⟨hk1, hk2, hk3, hk4, hk5, ho, hw⟩ := hp4
      refine cw_seq ?_
      refine cw_seq ?_
      refine cw_region ?_
      refine ow1 (op1_l rfl (lo_move (v := .int _ _) rfl) ?_)
      refine ow1 (op1_l rfl (lo_move (v := str _) rfl) ?_)
      refine ow1 (op1_l rfl (lo_len_str rfl Tryd.underlying9) ?_)
      refine ow1 (op1_l rfl (lo_lss rfl rfl) ?_)
      refine ow_nil ?_
      refine seqK_n ?_
      refine cw_cond rfl (fun h6 => ?_) (fun h6 => ?_)
      · have p7 := dt h6
        refine cw_skip ?_
        refine seqK_n ?_
        refine cw_seq ?_
        refine cw_block ?_
        refine cw_seq ?_
        refine cw_region ?_
        refine ow1 (op1_l rfl (lo_move (v := str _) rfl) ?_)
        refine ow1 (op1_l rfl (lo_move (v := .int _ _) rfl) ?_)
        have := u8r (s.getD k 0)
        refine ow1 (op1_l rfl (lo_index_str k rfl rfl Tryd.underlying9 (by omega) (by omega)) ?_)
        refine ow1 (op1_l rfl (lo_eql rfl rfl) ?_)
        refine ow_nil ?_
        refine seqK_n ?_
        refine cw_cond rfl (fun h8 => ?_) (fun h8 => ?_)
        · have p9 := dt h8
          refine cw_seq ?_
          refine cw_region ?_
          refine ow1 (op1_l rfl (lo_move rfl) ?_)
          refine ow1 (op1_l rfl (lo_move (v := str _) rfl) ?_)
          refine ow1 (op1_l rfl (lo_move (v := .int _ _) rfl) ?_)
          refine ow1 (op1_l rfl (lo_move (v := .int _ _) rfl) ?_)
          refine ow1 (op1_l rfl (lo_slice_str f k rfl rfl rfl Tryd.underlying9 (by omega) (by omega) (by omega) (by omega)) ?_)
          refine ow1 (op1_bslice (cs := [_]) 1 rfl Tryd.underlying108 sz9 zx9 rfl ⟨rfl, rfl, trivial⟩ rfl rfl (by decide) (fun b10 => ?_))
          refine ow1 (op1_app 0 rfl rfl Tryd.underlying108 Tryd.underlying108 rfl sz9 by9 (by decide) zr9 ho (src_bx (i := 1) rfl rfl) (List.all_eq_true.1 rfl) rfl (by first | omega | (simp; omega)) rfl (fun v11 en12 ho13 => ?_))
          have ho14 := own_push (enc := (fun s => [str s])) out ((s.drop f).take (k - f)) ho13 rfl
          refine ow1 (op1_l rfl (lo_assign rfl) ?_)
          refine ow_nil ?_
          refine seqK_n ?_
          refine cw_region ?_
          refine ow1 (op1_l rfl (lo_move (v := .int _ _) rfl) ?_)
          refine ow1 (op1_l rfl (lo_add rfl rfl (rg_i64 (by omega))) ?_)
          refine ow1 (op1_l rfl (lo_assign (v := .int _ _) rfl) ?_)
          refine ow_nil ?_
          refine blkK_n ?_
          refine seqK_n ?_
          refine cw_region ?_
          refine ow1 (op1_l rfl (lo_move (v := .int _ _) rfl) ?_)
          refine ow1 (op1_l rfl (lo_add rfl rfl (rg_i64 (by omega))) ?_)
          refine ow1 (op1_l rfl (lo_assign (v := .int _ _) rfl) ?_)
          refine ow_nil ?_
          refine next5 (k + 1) (k + 1) (out ++ [((s.drop f).take (k - f))]) v11 en12 (upd_intro (upd_intro (upd_intro (mask_intro (by first | exact off_refl | (repeat (first | exact off_mask | refine off_upd rfl ?_ | refine off_mask2 rfl ?_)))) rfl) rfl) rfl) (lupd_intro (lmask_intro (by first | exact offl_refl | (repeat (first | exact offl_mask | refine offl_upd rfl ?_ | refine offl_mask2 rfl ?_)))) rfl) hl5 ?_ ?_
          · refine ⟨by omega, by omega, split_hit hk3 hk4 (by omega) (by omega) (byteEq (n := 46) (by omega) (by omega)), noDot_nil, by simp; omega, ho14, (wf_push hw (by show List.length ((s.drop f).take (k - f)) ≤ 9223372036854775807; first | omega | (simp; omega) | (simp; done)))⟩
          · omega
        · have p15 := df h8
          refine cw_skip ?_
          refine blkK_n ?_
          refine seqK_n ?_
          refine cw_region ?_
          refine ow1 (op1_l rfl (lo_move (v := .int _ _) rfl) ?_)
          refine ow1 (op1_l rfl (lo_add rfl rfl (rg_i64 (by omega))) ?_)
          refine ow1 (op1_l rfl (lo_assign (v := .int _ _) rfl) ?_)
          refine ow_nil ?_
          refine next5 f (k + 1) out v en (upd_intro (upd_intro (upd_intro (mask_intro (by first | exact off_refl | (repeat (first | exact off_mask | refine off_upd rfl ?_ | refine off_mask2 rfl ?_)))) rfl) rfl) rfl) (lupd_intro (lmask_intro (by first | exact offl_refl | (repeat (first | exact offl_mask | refine offl_upd rfl ?_ | refine offl_mask2 rfl ?_)))) rfl) hl5 ?_ ?_
          · exact ⟨by omega, by omega, hk3, noDot_step hk4 (byteNe (n := 46) (by omega) (by omega)), by omega, ho, hw⟩
          · omega
      · have p16 := df h6
        refine cw_exit ?_
        refine seqK_e ?_
        refine loopK_e ?_
        refine blkK_hit ?_
        refine seqK_n ?_
        refine cw_seq ?_
        refine cw_region ?_
        refine ow1 (op1_l rfl (lo_move rfl) ?_)
        refine ow1 (op1_l rfl (lo_move (v := str _) rfl) ?_)
        refine ow1 (op1_l rfl (lo_move (v := .int _ _) rfl) ?_)
        refine ow1 (op1_l rfl (lo_slice_str_lo f rfl rfl Tryd.underlying9 (by omega) (by omega)) ?_)
        refine ow1 (op1_bslice (cs := [_]) 1 rfl Tryd.underlying108 sz9 zx9 rfl ⟨rfl, rfl, trivial⟩ rfl rfl (by decide) (fun b17 => ?_))
        refine ow1 (op1_app 0 rfl rfl Tryd.underlying108 Tryd.underlying108 rfl sz9 by9 (by decide) zr9 ho (src_bx (i := 1) rfl rfl) (List.all_eq_true.1 rfl) rfl (by first | omega | (simp; omega)) rfl (fun v18 en19 ho20 => ?_))
        have ho21 := own_push (enc := (fun s => [str s])) out (s.drop f) ho20 rfl
        refine ow1 (op1_l rfl (lo_assign rfl) ?_)
        refine ow_nil ?_
        refine seqK_n ?_
        refine cw_giveO 0 rfl (fun _ hl22 hg23 => ?_)
        have hs24 := slh_own (enc := (fun s => [str s])) (wf := (fun s => s.length ≤ 9223372036854775807)) (fun _ => rfl) ho21 (wf_push hw (by show List.length (s.drop f) ≤ 9223372036854775807; first | omega | (simp; omega) | (simp; done))) hg23
        obtain ⟨⟨a25, c26, rfl, -⟩, -⟩ := id hs24
        refine cw_ret ?_
        refine fnK_r (res1 rfl (rv_t (v := .slice _ _ _) rfl)) (((HLe.refl _).trans hl5).trans hl22) ?_
        have hne : ¬ s = [] := fun q => by subst q; simp at *
        have e : wordsOf s = (out ++ [(s.drop f)]) := by unfold wordsOf; rw [if_neg hne]; exact split_end hk3 hk4 (by omega)
        rw [e]
        exact ⟨_, _, rfl, hs24⟩

end Go.SW
