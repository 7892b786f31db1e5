/-
  A part of the proof of DeedReads: The walks of this seat, printed by program: frame.Parse. The walks of this seat, printed by program: feed.Feed.Take. The walks of this seat, printed by program: feed.Feed.Rest, feed.Feed.Err, stairwelllaw01.awake, stairwelllaw01.Awake, stairwelllaw02.awake, stairwelllaw02.Awake, stairwelllaw07.awake, stairwelllaw07.Awake. The walks of this seat, printed by program: stairwelllaw08.awake, stairwelllaw08.Awake. The walks of this seat, printed by program: words.Matches, stairwelllaw04.awake, stairwelllaw04.Awake, stairwelllaw09.awake, stairwelllaw09.Awake, stairwelllaw12.awake, stairwelllaw12.Awake. The walks of this seat, printed by program: api.Pair], head.Same, stairwellref09.Same, reply.sameMail, reply.Same, stairwellref12.SameMail, stairwellref12.Same, stairwelllaw09.Light, stairwelllaw12.Light, stairwelllaw12.To, stairwelllaw12.ReplySame. The walks of this seat, printed by program: stairwellref01.In.Fail, stairwellref01.In.Raw, stairwellref01.In.Num, stairwellref01.In.Text, stairwellref01.In.End, stairwellref12.tellsN, stairwellref12.tellsM. The walks of this seat, printed by program: stairwellref04.Name, stairwellref04.Split. The walks of this seat, printed by program: stairwellref04.Key, stairwellref09.Pair, stairwellref09.Check, stairwellref12.Check, stairwellref01.Num, stairwellref01.Text, stairwellref09.Bytes.
-/
import Derived.Test.YtbcoemocijnooaaGreatDoorProg
import Derived.Test.YtbcoemocijnooaaGreatDoorDeedReadsP1
import Derived.KernelRfl
import Derived.Test.YtbcoemocijnooaaGreatDoorDeedReadsP2
set_option linter.unusedVariables false
set_option linter.unusedSimpArgs false
set_option linter.unusedVariables false
set_option maxRecDepth 100000
set_option maxHeartbeats 4000000
namespace Go.SW
open Go.Proofs
theorem cb107 : Callable Tryz.prog 107 := callable_of Tryz.func107 (by kernel_rfl) (by kernel_rfl)
theorem cb48 : Callable Tryz.prog 48 := callable_of Tryz.func48 (by kernel_rfl) (by kernel_rfl)
end Go.SW
set_option linter.unusedVariables false
set_option maxRecDepth 100000
set_option maxHeartbeats 4000000
namespace Go.SW
open Go.Proofs
end Go.SW
set_option linter.unusedVariables false
set_option maxRecDepth 100000
set_option maxHeartbeats 4000000
namespace Go.SW
open Go.Proofs
theorem cb162 : Callable Tryz.prog 162 := callable_of Tryz.func162 (by kernel_rfl) (by kernel_rfl)
theorem cb186 : Callable Tryz.prog 186 := callable_of Tryz.func186 (by kernel_rfl) (by kernel_rfl)
theorem l01_awake (H : Hp)  : Pr Tryz.prog 186 #[] H (.bool true) := by
  refine pr_cw Tryz.func186 rfl Tryz.ntmps186 rfl (fun N => ?_)
  refine cw_seq (cw_region (oab rfl rfl (ow_nil (seqK_n (cw_seq ?_)))))
  refine cw_region (ol rfl (lo_build (v := .agg #[_, _]) rfl (bd157)) ?_)
  refine ow1 (op1_pr (out_Num _ (⟨[], 0⟩ : Out) 258 (by omega) 2 (by omega) (by first | omega | (have := hrl (by assumption); omega) | (simp [outNum, outRaw, numB_len, numK] <;> omega) | (have := hrl (by assumption); simp [outNum, outRaw, numB_len, numK] <;> omega))) (en_f cb90 rfl) rfl ?_)
  have nl0 : (⟨[], 0⟩ : Out).s.length = 0 := rfl
  have := outNum_len (⟨[], 0⟩ : Out) 258 2
  refine ow1 (op1_pr (out_String _ (outNum (⟨[], 0⟩ : Out) 258 2)) (en_f cb91 rfl) rfl ?_)
  refine ol rfl (lo_seql rfl rfl) (omb rfl rfl ?_)
  refine ow1 (op1_g rfl (by decide +kernel) rfl (lo_build (v := .agg #[_, _]) rfl (bd157)) ?_)
  refine ow1 (op1_prg rfl (by decide +kernel) (out_Text _ (⟨[], 0⟩ : Out) [97, 98] (by first | omega | (have := hrl (by assumption); omega) | (simp [outNum, outRaw, numB_len, numK] <;> omega) | (have := hrl (by assumption); simp [outNum, outRaw, numB_len, numK] <;> omega))) (en_f cb87 rfl) rfl ?_)
  have nl0 : (⟨[], 0⟩ : Out).s.length = 0 := rfl
  have := outText_len (⟨[], 0⟩ : Out) [97, 98]
  refine ow1 (op1_prg rfl (by decide +kernel) (out_String _ (outText (⟨[], 0⟩ : Out) [97, 98])) (en_f cb91 rfl) rfl ?_)
  refine ow1 (op1_g rfl (by decide +kernel) rfl (lo_seql rfl rfl) ?_)
  refine ol rfl (lo_pick_t (v := .bool _) rfl (by decide +kernel) rfl) (omb rfl rfl ?_)
  refine ow1 (op1_png 0 rfl (by decide +kernel) (octet_New _ [1, 2]) (en_f cb48 rfl) rfl ?_)
  rintro _ _ b3 _ ⟨rfl, rfl, rfl⟩ _
  refine ow1 (op1_pmg 0 rfl (by decide +kernel) rfl (in_Num _ b3 (⟨[1, 2], 0⟩) 2 (by omega)) (en_f cb49 rfl) rfl ?_)
  rintro _ _ _ ⟨rfl, rfl, rfl⟩ _
  have := inNum_r (⟨[1, 2], 0⟩) 2
  refine ow1 (op1_g rfl (by decide +kernel) rfl (lo_eql rfl rfl) ?_)
  refine ol rfl (lo_pick_t (v := .bool _) rfl (by decide +kernel) rfl) (oab rfl rfl (ow_nil (seqK_n (cw_ret (fnK_r (res1 rfl (rv_t (v := .bool _) rfl)) (.refl _) ?_)))))
  exact congrArg Value.bool (by decide +kernel)
theorem l01_Awake (H : Hp)  : Pr Tryz.prog 162 #[] H (.bool true) := by
  refine pr_cw Tryz.func162 rfl Tryz.ntmps162 rfl (fun N => ?_)
  refine cw_seq (cw_region (oab rfl rfl (ow_nil (seqK_n (cw_seq ?_)))))
  refine cw_region ?_
  refine ow1 (op1_pr (l01_awake _ ) (en_f cb186 rfl) rfl ?_)
  refine oab rfl rfl (ow_nil (seqK_n (cw_ret (fnK_r (res1 rfl (rv_t (v := .bool _) rfl)) (.refl _) ?_))))
  rfl
end Go.SW
set_option linter.unusedVariables false
set_option maxRecDepth 100000
set_option maxHeartbeats 4000000
namespace Go.SW
open Go.Proofs
end Go.SW
set_option linter.unusedVariables false
set_option maxRecDepth 100000
set_option maxHeartbeats 4000000
namespace Go.SW
open Go.Proofs
theorem cb123 : Callable Tryz.prog 123 := callable_of Tryz.func123 (by kernel_rfl) (by kernel_rfl)
theorem cb151 : Callable Tryz.prog 151 := callable_of Tryz.func151 (by kernel_rfl) (by kernel_rfl)
theorem cb184 : Callable Tryz.prog 184 := callable_of Tryz.func184 (by kernel_rfl) (by kernel_rfl)
theorem cb188 : Callable Tryz.prog 188 := callable_of Tryz.func188 (by kernel_rfl) (by kernel_rfl)
theorem cb65 : Callable Tryz.prog 65 := callable_of Tryz.func65 (by kernel_rfl) (by kernel_rfl)
theorem words_Matches (H : Hp) (pattern : Bs) (key : Bs) (hML : GInt H 2) (hp : pattern.length < 4294967281) (hk : key.length < 4294967281) : Pr Tryz.prog 188 #[str pattern, str key] H (.bool (mt (wordsOf pattern) (wordsOf key))) := by
  refine pr_cw Tryz.func188 rfl Tryz.ntmps188 rfl (fun N => ?_)
  refine cw_seq (cw_region (oab rfl rfl (ow_nil (seqK_n (cw_seq ?_)))))
  refine cw_region (ol rfl (lo_move (v := str _) rfl) ?_)
  refine ow1 (op1_ph (words_Split _ pattern hML (by omega)) (en_f cb191 rfl) rfl ?_)
  rintro _ H5 ⟨a1, c2, rfl, hs3⟩ hl4
  refine ol rfl (lo_move (v := str _) rfl) ?_
  refine ow1 (op1_ph (words_Split _ key (hML.mono ((HLe.refl _).trans hl4)) (by omega)) (en_f cb191 rfl) rfl ?_)
  rintro _ H10 ⟨a6, c7, rfl, hs8⟩ hl9
  refine ol rfl (lo_assign (v := .slice _ _ _) rfl) (ol rfl (lo_assign (v := .slice _ _ _) rfl) (ow_nil (seqK_n (cw_seq (cw_region ?_)))))
  refine oai rfl rfl (oai rfl rfl (ow_nil (seqK_n (cw_seq (cw_region ?_)))))
  refine oai rfl rfl (oai rfl rfl (ow_nil (seqK_n (cw_seq (cw_block ?_)))))
  refine cw_loop4 [4, 7, 8, 9, 10, 15, 16, 17, 18, 19, 20, 21, 22, 23, 24, 25, 26, 27, 28, 29, 30, 31, 32, 33, 34, 35, 36, 37, 38, 39, 40, 41, 42, 43, 44, 45, 46, 47, 48, 49, 50, 51, 52, 53, 54, 55, 56, 57, 58, 59, 60, 61, 62, 63, 64, 65, 66, 67, 68] [] (fun (i : Nat) (j : Nat) (b : Int) (f : Nat) G => upd (upd (upd (upd (G) 7 (.int .i64 (i : Int))) 8 (.int .i64 (j : Int))) 9 (.int .i64 b)) 10 (.int .i64 (f : Int))) (fun (i : Nat) (j : Nat) (b : Int) (f : Nat) G => G) (fun (i : Nat) (j : Nat) (b : Int) (f : Nat) H' => MI (wordsOf pattern) (wordsOf key) i j b f) (fun (i : Nat) (j : Nat) (b : Int) (f : Nat) => mmu (wordsOf pattern) (wordsOf key) j b f) 0 0 (-1) 0 (upd_intro (upd_intro (upd_intro (upd_intro (mask_intro (by first | exact off_refl | (repeat (first | exact off_mask | refine off_upd rfl ?_ | refine off_mask2 rfl ?_)))) rfl) rfl) rfl) rfl) (lmask_intro offl_refl) ?_ ?_
  · exact MI.start _ _
  intro i j b f J12 JL12 H12 hp11 hl12
  have hmi := hp11
  have hwp := words_le pattern
  have hwk := words_le key
  have := hmi.hi
  have := hmi.hj
  have := hmi.hf
  have := hmi.hb
  have := hmi.hbi
  refine cw_seq (cw_seq (cw_region (omi rfl rfl (ol rfl (lo_move (v := .slice _ _ _) rfl) (ol rfl (lo_len_slh rfl (hs8.mono ((HLe.refl _).trans hl12) (fun _ _ h => h)) Tryz.underlying183) ?_)))))
  refine ol rfl (lo_lss rfl rfl) (ow_nil (seqK_n (cw_cond rfl (fun h13 => ?_) (fun h13 => ?_))))
  · have p14 := dt h13
    refine cw_skip (seqK_n (cw_block (cw_block (cw_seq (cw_region ?_)))))
    refine omi rfl rfl (ol rfl (lo_move (v := .slice _ _ _) rfl) (ol rfl (lo_len_slh rfl (hs3.mono (((HLe.refl _).trans hl9).trans hl12) (fun _ _ h => h)) Tryz.underlying183) (ol rfl (lo_lss rfl rfl) (omb rfl rfl (ow_sp (j := 4) rfl (fun h15 => ?_) (fun h15 => ?_))))))
    · have p16 := dt h15
      refine ow1 (op1_g rfl h15 rfl (lo_move (v := .slice _ _ _) rfl) ?_)
      refine ow1 (op1_g rfl h15 rfl (lo_move (v := .int _ _) rfl) ?_)
      obtain ⟨c17, hc18⟩ := getE (xs := wordsOf pattern) (m := i) (by omega)
      obtain ⟨cs19, hE20, at21⟩ := (hs3.mono (((HLe.refl _).trans hl9).trans hl12) (fun _ _ h => h)).get hc18
      obtain ⟨rfl, c17_w⟩ := hE20
      have c17_w : c17.length ≤ 9223372036854775807 := c17_w
      refine ow1 (op1_g rfl h15 rfl (lo_indexAddr rfl rfl (hs3.mono (((HLe.refl _).trans hl9).trans hl12) (fun _ _ h => h)).1 at21 Tryz.underlying183 sz9 (by omega) (by omega)) ?_)
      refine ow1 (op1_g rfl h15 rfl (lo_loadE1 rfl ag9 at21) ?_)
      refine ow1 (op1_g rfl h15 rfl (lo_seql rfl rfl) ?_)
      refine ol rfl (lo_pick_t (v := .bool _) rfl h15 rfl) (oab rfl rfl (ow_nil (seqK_n (cw_cond rfl (fun h22 => ?_) (fun h22 => ?_)))))
      · have p23 := dt h22
        refine cw_seq (cw_region (omi rfl rfl (ol rfl (lo_add rfl rfl (rg_i64 (by omega))) (oai rfl rfl (ow_nil ?_)))))
        refine seqK_n (cw_region (omi rfl rfl (omi rfl rfl (oai rfl rfl (oai rfl rfl ?_)))))
        refine ow_nil (blkK_n (blkK_n ?_))
        obtain ⟨c24, hc25⟩ := getE (xs := wordsOf key) (m := j) (by omega)
        refine next4 (i + 1) j ((i : Int) + 1) j (upd_intro (upd_intro (upd_intro (upd_intro (mask_intro (by first | exact off_refl | (repeat (first | exact off_mask | refine off_upd rfl ?_ | refine off_mask2 rfl ?_)))) (congrArg (Value.int .i64) (by omega))) rfl) rfl) rfl) (lmask_intro (by first | exact offl_refl | (repeat (first | exact offl_mask | refine offl_upd rfl ?_ | refine offl_mask2 rfl ?_)))) hl12 ?_ ?_
        · exact MI.hash hmi (by rw [hc18]; simp [*])
        exact mmu_hash hmi (by omega)
      have p26 := df h22
      refine cw_seq (cw_anyL mixd (vw_q 0 rfl (by kernel_rfl) (by repeat (first | exact lle_l0 | exact LLe.refl _ | exact lle_none | refine lle_up ?_ rfl)) (fun _ _ hh hl => lo_move (v := .int _ _) rfl) ?_))
      refine vw_q 1 rfl (by kernel_rfl) (by repeat (first | exact lle_l0 | exact LLe.refl _ | exact lle_none | refine lle_up ?_ rfl)) (fun _ _ hh hl => lo_move (v := .slice _ _ _) rfl) ?_
      refine vw_q 2 rfl (by kernel_rfl) (by repeat (first | exact lle_l0 | exact LLe.refl _ | exact lle_none | refine lle_up ?_ rfl)) (fun _ _ hh hl => lo_len_slh rfl (hs3.mono ((((HLe.refl _).trans hl9).trans hl12).trans hh) (fun _ _ h => h)) Tryz.underlying183) ?_
      refine vw_q 3 rfl (by kernel_rfl) (by repeat (first | exact lle_l0 | exact LLe.refl _ | exact lle_none | refine lle_up ?_ rfl)) (fun _ _ hh hl => lo_lss rfl rfl) ?_
      refine vw_q 4 rfl (by kernel_rfl) (by repeat (first | exact lle_l0 | exact LLe.refl _ | exact lle_none | refine lle_up ?_ rfl)) (fun _ _ hh hl => lo_move (v := .bool _) rfl) ?_
      refine vw_qg 5 rfl (by kernel_rfl) (by repeat (first | exact lle_l0 | exact LLe.refl _ | exact lle_none | refine lle_up ?_ rfl)) rfl h15 (fun _ _ hh hl => lo_move (v := .slice _ _ _) rfl) ?_
      refine vw_qg 6 rfl (by kernel_rfl) (by repeat (first | exact lle_l0 | exact LLe.refl _ | exact lle_none | refine lle_up ?_ rfl)) rfl h15 (fun _ _ hh hl => lo_move (v := .int _ _) rfl) ?_
      refine vw_qg 7 rfl (by kernel_rfl) (by repeat (first | exact lle_l0 | exact LLe.refl _ | exact lle_none | refine lle_up ?_ rfl)) rfl h15 (fun _ _ hh hl => lo_indexAddr rfl rfl (hs3.mono ((((HLe.refl _).trans hl9).trans hl12).trans hh) (fun _ _ h => h)).1 (at21.mono hh) Tryz.underlying183 sz9 (by omega) (by omega)) ?_
      refine vw_qg 8 rfl (by kernel_rfl) (by repeat (first | exact lle_l0 | exact LLe.refl _ | exact lle_none | refine lle_up ?_ rfl)) rfl h15 (fun _ _ hh hl => lo_loadE1 rfl ag9 (at21.mono hh)) ?_
      refine vw_qg 9 rfl (by kernel_rfl) (by repeat (first | exact lle_l0 | exact LLe.refl _ | exact lle_none | refine lle_up ?_ rfl)) rfl h15 (fun _ _ hh hl => lo_seql rfl rfl) ?_
      refine vw_qg 10 rfl (by kernel_rfl) (by repeat (first | exact lle_l0 | exact LLe.refl _ | exact lle_none | refine lle_up ?_ rfl)) rfl h15 (fun _ _ hh hl => lo_move (v := .bool _) rfl) ?_
      refine vw_sp (j := 10) rfl (fun h27 => ?_) (fun h27 => ?_)
      · have p28 := dt h27
        refine vw_qgs 11 rfl (by kernel_rfl) (by repeat (first | exact lle_l0 | exact LLe.refl _ | exact lle_none | refine lle_up ?_ rfl)) rfl h27 ?_
        refine vw_qgs 12 rfl (by kernel_rfl) (by repeat (first | exact lle_l0 | exact LLe.refl _ | exact lle_none | refine lle_up ?_ rfl)) rfl h27 ?_
        refine vw_qgs 13 rfl (by kernel_rfl) (by repeat (first | exact lle_l0 | exact LLe.refl _ | exact lle_none | refine lle_up ?_ rfl)) rfl h27 ?_
        refine vw_qgs 14 rfl (by kernel_rfl) (by repeat (first | exact lle_l0 | exact LLe.refl _ | exact lle_none | refine lle_up ?_ rfl)) rfl h27 ?_
        refine vw_qgs 15 rfl (by kernel_rfl) (by repeat (first | exact lle_l0 | exact LLe.refl _ | exact lle_none | refine lle_up ?_ rfl)) rfl h27 ?_
        refine vw_qgs 16 rfl (by kernel_rfl) (by repeat (first | exact lle_l0 | exact LLe.refl _ | exact lle_none | refine lle_up ?_ rfl)) rfl h27 ?_
        refine vw_qgs 17 rfl (by kernel_rfl) (by repeat (first | exact lle_l0 | exact LLe.refl _ | exact lle_none | refine lle_up ?_ rfl)) rfl h27 ?_
        refine vw_qgs 18 rfl (by kernel_rfl) (by repeat (first | exact lle_l0 | exact LLe.refl _ | exact lle_none | refine lle_up ?_ rfl)) rfl h27 ?_
        refine vw_qgs 19 rfl (by kernel_rfl) (by repeat (first | exact lle_l0 | exact LLe.refl _ | exact lle_none | refine lle_up ?_ rfl)) rfl h27 ?_
        refine vw_qg 20 rfl (by kernel_rfl) (by repeat (first | exact lle_l0 | exact LLe.refl _ | exact lle_none | refine lle_up ?_ rfl)) rfl h15 (fun _ _ hh hl => lo_pick_t (v := .bool _) rfl h27 rfl) ?_
        refine vw_q 21 rfl (by kernel_rfl) (by repeat (first | exact lle_l0 | exact LLe.refl _ | exact lle_none | refine lle_up ?_ rfl)) (fun _ _ hh hl => lo_pick_t (v := .bool _) rfl h15 rfl) ?_
        refine vw_q 22 rfl (by kernel_rfl) (by repeat (first | exact lle_l0 | exact LLe.refl _ | exact lle_none | refine lle_up ?_ rfl)) (fun _ _ hh hl => lo_assign (v := .bool _) rfl) ?_
        refine vw_done (by kernel_rfl) (seqK_n (cw_cond_t rfl rfl (cw_region (omi rfl rfl (ol rfl (lo_add rfl rfl (rg_i64 (by omega))) ?_)))))
        refine omi rfl rfl (ol rfl (lo_add rfl rfl (rg_i64 (by omega))) (oai rfl rfl (oai rfl rfl (ow_nil (blkK_n ?_)))))
        refine blkK_n ?_
        obtain ⟨c29, hc30⟩ := getE (xs := wordsOf key) (m := j) (by omega)
        refine next4 (i + 1) (j + 1) b f (upd_intro (upd_intro (upd_intro (upd_intro (mask_intro (by first | exact off_refl | (repeat (first | exact off_mask | refine off_upd rfl ?_ | refine off_mask2 rfl ?_)))) (congrArg (Value.int .i64) (by omega))) rfl) rfl) rfl) (lmask_intro (by first | exact offl_refl | (repeat (first | exact offl_mask | refine offl_upd rfl ?_ | refine offl_mask2 rfl ?_)))) hl12 ?_ ?_
        · exact MI.step hmi hc18 hc30 (by assumption) (by first | exact .inl (by assumption) | exact .inr (by assumption))
        exact mmu_step (by omega)
      have p31 := df h27
      refine vw_qg 11 rfl (by kernel_rfl) (by repeat (first | exact lle_l0 | exact LLe.refl _ | exact lle_none | refine lle_up ?_ rfl)) rfl h27 (fun _ _ hh hl => lo_move (v := .slice _ _ _) rfl) ?_
      refine vw_qg 12 rfl (by kernel_rfl) (by repeat (first | exact lle_l0 | exact LLe.refl _ | exact lle_none | refine lle_up ?_ rfl)) rfl h27 (fun _ _ hh hl => lo_move (v := .int _ _) rfl) ?_
      refine vw_qg 13 rfl (by kernel_rfl) (by repeat (first | exact lle_l0 | exact LLe.refl _ | exact lle_none | refine lle_up ?_ rfl)) rfl h27 (fun _ _ hh hl => lo_indexAddr rfl rfl (hs3.mono ((((HLe.refl _).trans hl9).trans hl12).trans hh) (fun _ _ h => h)).1 (at21.mono hh) Tryz.underlying183 sz9 (by omega) (by omega)) ?_
      refine vw_qg 14 rfl (by kernel_rfl) (by repeat (first | exact lle_l0 | exact LLe.refl _ | exact lle_none | refine lle_up ?_ rfl)) rfl h27 (fun _ _ hh hl => lo_loadE1 rfl ag9 (at21.mono hh)) ?_
      refine vw_qg 15 rfl (by kernel_rfl) (by repeat (first | exact lle_l0 | exact LLe.refl _ | exact lle_none | refine lle_up ?_ rfl)) rfl h27 (fun _ _ hh hl => lo_move (v := .slice _ _ _) rfl) ?_
      refine vw_qg 16 rfl (by kernel_rfl) (by repeat (first | exact lle_l0 | exact LLe.refl _ | exact lle_none | refine lle_up ?_ rfl)) rfl h27 (fun _ _ hh hl => lo_move (v := .int _ _) rfl) ?_
      obtain ⟨c32, hc33⟩ := getE (xs := wordsOf key) (m := j) (by omega)
      obtain ⟨cs34, hE35, at36⟩ := (hs8.mono ((HLe.refl _).trans hl12) (fun _ _ h => h)).get hc33
      obtain ⟨rfl, c32_w⟩ := hE35
      have c32_w : c32.length ≤ 9223372036854775807 := c32_w
      refine vw_qg 17 rfl (by kernel_rfl) (by repeat (first | exact lle_l0 | exact LLe.refl _ | exact lle_none | refine lle_up ?_ rfl)) rfl h27 (fun _ _ hh hl => lo_indexAddr rfl rfl (hs8.mono (((HLe.refl _).trans hl12).trans hh) (fun _ _ h => h)).1 (at36.mono hh) Tryz.underlying183 sz9 (by omega) (by omega)) ?_
      refine vw_qg 18 rfl (by kernel_rfl) (by repeat (first | exact lle_l0 | exact LLe.refl _ | exact lle_none | refine lle_up ?_ rfl)) rfl h27 (fun _ _ hh hl => lo_loadE1 rfl ag9 (at36.mono hh)) ?_
      refine vw_qg 19 rfl (by kernel_rfl) (by repeat (first | exact lle_l0 | exact LLe.refl _ | exact lle_none | refine lle_up ?_ rfl)) rfl h27 (fun _ _ hh hl => lo_seql rfl rfl) ?_
      refine vw_qg 20 rfl (by kernel_rfl) (by repeat (first | exact lle_l0 | exact LLe.refl _ | exact lle_none | refine lle_up ?_ rfl)) rfl h15 (fun _ _ hh hl => lo_pick_f (v := .bool _) rfl h27 rfl) ?_
      refine vw_q 21 rfl (by kernel_rfl) (by repeat (first | exact lle_l0 | exact LLe.refl _ | exact lle_none | refine lle_up ?_ rfl)) (fun _ _ hh hl => lo_pick_t (v := .bool _) rfl h15 rfl) ?_
      refine vw_q 22 rfl (by kernel_rfl) (by repeat (first | exact lle_l0 | exact LLe.refl _ | exact lle_none | refine lle_up ?_ rfl)) (fun _ _ hh hl => lo_assign (v := .bool _) rfl) ?_
      refine vw_done (by kernel_rfl) (seqK_n (cw_cond rfl (fun h37 => ?_) (fun h37 => ?_)))
      · have p38 := dt h37
        refine cw_region (omi rfl rfl (ol rfl (lo_add rfl rfl (rg_i64 (by omega))) (omi rfl rfl (ol rfl (lo_add rfl rfl (rg_i64 (by omega))) (oai rfl rfl ?_)))))
        refine oai rfl rfl (ow_nil (blkK_n (blkK_n ?_)))
        refine next4 (i + 1) (j + 1) b f (upd_intro (upd_intro (upd_intro (upd_intro (mask_intro (by first | exact off_refl | (repeat (first | exact off_mask | refine off_upd rfl ?_ | refine off_mask2 rfl ?_)))) (congrArg (Value.int .i64) (by omega))) rfl) rfl) rfl) (lmask_intro (by first | exact offl_refl | (repeat (first | exact offl_mask | refine offl_upd rfl ?_ | refine offl_mask2 rfl ?_)))) hl12 ?_ ?_
        · exact MI.step hmi hc18 hc33 (by assumption) (by first | exact .inl (by assumption) | exact .inr (by assumption))
        exact mmu_step (by omega)
      have p39 := df h37
      refine cw_seq (cw_region (omi rfl rfl (ol rfl (lo_geq rfl rfl) (oab rfl rfl (ow_nil ?_)))))
      refine seqK_n (cw_cond rfl (fun h40 => ?_) (fun h40 => ?_))
      · have p41 := dt h40
        refine cw_seq (cw_region (omi rfl rfl (ol rfl (lo_add rfl rfl (rg_i64 (by omega))) (oai rfl rfl (ow_nil ?_)))))
        refine seqK_n (cw_region (omi rfl rfl (omi rfl rfl (oai rfl rfl (oai rfl rfl ?_)))))
        refine ow_nil (blkK_n (blkK_n ?_))
        have hbad : ∀ w, (wordsOf pattern)[i]? = some w → w ≠ [35] ∧ w ≠ [42] ∧ w ≠ c32 := by
          intro w hw
          rw [hc18] at hw; cases hw
          exact ⟨by assumption, by assumption, by assumption⟩
        refine next4 b.toNat (f + 1) b (f + 1) (upd_intro (upd_intro (upd_intro (upd_intro (mask_intro (by first | exact off_refl | (repeat (first | exact off_mask | refine off_upd rfl ?_ | refine off_mask2 rfl ?_)))) (congrArg (Value.int .i64) (by omega))) rfl) rfl) rfl) (lmask_intro (by first | exact offl_refl | (repeat (first | exact offl_mask | refine offl_upd rfl ?_ | refine offl_mask2 rfl ?_)))) hl12 ?_ ?_
        · exact MI.back hmi hc33 (by omega) hbad
        exact mmu_back hmi.hf (by omega)
      have p42 := df h40
      refine cw_seq (cw_region (oab rfl rfl (ow_nil (seqK_n (cw_ret ?_)))))
      refine blkK_r (blkK_r (loopK_r (blkK_r (seqK_r (fnK_r (res1 rfl (rv_t (v := .bool _) rfl)) ((((HLe.refl _).trans hl4).trans hl9).trans hl12) ?_)))))
      have hbad : ∀ w, (wordsOf pattern)[i]? = some w → w ≠ [35] ∧ w ≠ [42] ∧ w ≠ c32 := by
        intro w hw
        rw [hc18] at hw; cases hw
        exact ⟨by assumption, by assumption, by assumption⟩
      exact congrArg Value.bool (MI.none hmi hc33 (by omega) hbad).symm
    have p43 := df h15
    refine og rfl h15 rfl (og rfl h15 rfl (og rfl h15 rfl (og rfl h15 rfl (og rfl h15 rfl (ol rfl (lo_pick_f (v := .bool _) rfl h15 rfl) ?_)))))
    refine oab rfl rfl (ow_nil (seqK_n (cw_cond_f rfl rfl (cw_seq (cw_anyL mixd ?_)))))
    refine vw_q 0 rfl (by kernel_rfl) (by repeat (first | exact lle_l0 | exact LLe.refl _ | exact lle_none | refine lle_up ?_ rfl)) (fun _ _ hh hl => lo_move (v := .int _ _) rfl) ?_
    refine vw_q 1 rfl (by kernel_rfl) (by repeat (first | exact lle_l0 | exact LLe.refl _ | exact lle_none | refine lle_up ?_ rfl)) (fun _ _ hh hl => lo_move (v := .slice _ _ _) rfl) ?_
    refine vw_q 2 rfl (by kernel_rfl) (by repeat (first | exact lle_l0 | exact LLe.refl _ | exact lle_none | refine lle_up ?_ rfl)) (fun _ _ hh hl => lo_len_slh rfl (hs3.mono ((((HLe.refl _).trans hl9).trans hl12).trans hh) (fun _ _ h => h)) Tryz.underlying183) ?_
    refine vw_q 3 rfl (by kernel_rfl) (by repeat (first | exact lle_l0 | exact LLe.refl _ | exact lle_none | refine lle_up ?_ rfl)) (fun _ _ hh hl => lo_lss rfl rfl) ?_
    refine vw_q 4 rfl (by kernel_rfl) (by repeat (first | exact lle_l0 | exact LLe.refl _ | exact lle_none | refine lle_up ?_ rfl)) (fun _ _ hh hl => lo_move (v := .bool _) rfl) ?_
    refine vw_qgs 5 rfl (by kernel_rfl) (by repeat (first | exact lle_l0 | exact LLe.refl _ | exact lle_none | refine lle_up ?_ rfl)) rfl h15 ?_
    refine vw_qgs 6 rfl (by kernel_rfl) (by repeat (first | exact lle_l0 | exact LLe.refl _ | exact lle_none | refine lle_up ?_ rfl)) rfl h15 ?_
    refine vw_qgs 7 rfl (by kernel_rfl) (by repeat (first | exact lle_l0 | exact LLe.refl _ | exact lle_none | refine lle_up ?_ rfl)) rfl h15 ?_
    refine vw_qgs 8 rfl (by kernel_rfl) (by repeat (first | exact lle_l0 | exact LLe.refl _ | exact lle_none | refine lle_up ?_ rfl)) rfl h15 ?_
    refine vw_qgs 9 rfl (by kernel_rfl) (by repeat (first | exact lle_l0 | exact LLe.refl _ | exact lle_none | refine lle_up ?_ rfl)) rfl h15 ?_
    refine vw_qgs 10 rfl (by kernel_rfl) (by repeat (first | exact lle_l0 | exact LLe.refl _ | exact lle_none | refine lle_up ?_ rfl)) rfl h15 ?_
    refine vw_qgx (j := 10) 11 rfl (by kernel_rfl) (by repeat (first | exact lle_l0 | exact LLe.refl _ | exact lle_none | refine lle_up ?_ rfl)) rfl ?_
    refine vw_qgx (j := 10) 12 rfl (by kernel_rfl) (by repeat (first | exact lle_l0 | exact LLe.refl _ | exact lle_none | refine lle_up ?_ rfl)) rfl ?_
    refine vw_qgx (j := 10) 13 rfl (by kernel_rfl) (by repeat (first | exact lle_l0 | exact LLe.refl _ | exact lle_none | refine lle_up ?_ rfl)) rfl ?_
    refine vw_qgx (j := 10) 14 rfl (by kernel_rfl) (by repeat (first | exact lle_l0 | exact LLe.refl _ | exact lle_none | refine lle_up ?_ rfl)) rfl ?_
    refine vw_qgx (j := 10) 15 rfl (by kernel_rfl) (by repeat (first | exact lle_l0 | exact LLe.refl _ | exact lle_none | refine lle_up ?_ rfl)) rfl ?_
    refine vw_qgx (j := 10) 16 rfl (by kernel_rfl) (by repeat (first | exact lle_l0 | exact LLe.refl _ | exact lle_none | refine lle_up ?_ rfl)) rfl ?_
    refine vw_qgx (j := 10) 17 rfl (by kernel_rfl) (by repeat (first | exact lle_l0 | exact LLe.refl _ | exact lle_none | refine lle_up ?_ rfl)) rfl ?_
    refine vw_qgx (j := 10) 18 rfl (by kernel_rfl) (by repeat (first | exact lle_l0 | exact LLe.refl _ | exact lle_none | refine lle_up ?_ rfl)) rfl ?_
    refine vw_qgx (j := 10) 19 rfl (by kernel_rfl) (by repeat (first | exact lle_l0 | exact LLe.refl _ | exact lle_none | refine lle_up ?_ rfl)) rfl ?_
    refine vw_qgs 20 rfl (by kernel_rfl) (by repeat (first | exact lle_l0 | exact LLe.refl _ | exact lle_none | refine lle_up ?_ rfl)) rfl h15 ?_
    refine vw_q 21 rfl (by kernel_rfl) (by repeat (first | exact lle_l0 | exact LLe.refl _ | exact lle_none | refine lle_up ?_ rfl)) (fun _ _ hh hl => lo_pick_f (v := .bool _) rfl h15 rfl) ?_
    refine vw_q 22 rfl (by kernel_rfl) (by repeat (first | exact lle_l0 | exact LLe.refl _ | exact lle_none | refine lle_up ?_ rfl)) (fun _ _ hh hl => lo_assign (v := .bool _) rfl) ?_
    refine vw_done (by kernel_rfl) (seqK_n (cw_cond_f rfl rfl (cw_seq (cw_region (omi rfl rfl ?_)))))
    refine ol rfl (lo_geq rfl rfl) (oab rfl rfl (ow_nil (seqK_n (cw_cond rfl (fun h44 => ?_) (fun h44 => ?_)))))
    · have p45 := dt h44
      refine cw_seq (cw_region (omi rfl rfl (ol rfl (lo_add rfl rfl (rg_i64 (by omega))) (oai rfl rfl (ow_nil ?_)))))
      refine seqK_n (cw_region (omi rfl rfl (omi rfl rfl (oai rfl rfl (oai rfl rfl ?_)))))
      refine ow_nil (blkK_n (blkK_n ?_))
      obtain ⟨c46, hc47⟩ := getE (xs := wordsOf key) (m := j) (by omega)
      have hbad : ∀ w, (wordsOf pattern)[i]? = some w → w ≠ [35] ∧ w ≠ [42] ∧ w ≠ c46 := by
        intro w hw
        rw [List.getElem?_eq_none (by omega)] at hw; cases hw
      refine next4 b.toNat (f + 1) b (f + 1) (upd_intro (upd_intro (upd_intro (upd_intro (mask_intro (by first | exact off_refl | (repeat (first | exact off_mask | refine off_upd rfl ?_ | refine off_mask2 rfl ?_)))) (congrArg (Value.int .i64) (by omega))) rfl) rfl) rfl) (lmask_intro (by first | exact offl_refl | (repeat (first | exact offl_mask | refine offl_upd rfl ?_ | refine offl_mask2 rfl ?_)))) hl12 ?_ ?_
      · exact MI.back hmi hc47 (by omega) hbad
      exact mmu_back hmi.hf (by omega)
    have p48 := df h44
    refine cw_seq (cw_region (oab rfl rfl (ow_nil (seqK_n (cw_ret ?_)))))
    refine blkK_r (blkK_r (loopK_r (blkK_r (seqK_r (fnK_r (res1 rfl (rv_t (v := .bool _) rfl)) ((((HLe.refl _).trans hl4).trans hl9).trans hl12) ?_)))))
    obtain ⟨cz, hcz⟩ := getE (xs := wordsOf key) (m := j) (by omega)
    have hbad : ∀ w, (wordsOf pattern)[i]? = some w → w ≠ [35] ∧ w ≠ [42] ∧ w ≠ cz := by
      intro w hw
      rw [List.getElem?_eq_none (by omega)] at hw; cases hw
    exact congrArg Value.bool (MI.none hmi hcz (by omega) hbad).symm
  have p49 := df h13
  refine cw_exit (seqK_e (loopK_e (blkK_hit (seqK_n (cw_seq ?_)))))
  refine cw_block (cw_loop1 [7, 69, 70, 71, 72, 73, 74, 75, 76, 77, 78, 79, 80, 81] [] (fun (q : Nat) G => upd (G) 7 (.int .i64 (q : Int))) (fun (q : Nat) G => G) (fun (q : Nat) H' => q ≤ (wordsOf pattern).length ∧ mt (wordsOf pattern) (wordsOf key) = mt ((wordsOf pattern).drop q) []) (fun (q : Nat) => (wordsOf pattern).length - q) i (upd_intro (mask_intro (by first | exact off_refl | (repeat (first | exact off_mask | refine off_upd rfl ?_ | refine off_mask2 rfl ?_)))) rfl) (lmask_intro offl_refl) ?_ ?_)
  · exact ⟨by omega, hmi.fin (by omega)⟩
  intro q J51 JL51 H51 hp50 hl51
  obtain ⟨hq1, hq2⟩ := hp50
  refine cw_seq (cw_seq (cw_region (omi rfl rfl (ol rfl (lo_move (v := .slice _ _ _) rfl) (ol rfl (lo_len_slh rfl (hs3.mono ((((HLe.refl _).trans hl9).trans hl12).trans hl51) (fun _ _ h => h)) Tryz.underlying183) ?_)))))
  refine ol rfl (lo_lss rfl rfl) (omb rfl rfl (ow_sp (j := 4) rfl (fun h52 => ?_) (fun h52 => ?_)))
  · have p53 := dt h52
    refine ow1 (op1_g rfl h52 rfl (lo_move (v := .slice _ _ _) rfl) ?_)
    refine ow1 (op1_g rfl h52 rfl (lo_move (v := .int _ _) rfl) ?_)
    obtain ⟨c54, hc55⟩ := getE (xs := wordsOf pattern) (m := q) (by omega)
    obtain ⟨cs56, hE57, at58⟩ := (hs3.mono ((((HLe.refl _).trans hl9).trans hl12).trans hl51) (fun _ _ h => h)).get hc55
    obtain ⟨rfl, c54_w⟩ := hE57
    have c54_w : c54.length ≤ 9223372036854775807 := c54_w
    refine ow1 (op1_g rfl h52 rfl (lo_indexAddr rfl rfl (hs3.mono ((((HLe.refl _).trans hl9).trans hl12).trans hl51) (fun _ _ h => h)).1 at58 Tryz.underlying183 sz9 (by omega) (by omega)) ?_)
    refine ow1 (op1_g rfl h52 rfl (lo_loadE1 rfl ag9 at58) ?_)
    refine ow1 (op1_g rfl h52 rfl (lo_seql rfl rfl) ?_)
    refine ol rfl (lo_pick_t (v := .bool _) rfl h52 rfl) (ow_nil (seqK_n (cw_cond rfl (fun h59 => ?_) (fun h59 => ?_))))
    · have p60 := dt h59
      refine cw_skip (seqK_n (cw_block (cw_region (omi rfl rfl (ol rfl (lo_add rfl rfl (rg_i64 (by omega))) ?_)))))
      refine oai rfl rfl (ow_nil (blkK_n ?_))
      refine next1 (q + 1) (upd_intro (mask_intro (by first | exact off_refl | (repeat (first | exact off_mask | refine off_upd rfl ?_ | refine off_mask2 rfl ?_)))) rfl) (lmask_intro (by first | exact offl_refl | (repeat (first | exact offl_mask | refine offl_upd rfl ?_ | refine offl_mask2 rfl ?_)))) hl51 ?_ ?_
      · exact ⟨by omega, mt_end hq2 (by rw [hc55]; simp [*])⟩
      omega
    have p61 := df h59
    refine cw_exit (seqK_e (loopK_e (blkK_hit (seqK_n (cw_seq ?_)))))
    refine cw_region (omi rfl rfl (ol rfl (lo_move (v := .slice _ _ _) rfl) (ol rfl (lo_len_slh rfl (hs3.mono ((((HLe.refl _).trans hl9).trans hl12).trans hl51) (fun _ _ h => h)) Tryz.underlying183) (ol rfl (lo_eql rfl rfl) (oab rfl rfl ?_)))))
    refine ow_nil (seqK_n (cw_ret (fnK_r (res1 rfl (rv_t (v := .bool _) rfl)) (((((HLe.refl _).trans hl4).trans hl9).trans hl12).trans hl51) (congrArg Value.bool ?_))))
    rw [hq2]
    rw [mt_endN hc55 (by assumption)]
    rw [decide_eq_false_iff_not]; omega
  have p62 := df h52
  refine og rfl h52 rfl (og rfl h52 rfl (og rfl h52 rfl (og rfl h52 rfl (og rfl h52 rfl (ol rfl (lo_pick_f (v := .bool _) rfl h52 rfl) ?_)))))
  refine ow_nil (seqK_n (cw_cond_f rfl rfl (cw_exit (seqK_e (loopK_e ?_)))))
  refine blkK_hit (seqK_n (cw_seq (cw_region (omi rfl rfl (ol rfl (lo_move (v := .slice _ _ _) rfl) ?_)))))
  refine ol rfl (lo_len_slh rfl (hs3.mono ((((HLe.refl _).trans hl9).trans hl12).trans hl51) (fun _ _ h => h)) Tryz.underlying183) (ol rfl (lo_eql rfl rfl) (oab rfl rfl (ow_nil (seqK_n (cw_ret ?_)))))
  refine fnK_r (res1 rfl (rv_t (v := .bool _) rfl)) (((((HLe.refl _).trans hl4).trans hl9).trans hl12).trans hl51) (congrArg Value.bool ?_)
  rw [hq2]
  have hqe : q = (wordsOf pattern).length := by omega
  subst hqe
  rw [List.drop_length]; simp [mt]
theorem l04_awake (H : Hp)  (hML : GInt H 2) : Pr Tryz.prog 184 #[] H (.bool true) := by
  refine pr_cw Tryz.func184 rfl Tryz.ntmps184 rfl (fun N => ?_)
  refine cw_seq (cw_region (oab rfl rfl (ow_nil (seqK_n (cw_seq ?_)))))
  refine cw_region ?_
  refine ow1 (op1_pr (words_Matches _ [97, 46, 42, 46, 35] [97, 46, 98] hML (by first | omega | (simp; done) | decide) (by first | omega | (simp; done) | decide)) (en_f cb188 rfl) rfl ?_)
  refine omb rfl rfl ?_
  refine ow1 (op1_prg rfl (by decide +kernel) (words_Matches _ [97, 46, 42, 46, 35] [97, 46, 98, 46, 99, 46, 100] hML (by first | omega | (simp; done) | decide) (by first | omega | (simp; done) | decide)) (en_f cb188 rfl) rfl ?_)
  refine ol rfl (lo_pick_t (v := .bool _) rfl (by decide +kernel) rfl) (omb rfl rfl ?_)
  refine ow1 (op1_prg rfl (by decide +kernel) (words_Matches _ [97, 46, 42, 46, 35] [97] hML (by first | omega | (simp; done) | decide) (by first | omega | (simp; done) | decide)) (en_f cb188 rfl) rfl ?_)
  refine ow1 (op1_g rfl (by decide +kernel) rfl (lo_not rfl) ?_)
  refine ol rfl (lo_pick_t (v := .bool _) rfl (by decide +kernel) rfl) (omb rfl rfl ?_)
  refine ow1 (op1_prg rfl (by decide +kernel) (words_Name _ [97, 45, 49] (by first | omega | decide | (simp; done))) (en_f cb131 rfl) rfl ?_)
  refine ow1 (op1_g rfl (by decide +kernel) rfl (lo_eql rfl rfl) ?_)
  refine ol rfl (lo_pick_t (v := .bool _) rfl (by decide +kernel) rfl) (oab rfl rfl (ow_nil (seqK_n (cw_ret (fnK_r (res1 rfl (rv_t (v := .bool _) rfl)) (.refl _) ?_)))))
  exact congrArg Value.bool (by decide +kernel)
theorem l04_Awake (H : Hp)  (hML : GInt H 2) : Pr Tryz.prog 151 #[] H (.bool true) := by
  refine pr_cw Tryz.func151 rfl Tryz.ntmps151 rfl (fun N => ?_)
  refine cw_seq (cw_region (oab rfl rfl (ow_nil (seqK_n (cw_seq ?_)))))
  refine cw_region ?_
  refine ow1 (op1_pr (l04_awake _ hML) (en_f cb184 rfl) rfl ?_)
  refine oab rfl rfl (ow_nil (seqK_n (cw_ret (fnK_r (res1 rfl (rv_t (v := .bool _) rfl)) (.refl _) ?_))))
  rfl
theorem l09_awake (H : Hp)  (hML : GInt H 2) : Pr Tryz.prog 123 #[] H (.bool true) := by
  refine pr_cw Tryz.func123 rfl Tryz.ntmps123 rfl (fun N => ?_)
  refine cw_seq (cw_region (oab rfl rfl (ow_nil (seqK_n (cw_seq ?_)))))
  refine cw_region ?_
  refine ow1 (op1_pr (head_Bytes _ none 0 0 [] slh_nil (by first | omega | (simp <;> omega))) (en_f cb88 rfl) rfl ?_)
  have := headBytes_len []
  refine ol rfl (lo_move (v := .tuple #[_, _]) rfl) (ol rfl (lo_extract (v := str _) rfl rfl) (ol rfl (lo_extract (v := .int _ _) rfl rfl) (ol rfl (lo_assign (v := str _) rfl) (oai rfl rfl (ow_nil ?_)))))
  refine seqK_n (cw_seq (cw_region ?_))
  refine ow1 (op1_pr (l01_Awake _ ) (en_f cb162 rfl) rfl ?_)
  refine omb rfl rfl ?_
  refine ow1 (op1_prg rfl rfl (l04_Awake _ hML) (en_f cb151 rfl) rfl ?_)
  refine ol rfl (lo_pick_t (v := .bool _) rfl rfl rfl) (omb rfl rfl ?_)
  refine ow1 (op1_g rfl rfl rfl (lo_move (v := .int _ _) rfl) ?_)
  refine ow1 (op1_g rfl rfl rfl (lo_eql rfl rfl) ?_)
  refine ol rfl (lo_pick_t (v := .bool _) rfl rfl rfl) (omb rfl rfl ?_)
  refine ow1 (op1_g rfl (by decide +kernel) rfl (lo_move (v := str _) rfl) ?_)
  refine ow1 (op1_g rfl (by decide +kernel) rfl (lo_seql rfl rfl) ?_)
  refine ol rfl (lo_pick_t (v := .bool _) rfl (by decide +kernel) rfl) (oab rfl rfl (ow_nil (seqK_n (cw_ret (fnK_r (res1 rfl (rv_t (v := .bool _) rfl)) (.refl _) ?_)))))
  exact congrArg Value.bool (by decide +kernel)
theorem l09_Awake (H : Hp)  (hML : GInt H 2) : Pr Tryz.prog 65 #[] H (.bool true) := by
  refine pr_cw Tryz.func65 rfl Tryz.ntmps65 rfl (fun N => ?_)
  refine cw_seq (cw_region (oab rfl rfl (ow_nil (seqK_n (cw_seq ?_)))))
  refine cw_region ?_
  refine ow1 (op1_pr (l09_awake _ hML) (en_f cb123 rfl) rfl ?_)
  refine oab rfl rfl (ow_nil (seqK_n (cw_ret (fnK_r (res1 rfl (rv_t (v := .bool _) rfl)) (.refl _) ?_))))
  rfl
end Go.SW
set_option linter.unusedVariables false
set_option maxRecDepth 100000
set_option maxHeartbeats 4000000
namespace Go.SW
open Go.Proofs
theorem by182 : By Tryz.prog 182 48 := by_of (by kernel_rfl)
theorem cb139 : Callable Tryz.prog 139 := callable_of Tryz.func139 (by kernel_rfl) (by kernel_rfl)
theorem cb66 : Callable Tryz.prog 66 := callable_of Tryz.func66 (by kernel_rfl) (by kernel_rfl)
theorem cb97 : Callable Tryz.prog 97 := callable_of Tryz.func97 (by kernel_rfl) (by kernel_rfl)
theorem eqr182 (p q : Pair) (d : Nat) : EqV Tryz.prog (d + 1 + 1) 182 (.agg (Pair.cells p).toArray) (.agg (Pair.cells q).toArray) (decide (p = q)) :=
  EqV.to (eqv_agg Tryz.underlying182 (by kernel_rfl) (eqf_1 (by decide) ag9 rfl rfl (eqv_str Tryz.underlying9) (eqf_1 (by decide) ag5 rfl rfl (eqv_int Tryz.underlying5) (eqf_1 (by decide) ag2 rfl rfl (eqv_int Tryz.underlying2) (eqf_1 (by decide) ag9 rfl rfl (eqv_str Tryz.underlying9) eqf_nil))))) (by obtain ⟨a0, a1, a2, a3⟩ := p; obtain ⟨b0, b1, b2, b3⟩ := q; rw [Bool.eq_iff_iff]; simp)
theorem eqg182 : Tryz.prog.eqGuardType Tryz.prog.depth 182 = false := by kernel_rfl
theorem sz40 : Sz Tryz.prog 40 1 := fun w => by kernel_rfl
theorem zx182 : ∃ z, ∀ w, (zeroValue 182).run Tryz.prog w = .ok z w := ⟨.agg #[str [], .int .u8 0, .int .i64 0, str []], fun w => by kernel_rfl⟩
theorem eq_Pair (H : Hp) (a_a : Option Addr) (a_l a_c : Nat) (a : List Pair) (a_h : SlH pairE 4 H (.slice a_a a_l a_c) a) (b_a : Option Addr) (b_l b_c : Nat) (b : List Pair) (b_h : SlH pairE 4 H (.slice b_a b_l b_c) b) (hal : a.length ≤ 9223372036854775807) : Pr Tryz.prog 139 #[.slice a_a a_l a_c, .slice b_a b_l b_c] H (.bool (decide (a = b))) := by
  refine pr_cw Tryz.func139 rfl Tryz.ntmps139 rfl (fun N => ?_)
  refine cw_seq (cw_region (oab rfl rfl (ow_nil (seqK_n (cw_seq ?_)))))
  refine cw_seq (cw_region (ol rfl (lo_move (v := .slice _ _ _) rfl) (ol rfl (lo_len_slh rfl a_h Tryz.underlying40) (ol rfl (lo_move (v := .slice _ _ _) rfl) (ol rfl (lo_len_slh rfl b_h Tryz.underlying40) ?_)))))
  refine ol rfl (lo_neq rfl rfl) (ow_nil (seqK_n (cw_cond rfl (fun h1 => ?_) (fun h1 => ?_))))
  · have h2 := not_t h1
    have p3 := df h2
    refine cw_seq (cw_region (oab rfl rfl (ow_nil (seqK_n (cw_ret ?_)))))
    refine seqK_r (fnK_r (res1 rfl (rv_t (v := .bool _) rfl)) (.refl _) ?_)
    exact congrArg Value.bool (eqL_len (by assumption)).symm
  have h4 := not_f h1
  have p5 := dt h4
  refine cw_skip (seqK_n (cw_seq (cw_seq (cw_region (ol rfl (lo_move (v := .slice _ _ _) rfl) ?_)))))
  refine ol rfl (lo_len_slh rfl a_h Tryz.underlying40) (omi rfl rfl (ow_nil (seqK_n (cw_block (cw_loop1 [4, 5, 13, 14, 15, 16, 17, 18, 19, 20, 21, 22, 23, 24, 25] [] (fun (k : Nat) G => upd (G) 13 (.int .i64 (k : Int))) (fun (k : Nat) G => G) (fun (k : Nat) H' => k ≤ a.length ∧ decide (a = b) = decide (a.drop k = b.drop k)) (fun (k : Nat) => a.length - k) 0 (upd_intro (mask_intro (by first | exact off_refl | (repeat (first | exact off_mask | refine off_upd rfl ?_ | refine off_mask2 rfl ?_)))) rfl) (lmask_intro offl_refl) ?_ ?_)))))
  · exact ⟨Nat.zero_le _, rfl⟩
  intro k J7 JL7 H7 hp6 hl7
  obtain ⟨hk1, hk2⟩ := hp6
  refine cw_seq (cw_region (ol rfl (lo_lss rfl rfl) (ow_nil (seqK_n (cw_seq ?_)))))
  refine cw_cond rfl (fun h8 => ?_) (fun h8 => ?_)
  · have p9 := dt h8
    refine cw_skip (seqK_n (cw_seq (cw_block (cw_seq (cw_region ?_)))))
    refine omi rfl rfl (oai rfl rfl (ow_nil (seqK_n (cw_seq (cw_anyL mixd ?_)))))
    refine vw_q 0 rfl (by kernel_rfl) (by repeat (first | exact lle_l0 | exact LLe.refl _ | exact lle_none | refine lle_up ?_ rfl)) (fun _ _ hh hl => lo_move (v := .slice _ _ _) rfl) ?_
    refine vw_q 1 rfl (by kernel_rfl) (by repeat (first | exact lle_l0 | exact LLe.refl _ | exact lle_none | refine lle_up ?_ rfl)) (fun _ _ hh hl => lo_move (v := .int _ _) rfl) ?_
    obtain ⟨c10, hc11⟩ := getE (xs := a) (m := k) (by omega)
    obtain ⟨cs12, hE13, at14⟩ := (a_h.mono ((HLe.refl _).trans hl7) (fun _ _ h => h)).get hc11
    obtain ⟨rfl, c10_w⟩ := hE13
    have c10_w' := c10_w
    simp only [Pair.wf] at c10_w'
    refine vw_q 2 rfl (by kernel_rfl) (by repeat (first | exact lle_l0 | exact LLe.refl _ | exact lle_none | refine lle_up ?_ rfl)) (fun _ _ hh hl => lo_indexAddr rfl rfl (a_h.mono (((HLe.refl _).trans hl7).trans hh) (fun _ _ h => h)).1 (at14.mono hh) Tryz.underlying40 sz182 (by omega) (by omega)) ?_
    refine vw_q 3 rfl (by kernel_rfl) (by repeat (first | exact lle_l0 | exact LLe.refl _ | exact lle_none | refine lle_up ?_ rfl)) (fun _ _ hh hl => lo_loadEA rfl ag182 sz182 (at14.mono hh)) ?_
    refine vw_q 4 rfl (by kernel_rfl) (by repeat (first | exact lle_l0 | exact LLe.refl _ | exact lle_none | refine lle_up ?_ rfl)) (fun _ _ hh hl => lo_move (v := .slice _ _ _) rfl) ?_
    refine vw_q 5 rfl (by kernel_rfl) (by repeat (first | exact lle_l0 | exact LLe.refl _ | exact lle_none | refine lle_up ?_ rfl)) (fun _ _ hh hl => lo_move (v := .int _ _) rfl) ?_
    obtain ⟨c15, hc16⟩ := getE (xs := b) (m := k) (by omega)
    obtain ⟨cs17, hE18, at19⟩ := (b_h.mono ((HLe.refl _).trans hl7) (fun _ _ h => h)).get hc16
    obtain ⟨rfl, c15_w⟩ := hE18
    have c15_w' := c15_w
    simp only [Pair.wf] at c15_w'
    refine vw_q 6 rfl (by kernel_rfl) (by repeat (first | exact lle_l0 | exact LLe.refl _ | exact lle_none | refine lle_up ?_ rfl)) (fun _ _ hh hl => lo_indexAddr rfl rfl (b_h.mono (((HLe.refl _).trans hl7).trans hh) (fun _ _ h => h)).1 (at19.mono hh) Tryz.underlying40 sz182 (by omega) (by omega)) ?_
    refine vw_q 7 rfl (by kernel_rfl) (by repeat (first | exact lle_l0 | exact LLe.refl _ | exact lle_none | refine lle_up ?_ rfl)) (fun _ _ hh hl => lo_loadEA rfl ag182 sz182 (at19.mono hh)) ?_
    refine vw_q 8 rfl (by kernel_rfl) (by repeat (first | exact lle_l0 | exact LLe.refl _ | exact lle_none | refine lle_up ?_ rfl)) (fun _ _ hh hl => lo_aneq (u := (Pair.cells c10).toArray) (v := (Pair.cells c15).toArray) rfl rfl eqg182 (eqr182 _ _ 9998)) ?_
    refine vw_done (by kernel_rfl) (seqK_n (cw_cond rfl (fun h20 => ?_) (fun h20 => ?_)))
    · have h21 := not_t h20
      have p22 := df h21
      refine cw_seq (cw_region (oab rfl rfl (ow_nil (seqK_n (cw_ret ?_)))))
      refine blkK_r (seqK_r (loopK_r (blkK_r (seqK_r (fnK_r (res1 rfl (rv_t (v := .bool _) rfl)) ((HLe.refl _).trans hl7) ?_)))))
      exact congrArg Value.bool (eqL_miss hk2 (dropE hc11) (dropE hc16) (by assumption)).symm
    have h23 := not_f h20
    have p24 := dt h23
    refine cw_skip (blkK_n (seqK_n (cw_region (ol rfl (lo_add rfl rfl (rg_i64 (by omega))) (omi rfl rfl ?_)))))
    refine ow_nil ?_
    refine next1 (k + 1) (upd_intro (mask_intro (by first | exact off_refl | (repeat (first | exact off_mask | refine off_upd rfl ?_ | refine off_mask2 rfl ?_)))) rfl) (lmask_intro (by first | exact offl_refl | (repeat (first | exact offl_mask | refine offl_upd rfl ?_ | refine offl_mask2 rfl ?_)))) hl7 ?_ ?_
    · exact ⟨by omega, eqL_step hk2 (dropE hc11) (dropE hc16) (by assumption)⟩
    omega
  have p25 := df h8
  refine cw_exit (seqK_e (loopK_e (blkK_hit (seqK_n (cw_seq ?_)))))
  refine cw_region (oab rfl rfl (ow_nil (seqK_n (cw_ret (fnK_r (res1 rfl (rv_t (v := .bool _) rfl)) ((HLe.refl _).trans hl7) ?_)))))
  exact congrArg Value.bool (eqL_end hk2 (by omega) (by omega)).symm
theorem head_Same (H : Hp) (a_a : Option Addr) (a_l a_c : Nat) (a : List Pair) (a_h : SlH pairE 4 H (.slice a_a a_l a_c) a) (b_a : Option Addr) (b_l b_c : Nat) (b : List Pair) (b_h : SlH pairE 4 H (.slice b_a b_l b_c) b) (hal : a.length ≤ 9223372036854775807) : Pr Tryz.prog 97 #[.slice a_a a_l a_c, .slice b_a b_l b_c] H (.bool (decide (a = b))) := by
  refine pr_cw Tryz.func97 rfl Tryz.ntmps97 rfl (fun N => ?_)
  refine cw_seq (cw_region (oab rfl rfl (ow_nil (seqK_n (cw_seq ?_)))))
  refine cw_region (ol rfl (lo_move (v := .slice _ _ _) rfl) (ol rfl (lo_move (v := .slice _ _ _) rfl) ?_))
  refine ow1 (op1_pr (eq_Pair _ a_a a_l a_c a a_h b_a b_l b_c b b_h (by first | omega | (simp <;> omega))) (en_f cb139 rfl) rfl ?_)
  refine oab rfl rfl (ow_nil (seqK_n (cw_ret (fnK_r (res1 rfl (rv_t (v := .bool _) rfl)) (.refl _) ?_))))
  rfl
theorem r9_Same (H : Hp) (a_a : Option Addr) (a_l a_c : Nat) (a : List Pair) (a_h : SlH pairE 4 H (.slice a_a a_l a_c) a) (b_a : Option Addr) (b_l b_c : Nat) (b : List Pair) (b_h : SlH pairE 4 H (.slice b_a b_l b_c) b) (hal : a.length ≤ 9223372036854775807) : Pr Tryz.prog 86 #[.slice a_a a_l a_c, .slice b_a b_l b_c] H (.bool (decide (a = b))) := by
  refine pr_cw Tryz.func86 rfl Tryz.ntmps86 rfl (fun N => ?_)
  refine cw_seq (cw_region (oab rfl rfl (ow_nil (seqK_n (cw_seq ?_)))))
  refine cw_seq (cw_region (ol rfl (lo_move (v := .slice _ _ _) rfl) (ol rfl (lo_len_slh rfl a_h Tryz.underlying40) (ol rfl (lo_move (v := .slice _ _ _) rfl) (ol rfl (lo_len_slh rfl b_h Tryz.underlying40) ?_)))))
  refine ol rfl (lo_neq rfl rfl) (ow_nil (seqK_n (cw_cond rfl (fun h1 => ?_) (fun h1 => ?_))))
  · have h2 := not_t h1
    have p3 := df h2
    refine cw_seq (cw_region (oab rfl rfl (ow_nil (seqK_n (cw_ret ?_)))))
    refine seqK_r (fnK_r (res1 rfl (rv_t (v := .bool _) rfl)) (.refl _) ?_)
    exact congrArg Value.bool (eqL_len (by assumption)).symm
  have h4 := not_f h1
  have p5 := dt h4
  refine cw_skip (seqK_n (cw_seq (cw_seq (cw_region (ol rfl (lo_move (v := .slice _ _ _) rfl) ?_)))))
  refine ol rfl (lo_len_slh rfl a_h Tryz.underlying40) (omi rfl rfl (ow_nil (seqK_n (cw_block (cw_loop1 [4, 5, 13, 14, 15, 16, 17, 18, 19, 20, 21, 22, 23, 24, 25] [] (fun (k : Nat) G => upd (G) 13 (.int .i64 (k : Int))) (fun (k : Nat) G => G) (fun (k : Nat) H' => k ≤ a.length ∧ decide (a = b) = decide (a.drop k = b.drop k)) (fun (k : Nat) => a.length - k) 0 (upd_intro (mask_intro (by first | exact off_refl | (repeat (first | exact off_mask | refine off_upd rfl ?_ | refine off_mask2 rfl ?_)))) rfl) (lmask_intro offl_refl) ?_ ?_)))))
  · exact ⟨Nat.zero_le _, rfl⟩
  intro k J7 JL7 H7 hp6 hl7
  obtain ⟨hk1, hk2⟩ := hp6
  refine cw_seq (cw_region (ol rfl (lo_lss rfl rfl) (ow_nil (seqK_n (cw_seq ?_)))))
  refine cw_cond rfl (fun h8 => ?_) (fun h8 => ?_)
  · have p9 := dt h8
    refine cw_skip (seqK_n (cw_seq (cw_block (cw_seq (cw_region ?_)))))
    refine omi rfl rfl (oai rfl rfl (ow_nil (seqK_n (cw_seq (cw_anyL mixd ?_)))))
    refine vw_q 0 rfl (by kernel_rfl) (by repeat (first | exact lle_l0 | exact LLe.refl _ | exact lle_none | refine lle_up ?_ rfl)) (fun _ _ hh hl => lo_move (v := .slice _ _ _) rfl) ?_
    refine vw_q 1 rfl (by kernel_rfl) (by repeat (first | exact lle_l0 | exact LLe.refl _ | exact lle_none | refine lle_up ?_ rfl)) (fun _ _ hh hl => lo_move (v := .int _ _) rfl) ?_
    obtain ⟨c10, hc11⟩ := getE (xs := a) (m := k) (by omega)
    obtain ⟨cs12, hE13, at14⟩ := (a_h.mono ((HLe.refl _).trans hl7) (fun _ _ h => h)).get hc11
    obtain ⟨rfl, c10_w⟩ := hE13
    have c10_w' := c10_w
    simp only [Pair.wf] at c10_w'
    refine vw_q 2 rfl (by kernel_rfl) (by repeat (first | exact lle_l0 | exact LLe.refl _ | exact lle_none | refine lle_up ?_ rfl)) (fun _ _ hh hl => lo_indexAddr rfl rfl (a_h.mono (((HLe.refl _).trans hl7).trans hh) (fun _ _ h => h)).1 (at14.mono hh) Tryz.underlying40 sz182 (by omega) (by omega)) ?_
    refine vw_q 3 rfl (by kernel_rfl) (by repeat (first | exact lle_l0 | exact LLe.refl _ | exact lle_none | refine lle_up ?_ rfl)) (fun _ _ hh hl => lo_loadEA rfl ag182 sz182 (at14.mono hh)) ?_
    refine vw_q 4 rfl (by kernel_rfl) (by repeat (first | exact lle_l0 | exact LLe.refl _ | exact lle_none | refine lle_up ?_ rfl)) (fun _ _ hh hl => lo_move (v := .slice _ _ _) rfl) ?_
    refine vw_q 5 rfl (by kernel_rfl) (by repeat (first | exact lle_l0 | exact LLe.refl _ | exact lle_none | refine lle_up ?_ rfl)) (fun _ _ hh hl => lo_move (v := .int _ _) rfl) ?_
    obtain ⟨c15, hc16⟩ := getE (xs := b) (m := k) (by omega)
    obtain ⟨cs17, hE18, at19⟩ := (b_h.mono ((HLe.refl _).trans hl7) (fun _ _ h => h)).get hc16
    obtain ⟨rfl, c15_w⟩ := hE18
    have c15_w' := c15_w
    simp only [Pair.wf] at c15_w'
    refine vw_q 6 rfl (by kernel_rfl) (by repeat (first | exact lle_l0 | exact LLe.refl _ | exact lle_none | refine lle_up ?_ rfl)) (fun _ _ hh hl => lo_indexAddr rfl rfl (b_h.mono (((HLe.refl _).trans hl7).trans hh) (fun _ _ h => h)).1 (at19.mono hh) Tryz.underlying40 sz182 (by omega) (by omega)) ?_
    refine vw_q 7 rfl (by kernel_rfl) (by repeat (first | exact lle_l0 | exact LLe.refl _ | exact lle_none | refine lle_up ?_ rfl)) (fun _ _ hh hl => lo_loadEA rfl ag182 sz182 (at19.mono hh)) ?_
    refine vw_q 8 rfl (by kernel_rfl) (by repeat (first | exact lle_l0 | exact LLe.refl _ | exact lle_none | refine lle_up ?_ rfl)) (fun _ _ hh hl => lo_aneq (u := (Pair.cells c10).toArray) (v := (Pair.cells c15).toArray) rfl rfl eqg182 (eqr182 _ _ 9998)) ?_
    refine vw_done (by kernel_rfl) (seqK_n (cw_cond rfl (fun h20 => ?_) (fun h20 => ?_)))
    · have h21 := not_t h20
      have p22 := df h21
      refine cw_seq (cw_region (oab rfl rfl (ow_nil (seqK_n (cw_ret ?_)))))
      refine blkK_r (seqK_r (loopK_r (blkK_r (seqK_r (fnK_r (res1 rfl (rv_t (v := .bool _) rfl)) ((HLe.refl _).trans hl7) ?_)))))
      exact congrArg Value.bool (eqL_miss hk2 (dropE hc11) (dropE hc16) (by assumption)).symm
    have h23 := not_f h20
    have p24 := dt h23
    refine cw_skip (blkK_n (seqK_n (cw_region (ol rfl (lo_add rfl rfl (rg_i64 (by omega))) (omi rfl rfl ?_)))))
    refine ow_nil ?_
    refine next1 (k + 1) (upd_intro (mask_intro (by first | exact off_refl | (repeat (first | exact off_mask | refine off_upd rfl ?_ | refine off_mask2 rfl ?_)))) rfl) (lmask_intro (by first | exact offl_refl | (repeat (first | exact offl_mask | refine offl_upd rfl ?_ | refine offl_mask2 rfl ?_)))) hl7 ?_ ?_
    · exact ⟨by omega, eqL_step hk2 (dropE hc11) (dropE hc16) (by assumption)⟩
    omega
  have p25 := df h8
  refine cw_exit (seqK_e (loopK_e (blkK_hit (seqK_n (cw_seq ?_)))))
  refine cw_region (oab rfl rfl (ow_nil (seqK_n (cw_ret (fnK_r (res1 rfl (rv_t (v := .bool _) rfl)) ((HLe.refl _).trans hl7) ?_)))))
  exact congrArg Value.bool (eqL_end hk2 (by omega) (by omega)).symm
theorem l09_Light (H : Hp) (h_a : Option Addr) (h_l h_c : Nat) (h : List Pair) (h_h : SlH pairE 4 H (.slice h_a h_l h_c) h) : Pr Tryz.prog 66 #[.slice h_a h_l h_c] H (.bool (lightH h)) := by
  refine pr_cw Tryz.func66 rfl Tryz.ntmps66 rfl (fun N => ?_)
  refine cw_seq (cw_region (oab rfl rfl (ow_nil (seqK_n (cw_seq ?_)))))
  refine cw_seq (cw_region (ol rfl (lo_move (v := .slice _ _ _) rfl) (ol rfl (lo_len_slh rfl h_h Tryz.underlying40) (ol rfl (lo_gtr rfl rfl) (ow_nil ?_)))))
  refine seqK_n (cw_cond rfl (fun h1 => ?_) (fun h1 => ?_))
  · have p2 := dt h1
    refine cw_seq (cw_region (oab rfl rfl (ow_nil (seqK_n (cw_ret ?_)))))
    refine seqK_r (fnK_r (res1 rfl (rv_t (v := .bool _) rfl)) (.refl _) ?_)
    exact congrArg Value.bool (by simp [lightH]; omega)
  have p3 := df h1
  refine cw_skip (seqK_n (cw_seq (cw_seq (cw_region (ol rfl (lo_move (v := .slice _ _ _) rfl) ?_)))))
  refine ol rfl (lo_len_slh rfl h_h Tryz.underlying40) (omi rfl rfl (ow_nil (seqK_n (cw_block (cw_loop1 [2, 4, 10, 11, 12, 13, 14, 15, 16, 17, 18, 19, 20, 21, 22, 23, 24] [0] (fun (k : Nat) G => upd (G) 10 (.int .i64 (k : Int))) (fun (k : Nat) G => G) (fun (k : Nat) H' => k ≤ h.length ∧ h.all lightP = (h.drop k).all lightP) (fun (k : Nat) => h.length - k) 0 (upd_intro (mask_intro (by first | exact off_refl | (repeat (first | exact off_mask | refine off_upd rfl ?_ | refine off_mask2 rfl ?_)))) rfl) (lmask_intro offl_refl) ?_ ?_)))))
  · exact ⟨Nat.zero_le _, rfl⟩
  intro k J5 JL5 H5 hp4 hl5
  obtain ⟨hk1, hk2⟩ := hp4
  refine cw_seq (cw_region (ol rfl (lo_lss rfl rfl) (ow_nil (seqK_n (cw_seq ?_)))))
  refine cw_cond rfl (fun h6 => ?_) (fun h6 => ?_)
  · have p7 := dt h6
    refine cw_skip (seqK_n (cw_seq (cw_block (cw_seq (cw_region ?_)))))
    obtain ⟨c8, hc9⟩ := getE (xs := h) (m := k) (by omega)
    obtain ⟨cs10, hE11, at12⟩ := (h_h.mono ((HLe.refl _).trans hl5) (fun _ _ h => h)).get hc9
    obtain ⟨rfl, c8_w⟩ := hE11
    have c8_w' := c8_w
    simp only [Pair.wf] at c8_w'
    refine ol rfl (lo_indexAddr rfl rfl (h_h.mono ((HLe.refl _).trans hl5) (fun _ _ h => h)).1 at12 Tryz.underlying40 sz182 (by omega) (by omega)) (ol rfl (lo_loadEA rfl ag182 sz182 at12) (ow1 (op1_alloc 0 rfl zr182 (fun b13 => ?_))))
    refine ow1 (op1_storeA (i := 0) (vs := [_, _, _, _]) rfl rfl rfl sz182 rfl rfl rfl ?_)
    refine ow_nil (seqK_n (cw_seq (cw_region (ol rfl (lo_fieldAddr rfl fl182_0) (ol rfl (lo_load1 (i := 0) (v := str _) rfl ag9 rfl rfl) ?_)))))
    refine ol rfl (lo_len_str rfl Tryz.underlying9) (ol rfl (lo_gtr rfl rfl) (omb rfl rfl (ow_sp (j := 4) rfl (fun h14 => ?_) (fun h14 => ?_))))
    · have p15 := dt h14
      refine og rfl h14 rfl (og rfl h14 rfl (og rfl h14 rfl (og rfl h14 rfl (ol rfl (lo_pick_t (v := .bool _) rfl h14 rfl) (ow_nil ?_)))))
      refine seqK_n (cw_cond_t rfl rfl (cw_seq (cw_region (oab rfl rfl (ow_nil ?_)))))
      refine seqK_n (cw_ret (blkK_r (seqK_r (loopK_r (blkK_r ?_)))))
      refine seqK_r (fnK_r (res1 rfl (rv_t (v := .bool _) rfl)) ((HLe.refl _).trans hl5) ?_)
      exact congrArg Value.bool (by unfold lightH; rw [all_miss hk2 (dropE hc9) (by simp [lightP]; omega)]; simp)
    have p16 := df h14
    refine ow1 (op1_g rfl h14 rfl (lo_fieldAddr rfl fl182_3) ?_)
    refine ow1 (op1_g rfl h14 rfl (lo_load1 (i := 0) (v := str _) rfl ag9 rfl rfl) ?_)
    refine ow1 (op1_g rfl h14 rfl (lo_len_str rfl Tryz.underlying9) ?_)
    refine ow1 (op1_g rfl h14 rfl (lo_gtr rfl rfl) ?_)
    refine ol rfl (lo_pick_f (v := .bool _) rfl h14 rfl) (ow_nil (seqK_n (cw_cond rfl (fun h17 => ?_) (fun h17 => ?_))))
    · have p18 := dt h17
      refine cw_seq (cw_region (oab rfl rfl (ow_nil (seqK_n (cw_ret ?_)))))
      refine blkK_r (seqK_r (loopK_r (blkK_r (seqK_r (fnK_r (res1 rfl (rv_t (v := .bool _) rfl)) ((HLe.refl _).trans hl5) ?_)))))
      exact congrArg Value.bool (by unfold lightH; rw [all_miss hk2 (dropE hc9) (by simp [lightP]; omega)]; simp)
    have p19 := df h17
    refine cw_skip (blkK_n (seqK_n (cw_region (ol rfl (lo_add rfl rfl (rg_i64 (by omega))) (omi rfl rfl ?_)))))
    refine ow_nil ?_
    refine next1 (k + 1) (upd_intro (mask_intro (by first | exact off_refl | (repeat (first | exact off_mask | refine off_upd rfl ?_ | refine off_mask2 rfl ?_)))) rfl) (lmask_intro (by first | exact offl_refl | (repeat (first | exact offl_mask | refine offl_upd rfl ?_ | refine offl_mask2 rfl ?_)))) hl5 ?_ ?_
    · exact ⟨by omega, all_step hk2 (dropE hc9) (by simp [lightP]; omega)⟩
    omega
  have p20 := df h6
  refine cw_exit (seqK_e (loopK_e (blkK_hit (seqK_n (cw_seq ?_)))))
  refine cw_region (oab rfl rfl (ow_nil (seqK_n (cw_ret (fnK_r (res1 rfl (rv_t (v := .bool _) rfl)) ((HLe.refl _).trans hl5) ?_)))))
  exact congrArg Value.bool (by unfold lightH; rw [all_end hk2 (by omega)]; simp; omega)
end Go.SW
set_option linter.unusedVariables false
set_option maxRecDepth 100000
set_option maxHeartbeats 4000000
namespace Go.SW
open Go.Proofs
theorem ag3 : Ag Tryz.prog 3 false := fun w => by kernel_rfl
theorem cb111 : Callable Tryz.prog 111 := callable_of Tryz.func111 (by kernel_rfl) (by kernel_rfl)
theorem cb53 : Callable Tryz.prog 53 := callable_of Tryz.func53 (by kernel_rfl) (by kernel_rfl)
theorem cb85 : Callable Tryz.prog 85 := callable_of Tryz.func85 (by kernel_rfl) (by kernel_rfl)
theorem fl114_0 : Fld Tryz.prog 114 0 0 := fun b o w => by kernel_rfl
theorem fl114_1 : Fld Tryz.prog 114 1 1 := fun b o w => by kernel_rfl
theorem fl114_2 : Fld Tryz.prog 114 2 2 := fun b o w => by kernel_rfl
theorem sz3 : Sz Tryz.prog 3 1 := fun w => by kernel_rfl
theorem rin_Fail (H : Hp) (i_b : Nat) (i_r : RIn) (i : In) (i_R : RSt i_r i) (code : Int) (code_r : -9223372036854775808 ≤ code ∧ code ≤ 9223372036854775807) : Pm Tryz.prog 85 #[.pointer (some ⟨i_b, 0, none⟩), .int .i64 code] H i_b (bx 114 (RIn.cells i_r)) (fun v H' o' => ∃ (j : RIn), v = .tuple #[] ∧ H = H' ∧ o' = bx 114 (RIn.cells j) ∧ RSt j (inFail i code)) := by
  refine pm_cw Tryz.func85 rfl Tryz.ntmps85 rfl (fun N => ?_)
  have := i_R.err
  have := i_R.lo
  have := i_R.hi
  have := i_R.len
  refine cw_seq (cw_region (ol rfl (lo_move (v := .pointer (some ⟨_, _, none⟩)) rfl) (ol rfl (lo_nilCheck rfl) (ol rfl (lo_fieldAddr rfl fl114_2) (ol rfl (lo_load1 (i := 0) (v := .int _ _) rfl ag3 rfl rfl) ?_)))))
  refine ol rfl (lo_eql rfl rfl) (ow_nil (seqK_n (cw_cond rfl (fun h1 => ?_) (fun h1 => ?_))))
  · have p2 := dt h1
    refine cw_region (ol rfl (lo_move (v := .pointer (some ⟨_, _, none⟩)) rfl) (omi rfl rfl (ol rfl (lo_nilCheck rfl) (ol rfl (lo_fieldAddr rfl fl114_2) ?_))))
    refine ow1 (op1_store1 (i := 0) (v := .int _ _) rfl rfl rfl sz3 rfl rfl ?_)
    refine ow_nil (fnK_n (res0 rfl) (.refl _) ?_)
    refine ⟨_, rfl, rFail i_r code, rfl, rfl, ?_, i_R.failA code⟩
    simp [rFail, RIn.cells, *]
  have p3 := df h1
  refine cw_skip (fnK_n (res0 rfl) (.refl _) ?_)
  refine ⟨_, rfl, rFail i_r code, rfl, rfl, ?_, i_R.failA code⟩
  simp [rFail, RIn.cells, *]
theorem rin_Raw (H : Hp) (i_b : Nat) (i_r : RIn) (i : In) (i_R : RSt i_r i) (n : Int) (n_r : -9223372036854775808 ≤ n ∧ n ≤ 9223372036854775807) : Pm Tryz.prog 111 #[.pointer (some ⟨i_b, 0, none⟩), .int .i64 n] H i_b (bx 114 (RIn.cells i_r)) (fun v H' o' => ∃ (j : RIn), v = str ((inRaw i n).1) ∧ H = H' ∧ o' = bx 114 (RIn.cells j) ∧ RSt j ((inRaw i n).2)) := by
  refine pm_cw Tryz.func111 rfl Tryz.ntmps111 rfl (fun N => ?_)
  have := i_R.err
  have := i_R.lo
  have := i_R.hi
  have := i_R.len
  refine cw_seq (cw_region (ol rfl (lo_assign (v := str _) rfl) (ow_nil (seqK_n (cw_seq ?_)))))
  refine cw_seq (cw_region (ol rfl (lo_move (v := .pointer (some ⟨_, _, none⟩)) rfl) (ol rfl (lo_nilCheck rfl) (ol rfl (lo_fieldAddr rfl fl114_2) (ol rfl (lo_load1 (i := 0) (v := .int _ _) rfl ag3 rfl rfl) ?_)))))
  refine ol rfl (lo_neq rfl rfl) (omb rfl rfl (ow_sp (j := 5) rfl (fun h1 => ?_) (fun h1 => ?_)))
  · have h2 := not_t h1
    have p3 := df h2
    refine og rfl h1 rfl (og rfl h1 rfl (ol rfl (lo_pick_t (v := .bool _) rfl h1 rfl) (ow_nil (seqK_n (cw_cond_t rfl rfl ?_)))))
    refine cw_seq (cw_region (ol rfl (lo_assign (v := str _) rfl) (ow_nil (seqK_n (cw_ret ?_)))))
    refine seqK_r (fnK_r (res1 rfl (rv_t (v := str _) rfl)) (.refl _) ?_)
    have e := i_R.raw0 (n := n) (by omega)
    rw [e]
    exact ⟨_, rfl, i_r, rfl, rfl, rfl, i_R⟩
  have h4 := not_f h1
  have p5 := dt h4
  refine ow1 (op1_g rfl h1 rfl (lo_move (v := .int _ _) rfl) ?_)
  refine ow1 (op1_g rfl h1 rfl (lo_leq rfl rfl) ?_)
  refine ol rfl (lo_pick_f (v := .bool _) rfl h1 rfl) (ow_nil (seqK_n (cw_cond rfl (fun h6 => ?_) (fun h6 => ?_))))
  · have p7 := dt h6
    refine cw_seq (cw_region (ol rfl (lo_assign (v := str _) rfl) (ow_nil (seqK_n (cw_ret ?_)))))
    refine seqK_r (fnK_r (res1 rfl (rv_t (v := str _) rfl)) (.refl _) ?_)
    have e := i_R.raw0 (n := n) (by omega)
    rw [e]
    exact ⟨_, rfl, i_r, rfl, rfl, rfl, i_R⟩
  have p8 := df h6
  refine cw_skip (seqK_n (cw_seq (cw_seq (cw_anyL mixd (vw_q 0 rfl (by kernel_rfl) (by repeat (first | exact lle_l0 | exact LLe.refl _ | exact lle_none | refine lle_up ?_ rfl)) (fun _ _ hh hl => lo_move (v := .int _ _) rfl) ?_)))))
  refine vw_q 1 rfl (by kernel_rfl) (by repeat (first | exact lle_l0 | exact LLe.refl _ | exact lle_none | refine lle_up ?_ rfl)) (fun _ _ hh hl => lo_move (v := .pointer (some ⟨_, _, none⟩)) rfl) ?_
  refine vw_q 2 rfl (by kernel_rfl) (by repeat (first | exact lle_l0 | exact LLe.refl _ | exact lle_none | refine lle_up ?_ rfl)) (fun _ _ hh hl => lo_nilCheck rfl) ?_
  refine vw_q 3 rfl (by kernel_rfl) (by repeat (first | exact lle_l0 | exact LLe.refl _ | exact lle_none | refine lle_up ?_ rfl)) (fun _ _ hh hl => lo_fieldAddr rfl fl114_0) ?_
  refine vw_q 4 rfl (by kernel_rfl) (by repeat (first | exact lle_l0 | exact LLe.refl _ | exact lle_none | refine lle_up ?_ rfl)) (fun _ _ hh hl => lo_load1 (i := 0) (v := str _) rfl ag9 (hl _ _ rfl) rfl) ?_
  refine vw_q 5 rfl (by kernel_rfl) (by repeat (first | exact lle_l0 | exact LLe.refl _ | exact lle_none | refine lle_up ?_ rfl)) (fun _ _ hh hl => lo_len_str rfl Tryz.underlying9) ?_
  refine vw_q 6 rfl (by kernel_rfl) (by repeat (first | exact lle_l0 | exact LLe.refl _ | exact lle_none | refine lle_up ?_ rfl)) (fun _ _ hh hl => lo_move (v := .pointer (some ⟨_, _, none⟩)) rfl) ?_
  refine vw_q 7 rfl (by kernel_rfl) (by repeat (first | exact lle_l0 | exact LLe.refl _ | exact lle_none | refine lle_up ?_ rfl)) (fun _ _ hh hl => lo_nilCheck rfl) ?_
  refine vw_q 8 rfl (by kernel_rfl) (by repeat (first | exact lle_l0 | exact LLe.refl _ | exact lle_none | refine lle_up ?_ rfl)) (fun _ _ hh hl => lo_fieldAddr rfl fl114_1) ?_
  refine vw_q 9 rfl (by kernel_rfl) (by repeat (first | exact lle_l0 | exact LLe.refl _ | exact lle_none | refine lle_up ?_ rfl)) (fun _ _ hh hl => lo_load1 (i := 0) (v := .int _ _) rfl ag3 (hl _ _ rfl) rfl) ?_
  refine vw_q 10 rfl (by kernel_rfl) (by repeat (first | exact lle_l0 | exact LLe.refl _ | exact lle_none | refine lle_up ?_ rfl)) (fun _ _ hh hl => lo_sub rfl rfl (rg_i64 (by omega))) ?_
  refine vw_q 11 rfl (by kernel_rfl) (by repeat (first | exact lle_l0 | exact LLe.refl _ | exact lle_none | refine lle_up ?_ rfl)) (fun _ _ hh hl => lo_gtr rfl rfl) ?_
  refine vw_done (by kernel_rfl) (seqK_n (cw_cond rfl (fun h9 => ?_) (fun h9 => ?_)))
  · have p10 := dt h9
    refine cw_seq (cw_region (ol rfl (lo_move (v := .pointer (some ⟨_, _, none⟩)) rfl) ?_))
    refine ow1 (op1_pm 0 rfl (rin_Fail _ i_b i_r i i_R 3 (by omega)) (en_f cb85 rfl) rfl ?_)
    rintro _ _ _ ⟨j13, rfl, rfl, rfl, hj14⟩ _
    have := hj14.err
    have := hj14.lo
    have := hj14.hi
    have := hj14.len
    refine ow_nil (seqK_n (cw_seq (cw_region (ol rfl (lo_assign (v := str _) rfl) (ow_nil ?_)))))
    refine seqK_n (cw_ret (seqK_r (fnK_r (res1 rfl (rv_t (v := str _) rfl)) (.refl _) ?_)))
    have e := i_R.raw3 (n := n) (by omega) (by omega) (by omega)
    rw [e]
    refine ⟨_, rfl, j13, rfl, rfl, rfl, ?_⟩
    have hq := hj14
    have e0 : inFail i 3 = ⟨[], 3⟩ := by unfold inFail; rw [if_pos ⟨by omega, by decide⟩]
    rw [e0] at hq
    exact hq
  have p15 := df h9
  refine cw_skip (seqK_n (cw_seq (cw_region (ol rfl (lo_move (v := .pointer (some ⟨_, _, none⟩)) rfl) (ol rfl (lo_move (v := .pointer (some ⟨_, _, none⟩)) rfl) ?_)))))
  refine ol rfl (lo_nilCheck rfl) (ol rfl (lo_fieldAddr rfl fl114_1) (ol rfl (lo_load1 (i := 0) (v := .int _ _) rfl ag3 rfl rfl) (omi rfl rfl (ol rfl (lo_add rfl rfl (rg_i64 (by omega))) (ol rfl (lo_nilCheck rfl) ?_)))))
  refine ol rfl (lo_fieldAddr rfl fl114_1) ?_
  refine ow1 (op1_store1 (i := 0) (v := .int _ _) rfl rfl rfl sz3 rfl rfl ?_)
  refine ow_nil (seqK_n (cw_seq (cw_anyL mixd ?_)))
  refine vw_q 0 rfl (by kernel_rfl) (by repeat (first | exact lle_l0 | exact LLe.refl _ | exact lle_none | refine lle_up ?_ rfl)) (fun _ _ hh hl => lo_move (v := .pointer (some ⟨_, _, none⟩)) rfl) ?_
  refine vw_q 1 rfl (by kernel_rfl) (by repeat (first | exact lle_l0 | exact LLe.refl _ | exact lle_none | refine lle_up ?_ rfl)) (fun _ _ hh hl => lo_nilCheck rfl) ?_
  refine vw_q 2 rfl (by kernel_rfl) (by repeat (first | exact lle_l0 | exact LLe.refl _ | exact lle_none | refine lle_up ?_ rfl)) (fun _ _ hh hl => lo_fieldAddr rfl fl114_0) ?_
  refine vw_q 3 rfl (by kernel_rfl) (by repeat (first | exact lle_l0 | exact LLe.refl _ | exact lle_none | refine lle_up ?_ rfl)) (fun _ _ hh hl => lo_load1 (i := 0) (v := str _) rfl ag9 (hl _ _ rfl) rfl) ?_
  refine vw_q 4 rfl (by kernel_rfl) (by repeat (first | exact lle_l0 | exact LLe.refl _ | exact lle_none | refine lle_up ?_ rfl)) (fun _ _ hh hl => lo_move (v := .pointer (some ⟨_, _, none⟩)) rfl) ?_
  refine vw_q 5 rfl (by kernel_rfl) (by repeat (first | exact lle_l0 | exact LLe.refl _ | exact lle_none | refine lle_up ?_ rfl)) (fun _ _ hh hl => lo_nilCheck rfl) ?_
  refine vw_q 6 rfl (by kernel_rfl) (by repeat (first | exact lle_l0 | exact LLe.refl _ | exact lle_none | refine lle_up ?_ rfl)) (fun _ _ hh hl => lo_fieldAddr rfl fl114_1) ?_
  refine vw_q 7 rfl (by kernel_rfl) (by repeat (first | exact lle_l0 | exact LLe.refl _ | exact lle_none | refine lle_up ?_ rfl)) (fun _ _ hh hl => lo_load1 (i := 0) (v := .int _ _) rfl ag3 (hl _ _ rfl) rfl) ?_
  refine vw_q 8 rfl (by kernel_rfl) (by repeat (first | exact lle_l0 | exact LLe.refl _ | exact lle_none | refine lle_up ?_ rfl)) (fun _ _ hh hl => lo_move (v := .int _ _) rfl) ?_
  refine vw_q 9 rfl (by kernel_rfl) (by repeat (first | exact lle_l0 | exact LLe.refl _ | exact lle_none | refine lle_up ?_ rfl)) (fun _ _ hh hl => lo_sub rfl rfl (rg_i64 (by omega))) ?_
  refine vw_q 10 rfl (by kernel_rfl) (by repeat (first | exact lle_l0 | exact LLe.refl _ | exact lle_none | refine lle_up ?_ rfl)) (fun _ _ hh hl => lo_move (v := .pointer (some ⟨_, _, none⟩)) rfl) ?_
  refine vw_q 11 rfl (by kernel_rfl) (by repeat (first | exact lle_l0 | exact LLe.refl _ | exact lle_none | refine lle_up ?_ rfl)) (fun _ _ hh hl => lo_nilCheck rfl) ?_
  refine vw_q 12 rfl (by kernel_rfl) (by repeat (first | exact lle_l0 | exact LLe.refl _ | exact lle_none | refine lle_up ?_ rfl)) (fun _ _ hh hl => lo_fieldAddr rfl fl114_1) ?_
  refine vw_q 13 rfl (by kernel_rfl) (by repeat (first | exact lle_l0 | exact LLe.refl _ | exact lle_none | refine lle_up ?_ rfl)) (fun _ _ hh hl => lo_load1 (i := 0) (v := .int _ _) rfl ag3 (hl _ _ rfl) rfl) ?_
  refine vw_q 14 rfl (by kernel_rfl) (by repeat (first | exact lle_l0 | exact LLe.refl _ | exact lle_none | refine lle_up ?_ rfl)) (fun _ _ hh hl => lo_slice_str (((i_r.pos + n) - n)).toNat ((i_r.pos + n)).toNat rfl rfl rfl Tryz.underlying9 (by omega) (by omega) (by omega) (by omega)) ?_
  refine vw_q 15 rfl (by kernel_rfl) (by repeat (first | exact lle_l0 | exact LLe.refl _ | exact lle_none | refine lle_up ?_ rfl)) (fun _ _ hh hl => lo_assign (v := str _) rfl) ?_
  refine vw_done (by kernel_rfl) (seqK_n (cw_ret (fnK_r (res1 rfl (rv_t (v := str _) rfl)) (.refl _) ?_)))
  obtain ⟨e, hq⟩ := i_R.rawS (n := n) (by omega) (by omega) (by omega)
  rw [e]
  refine ⟨_, rfl, _, ?_, rfl, rfl, hq⟩
  rw [show i_r.pos + n - n = i_r.pos by omega, show (i_r.pos + n).toNat - i_r.pos.toNat = n.toNat by omega]
theorem rin_Num (H : Hp) (i_b : Nat) (i_r : RIn) (i : In) (i_R : RSt i_r i) (bytes : Int) (bytes_r : -9223372036854775808 ≤ bytes ∧ bytes ≤ 9223372036854775807) : Pm Tryz.prog 53 #[.pointer (some ⟨i_b, 0, none⟩), .int .i64 bytes] H i_b (bx 114 (RIn.cells i_r)) (fun v H' o' => ∃ (j : RIn), v = .int .u64 ((inNum i bytes).1) ∧ H = H' ∧ o' = bx 114 (RIn.cells j) ∧ RSt j ((inNum i bytes).2)) := by
  refine pm_cw Tryz.func53 rfl Tryz.ntmps53 rfl (fun N => ?_)
  have := i_R.err
  have := i_R.lo
  have := i_R.hi
  have := i_R.len
  refine cw_seq (cw_region (oai rfl rfl (ow_nil (seqK_n (cw_seq ?_)))))
  refine cw_seq (cw_region (omi rfl rfl (ol rfl (lo_gtr rfl rfl) (ow_nil (seqK_n ?_)))))
  refine cw_cond rfl (fun h1 => ?_) (fun h1 => ?_)
  · have p2 := dt h1
    refine cw_region (oai rfl rfl (ow_nil (seqK_n (cw_seq (cw_region ?_)))))
    refine ol rfl (lo_move (v := .pointer (some ⟨_, _, none⟩)) rfl) (omi rfl rfl ?_)
    refine ow1 (op1_pm 0 rfl (rin_Raw _ i_b i_r i i_R 8 (by omega)) (en_f cb111 rfl) rfl ?_)
    rintro _ _ _ ⟨j5, rfl, rfl, rfl, hj6⟩ _
    have := hj6.err
    have := hj6.lo
    have := hj6.hi
    have := hj6.len
    have := inRaw_len i 8
    refine ol rfl (lo_assign (v := str _) rfl) (ow_nil (seqK_n (cw_seq (cw_region (oai rfl rfl ?_)))))
    refine ow_nil (seqK_n (cw_seq (cw_seq (cw_region (oai rfl rfl ?_)))))
    refine ow_nil (seqK_n (cw_block (cw_loop1 [6, 7, 13, 14, 15, 16, 17, 18, 19, 20, 21, 22, 23, 24, 25] [] (fun (k : Nat) G => upd (upd (G) 7 (.int .i64 (k : Int))) 6 (.int .u64 (beN ((inRaw i 8).1.take k) : Int))) (fun (k : Nat) G => G) (fun (k : Nat) H' => k ≤ (inRaw i 8).1.length) (fun (k : Nat) => (inRaw i 8).1.length - k) 0 (upd_intro (upd_intro (mask_intro (by first | exact off_refl | (repeat (first | exact off_mask | refine off_upd rfl ?_ | refine off_mask2 rfl ?_)))) rfl) rfl) (lmask_intro offl_refl) ?_ ?_)))
    · exact Nat.zero_le _
    intro k J8 JL8 H8 hp7 hl8
    have hb8 : min bytes 8 = 8 := by omega
    refine cw_seq (cw_seq (cw_region (omi rfl rfl (ol rfl (lo_move (v := str _) rfl) (ol rfl (lo_len_str rfl Tryz.underlying9) ?_)))))
    refine ol rfl (lo_lss rfl rfl) (ow_nil (seqK_n (cw_cond rfl (fun h9 => ?_) (fun h9 => ?_))))
    · have p10 := dt h9
      refine cw_skip (seqK_n (cw_seq (cw_block (cw_region (omi rfl rfl ?_)))))
      have := wr_u64 ((beN ((inRaw i 8).1.take k) : Int) * 256)
      refine ol rfl (lo_mul_w rfl rfl) (ol rfl (lo_move (v := str _) rfl) (omi rfl rfl ?_))
      have := u8r (((inRaw i 8).1).getD k 0)
      refine ol rfl (lo_index_str k rfl rfl Tryz.underlying9 (by omega) (by omega)) (ol rfl (lo_conv_in rfl (by rw [Tryz.underlying5]; rfl) Tryz.underlying39 (rg_u64 (by omega))) ?_)
      have := wr_u64 ((IntKind.wrap .u64 ((beN ((inRaw i 8).1.take k) : Int) * 256)) + ((((inRaw i 8).1).getD k 0).toNat : Int))
      refine ol rfl (lo_add_w rfl rfl) (oai rfl rfl (ow_nil (blkK_n (seqK_n (cw_region ?_)))))
      refine omi rfl rfl (ol rfl (lo_add rfl rfl (rg_i64 (by omega))) (oai rfl rfl (ow_nil ?_)))
      refine next1 (k + 1) (upd_intro (upd_intro (mask_intro (by first | exact off_refl | (repeat (first | exact off_mask | refine off_upd rfl ?_ | refine off_mask2 rfl ?_)))) rfl) (congrArg (Value.int .u64) (beN_step (by omega) (by omega)))) (lmask_intro (by first | exact offl_refl | (repeat (first | exact offl_mask | refine offl_upd rfl ?_ | refine offl_mask2 rfl ?_)))) hl8 ?_ ?_
      · omega
      omega
    have p11 := df h9
    refine cw_exit (seqK_e (loopK_e (blkK_hit (seqK_n (cw_seq ?_)))))
    refine cw_region (omi rfl rfl (oai rfl rfl (ow_nil (seqK_n (cw_down ((HLe.refl _).trans hl8) ?_)))))
    refine cw_ret (fnK_r (res1 rfl (rv_t (v := .int _ _) rfl)) (.refl _) ?_)
    refine ⟨_, rfl, j5, ?_, rfl, rfl, ?_⟩
    · simp only [inNum]
      rw [hb8, List.take_of_length_le (by omega)]
    simp only [inNum]
    rw [hb8]
    exact hj6
  have p12 := df h1
  refine cw_skip (seqK_n (cw_seq (cw_region (ol rfl (lo_move (v := .pointer (some ⟨_, _, none⟩)) rfl) (omi rfl rfl ?_)))))
  refine ow1 (op1_pm 0 rfl (rin_Raw _ i_b i_r i i_R bytes (by omega)) (en_f cb111 rfl) rfl ?_)
  rintro _ _ _ ⟨j15, rfl, rfl, rfl, hj16⟩ _
  have := hj16.err
  have := hj16.lo
  have := hj16.hi
  have := hj16.len
  have := inRaw_len i bytes
  refine ol rfl (lo_assign (v := str _) rfl) (ow_nil (seqK_n (cw_seq (cw_region (oai rfl rfl ?_)))))
  refine ow_nil (seqK_n (cw_seq (cw_seq (cw_region (oai rfl rfl ?_)))))
  refine ow_nil (seqK_n (cw_block (cw_loop1 [6, 7, 13, 14, 15, 16, 17, 18, 19, 20, 21, 22, 23, 24, 25] [] (fun (k : Nat) G => upd (upd (G) 7 (.int .i64 (k : Int))) 6 (.int .u64 (beN ((inRaw i bytes).1.take k) : Int))) (fun (k : Nat) G => G) (fun (k : Nat) H' => k ≤ (inRaw i bytes).1.length) (fun (k : Nat) => (inRaw i bytes).1.length - k) 0 (upd_intro (upd_intro (mask_intro (by first | exact off_refl | (repeat (first | exact off_mask | refine off_upd rfl ?_ | refine off_mask2 rfl ?_)))) rfl) rfl) (lmask_intro offl_refl) ?_ ?_)))
  · exact Nat.zero_le _
  intro k J18 JL18 H18 hp17 hl18
  have hb8 : min bytes 8 = bytes := by omega
  refine cw_seq (cw_seq (cw_region (omi rfl rfl (ol rfl (lo_move (v := str _) rfl) (ol rfl (lo_len_str rfl Tryz.underlying9) ?_)))))
  refine ol rfl (lo_lss rfl rfl) (ow_nil (seqK_n (cw_cond rfl (fun h19 => ?_) (fun h19 => ?_))))
  · have p20 := dt h19
    refine cw_skip (seqK_n (cw_seq (cw_block (cw_region (omi rfl rfl ?_)))))
    have := wr_u64 ((beN ((inRaw i bytes).1.take k) : Int) * 256)
    refine ol rfl (lo_mul_w rfl rfl) (ol rfl (lo_move (v := str _) rfl) (omi rfl rfl ?_))
    have := u8r (((inRaw i bytes).1).getD k 0)
    refine ol rfl (lo_index_str k rfl rfl Tryz.underlying9 (by omega) (by omega)) (ol rfl (lo_conv_in rfl (by rw [Tryz.underlying5]; rfl) Tryz.underlying39 (rg_u64 (by omega))) ?_)
    have := wr_u64 ((IntKind.wrap .u64 ((beN ((inRaw i bytes).1.take k) : Int) * 256)) + ((((inRaw i bytes).1).getD k 0).toNat : Int))
    refine ol rfl (lo_add_w rfl rfl) (oai rfl rfl (ow_nil (blkK_n (seqK_n (cw_region ?_)))))
    refine omi rfl rfl (ol rfl (lo_add rfl rfl (rg_i64 (by omega))) (oai rfl rfl (ow_nil ?_)))
    refine next1 (k + 1) (upd_intro (upd_intro (mask_intro (by first | exact off_refl | (repeat (first | exact off_mask | refine off_upd rfl ?_ | refine off_mask2 rfl ?_)))) rfl) (congrArg (Value.int .u64) (beN_step (by omega) (by omega)))) (lmask_intro (by first | exact offl_refl | (repeat (first | exact offl_mask | refine offl_upd rfl ?_ | refine offl_mask2 rfl ?_)))) hl18 ?_ ?_
    · omega
    omega
  have p21 := df h19
  refine cw_exit (seqK_e (loopK_e (blkK_hit (seqK_n (cw_seq ?_)))))
  refine cw_region (omi rfl rfl (oai rfl rfl (ow_nil (seqK_n (cw_down ((HLe.refl _).trans hl18) ?_)))))
  refine cw_ret (fnK_r (res1 rfl (rv_t (v := .int _ _) rfl)) (.refl _) ?_)
  refine ⟨_, rfl, j15, ?_, rfl, rfl, ?_⟩
  · simp only [inNum]
    rw [hb8, List.take_of_length_le (by omega)]
  simp only [inNum]
  rw [hb8]
  exact hj16
theorem rin_Text (H : Hp) (i_b : Nat) (i_r : RIn) (i : In) (i_R : RSt i_r i) (most : Int) (most_r : -9223372036854775808 ≤ most ∧ most ≤ 9223372036854775807) : Pm Tryz.prog 83 #[.pointer (some ⟨i_b, 0, none⟩), .int .i64 most] H i_b (bx 114 (RIn.cells i_r)) (fun v H' o' => ∃ (j : RIn), v = str ((inText i most).1) ∧ H = H' ∧ o' = bx 114 (RIn.cells j) ∧ RSt j ((inText i most).2)) := by
  refine pm_cw Tryz.func83 rfl Tryz.ntmps83 rfl (fun N => ?_)
  have := i_R.err
  have := i_R.lo
  have := i_R.hi
  have := i_R.len
  refine cw_seq (cw_region (ol rfl (lo_assign (v := str _) rfl) (ow_nil (seqK_n (cw_seq ?_)))))
  refine cw_region (ol rfl (lo_move (v := .pointer (some ⟨_, _, none⟩)) rfl) ?_)
  refine ow1 (op1_pm 0 rfl (rin_Num _ i_b i_r i i_R 2 (by omega)) (en_f cb53 rfl) rfl ?_)
  rintro _ _ _ ⟨j3, rfl, rfl, rfl, hj4⟩ _
  have := hj4.err
  have := hj4.lo
  have := hj4.hi
  have := hj4.len
  have := inNum_r i 2
  refine ol rfl (lo_conv_in rfl (by rw [Tryz.underlying39]; rfl) Tryz.underlying3 (rg_i64 (by omega))) (oai rfl rfl (ow_nil (seqK_n (cw_seq (cw_seq ?_)))))
  refine cw_region (omi rfl rfl (omi rfl rfl (ol rfl (lo_gtr rfl rfl) (ow_nil (seqK_n ?_)))))
  refine cw_cond rfl (fun h5 => ?_) (fun h5 => ?_)
  · have p6 := dt h5
    refine cw_region (ol rfl (lo_move (v := .pointer (some ⟨_, _, none⟩)) rfl) ?_)
    refine ow1 (op1_pm 0 rfl (rin_Fail _ i_b j3 ((inNum i 2).2) hj4 5 (by omega)) (en_f cb85 rfl) rfl ?_)
    rintro _ _ _ ⟨j9, rfl, rfl, rfl, hj10⟩ _
    have := hj10.err
    have := hj10.lo
    have := hj10.hi
    have := hj10.len
    refine ow_nil (seqK_n (cw_seq (cw_region (ol rfl (lo_move (v := .pointer (some ⟨_, _, none⟩)) rfl) (omi rfl rfl ?_)))))
    refine ow1 (op1_pm 0 rfl (rin_Raw _ i_b j9 (inFail ((inNum i 2).2) 5) hj10 ((inNum i 2).1) (by omega)) (en_f cb111 rfl) rfl ?_)
    rintro _ _ _ ⟨j13, rfl, rfl, rfl, hj14⟩ _
    have := hj14.err
    have := hj14.lo
    have := hj14.hi
    have := hj14.len
    have := inRaw_len (inFail ((inNum i 2).2) 5) ((inNum i 2).1)
    refine ol rfl (lo_assign (v := str _) rfl) (ow_nil (seqK_n (cw_ret (fnK_r (res1 rfl (rv_t (v := str _) rfl)) (.refl _) ?_))))
    refine ⟨_, rfl, j13, ?_, rfl, rfl, ?_⟩
    · unfold inText; first | (rw [if_pos (by omega)]; done) | (rw [if_neg (by omega)]; done)
    unfold inText; first | (rw [if_pos (by omega)]; exact hj14) | (rw [if_neg (by omega)]; exact hj14)
  have p15 := df h5
  refine cw_skip (seqK_n (cw_seq (cw_region (ol rfl (lo_move (v := .pointer (some ⟨_, _, none⟩)) rfl) (omi rfl rfl ?_)))))
  refine ow1 (op1_pm 0 rfl (rin_Raw _ i_b j3 ((inNum i 2).2) hj4 ((inNum i 2).1) (by omega)) (en_f cb111 rfl) rfl ?_)
  rintro _ _ _ ⟨j18, rfl, rfl, rfl, hj19⟩ _
  have := hj19.err
  have := hj19.lo
  have := hj19.hi
  have := hj19.len
  have := inRaw_len ((inNum i 2).2) ((inNum i 2).1)
  refine ol rfl (lo_assign (v := str _) rfl) (ow_nil (seqK_n (cw_ret (fnK_r (res1 rfl (rv_t (v := str _) rfl)) (.refl _) ?_))))
  refine ⟨_, rfl, j18, ?_, rfl, rfl, ?_⟩
  · unfold inText; first | (rw [if_pos (by omega)]; done) | (rw [if_neg (by omega)]; done)
  unfold inText; first | (rw [if_pos (by omega)]; exact hj19) | (rw [if_neg (by omega)]; exact hj19)
theorem rin_End (H : Hp) (i_b : Nat) (i_r : RIn) (i : In) (i_R : RSt i_r i) : Pm Tryz.prog 56 #[.pointer (some ⟨i_b, 0, none⟩)] H i_b (bx 114 (RIn.cells i_r)) (fun v H' o' => ∃ (j : RIn), v = .int .i64 (inEnd i) ∧ H = H' ∧ o' = bx 114 (RIn.cells j) ∧ RSt j i) := by
  refine pm_cw Tryz.func56 rfl Tryz.ntmps56 rfl (fun N => ?_)
  have := i_R.err
  have := i_R.lo
  have := i_R.hi
  have := i_R.len
  refine cw_seq (cw_region (oai rfl rfl (ow_nil (seqK_n (cw_seq ?_)))))
  refine cw_seq (cw_anyL mixd ?_)
  refine vw_q 0 rfl (by kernel_rfl) (by repeat (first | exact lle_l0 | exact LLe.refl _ | exact lle_none | refine lle_up ?_ rfl)) (fun _ _ hh hl => lo_move (v := .pointer (some ⟨_, _, none⟩)) rfl) ?_
  refine vw_q 1 rfl (by kernel_rfl) (by repeat (first | exact lle_l0 | exact LLe.refl _ | exact lle_none | refine lle_up ?_ rfl)) (fun _ _ hh hl => lo_nilCheck rfl) ?_
  refine vw_q 2 rfl (by kernel_rfl) (by repeat (first | exact lle_l0 | exact LLe.refl _ | exact lle_none | refine lle_up ?_ rfl)) (fun _ _ hh hl => lo_fieldAddr rfl fl114_2) ?_
  refine vw_q 3 rfl (by kernel_rfl) (by repeat (first | exact lle_l0 | exact LLe.refl _ | exact lle_none | refine lle_up ?_ rfl)) (fun _ _ hh hl => lo_load1 (i := 0) (v := .int _ _) rfl ag3 (hl _ _ rfl) rfl) ?_
  refine vw_q 4 rfl (by kernel_rfl) (by repeat (first | exact lle_l0 | exact LLe.refl _ | exact lle_none | refine lle_up ?_ rfl)) (fun _ _ hh hl => lo_eql rfl rfl) ?_
  refine vw_q 5 rfl (by kernel_rfl) (by repeat (first | exact lle_l0 | exact LLe.refl _ | exact lle_none | refine lle_up ?_ rfl)) (fun _ _ hh hl => lo_move (v := .bool _) rfl) ?_
  refine vw_sp (j := 5) rfl (fun h1 => ?_) (fun h1 => ?_)
  · have p2 := dt h1
    refine vw_qg 6 rfl (by kernel_rfl) (by repeat (first | exact lle_l0 | exact LLe.refl _ | exact lle_none | refine lle_up ?_ rfl)) rfl h1 (fun _ _ hh hl => lo_move (v := .pointer (some ⟨_, _, none⟩)) rfl) ?_
    refine vw_qg 7 rfl (by kernel_rfl) (by repeat (first | exact lle_l0 | exact LLe.refl _ | exact lle_none | refine lle_up ?_ rfl)) rfl h1 (fun _ _ hh hl => lo_nilCheck rfl) ?_
    refine vw_qg 8 rfl (by kernel_rfl) (by repeat (first | exact lle_l0 | exact LLe.refl _ | exact lle_none | refine lle_up ?_ rfl)) rfl h1 (fun _ _ hh hl => lo_fieldAddr rfl fl114_1) ?_
    refine vw_qg 9 rfl (by kernel_rfl) (by repeat (first | exact lle_l0 | exact LLe.refl _ | exact lle_none | refine lle_up ?_ rfl)) rfl h1 (fun _ _ hh hl => lo_load1 (i := 0) (v := .int _ _) rfl ag3 (hl _ _ rfl) rfl) ?_
    refine vw_qg 10 rfl (by kernel_rfl) (by repeat (first | exact lle_l0 | exact LLe.refl _ | exact lle_none | refine lle_up ?_ rfl)) rfl h1 (fun _ _ hh hl => lo_move (v := .pointer (some ⟨_, _, none⟩)) rfl) ?_
    refine vw_qg 11 rfl (by kernel_rfl) (by repeat (first | exact lle_l0 | exact LLe.refl _ | exact lle_none | refine lle_up ?_ rfl)) rfl h1 (fun _ _ hh hl => lo_nilCheck rfl) ?_
    refine vw_qg 12 rfl (by kernel_rfl) (by repeat (first | exact lle_l0 | exact LLe.refl _ | exact lle_none | refine lle_up ?_ rfl)) rfl h1 (fun _ _ hh hl => lo_fieldAddr rfl fl114_0) ?_
    refine vw_qg 13 rfl (by kernel_rfl) (by repeat (first | exact lle_l0 | exact LLe.refl _ | exact lle_none | refine lle_up ?_ rfl)) rfl h1 (fun _ _ hh hl => lo_load1 (i := 0) (v := str _) rfl ag9 (hl _ _ rfl) rfl) ?_
    refine vw_qg 14 rfl (by kernel_rfl) (by repeat (first | exact lle_l0 | exact LLe.refl _ | exact lle_none | refine lle_up ?_ rfl)) rfl h1 (fun _ _ hh hl => lo_len_str rfl Tryz.underlying9) ?_
    refine vw_qg 15 rfl (by kernel_rfl) (by repeat (first | exact lle_l0 | exact LLe.refl _ | exact lle_none | refine lle_up ?_ rfl)) rfl h1 (fun _ _ hh hl => lo_lss rfl rfl) ?_
    refine vw_q 16 rfl (by kernel_rfl) (by repeat (first | exact lle_l0 | exact LLe.refl _ | exact lle_none | refine lle_up ?_ rfl)) (fun _ _ hh hl => lo_pick_t (v := .bool _) rfl h1 rfl) ?_
    refine vw_done (by kernel_rfl) (seqK_n (cw_cond rfl (fun h3 => ?_) (fun h3 => ?_)))
    · have p4 := dt h3
      refine cw_seq (cw_region (oai rfl rfl (ow_nil (seqK_n (cw_ret ?_)))))
      refine seqK_r (fnK_r (res1 rfl (rv_t (v := .int _ _) rfl)) (.refl _) ?_)
      refine ⟨_, rfl, i_r, ?_, rfl, rfl, i_R⟩
      rw [i_R.end']
      first | (rw [if_pos (by omega)]; done) | (rw [if_neg (by omega)]; done)
    have p5 := df h3
    refine cw_skip (seqK_n (cw_seq (cw_region (ol rfl (lo_move (v := .pointer (some ⟨_, _, none⟩)) rfl) (ol rfl (lo_nilCheck rfl) ?_)))))
    refine ol rfl (lo_fieldAddr rfl fl114_2) (ol rfl (lo_load1 (i := 0) (v := .int _ _) rfl ag3 rfl rfl) (oai rfl rfl (ow_nil (seqK_n (cw_ret ?_)))))
    refine fnK_r (res1 rfl (rv_t (v := .int _ _) rfl)) (.refl _) ?_
    refine ⟨_, rfl, i_r, ?_, rfl, rfl, i_R⟩
    rw [i_R.end']
    first | (rw [if_pos (by omega)]; done) | (rw [if_neg (by omega)]; done)
  have p6 := df h1
  refine vw_qgs 6 rfl (by kernel_rfl) (by repeat (first | exact lle_l0 | exact LLe.refl _ | exact lle_none | refine lle_up ?_ rfl)) rfl h1 ?_
  refine vw_qgs 7 rfl (by kernel_rfl) (by repeat (first | exact lle_l0 | exact LLe.refl _ | exact lle_none | refine lle_up ?_ rfl)) rfl h1 ?_
  refine vw_qgs 8 rfl (by kernel_rfl) (by repeat (first | exact lle_l0 | exact LLe.refl _ | exact lle_none | refine lle_up ?_ rfl)) rfl h1 ?_
  refine vw_qgs 9 rfl (by kernel_rfl) (by repeat (first | exact lle_l0 | exact LLe.refl _ | exact lle_none | refine lle_up ?_ rfl)) rfl h1 ?_
  refine vw_qgs 10 rfl (by kernel_rfl) (by repeat (first | exact lle_l0 | exact LLe.refl _ | exact lle_none | refine lle_up ?_ rfl)) rfl h1 ?_
  refine vw_qgs 11 rfl (by kernel_rfl) (by repeat (first | exact lle_l0 | exact LLe.refl _ | exact lle_none | refine lle_up ?_ rfl)) rfl h1 ?_
  refine vw_qgs 12 rfl (by kernel_rfl) (by repeat (first | exact lle_l0 | exact LLe.refl _ | exact lle_none | refine lle_up ?_ rfl)) rfl h1 ?_
  refine vw_qgs 13 rfl (by kernel_rfl) (by repeat (first | exact lle_l0 | exact LLe.refl _ | exact lle_none | refine lle_up ?_ rfl)) rfl h1 ?_
  refine vw_qgs 14 rfl (by kernel_rfl) (by repeat (first | exact lle_l0 | exact LLe.refl _ | exact lle_none | refine lle_up ?_ rfl)) rfl h1 ?_
  refine vw_qgs 15 rfl (by kernel_rfl) (by repeat (first | exact lle_l0 | exact LLe.refl _ | exact lle_none | refine lle_up ?_ rfl)) rfl h1 ?_
  refine vw_q 16 rfl (by kernel_rfl) (by repeat (first | exact lle_l0 | exact LLe.refl _ | exact lle_none | refine lle_up ?_ rfl)) (fun _ _ hh hl => lo_pick_f (v := .bool _) rfl h1 rfl) ?_
  refine vw_done (by kernel_rfl) (seqK_n (cw_cond_f rfl rfl (cw_skip (seqK_n (cw_seq ?_)))))
  refine cw_region (ol rfl (lo_move (v := .pointer (some ⟨_, _, none⟩)) rfl) (ol rfl (lo_nilCheck rfl) (ol rfl (lo_fieldAddr rfl fl114_2) (ol rfl (lo_load1 (i := 0) (v := .int _ _) rfl ag3 rfl rfl) (oai rfl rfl ?_)))))
  refine ow_nil (seqK_n (cw_ret (fnK_r (res1 rfl (rv_t (v := .int _ _) rfl)) (.refl _) ?_)))
  refine ⟨_, rfl, i_r, ?_, rfl, rfl, i_R⟩
  rw [i_R.end']
  first | (rw [if_pos (by omega)]; done) | (rw [if_neg (by omega)]; done)
end Go.SW
set_option linter.unusedVariables false
set_option maxRecDepth 100000
set_option maxHeartbeats 4000000
namespace Go.SW
open Go.Proofs
theorem by9 : By Tryz.prog 9 16 := by_of (by kernel_rfl)
theorem cb124 : Callable Tryz.prog 124 := callable_of Tryz.func124 (by kernel_rfl) (by kernel_rfl)
theorem zr9 : Zr Tryz.prog 9 [str []] := fun w => ⟨str [], by kernel_rfl, rfl⟩
theorem r4_Name (H : Hp) (s : Bs) (hs : s.length ≤ 9223372036854775807) : Pr Tryz.prog 69 #[str s] H (.int .i64 (nameE s)) := by
  refine pr_cw Tryz.func69 rfl Tryz.ntmps69 rfl (fun N => ?_)
  refine cw_seq (cw_region (oai rfl rfl (ow_nil (seqK_n (cw_seq ?_)))))
  refine cw_seq (cw_region (ol rfl (lo_move (v := str _) rfl) (ol rfl (lo_len_str rfl Tryz.underlying9) (ol rfl (lo_eql rfl rfl) (ow_nil ?_)))))
  refine seqK_n (cw_cond rfl (fun h1 => ?_) (fun h1 => ?_))
  · have p2 := dt h1
    refine cw_seq (cw_region (oai rfl rfl (ow_nil (seqK_n (cw_ret ?_)))))
    refine seqK_r (fnK_r (res1 rfl (rv_t (v := .int _ _) rfl)) (.refl _) ?_)
    have : s = [] := List.eq_nil_of_length_eq_zero (by omega)
    subst this
    rfl
  have p3 := df h1
  refine cw_skip (seqK_n (cw_seq (cw_seq (cw_region (ol rfl (lo_move (v := str _) rfl) ?_)))))
  refine ol rfl (lo_len_str rfl Tryz.underlying9) (ol rfl (lo_gtr rfl rfl) (ow_nil (seqK_n (cw_cond rfl (fun h4 => ?_) (fun h4 => ?_)))))
  · have p5 := dt h4
    refine cw_seq (cw_region (oai rfl rfl (ow_nil (seqK_n (cw_ret ?_)))))
    refine seqK_r (fnK_r (res1 rfl (rv_t (v := .int _ _) rfl)) (.refl _) ?_)
    have hne : ¬ s = [] := fun q => by subst q; simp at *
    unfold nameE
    rw [if_neg hne, if_pos (by omega)]
  have p6 := df h4
  refine cw_skip (seqK_n (cw_seq (cw_seq (cw_region (oai rfl rfl ?_)))))
  refine ow_nil (seqK_n (cw_block (cw_loop1 [2, 3, 10, 11, 12, 13, 14, 15, 16, 17, 18, 19, 20] [] (fun (k : Nat) G => upd (G) 3 (.int .i64 (k : Int))) (fun (k : Nat) G => G) (fun (k : Nat) H' => k ≤ s.length ∧ (s.drop k).all (fun c => letter c.toNat) = plain s) (fun (k : Nat) => s.length - k) 0 (upd_intro (mask_intro (by first | exact off_refl | (repeat (first | exact off_mask | refine off_upd rfl ?_ | refine off_mask2 rfl ?_)))) rfl) (lmask_intro offl_refl) ?_ ?_)))
  · exact ⟨by omega, rfl⟩
  intro k J8 JL8 H8 hp7 hl8
  obtain ⟨hk1, hk2⟩ := hp7
  refine cw_seq (cw_seq (cw_region (omi rfl rfl (ol rfl (lo_move (v := str _) rfl) (ol rfl (lo_len_str rfl Tryz.underlying9) ?_)))))
  refine ol rfl (lo_lss rfl rfl) (ow_nil (seqK_n (cw_cond rfl (fun h9 => ?_) (fun h9 => ?_))))
  · have p10 := dt h9
    refine cw_skip (seqK_n (cw_seq (cw_block (cw_seq (cw_region ?_)))))
    refine ol rfl (lo_move (v := str _) rfl) (omi rfl rfl ?_)
    have := u8r (s.getD k 0)
    refine ol rfl (lo_index_str k rfl rfl Tryz.underlying9 (by omega) (by omega)) ?_
    refine ow1 (op1_pr (r4_letter _ ((s.getD k 0).toNat : Int) (by omega)) (en_f cb124 rfl) rfl ?_)
    refine ol rfl (lo_not rfl) (ow_nil (seqK_n (cw_cond rfl (fun h11 => ?_) (fun h11 => ?_))))
    · have h12 := not_t h11
      refine cw_seq (cw_region (oai rfl rfl (ow_nil (seqK_n (cw_ret ?_)))))
      refine blkK_r (seqK_r (loopK_r (blkK_r (seqK_r (fnK_r (res1 rfl (rv_t (v := .int _ _) rfl)) ((HLe.refl _).trans hl8) ?_)))))
      have hne : ¬ s = [] := fun q => by subst q; simp at *
      unfold nameE
      rw [if_neg hne, if_neg (by omega), ← hk2, letter_all (k := k) (by omega)]
      simp only [*, Bool.false_and, Bool.false_eq_true, if_false]
    have h13 := not_f h11
    refine cw_skip (blkK_n (seqK_n (cw_region (omi rfl rfl (ol rfl (lo_add rfl rfl (rg_i64 (by omega))) ?_)))))
    refine oai rfl rfl (ow_nil ?_)
    refine next1 (k + 1) (upd_intro (mask_intro (by first | exact off_refl | (repeat (first | exact off_mask | refine off_upd rfl ?_ | refine off_mask2 rfl ?_)))) rfl) (lmask_intro (by first | exact offl_refl | (repeat (first | exact offl_mask | refine offl_upd rfl ?_ | refine offl_mask2 rfl ?_)))) hl8 ?_ ?_
    · refine ⟨by omega, ?_⟩
      rw [← hk2, letter_all (k := k) (by omega)]
      simp only [*, Bool.true_and]
    omega
  have p14 := df h9
  refine cw_exit (seqK_e (loopK_e (blkK_hit (seqK_n (cw_seq ?_)))))
  refine cw_region (oai rfl rfl (ow_nil (seqK_n (cw_ret (fnK_r (res1 rfl (rv_t (v := .int _ _) rfl)) ((HLe.refl _).trans hl8) ?_)))))
  have hne : ¬ s = [] := fun q => by subst q; simp at *
  unfold nameE
  rw [if_neg hne, if_neg (by omega), ← hk2, List.drop_of_length_le (by omega)]
  rfl
theorem r4_Split (H : Hp) (s : Bs) (hs : s.length ≤ 1000000) : Ph Tryz.prog 125 #[str s] H (fun v H' => ∃ (a1 : Option Addr) (c1 : Nat), v = .slice a1 (wordsOf s).length c1 ∧ SlH strE 1 H' (.slice a1 (wordsOf s).length c1) (wordsOf s)) := by
  refine ph_cw Tryz.func125 rfl Tryz.ntmps125 rfl (fun N => ?_)
  refine cw_seq (cw_region (ol rfl (lo_assign (v := .slice _ _ _) rfl) (ow_nil (seqK_n (cw_seq ?_)))))
  refine cw_seq (cw_region (ol rfl (lo_move (v := str _) rfl) (ol rfl (lo_len_str rfl Tryz.underlying9) (ol rfl (lo_eql rfl rfl) (ow_nil ?_)))))
  refine seqK_n (cw_cond rfl (fun h1 => ?_) (fun h1 => ?_))
  · have p2 := dt h1
    refine cw_seq (cw_region (ol rfl (lo_assign (v := .slice _ _ _) rfl) (ow_nil (seqK_n (cw_ret ?_)))))
    refine seqK_r (fnK_r (res1 rfl (rv_t (v := .slice _ _ _) rfl)) (.refl _) ?_)
    have e : wordsOf s = [] := by unfold wordsOf; rw [if_pos (List.eq_nil_of_length_eq_zero (by omega))]
    rw [e]
    exact ⟨none, 0, rfl, slh_nil⟩
  have p3 := df h1
  refine cw_skip (seqK_n (cw_seq (cw_region (ol rfl (lo_assign (v := .slice _ _ _) rfl) (ow_nil ?_)))))
  refine seqK_n (cw_seq (cw_region (oai rfl rfl (ow_nil (seqK_n ?_)))))
  refine cw_seq (cw_seq (cw_region (oai rfl rfl (ow_nil (seqK_n ?_)))))
  refine cw_block (cw_loop5 [3, 4, 5, 9, 10, 11, 12, 13, 14, 15, 16, 17, 18, 19, 20, 21, 22, 23, 24, 25, 26, 27] [0, 1] (fun (f : Nat) (k : Nat) (out : List Bs) (v : Value) (en : Option (Nat × Obj)) G => upd (upd (upd (G) 4 (.int .i64 (f : Int))) 5 (.int .i64 (k : Int))) 3 (v)) (fun (f : Nat) (k : Nat) (out : List Bs) (v : Value) (en : Option (Nat × Obj)) G => lupd (G) 0 (en)) (fun (f : Nat) (k : Nat) (out : List Bs) (v : Value) (en : Option (Nat × Obj)) H' => f ≤ k ∧ k ≤ s.length ∧ dots s = out ++ dots (s.drop f) ∧ noDot s f k ∧ out.length ≤ k ∧ OwnV 1 9 v en out.length (out.flatMap (fun s => [str s])) ∧ (∀ x ∈ out, (fun s : Bs => s.length ≤ 9223372036854775807) x)) (fun (f : Nat) (k : Nat) (out : List Bs) (v : Value) (en : Option (Nat × Obj)) => s.length - k) 0 0 [] (.slice none 0 0) none (upd_intro (upd_intro (upd_intro (mask_intro (by first | exact off_refl | (repeat (first | exact off_mask | refine off_upd rfl ?_ | refine off_mask2 rfl ?_)))) rfl) rfl) rfl) (lupd_intro (lmask_intro offl_refl) rfl) ?_ ?_)
  · exact ⟨Nat.le_refl _, Nat.zero_le _, rfl, noDot_nil, Nat.zero_le _, ownV_nil, wf_nil⟩
  intro f k out v en J5 JL5 H5 hp4 hl5
  obtain ⟨hk1, hk2, hk3, hk4, hk5, ho, hw⟩ := hp4
  refine cw_seq (cw_seq (cw_region (omi rfl rfl (ol rfl (lo_move (v := str _) rfl) (ol rfl (lo_len_str rfl Tryz.underlying9) ?_)))))
  refine ol rfl (lo_lss rfl rfl) (ow_nil (seqK_n (cw_cond rfl (fun h6 => ?_) (fun h6 => ?_))))
  · have p7 := dt h6
    refine cw_skip (seqK_n (cw_seq (cw_block (cw_seq (cw_region ?_)))))
    refine ol rfl (lo_move (v := str _) rfl) (omi rfl rfl ?_)
    have := u8r (s.getD k 0)
    refine ol rfl (lo_index_str k rfl rfl Tryz.underlying9 (by omega) (by omega)) (ol rfl (lo_eql rfl rfl) (ow_nil (seqK_n (cw_cond rfl (fun h8 => ?_) (fun h8 => ?_)))))
    · have p9 := dt h8
      refine cw_seq (cw_region (ol rfl (lo_move rfl) (ol rfl (lo_move (v := str _) rfl) (omi rfl rfl (omi rfl rfl ?_)))))
      refine ol rfl (lo_slice_str f k rfl rfl rfl Tryz.underlying9 (by omega) (by omega) (by omega) (by omega)) ?_
      refine ow1 (op1_bslice (cs := [_]) 1 rfl Tryz.underlying183 sz9 zx9 rfl ⟨rfl, rfl, trivial⟩ rfl rfl (by decide) (fun b10 => ?_))
      refine ow1 (op1_app 0 rfl rfl Tryz.underlying183 Tryz.underlying183 rfl sz9 by9 (by decide) zr9 ho (src_bx (i := 1) rfl rfl) (List.all_eq_true.1 rfl) rfl (by first | omega | (simp; omega)) rfl (fun v11 en12 ho13 => ?_))
      have ho14 := own_push (enc := (fun s => [str s])) out ((s.drop f).take (k - f)) ho13 rfl
      refine ol rfl (lo_assign rfl) (ow_nil (seqK_n (cw_region (omi rfl rfl (ol rfl (lo_add rfl rfl (rg_i64 (by omega))) ?_)))))
      refine oai rfl rfl (ow_nil (blkK_n (seqK_n (cw_region (omi rfl rfl ?_)))))
      refine ol rfl (lo_add rfl rfl (rg_i64 (by omega))) (oai rfl rfl (ow_nil ?_))
      refine next5 (k + 1) (k + 1) (out ++ [((s.drop f).take (k - f))]) v11 en12 (upd_intro (upd_intro (upd_intro (mask_intro (by first | exact off_refl | (repeat (first | exact off_mask | refine off_upd rfl ?_ | refine off_mask2 rfl ?_)))) rfl) rfl) rfl) (lupd_intro (lmask_intro (by first | exact offl_refl | (repeat (first | exact offl_mask | refine offl_upd rfl ?_ | refine offl_mask2 rfl ?_)))) rfl) hl5 ?_ ?_
      · refine ⟨by omega, by omega, split_hit hk3 hk4 (by omega) (by omega) (byteEq (n := 46) (by omega) (by omega)), noDot_nil, by simp; omega, ho14, (wf_push hw (by show List.length ((s.drop f).take (k - f)) ≤ 9223372036854775807; first | omega | (simp; omega) | (simp; done)))⟩
      omega
    have p15 := df h8
    refine cw_skip (blkK_n (seqK_n (cw_region (omi rfl rfl (ol rfl (lo_add rfl rfl (rg_i64 (by omega))) ?_)))))
    refine oai rfl rfl (ow_nil ?_)
    refine next5 f (k + 1) out v en (upd_intro (upd_intro (upd_intro (mask_intro (by first | exact off_refl | (repeat (first | exact off_mask | refine off_upd rfl ?_ | refine off_mask2 rfl ?_)))) rfl) rfl) rfl) (lupd_intro (lmask_intro (by first | exact offl_refl | (repeat (first | exact offl_mask | refine offl_upd rfl ?_ | refine offl_mask2 rfl ?_)))) rfl) hl5 ?_ ?_
    · exact ⟨by omega, by omega, hk3, noDot_step hk4 (byteNe (n := 46) (by omega) (by omega)), by omega, ho, hw⟩
    omega
  have p16 := df h6
  refine cw_exit (seqK_e (loopK_e (blkK_hit (seqK_n (cw_seq ?_)))))
  refine cw_region (ol rfl (lo_move rfl) (ol rfl (lo_move (v := str _) rfl) (omi rfl rfl (ol rfl (lo_slice_str_lo f rfl rfl Tryz.underlying9 (by omega) (by omega)) ?_))))
  refine ow1 (op1_bslice (cs := [_]) 1 rfl Tryz.underlying183 sz9 zx9 rfl ⟨rfl, rfl, trivial⟩ rfl rfl (by decide) (fun b17 => ?_))
  refine ow1 (op1_app 0 rfl rfl Tryz.underlying183 Tryz.underlying183 rfl sz9 by9 (by decide) zr9 ho (src_bx (i := 1) rfl rfl) (List.all_eq_true.1 rfl) rfl (by first | omega | (simp; omega)) rfl (fun v18 en19 ho20 => ?_))
  have ho21 := own_push (enc := (fun s => [str s])) out (s.drop f) ho20 rfl
  refine ol rfl (lo_assign rfl) (ow_nil (seqK_n (cw_giveO 0 rfl (fun _ hl22 hg23 => ?_))))
  have hs24 := slh_own (enc := (fun s => [str s])) (wf := (fun s => s.length ≤ 9223372036854775807)) (fun _ => rfl) ho21 (wf_push hw (by show List.length (s.drop f) ≤ 9223372036854775807; first | omega | (simp; omega) | (simp; done))) hg23
  obtain ⟨⟨a25, c26, rfl, -⟩, -⟩ := id hs24
  refine cw_ret (fnK_r (res1 rfl (rv_t (v := .slice _ _ _) rfl)) (((HLe.refl _).trans hl5).trans hl22) ?_)
  have hne : ¬ s = [] := fun q => by subst q; simp at *
  have e : wordsOf s = (out ++ [(s.drop f)]) := by unfold wordsOf; rw [if_neg hne]; exact split_end hk3 hk4 (by omega)
  rw [e]
  exact ⟨_, _, rfl, hs24⟩
end Go.SW
set_option linter.unusedVariables false
set_option maxRecDepth 100000
set_option maxHeartbeats 4000000
namespace Go.SW
open Go.Proofs
theorem cb125 : Callable Tryz.prog 125 := callable_of Tryz.func125 (by kernel_rfl) (by kernel_rfl)
theorem cb126 : Callable Tryz.prog 126 := callable_of Tryz.func126 (by kernel_rfl) (by kernel_rfl)
theorem cb69 : Callable Tryz.prog 69 := callable_of Tryz.func69 (by kernel_rfl) (by kernel_rfl)
theorem cb70 : Callable Tryz.prog 70 := callable_of Tryz.func70 (by kernel_rfl) (by kernel_rfl)
theorem cb71 : Callable Tryz.prog 71 := callable_of Tryz.func71 (by kernel_rfl) (by kernel_rfl)
theorem cb94 : Callable Tryz.prog 94 := callable_of Tryz.func94 (by kernel_rfl) (by kernel_rfl)
theorem cb95 : Callable Tryz.prog 95 := callable_of Tryz.func95 (by kernel_rfl) (by kernel_rfl)
theorem zr42 : Zr Tryz.prog 42 [.int .u64 0, str [], str [], .slice none 0 0, str [], .int .u64 0, .int .u8 0] := fun w => ⟨.agg #[.int .u64 0, str [], str [], .slice none 0 0, str [], .int .u64 0, .int .u8 0], by kernel_rfl, rfl⟩
theorem r4_Key (H : Hp) (s : Bs) (pattern : Bool) : Pr Tryz.prog 70 #[str s, .bool pattern] H (.int .i64 (keyE (besidesOf pattern) s)) := by
  refine pr_cw Tryz.func70 rfl Tryz.ntmps70 rfl (fun N => ?_)
  refine cw_seq (cw_region (oai rfl rfl (ow_nil (seqK_n (cw_seq ?_)))))
  refine cw_seq (cw_region (ol rfl (lo_move (v := str _) rfl) (ol rfl (lo_len_str rfl Tryz.underlying9) (ol rfl (lo_gtr rfl rfl) (ow_nil ?_)))))
  refine seqK_n (cw_cond rfl (fun h1 => ?_) (fun h1 => ?_))
  · have p2 := dt h1
    refine cw_seq (cw_region (oai rfl rfl (ow_nil (seqK_n (cw_ret ?_)))))
    refine seqK_r (fnK_r (res1 rfl (rv_t (v := .int _ _) rfl)) (.refl _) ?_)
    unfold keyE
    rw [if_pos (by omega)]
  have p3 := df h1
  refine cw_skip (seqK_n (cw_seq (cw_seq (cw_region (ol rfl (lo_move (v := str _) rfl) ?_)))))
  refine ow1 (op1_ph (r4_Split _ s (by first | omega | (simp; done) | decide)) (en_f cb125 rfl) rfl ?_)
  rintro _ H8 ⟨a4, c5, rfl, hs6⟩ hl7
  refine ol rfl (lo_len_slh rfl hs6 Tryz.underlying183) (omi rfl rfl (ow_nil (seqK_n (cw_block (cw_loop1 [4, 6, 7, 8, 15, 16, 17, 18, 19, 20, 21, 22, 23, 24, 25, 26, 27, 28, 29, 30, 31, 32, 33, 34, 35, 36, 37, 38, 39, 40, 41, 42, 43, 44, 45, 46, 47, 48, 49] [] (fun (k : Nat) G => upd (G) 15 (.int .i64 (k : Int))) (fun (k : Nat) G => G) (fun (k : Nat) H' => k ≤ (wordsOf s).length ∧ (wordsOf s).any (isBad (besidesOf pattern)) = ((wordsOf s).drop k).any (isBad (besidesOf pattern))) (fun (k : Nat) => (wordsOf s).length - k) 0 (upd_intro (mask_intro (by first | exact off_refl | (repeat (first | exact off_mask | refine off_upd rfl ?_ | refine off_mask2 rfl ?_)))) rfl) (lmask_intro offl_refl) ?_ ?_)))))
  · exact ⟨Nat.zero_le _, by simp⟩
  intro k J10 JL10 H10 hp9 hl10
  obtain ⟨hk1, hk2⟩ := hp9
  have hwl := words_le s
  refine cw_seq (cw_region (ol rfl (lo_lss rfl rfl) (ow_nil (seqK_n (cw_seq ?_)))))
  refine cw_cond rfl (fun h11 => ?_) (fun h11 => ?_)
  · have p12 := dt h11
    refine cw_skip (seqK_n (cw_seq (cw_block (cw_seq (cw_region ?_)))))
    obtain ⟨c13, hc14⟩ := getE (xs := wordsOf s) (m := k) (by omega)
    obtain ⟨cs15, hE16, at17⟩ := (hs6.mono ((HLe.refl _).trans hl10) (fun _ _ h => h)).get hc14
    obtain ⟨rfl, c13_w⟩ := hE16
    have c13_w : c13.length ≤ 9223372036854775807 := c13_w
    refine ol rfl (lo_indexAddr rfl rfl (hs6.mono ((HLe.refl _).trans hl10) (fun _ _ h => h)).1 at17 Tryz.underlying183 sz9 (by omega) (by omega)) (ol rfl (lo_loadE1 rfl ag9 at17) (ol rfl (lo_assign (v := str _) rfl) (ow_nil (seqK_n (cw_seq ?_)))))
    refine cw_region (ol rfl (lo_move (v := str _) rfl) (ol rfl (lo_len_str rfl Tryz.underlying9) (ol rfl (lo_eql rfl rfl) (oab rfl rfl (ow_nil ?_)))))
    refine seqK_n (cw_seq (cw_seq (cw_region (oai rfl rfl (ow_nil ?_)))))
    refine seqK_n (cw_block (cw_loop2 [7, 8, 22, 23, 24, 25, 26, 27, 28, 29, 30, 31, 32, 33, 34, 35] [] (fun (j : Nat) (b : Bool) G => upd (upd (G) 8 (.int .i64 (j : Int))) 7 (.bool b)) (fun (j : Nat) (b : Bool) G => G) (fun (j : Nat) (b : Bool) H' => j ≤ c13.length ∧ (decide ((c13.length : Int) = 0) || !plain c13) = (b || !((c13.drop j).all (fun c => letter c.toNat)))) (fun (j : Nat) (b : Bool) => c13.length - j) 0 (decide ((c13.length : Int) = 0)) (upd_intro (upd_intro (mask_intro (by first | exact off_refl | (repeat (first | exact off_mask | refine off_upd rfl ?_ | refine off_mask2 rfl ?_)))) rfl) rfl) (lmask_intro offl_refl) ?_ ?_))
    · exact ⟨Nat.zero_le _, rfl⟩
    intro j b J19 JL19 H19 hp18 hl19
    obtain ⟨hj1, hj2⟩ := hp18
    refine cw_seq (cw_seq (cw_region (omi rfl rfl (ol rfl (lo_move (v := str _) rfl) (ol rfl (lo_len_str rfl Tryz.underlying9) ?_)))))
    refine ol rfl (lo_lss rfl rfl) (ow_nil (seqK_n (cw_cond rfl (fun h20 => ?_) (fun h20 => ?_))))
    · have p21 := dt h20
      refine cw_skip (seqK_n (cw_seq (cw_block (cw_region (omb rfl rfl ?_)))))
      refine omb rfl rfl (ow_sp (j := 1) rfl (fun h22 => ?_) (fun h22 => ?_))
      · refine og rfl h22 rfl (og rfl h22 rfl (og rfl h22 rfl (og rfl h22 rfl (og rfl h22 rfl (ol rfl (lo_pick_t (v := .bool _) rfl h22 rfl) ?_)))))
        refine oab rfl rfl (ow_nil (blkK_n (seqK_n (cw_region (omi rfl rfl ?_)))))
        refine ol rfl (lo_add rfl rfl (rg_i64 (by omega))) (oai rfl rfl (ow_nil ?_))
        refine next2 (j + 1) true (upd_intro (upd_intro (mask_intro (by first | exact off_refl | (repeat (first | exact off_mask | refine off_upd rfl ?_ | refine off_mask2 rfl ?_)))) rfl) rfl) (lmask_intro (by first | exact offl_refl | (repeat (first | exact offl_mask | refine offl_upd rfl ?_ | refine offl_mask2 rfl ?_)))) hl19 ?_ ?_
        · refine ⟨by omega, ?_⟩
          rw [hj2, letter_all (k := j) (by omega)]
          simp only [*, Bool.true_or, Bool.false_or, Bool.not_and, Bool.not_true, Bool.not_false, Bool.false_and, Bool.true_and]
        omega
      refine ow1 (op1_g rfl h22 rfl (lo_move (v := str _) rfl) ?_)
      refine ow1 (op1_g rfl h22 rfl (lo_move (v := .int _ _) rfl) ?_)
      have := u8r (c13.getD j 0)
      refine ow1 (op1_g rfl h22 rfl (lo_index_str j rfl rfl Tryz.underlying9 (by omega) (by omega)) ?_)
      refine ow1 (op1_prg rfl h22 (r4_letter _ ((c13.getD j 0).toNat : Int) (by omega)) (en_f cb124 rfl) rfl ?_)
      refine ow1 (op1_g rfl h22 rfl (lo_not rfl) ?_)
      refine ol rfl (lo_pick_f (v := .bool _) rfl h22 rfl) (oab rfl rfl (ow_nil (blkK_n (seqK_n (cw_region ?_)))))
      refine omi rfl rfl (ol rfl (lo_add rfl rfl (rg_i64 (by omega))) (oai rfl rfl (ow_nil ?_)))
      refine next2 (j + 1) (!(letter ((c13.getD j 0).toNat : Int))) (upd_intro (upd_intro (mask_intro (by first | exact off_refl | (repeat (first | exact off_mask | refine off_upd rfl ?_ | refine off_mask2 rfl ?_)))) rfl) rfl) (lmask_intro (by first | exact offl_refl | (repeat (first | exact offl_mask | refine offl_upd rfl ?_ | refine offl_mask2 rfl ?_)))) hl19 ?_ ?_
      · refine ⟨by omega, ?_⟩
        rw [hj2, letter_all (k := j) (by omega)]
        simp only [*, Bool.true_or, Bool.false_or, Bool.not_and, Bool.not_true, Bool.not_false, Bool.false_and, Bool.true_and]
      omega
    have p23 := df h20
    refine cw_exit (seqK_e (loopK_e (blkK_hit (seqK_n (cw_seq ?_)))))
    refine cw_region (omb rfl rfl (omb rfl rfl (ow_sp (j := 1) rfl (fun h24 => ?_) (fun h24 => ?_))))
    · refine ow1 (op1_g rfl h24 rfl (lo_move (v := .bool _) rfl) ?_)
      refine ow1 (op1_g rfl h24 rfl (lo_move (v := .bool _) rfl) ?_)
      refine ow_sp (j := 3) rfl (fun h25 => ?_) (fun h25 => ?_)
      · refine ow1 (op1_g rfl h25 rfl (lo_move (v := str _) rfl) ?_)
        refine ow1 (op1_g rfl h25 rfl (lo_seql rfl rfl) ?_)
        refine ow1 (op1_g rfl h25 rfl (lo_move (v := .bool _) rfl) ?_)
        refine ow_sp (j := 6) rfl (fun h26 => ?_) (fun h26 => ?_)
        · have p27 := dt h26
          refine og rfl h26 rfl (og rfl h26 rfl ?_)
          refine ow1 (op1_g rfl h25 rfl (lo_pick_t (v := .bool _) rfl h26 rfl) ?_)
          refine ow1 (op1_g rfl h24 rfl (lo_pick_t (v := .bool _) rfl h25 rfl) ?_)
          refine ow1 (op1_g rfl h24 rfl (lo_not rfl) ?_)
          refine ol rfl (lo_pick_t (v := .bool _) rfl h24 rfl) (ow_nil (seqK_n (cw_cond_f rfl rfl (cw_skip (blkK_n ?_)))))
          refine seqK_n (cw_region (ol rfl (lo_add rfl rfl (rg_i64 (by omega))) (omi rfl rfl (ow_nil ?_))))
          refine next1 (k + 1) (upd_intro (mask_intro (by first | exact off_refl | (repeat (first | exact off_mask | refine off_upd rfl ?_ | refine off_mask2 rfl ?_)))) rfl) (lmask_intro (by first | exact offl_refl | (repeat (first | exact offl_mask | refine offl_upd rfl ?_ | refine offl_mask2 rfl ?_)))) (hl10.trans hl19) ?_ ?_
          · refine ⟨by omega, ?_⟩
            rw [List.drop_of_length_le (by omega)] at hj2
            have hX := hj2
            simp only [List.all_nil, Bool.not_true, Bool.or_false] at hX
            have hb : isBad (besidesOf pattern) c13 = false := by rw [isBad_doc hX]; simp [*]
            rw [hk2, dropE hc14, List.any_cons, hb]
            simp
          omega
        have p28 := df h26
        refine ow1 (op1_g rfl h26 rfl (lo_move (v := str _) rfl) ?_)
        refine ow1 (op1_g rfl h26 rfl (lo_seql rfl rfl) ?_)
        refine ow1 (op1_g rfl h25 rfl (lo_pick_f (v := .bool _) rfl h26 rfl) ?_)
        refine ow1 (op1_g rfl h24 rfl (lo_pick_t (v := .bool _) rfl h25 rfl) ?_)
        refine ow1 (op1_g rfl h24 rfl (lo_not rfl) ?_)
        refine ol rfl (lo_pick_t (v := .bool _) rfl h24 rfl) (ow_nil (seqK_n (cw_cond rfl (fun h29 => ?_) (fun h29 => ?_))))
        · have h30 := not_t h29
          have p31 := df h30
          refine cw_seq (cw_region (oai rfl rfl (ow_nil (seqK_n (cw_ret ?_)))))
          refine blkK_r (seqK_r (loopK_r (blkK_r (seqK_r (fnK_r (res1 rfl (rv_t (v := .int _ _) rfl)) ((((HLe.refl _).trans hl7).trans hl10).trans hl19) ?_)))))
          rw [List.drop_of_length_le (by omega)] at hj2
          have hX := hj2
          simp only [List.all_nil, Bool.not_true, Bool.or_false] at hX
          have hb : isBad (besidesOf pattern) c13 = true := by rw [isBad_doc hX]; simp [*]
          unfold keyE
          rw [if_neg (by omega), hk2, dropE hc14, List.any_cons, hb]
          rfl
        have h32 := not_f h29
        have p33 := dt h32
        refine cw_skip (blkK_n (seqK_n (cw_region (ol rfl (lo_add rfl rfl (rg_i64 (by omega))) (omi rfl rfl ?_)))))
        refine ow_nil ?_
        refine next1 (k + 1) (upd_intro (mask_intro (by first | exact off_refl | (repeat (first | exact off_mask | refine off_upd rfl ?_ | refine off_mask2 rfl ?_)))) rfl) (lmask_intro (by first | exact offl_refl | (repeat (first | exact offl_mask | refine offl_upd rfl ?_ | refine offl_mask2 rfl ?_)))) (hl10.trans hl19) ?_ ?_
        · refine ⟨by omega, ?_⟩
          rw [List.drop_of_length_le (by omega)] at hj2
          have hX := hj2
          simp only [List.all_nil, Bool.not_true, Bool.or_false] at hX
          have hb : isBad (besidesOf pattern) c13 = false := by rw [isBad_doc hX]; simp [*]
          rw [hk2, dropE hc14, List.any_cons, hb]
          simp
        omega
      refine og rfl h25 rfl (og rfl h25 rfl (og rfl h25 rfl ?_))
      refine ow1 (op1_gx (j := 6) rfl rfl ?_)
      refine ow1 (op1_gx (j := 6) rfl rfl ?_)
      refine og rfl h25 rfl ?_
      refine ow1 (op1_g rfl h24 rfl (lo_pick_f (v := .bool _) rfl h25 rfl) ?_)
      refine ow1 (op1_g rfl h24 rfl (lo_not rfl) ?_)
      refine ol rfl (lo_pick_t (v := .bool _) rfl h24 rfl) (ow_nil (seqK_n (cw_cond_t rfl rfl (cw_seq (cw_region ?_)))))
      refine oai rfl rfl (ow_nil (seqK_n (cw_ret (blkK_r (seqK_r ?_)))))
      refine loopK_r (blkK_r (seqK_r (fnK_r (res1 rfl (rv_t (v := .int _ _) rfl)) ((((HLe.refl _).trans hl7).trans hl10).trans hl19) ?_)))
      rw [List.drop_of_length_le (by omega)] at hj2
      have hX := hj2
      simp only [List.all_nil, Bool.not_true, Bool.or_false] at hX
      have hb : isBad (besidesOf pattern) c13 = true := by rw [isBad_doc hX]; simp [*]
      unfold keyE
      rw [if_neg (by omega), hk2, dropE hc14, List.any_cons, hb]
      rfl
    refine og rfl h24 rfl (og rfl h24 rfl ?_)
    refine ow1 (op1_gx (j := 3) rfl rfl ?_)
    refine ow1 (op1_gx (j := 3) rfl rfl ?_)
    refine ow1 (op1_gx (j := 3) rfl rfl ?_)
    refine ow1 (op1_gx (j := 6) rfl rfl ?_)
    refine ow1 (op1_gx (j := 6) rfl rfl ?_)
    refine ow1 (op1_gx (j := 3) rfl rfl ?_)
    refine og rfl h24 rfl (og rfl h24 rfl (ol rfl (lo_pick_f (v := .bool _) rfl h24 rfl) (ow_nil (seqK_n (cw_cond_f rfl rfl ?_)))))
    refine cw_skip (blkK_n (seqK_n (cw_region (ol rfl (lo_add rfl rfl (rg_i64 (by omega))) (omi rfl rfl ?_)))))
    refine ow_nil ?_
    refine next1 (k + 1) (upd_intro (mask_intro (by first | exact off_refl | (repeat (first | exact off_mask | refine off_upd rfl ?_ | refine off_mask2 rfl ?_)))) rfl) (lmask_intro (by first | exact offl_refl | (repeat (first | exact offl_mask | refine offl_upd rfl ?_ | refine offl_mask2 rfl ?_)))) (hl10.trans hl19) ?_ ?_
    · refine ⟨by omega, ?_⟩
      rw [List.drop_of_length_le (by omega)] at hj2
      have hX := hj2
      simp only [List.all_nil, Bool.not_true, Bool.or_false] at hX
      have hb : isBad (besidesOf pattern) c13 = false := by rw [isBad_doc hX]; simp [*]
      rw [hk2, dropE hc14, List.any_cons, hb]
      simp
    omega
  have p34 := df h11
  refine cw_exit (seqK_e (loopK_e (blkK_hit (seqK_n (cw_seq ?_)))))
  refine cw_region (oai rfl rfl (ow_nil (seqK_n (cw_ret (fnK_r (res1 rfl (rv_t (v := .int _ _) rfl)) (((HLe.refl _).trans hl7).trans hl10) ?_)))))
  unfold keyE
  rw [if_neg (by omega), hk2, List.drop_of_length_le (by omega)]
  rfl
theorem r9_Pair (H : Hp) (p : Pair) (p_w : Pair.wf p) (ahead_a : Option Addr) (ahead_l ahead_c : Nat) (ahead : List Pair) (ahead_h : SlH pairE 4 H (.slice ahead_a ahead_l ahead_c) ahead) (hl : ahead.length ≤ 9223372036854775807) : Pr Tryz.prog 126 #[.agg (Pair.cells p).toArray, .slice ahead_a ahead_l ahead_c] H (.int .i64 (pairErr p ahead)) := by
  refine pr_cw Tryz.func126 rfl Tryz.ntmps126 rfl (fun N => ?_)
  have p_w' := p_w
  simp only [Pair.wf] at p_w'
  refine cw_seq (cw_region (ow1 (op1_box (cs := [_, _, _, _]) 0 rfl rfl (fun b1 => ?_))))
  refine oai rfl rfl (ow_nil (seqK_n (cw_seq (cw_region (ol rfl (lo_fieldAddr rfl fl182_0) ?_)))))
  refine ol rfl (lo_load1 (i := 0) (v := str _) rfl ag9 rfl rfl) ?_
  refine ow1 (op1_pr (r4_Name _ p.key (by first | omega | decide | (simp; done))) (en_f cb69 rfl) rfl ?_)
  refine oai rfl rfl (ow_nil (seqK_n (cw_seq (cw_seq (cw_region ?_)))))
  refine omi rfl rfl (ol rfl (lo_neq rfl rfl) (ow_nil (seqK_n (cw_cond rfl (fun h2 => ?_) (fun h2 => ?_)))))
  · have h3 := not_t h2
    have p4 := df h3
    refine cw_seq (cw_region (omi rfl rfl (oai rfl rfl (ow_nil (seqK_n ?_)))))
    refine cw_ret (seqK_r (fnK_r (res1 rfl (rv_t (v := .int _ _) rfl)) (.refl _) ?_))
    rw [pairErr_doc]
    first | (simp [*]; done) | (simp [*]; omega) | ((repeat' split) <;> first | rfl | omega | (exfalso; simp_all; done) | (exfalso; simp_all; omega))
  have h5 := not_f h2
  have p6 := dt h5
  refine cw_skip (seqK_n (cw_seq (cw_seq (cw_region (ol rfl (lo_fieldAddr rfl fl182_1) ?_)))))
  refine ol rfl (lo_load1 (i := 0) (v := .int _ _) rfl ag5 rfl rfl) (ol rfl (lo_gtr rfl rfl) (ow_nil (seqK_n (cw_cond rfl (fun h7 => ?_) (fun h7 => ?_)))))
  · have p8 := dt h7
    refine cw_seq (cw_region (oai rfl rfl (ow_nil (seqK_n (cw_ret ?_)))))
    refine seqK_r (fnK_r (res1 rfl (rv_t (v := .int _ _) rfl)) (.refl _) ?_)
    rw [pairErr_doc]
    first | (simp [*]; done) | (simp [*]; omega) | ((repeat' split) <;> first | rfl | omega | (exfalso; simp_all; done) | (exfalso; simp_all; omega))
  have p9 := df h7
  refine cw_skip (seqK_n (cw_seq (cw_seq (cw_region (ol rfl (lo_fieldAddr rfl fl182_1) ?_)))))
  refine ol rfl (lo_load1 (i := 0) (v := .int _ _) rfl ag5 rfl rfl) (ol rfl (lo_eql rfl rfl) (omb rfl rfl (ow_sp (j := 3) rfl (fun h10 => ?_) (fun h10 => ?_))))
  · have p11 := dt h10
    refine ow1 (op1_g rfl h10 rfl (lo_fieldAddr rfl fl182_3) ?_)
    refine ow1 (op1_g rfl h10 rfl (lo_load1 (i := 0) (v := str _) rfl ag9 rfl rfl) ?_)
    refine ow1 (op1_g rfl h10 rfl (lo_len_str rfl Tryz.underlying9) ?_)
    refine ow1 (op1_g rfl h10 rfl (lo_gtr rfl rfl) ?_)
    refine ol rfl (lo_pick_t (v := .bool _) rfl h10 rfl) (ow_nil (seqK_n (cw_cond rfl (fun h12 => ?_) (fun h12 => ?_))))
    · have p13 := dt h12
      refine cw_seq (cw_region (oai rfl rfl (ow_nil (seqK_n (cw_ret ?_)))))
      refine seqK_r (fnK_r (res1 rfl (rv_t (v := .int _ _) rfl)) (.refl _) ?_)
      rw [pairErr_doc]
      first | (simp [*]; done) | (simp [*]; omega) | ((repeat' split) <;> first | rfl | omega | (exfalso; simp_all; done) | (exfalso; simp_all; omega))
    have p14 := df h12
    refine cw_skip (seqK_n (cw_seq (cw_seq (cw_region (ol rfl (lo_fieldAddr rfl fl182_1) ?_)))))
    refine ol rfl (lo_load1 (i := 0) (v := .int _ _) rfl ag5 rfl rfl) (ol rfl (lo_eql rfl rfl) (omb rfl rfl ?_))
    refine ow1 (op1_gs rfl (fd (by omega)) rfl ?_)
    refine ow1 (op1_gs rfl (fd (by omega)) rfl ?_)
    refine ow1 (op1_gs rfl (fd (by omega)) rfl ?_)
    refine ow1 (op1_gs rfl (fd (by omega)) rfl ?_)
    refine ow1 (op1_gx (j := 7) rfl rfl ?_)
    refine ow1 (op1_gx (j := 7) rfl rfl ?_)
    refine ow1 (op1_gx (j := 7) rfl rfl ?_)
    refine ow1 (op1_gs rfl (fd (by omega)) rfl ?_)
    refine ol rfl (lo_pick_f (v := .bool _) rfl (fd (by omega)) rfl) (ow_nil (seqK_n (cw_cond_f rfl rfl (cw_skip (seqK_n ?_)))))
    refine cw_seq (cw_seq (cw_region (ol rfl (lo_fieldAddr rfl fl182_1) (ol rfl (lo_load1 (i := 0) (v := .int _ _) rfl ag5 rfl rfl) (ol rfl (lo_eql rfl rfl) ?_)))))
    refine omb rfl rfl ?_
    refine ow1 (op1_g rfl h10 rfl (lo_fieldAddr rfl fl182_2) ?_)
    refine ow1 (op1_g rfl h10 rfl (lo_load1 (i := 0) (v := .int _ _) rfl ag2 rfl rfl) ?_)
    refine ow1 (op1_g rfl h10 rfl (lo_neq rfl rfl) ?_)
    refine ol rfl (lo_pick_t (v := .bool _) rfl h10 rfl) (omb rfl rfl (ow_sp (j := 8) rfl (fun h15 => ?_) (fun h15 => ?_)))
    · have h16 := not_t h15
      have p17 := df h16
      refine og rfl h15 rfl (og rfl h15 rfl (og rfl h15 rfl (og rfl h15 rfl ?_)))
      refine ow1 (op1_gx (j := 12) rfl rfl ?_)
      refine ow1 (op1_gx (j := 12) rfl rfl ?_)
      refine ow1 (op1_gx (j := 12) rfl rfl ?_)
      refine og rfl h15 rfl (ol rfl (lo_pick_t (v := .bool _) rfl h15 rfl) (ow_nil (seqK_n (cw_cond_t rfl rfl (cw_seq ?_)))))
      refine cw_region (oai rfl rfl (ow_nil (seqK_n (cw_ret (seqK_r ?_)))))
      refine fnK_r (res1 rfl (rv_t (v := .int _ _) rfl)) (.refl _) ?_
      rw [pairErr_doc]
      first | (simp [*]; done) | (simp [*]; omega) | ((repeat' split) <;> first | rfl | omega | (exfalso; simp_all; done) | (exfalso; simp_all; omega))
    have h18 := not_f h15
    have p19 := dt h18
    refine ow1 (op1_g rfl h15 rfl (lo_fieldAddr rfl fl182_1) ?_)
    refine ow1 (op1_g rfl h15 rfl (lo_load1 (i := 0) (v := .int _ _) rfl ag5 rfl rfl) ?_)
    refine ow1 (op1_g rfl h15 rfl (lo_neq rfl rfl) ?_)
    refine ow1 (op1_g rfl h15 rfl (lo_move (v := .bool _) rfl) ?_)
    refine ow1 (op1_gs rfl (by rw [h10] <;> rfl) rfl ?_)
    refine ow1 (op1_gs rfl (by rw [h10] <;> rfl) rfl ?_)
    refine ow1 (op1_gs rfl (by rw [h10] <;> rfl) rfl ?_)
    refine ow1 (op1_g rfl h15 rfl (lo_pick_f (v := .bool _) rfl (by rw [h10] <;> rfl) rfl) ?_)
    refine ol rfl (lo_pick_f (v := .bool _) rfl h15 rfl) (ow_nil (seqK_n (cw_cond_f rfl rfl (cw_skip (seqK_n ?_)))))
    refine cw_seq (cw_seq (cw_region (ol rfl (lo_move (v := .slice _ _ _) rfl) (ol rfl (lo_len_slh rfl ahead_h Tryz.underlying40) (omi rfl rfl ?_)))))
    refine ow_nil (seqK_n (cw_block (cw_loop1 [4, 7, 59, 60, 61, 62, 63, 64, 65, 66, 67, 68] [1] (fun (k : Nat) G => upd (G) 59 (.int .i64 (k : Int))) (fun (k : Nat) G => G) (fun (k : Nat) H' => k ≤ ahead.length ∧ findP ahead p.key = findP (ahead.drop k) p.key) (fun (k : Nat) => ahead.length - k) 0 (upd_intro (mask_intro (by first | exact off_refl | (repeat (first | exact off_mask | refine off_upd rfl ?_ | refine off_mask2 rfl ?_)))) rfl) (lmask_intro offl_refl) ?_ ?_)))
    · exact ⟨Nat.zero_le _, rfl⟩
    intro k J21 JL21 H21 hp20 hl21
    obtain ⟨hk1, hk2⟩ := hp20
    refine cw_seq (cw_region (ol rfl (lo_lss rfl rfl) (ow_nil (seqK_n (cw_seq ?_)))))
    refine cw_cond rfl (fun h22 => ?_) (fun h22 => ?_)
    · have p23 := dt h22
      refine cw_skip (seqK_n (cw_seq (cw_block (cw_seq (cw_region ?_)))))
      obtain ⟨c24, hc25⟩ := getE (xs := ahead) (m := k) (by omega)
      obtain ⟨cs26, hE27, at28⟩ := (ahead_h.mono ((HLe.refl _).trans hl21) (fun _ _ h => h)).get hc25
      obtain ⟨rfl, c24_w⟩ := hE27
      have c24_w' := c24_w
      simp only [Pair.wf] at c24_w'
      refine ol rfl (lo_indexAddr rfl rfl (ahead_h.mono ((HLe.refl _).trans hl21) (fun _ _ h => h)).1 at28 Tryz.underlying40 sz182 (by omega) (by omega)) (ol rfl (lo_loadEA rfl ag182 sz182 at28) (ow1 (op1_alloc 1 rfl zr182 (fun b29 => ?_))))
      refine ow1 (op1_storeA (i := 1) (vs := [_, _, _, _]) rfl rfl rfl sz182 rfl rfl rfl ?_)
      refine ow_nil (seqK_n (cw_seq (cw_region (ol rfl (lo_fieldAddr rfl fl182_0) (ol rfl (lo_load1 (i := 1) (v := str _) rfl ag9 rfl rfl) ?_)))))
      refine ol rfl (lo_fieldAddr rfl fl182_0) (ol rfl (lo_load1 (i := 0) (v := str _) rfl ag9 rfl rfl) (ol rfl (lo_seql rfl rfl) (ow_nil (seqK_n (cw_cond rfl (fun h30 => ?_) (fun h30 => ?_))))))
      · have p31 := dt h30
        refine cw_seq (cw_region (oai rfl rfl (ow_nil (seqK_n (cw_ret ?_)))))
        refine blkK_r (seqK_r (loopK_r (blkK_r (seqK_r (fnK_r (res1 rfl (rv_t (v := .int _ _) rfl)) ((HLe.refl _).trans hl21) ?_)))))
        have e9 := findP_hit hk2 (dropE hc25) (by assumption)
        clear hk2
        rw [pairErr_doc]
        first | (simp [*]; done) | (simp [*]; omega) | ((repeat' split) <;> first | rfl | omega | (exfalso; simp_all; done) | (exfalso; simp_all; omega))
      have p32 := df h30
      refine cw_skip (blkK_n (seqK_n (cw_region (ol rfl (lo_add rfl rfl (rg_i64 (by omega))) (omi rfl rfl ?_)))))
      refine ow_nil ?_
      refine next1 (k + 1) (upd_intro (mask_intro (by first | exact off_refl | (repeat (first | exact off_mask | refine off_upd rfl ?_ | refine off_mask2 rfl ?_)))) rfl) (lmask_intro (by first | exact offl_refl | (repeat (first | exact offl_mask | refine offl_upd rfl ?_ | refine offl_mask2 rfl ?_)))) hl21 ?_ ?_
      · exact ⟨by omega, findP_miss hk2 (dropE hc25) (by assumption)⟩
      omega
    have p33 := df h22
    refine cw_exit (seqK_e (loopK_e (blkK_hit (seqK_n (cw_seq ?_)))))
    refine cw_region (oai rfl rfl (ow_nil (seqK_n (cw_ret (fnK_r (res1 rfl (rv_t (v := .int _ _) rfl)) ((HLe.refl _).trans hl21) ?_)))))
    have e9 : findP ahead p.key = none := by rw [hk2, List.drop_of_length_le (by omega)]; rfl
    clear hk2
    rw [pairErr_doc]
    first | (simp [*]; done) | (simp [*]; omega) | ((repeat' split) <;> first | rfl | omega | (exfalso; simp_all; done) | (exfalso; simp_all; omega))
  have p34 := df h10
  refine og rfl h10 rfl (og rfl h10 rfl (og rfl h10 rfl (og rfl h10 rfl (ol rfl (lo_pick_f (v := .bool _) rfl h10 rfl) (ow_nil ?_)))))
  refine seqK_n (cw_cond_f rfl rfl (cw_skip (seqK_n (cw_seq (cw_seq ?_)))))
  refine cw_region (ol rfl (lo_fieldAddr rfl fl182_1) (ol rfl (lo_load1 (i := 0) (v := .int _ _) rfl ag5 rfl rfl) (ol rfl (lo_eql rfl rfl) (omb rfl rfl (ow_sp (j := 3) rfl (fun h35 => ?_) (fun h35 => ?_))))))
  · have p36 := dt h35
    refine ow1 (op1_g rfl h35 rfl (lo_fieldAddr rfl fl182_2) ?_)
    refine ow1 (op1_g rfl h35 rfl (lo_load1 (i := 0) (v := .int _ _) rfl ag2 rfl rfl) ?_)
    refine ow1 (op1_g rfl h35 rfl (lo_lss rfl rfl) ?_)
    refine ow1 (op1_g rfl h35 rfl (lo_move (v := .bool _) rfl) ?_)
    refine ow_sp (j := 7) rfl (fun h37 => ?_) (fun h37 => ?_)
    · have p38 := dt h37
      refine og rfl h37 rfl (og rfl h37 rfl (og rfl h37 rfl ?_))
      refine ow1 (op1_g rfl h35 rfl (lo_pick_t (v := .bool _) rfl h37 rfl) ?_)
      refine ol rfl (lo_pick_t (v := .bool _) rfl h35 rfl) (ow_nil (seqK_n (cw_cond_t rfl rfl (cw_seq (cw_region ?_)))))
      refine oai rfl rfl (ow_nil (seqK_n (cw_ret (seqK_r (fnK_r (res1 rfl (rv_t (v := .int _ _) rfl)) (.refl _) ?_)))))
      rw [pairErr_doc]
      first | (simp [*]; done) | (simp [*]; omega) | ((repeat' split) <;> first | rfl | omega | (exfalso; simp_all; done) | (exfalso; simp_all; omega))
    have p39 := df h37
    refine ow1 (op1_g rfl h37 rfl (lo_fieldAddr rfl fl182_2) ?_)
    refine ow1 (op1_g rfl h37 rfl (lo_load1 (i := 0) (v := .int _ _) rfl ag2 rfl rfl) ?_)
    refine ow1 (op1_g rfl h37 rfl (lo_gtr rfl rfl) ?_)
    refine ow1 (op1_g rfl h35 rfl (lo_pick_f (v := .bool _) rfl h37 rfl) ?_)
    refine ol rfl (lo_pick_t (v := .bool _) rfl h35 rfl) (ow_nil (seqK_n (cw_cond rfl (fun h40 => ?_) (fun h40 => ?_))))
    · have p41 := dt h40
      refine cw_seq (cw_region (oai rfl rfl (ow_nil (seqK_n (cw_ret ?_)))))
      refine seqK_r (fnK_r (res1 rfl (rv_t (v := .int _ _) rfl)) (.refl _) ?_)
      rw [pairErr_doc]
      first | (simp [*]; done) | (simp [*]; omega) | ((repeat' split) <;> first | rfl | omega | (exfalso; simp_all; done) | (exfalso; simp_all; omega))
    have p42 := df h40
    refine cw_skip (seqK_n (cw_seq (cw_seq (cw_region (ol rfl (lo_fieldAddr rfl fl182_1) ?_)))))
    refine ol rfl (lo_load1 (i := 0) (v := .int _ _) rfl ag5 rfl rfl) (ol rfl (lo_eql rfl rfl) (omb rfl rfl (og rfl h10 rfl (og rfl h10 rfl (og rfl h10 rfl ?_)))))
    refine ol rfl (lo_pick_f (v := .bool _) rfl h10 rfl) (omb rfl rfl ?_)
    refine ow1 (op1_g rfl rfl rfl (lo_fieldAddr rfl fl182_1) ?_)
    refine ow1 (op1_g rfl rfl rfl (lo_load1 (i := 0) (v := .int _ _) rfl ag5 rfl rfl) ?_)
    refine ow1 (op1_g rfl rfl rfl (lo_neq rfl rfl) ?_)
    refine ow1 (op1_g rfl rfl rfl (lo_move (v := .bool _) rfl) ?_)
    refine ow1 (op1_g rfl (by rw [h10] <;> rfl) rfl (lo_fieldAddr rfl fl182_3) ?_)
    refine ow1 (op1_g rfl (by rw [h10] <;> rfl) rfl (lo_load1 (i := 0) (v := str _) rfl ag9 rfl rfl) ?_)
    refine ow1 (op1_g rfl (by rw [h10] <;> rfl) rfl (lo_sneq rfl rfl) ?_)
    refine ow1 (op1_g rfl rfl rfl (lo_pick_t (v := .bool _) rfl (by rw [h10] <;> rfl) rfl) ?_)
    refine ol rfl (lo_pick_f (v := .bool _) rfl rfl rfl) (ow_nil (seqK_n (cw_cond rfl (fun h43 => ?_) (fun h43 => ?_))))
    · have h44 := not_t h43
      have p45 := df h44
      refine cw_seq (cw_region (oai rfl rfl (ow_nil (seqK_n (cw_ret ?_)))))
      refine seqK_r (fnK_r (res1 rfl (rv_t (v := .int _ _) rfl)) (.refl _) ?_)
      rw [pairErr_doc]
      first | (simp [*]; done) | (simp [*]; omega) | ((repeat' split) <;> first | rfl | omega | (exfalso; simp_all; done) | (exfalso; simp_all; omega))
    have h46 := not_f h43
    have p47 := dt h46
    refine cw_skip (seqK_n (cw_seq (cw_seq (cw_region (ol rfl (lo_move (v := .slice _ _ _) rfl) ?_)))))
    refine ol rfl (lo_len_slh rfl ahead_h Tryz.underlying40) (omi rfl rfl (ow_nil (seqK_n (cw_block (cw_loop1 [4, 7, 59, 60, 61, 62, 63, 64, 65, 66, 67, 68] [1] (fun (k : Nat) G => upd (G) 59 (.int .i64 (k : Int))) (fun (k : Nat) G => G) (fun (k : Nat) H' => k ≤ ahead.length ∧ findP ahead p.key = findP (ahead.drop k) p.key) (fun (k : Nat) => ahead.length - k) 0 (upd_intro (mask_intro (by first | exact off_refl | (repeat (first | exact off_mask | refine off_upd rfl ?_ | refine off_mask2 rfl ?_)))) rfl) (lmask_intro offl_refl) ?_ ?_)))))
    · exact ⟨Nat.zero_le _, rfl⟩
    intro k J49 JL49 H49 hp48 hl49
    obtain ⟨hk1, hk2⟩ := hp48
    refine cw_seq (cw_region (ol rfl (lo_lss rfl rfl) (ow_nil (seqK_n (cw_seq ?_)))))
    refine cw_cond rfl (fun h50 => ?_) (fun h50 => ?_)
    · have p51 := dt h50
      refine cw_skip (seqK_n (cw_seq (cw_block (cw_seq (cw_region ?_)))))
      obtain ⟨c52, hc53⟩ := getE (xs := ahead) (m := k) (by omega)
      obtain ⟨cs54, hE55, at56⟩ := (ahead_h.mono ((HLe.refl _).trans hl49) (fun _ _ h => h)).get hc53
      obtain ⟨rfl, c52_w⟩ := hE55
      have c52_w' := c52_w
      simp only [Pair.wf] at c52_w'
      refine ol rfl (lo_indexAddr rfl rfl (ahead_h.mono ((HLe.refl _).trans hl49) (fun _ _ h => h)).1 at56 Tryz.underlying40 sz182 (by omega) (by omega)) (ol rfl (lo_loadEA rfl ag182 sz182 at56) (ow1 (op1_alloc 1 rfl zr182 (fun b57 => ?_))))
      refine ow1 (op1_storeA (i := 1) (vs := [_, _, _, _]) rfl rfl rfl sz182 rfl rfl rfl ?_)
      refine ow_nil (seqK_n (cw_seq (cw_region (ol rfl (lo_fieldAddr rfl fl182_0) (ol rfl (lo_load1 (i := 1) (v := str _) rfl ag9 rfl rfl) ?_)))))
      refine ol rfl (lo_fieldAddr rfl fl182_0) (ol rfl (lo_load1 (i := 0) (v := str _) rfl ag9 rfl rfl) (ol rfl (lo_seql rfl rfl) (ow_nil (seqK_n (cw_cond rfl (fun h58 => ?_) (fun h58 => ?_))))))
      · have p59 := dt h58
        refine cw_seq (cw_region (oai rfl rfl (ow_nil (seqK_n (cw_ret ?_)))))
        refine blkK_r (seqK_r (loopK_r (blkK_r (seqK_r (fnK_r (res1 rfl (rv_t (v := .int _ _) rfl)) ((HLe.refl _).trans hl49) ?_)))))
        have e9 := findP_hit hk2 (dropE hc53) (by assumption)
        clear hk2
        rw [pairErr_doc]
        first | (simp [*]; done) | (simp [*]; omega) | ((repeat' split) <;> first | rfl | omega | (exfalso; simp_all; done) | (exfalso; simp_all; omega))
      have p60 := df h58
      refine cw_skip (blkK_n (seqK_n (cw_region (ol rfl (lo_add rfl rfl (rg_i64 (by omega))) (omi rfl rfl ?_)))))
      refine ow_nil ?_
      refine next1 (k + 1) (upd_intro (mask_intro (by first | exact off_refl | (repeat (first | exact off_mask | refine off_upd rfl ?_ | refine off_mask2 rfl ?_)))) rfl) (lmask_intro (by first | exact offl_refl | (repeat (first | exact offl_mask | refine offl_upd rfl ?_ | refine offl_mask2 rfl ?_)))) hl49 ?_ ?_
      · exact ⟨by omega, findP_miss hk2 (dropE hc53) (by assumption)⟩
      omega
    have p61 := df h50
    refine cw_exit (seqK_e (loopK_e (blkK_hit (seqK_n (cw_seq ?_)))))
    refine cw_region (oai rfl rfl (ow_nil (seqK_n (cw_ret (fnK_r (res1 rfl (rv_t (v := .int _ _) rfl)) ((HLe.refl _).trans hl49) ?_)))))
    have e9 : findP ahead p.key = none := by rw [hk2, List.drop_of_length_le (by omega)]; rfl
    clear hk2
    rw [pairErr_doc]
    first | (simp [*]; done) | (simp [*]; omega) | ((repeat' split) <;> first | rfl | omega | (exfalso; simp_all; done) | (exfalso; simp_all; omega))
  have p62 := df h35
  refine og rfl h35 rfl (og rfl h35 rfl (og rfl h35 rfl (og rfl h35 rfl ?_)))
  refine ow1 (op1_gx (j := 7) rfl rfl ?_)
  refine ow1 (op1_gx (j := 7) rfl rfl ?_)
  refine ow1 (op1_gx (j := 7) rfl rfl ?_)
  refine og rfl h35 rfl (ol rfl (lo_pick_f (v := .bool _) rfl h35 rfl) (ow_nil (seqK_n (cw_cond_f rfl rfl (cw_skip ?_)))))
  refine seqK_n (cw_seq (cw_seq (cw_region (ol rfl (lo_fieldAddr rfl fl182_1) (ol rfl (lo_load1 (i := 0) (v := .int _ _) rfl ag5 rfl rfl) ?_)))))
  refine ol rfl (lo_eql rfl rfl) (omb rfl rfl (og rfl h10 rfl (og rfl h10 rfl (og rfl h10 rfl (ol rfl (lo_pick_f (v := .bool _) rfl h10 rfl) ?_)))))
  refine omb rfl rfl ?_
  refine ow1 (op1_g rfl rfl rfl (lo_fieldAddr rfl fl182_1) ?_)
  refine ow1 (op1_g rfl rfl rfl (lo_load1 (i := 0) (v := .int _ _) rfl ag5 rfl rfl) ?_)
  refine ow1 (op1_g rfl rfl rfl (lo_neq rfl rfl) ?_)
  refine ow1 (op1_g rfl rfl rfl (lo_move (v := .bool _) rfl) ?_)
  refine ow1 (op1_g rfl (by rw [h10] <;> rfl) rfl (lo_fieldAddr rfl fl182_3) ?_)
  refine ow1 (op1_g rfl (by rw [h10] <;> rfl) rfl (lo_load1 (i := 0) (v := str _) rfl ag9 rfl rfl) ?_)
  refine ow1 (op1_g rfl (by rw [h10] <;> rfl) rfl (lo_sneq rfl rfl) ?_)
  refine ow1 (op1_g rfl rfl rfl (lo_pick_t (v := .bool _) rfl (by rw [h10] <;> rfl) rfl) ?_)
  refine ol rfl (lo_pick_f (v := .bool _) rfl rfl rfl) (ow_nil (seqK_n (cw_cond rfl (fun h63 => ?_) (fun h63 => ?_))))
  · have h64 := not_t h63
    have p65 := df h64
    refine cw_seq (cw_region (oai rfl rfl (ow_nil (seqK_n (cw_ret ?_)))))
    refine seqK_r (fnK_r (res1 rfl (rv_t (v := .int _ _) rfl)) (.refl _) ?_)
    rw [pairErr_doc]
    first | (simp [*]; done) | (simp [*]; omega) | ((repeat' split) <;> first | rfl | omega | (exfalso; simp_all; done) | (exfalso; simp_all; omega))
  have h66 := not_f h63
  have p67 := dt h66
  refine cw_skip (seqK_n (cw_seq (cw_seq (cw_region (ol rfl (lo_move (v := .slice _ _ _) rfl) ?_)))))
  refine ol rfl (lo_len_slh rfl ahead_h Tryz.underlying40) (omi rfl rfl (ow_nil (seqK_n (cw_block (cw_loop1 [4, 7, 59, 60, 61, 62, 63, 64, 65, 66, 67, 68] [1] (fun (k : Nat) G => upd (G) 59 (.int .i64 (k : Int))) (fun (k : Nat) G => G) (fun (k : Nat) H' => k ≤ ahead.length ∧ findP ahead p.key = findP (ahead.drop k) p.key) (fun (k : Nat) => ahead.length - k) 0 (upd_intro (mask_intro (by first | exact off_refl | (repeat (first | exact off_mask | refine off_upd rfl ?_ | refine off_mask2 rfl ?_)))) rfl) (lmask_intro offl_refl) ?_ ?_)))))
  · exact ⟨Nat.zero_le _, rfl⟩
  intro k J69 JL69 H69 hp68 hl69
  obtain ⟨hk1, hk2⟩ := hp68
  refine cw_seq (cw_region (ol rfl (lo_lss rfl rfl) (ow_nil (seqK_n (cw_seq ?_)))))
  refine cw_cond rfl (fun h70 => ?_) (fun h70 => ?_)
  · have p71 := dt h70
    refine cw_skip (seqK_n (cw_seq (cw_block (cw_seq (cw_region ?_)))))
    obtain ⟨c72, hc73⟩ := getE (xs := ahead) (m := k) (by omega)
    obtain ⟨cs74, hE75, at76⟩ := (ahead_h.mono ((HLe.refl _).trans hl69) (fun _ _ h => h)).get hc73
    obtain ⟨rfl, c72_w⟩ := hE75
    have c72_w' := c72_w
    simp only [Pair.wf] at c72_w'
    refine ol rfl (lo_indexAddr rfl rfl (ahead_h.mono ((HLe.refl _).trans hl69) (fun _ _ h => h)).1 at76 Tryz.underlying40 sz182 (by omega) (by omega)) (ol rfl (lo_loadEA rfl ag182 sz182 at76) (ow1 (op1_alloc 1 rfl zr182 (fun b77 => ?_))))
    refine ow1 (op1_storeA (i := 1) (vs := [_, _, _, _]) rfl rfl rfl sz182 rfl rfl rfl ?_)
    refine ow_nil (seqK_n (cw_seq (cw_region (ol rfl (lo_fieldAddr rfl fl182_0) (ol rfl (lo_load1 (i := 1) (v := str _) rfl ag9 rfl rfl) ?_)))))
    refine ol rfl (lo_fieldAddr rfl fl182_0) (ol rfl (lo_load1 (i := 0) (v := str _) rfl ag9 rfl rfl) (ol rfl (lo_seql rfl rfl) (ow_nil (seqK_n (cw_cond rfl (fun h78 => ?_) (fun h78 => ?_))))))
    · have p79 := dt h78
      refine cw_seq (cw_region (oai rfl rfl (ow_nil (seqK_n (cw_ret ?_)))))
      refine blkK_r (seqK_r (loopK_r (blkK_r (seqK_r (fnK_r (res1 rfl (rv_t (v := .int _ _) rfl)) ((HLe.refl _).trans hl69) ?_)))))
      have e9 := findP_hit hk2 (dropE hc73) (by assumption)
      clear hk2
      rw [pairErr_doc]
      first | (simp [*]; done) | (simp [*]; omega) | ((repeat' split) <;> first | rfl | omega | (exfalso; simp_all; done) | (exfalso; simp_all; omega))
    have p80 := df h78
    refine cw_skip (blkK_n (seqK_n (cw_region (ol rfl (lo_add rfl rfl (rg_i64 (by omega))) (omi rfl rfl ?_)))))
    refine ow_nil ?_
    refine next1 (k + 1) (upd_intro (mask_intro (by first | exact off_refl | (repeat (first | exact off_mask | refine off_upd rfl ?_ | refine off_mask2 rfl ?_)))) rfl) (lmask_intro (by first | exact offl_refl | (repeat (first | exact offl_mask | refine offl_upd rfl ?_ | refine offl_mask2 rfl ?_)))) hl69 ?_ ?_
    · exact ⟨by omega, findP_miss hk2 (dropE hc73) (by assumption)⟩
    omega
  have p81 := df h70
  refine cw_exit (seqK_e (loopK_e (blkK_hit (seqK_n (cw_seq ?_)))))
  refine cw_region (oai rfl rfl (ow_nil (seqK_n (cw_ret (fnK_r (res1 rfl (rv_t (v := .int _ _) rfl)) ((HLe.refl _).trans hl69) ?_)))))
  have e9 : findP ahead p.key = none := by rw [hk2, List.drop_of_length_le (by omega)]; rfl
  clear hk2
  rw [pairErr_doc]
  first | (simp [*]; done) | (simp [*]; omega) | ((repeat' split) <;> first | rfl | omega | (exfalso; simp_all; done) | (exfalso; simp_all; omega))
theorem r9_Check (H : Hp) (h_a : Option Addr) (h_l h_c : Nat) (h : List Pair) (h_h : SlH pairE 4 H (.slice h_a h_l h_c) h) : Pr Tryz.prog 71 #[.slice h_a h_l h_c] H (.int .i64 (headE h)) := by
  refine pr_cw Tryz.func71 rfl Tryz.ntmps71 rfl (fun N => ?_)
  refine cw_seq (cw_region (oai rfl rfl (ow_nil (seqK_n (cw_seq ?_)))))
  refine cw_seq (cw_region (ol rfl (lo_move (v := .slice _ _ _) rfl) (ol rfl (lo_len_slh rfl h_h Tryz.underlying40) (ol rfl (lo_gtr rfl rfl) (ow_nil ?_)))))
  refine seqK_n (cw_cond rfl (fun h1 => ?_) (fun h1 => ?_))
  · have p2 := dt h1
    refine cw_seq (cw_region (oai rfl rfl (ow_nil (seqK_n (cw_ret ?_)))))
    refine seqK_r (fnK_r (res1 rfl (rv_t (v := .int _ _) rfl)) (.refl _) ?_)
    simp [headE, *]
  have p3 := df h1
  refine cw_skip (seqK_n (cw_seq (cw_seq (cw_region (ol rfl (lo_move (v := .slice _ _ _) rfl) ?_)))))
  refine ol rfl (lo_len_slh rfl h_h Tryz.underlying40) (omi rfl rfl (ow_nil (seqK_n (cw_block (cw_loop1 [2, 3, 4, 5, 11, 12, 13, 14, 15, 16, 17, 18, 19, 20, 21, 22, 23, 24] [0] (fun (k : Nat) G => upd (G) 11 (.int .i64 (k : Int))) (fun (k : Nat) G => G) (fun (k : Nat) H' => k ≤ h.length ∧ headGo [] h = headGo (h.take k) (h.drop k)) (fun (k : Nat) => h.length - k) 0 (upd_intro (mask_intro (by first | exact off_refl | (repeat (first | exact off_mask | refine off_upd rfl ?_ | refine off_mask2 rfl ?_)))) rfl) (lmask_intro offl_refl) ?_ ?_)))))
  · exact ⟨Nat.zero_le _, rfl⟩
  intro k J5 JL5 H5 hp4 hl5
  obtain ⟨hk1, hk2⟩ := hp4
  refine cw_seq (cw_region (ol rfl (lo_lss rfl rfl) (ow_nil (seqK_n (cw_seq ?_)))))
  refine cw_cond rfl (fun h6 => ?_) (fun h6 => ?_)
  · have p7 := dt h6
    refine cw_skip (seqK_n (cw_seq (cw_block (cw_seq (cw_region ?_)))))
    refine omi rfl rfl ?_
    obtain ⟨c8, hc9⟩ := getE (xs := h) (m := k) (by omega)
    obtain ⟨cs10, hE11, at12⟩ := (h_h.mono ((HLe.refl _).trans hl5) (fun _ _ h => h)).get hc9
    obtain ⟨rfl, c8_w⟩ := hE11
    have c8_w' := c8_w
    simp only [Pair.wf] at c8_w'
    refine ol rfl (lo_indexAddr rfl rfl (h_h.mono ((HLe.refl _).trans hl5) (fun _ _ h => h)).1 at12 Tryz.underlying40 sz182 (by omega) (by omega)) (ol rfl (lo_loadEA rfl ag182 sz182 at12) (ow1 (op1_alloc 0 rfl zr182 (fun b13 => ?_))))
    refine oai rfl rfl ?_
    refine ow1 (op1_storeA (i := 0) (vs := [_, _, _, _]) rfl rfl rfl sz182 rfl rfl rfl ?_)
    refine ow_nil (seqK_n (cw_seq (cw_anyL mixd (vw_q 0 rfl (by kernel_rfl) (by repeat (first | exact lle_l0 | exact LLe.refl _ | exact lle_none | refine lle_up ?_ rfl)) (fun _ _ hh hl => lo_loadA (i := 0) (vs := [_, _, _, _]) rfl ag182 sz182 (hl _ _ rfl) rfl rfl) ?_))))
    refine vw_q 1 rfl (by kernel_rfl) (by repeat (first | exact lle_l0 | exact LLe.refl _ | exact lle_none | refine lle_up ?_ rfl)) (fun _ _ hh hl => lo_move (v := .slice _ _ _) rfl) ?_
    refine vw_q 2 rfl (by kernel_rfl) (by repeat (first | exact lle_l0 | exact LLe.refl _ | exact lle_none | refine lle_up ?_ rfl)) (fun _ _ hh hl => lo_move (v := .int _ _) rfl) ?_
    refine vw_q 3 rfl (by kernel_rfl) (by repeat (first | exact lle_l0 | exact LLe.refl _ | exact lle_none | refine lle_up ?_ rfl)) (fun _ _ hh hl => lo_slice_slh_hi k rfl rfl Tryz.underlying40 sz182 (by omega) (Nat.le_trans (by omega) (slh_cap (h_h.mono ((HLe.refl _).trans hl5) (fun _ _ h => h))))) ?_
    have := pairErr_r c8 (h.take k)
    refine vw_qc 4 rfl (by kernel_rfl) (by repeat (first | exact lle_l0 | exact LLe.refl _ | exact lle_none | refine lle_up ?_ rfl)) (r9_Pair _ c8 c8_w (slA h_a h_c 0 4) k h_c (h.take k) (slh_take (q := k) (h_h.mono ((HLe.refl _).trans hl5) (fun _ _ h => h)) (by omega)) (by first | omega | (simp <;> omega))) (en_f cb126 rfl) ?_
    refine vw_q 5 rfl (by kernel_rfl) (by repeat (first | exact lle_l0 | exact LLe.refl _ | exact lle_none | refine lle_up ?_ rfl)) (fun _ _ hh hl => lo_assign (v := .int _ _) rfl) ?_
    refine vw_done (by kernel_rfl) (seqK_n (cw_seq (cw_region (omi rfl rfl (ol rfl (lo_neq rfl rfl) ?_)))))
    refine ow_nil (seqK_n (cw_cond rfl (fun h14 => ?_) (fun h14 => ?_)))
    · have h15 := not_t h14
      have p16 := df h15
      refine cw_seq (cw_region (omi rfl rfl (oai rfl rfl (ow_nil (seqK_n ?_)))))
      refine cw_ret (blkK_r (seqK_r (loopK_r (blkK_r (seqK_r ?_)))))
      refine fnK_r (res1 rfl (rv_t (v := .int _ _) rfl)) ((HLe.refl _).trans hl5) ?_
      unfold headE
      rw [if_neg (by omega), hk2, dropE hc9]
      simp only [headGo]
      rw [if_pos (by omega)]
    have h17 := not_f h14
    have p18 := dt h17
    refine cw_skip (blkK_n (seqK_n (cw_region (ol rfl (lo_add rfl rfl (rg_i64 (by omega))) (omi rfl rfl ?_)))))
    refine ow_nil ?_
    refine next1 (k + 1) (upd_intro (mask_intro (by first | exact off_refl | (repeat (first | exact off_mask | refine off_upd rfl ?_ | refine off_mask2 rfl ?_)))) rfl) (lmask_intro (by first | exact offl_refl | (repeat (first | exact offl_mask | refine offl_upd rfl ?_ | refine offl_mask2 rfl ?_)))) hl5 ?_ ?_
    · refine ⟨by omega, ?_⟩
      rw [hk2, dropE hc9, takeE hc9]
      simp only [headGo]
      rw [if_neg (by omega)]
    omega
  have p19 := df h6
  refine cw_exit (seqK_e (loopK_e (blkK_hit (seqK_n (cw_seq ?_)))))
  refine cw_region (oai rfl rfl (ow_nil (seqK_n (cw_ret (fnK_r (res1 rfl (rv_t (v := .int _ _) rfl)) ((HLe.refl _).trans hl5) ?_)))))
  unfold headE
  rw [if_neg (by omega), hk2, List.drop_of_length_le (by omega)]
  rfl
theorem r1_Num (H : Hp) (n : Int) (n_r : 0 ≤ n ∧ n ≤ 18446744073709551615) (bytes : Int) (bytes_r : -9223372036854775808 ≤ bytes ∧ bytes ≤ 9223372036854775807) : Pr Tryz.prog 95 #[.int .u64 n, .int .i64 bytes] H (str (numB (numK bytes) n.toNat)) := by
  refine pr_cw Tryz.func95 rfl Tryz.ntmps95 rfl (fun N => ?_)
  refine cw_seq (cw_region (ol rfl (lo_assign (v := str _) rfl) (ow_nil (seqK_n (cw_seq ?_)))))
  refine cw_seq (cw_region (omi rfl rfl (ol rfl (lo_gtr rfl rfl) (ow_nil (seqK_n ?_)))))
  refine cw_cond rfl (fun h1 => ?_) (fun h1 => ?_)
  · have p2 := dt h1
    refine cw_region (oai rfl rfl (ow_nil (seqK_n (cw_seq (cw_seq ?_)))))
    refine cw_region (omi rfl rfl (ol rfl (lo_leq rfl rfl) (ow_nil (seqK_n (cw_cond_f rfl (by decide) ?_)))))
    refine cw_skip (seqK_n (cw_seq (cw_anyL mixd (vw_q 0 rfl (by kernel_rfl) (by repeat (first | exact lle_l0 | exact LLe.refl _ | exact lle_none | refine lle_up ?_ rfl)) (fun _ _ hh hl => lo_move (v := .int _ _) rfl) ?_))))
    refine vw_q 1 rfl (by kernel_rfl) (by repeat (first | exact lle_l0 | exact LLe.refl _ | exact lle_none | refine lle_up ?_ rfl)) (fun _ _ hh hl => lo_quo rfl rfl (by omega) ((rg_u64 (by omega))).2 (by omega)) ?_
    refine vw_q 2 rfl (by kernel_rfl) (by repeat (first | exact lle_l0 | exact LLe.refl _ | exact lle_none | refine lle_up ?_ rfl)) (fun _ _ hh hl => lo_move (v := .int _ _) rfl) ?_
    refine vw_q 3 rfl (by kernel_rfl) (by repeat (first | exact lle_l0 | exact LLe.refl _ | exact lle_none | refine lle_up ?_ rfl)) (fun _ _ hh hl => lo_sub rfl rfl (rg_i64 (by omega))) ?_
    have := numB_len (numK (8 - 1)) ((n / 256)).toNat
    have := numK_le (8 - 1)
    refine vw_qc 4 rfl (by kernel_rfl) (by repeat (first | exact lle_l0 | exact LLe.refl _ | exact lle_none | refine lle_up ?_ rfl)) (r1_Num _ (n / 256) (by omega) (8 - 1) (by omega)) (en_f cb95 rfl) ?_
    refine vw_q 5 rfl (by kernel_rfl) (by repeat (first | exact lle_l0 | exact LLe.refl _ | exact lle_none | refine lle_up ?_ rfl)) (fun _ _ hh hl => lo_move (v := .int _ _) rfl) ?_
    refine vw_q 6 rfl (by kernel_rfl) (by repeat (first | exact lle_l0 | exact LLe.refl _ | exact lle_none | refine lle_up ?_ rfl)) (fun _ _ hh hl => lo_rem rfl rfl (by omega) (by omega)) ?_
    refine vw_q 7 rfl (by kernel_rfl) (by repeat (first | exact lle_l0 | exact LLe.refl _ | exact lle_none | refine lle_up ?_ rfl)) (fun _ _ hh hl => lo_conv_in rfl (by rw [Tryz.underlying39]; rfl) Tryz.underlying5 (rg_u8 (by omega))) ?_
    refine vw_tp 8 rfl (by kernel_rfl) (by kernel_rfl) (op1_bslice (cs := [_]) 0 rfl Tryz.underlying127 sz5 zx5 rfl ⟨rfl, rfl, trivial⟩ rfl rfl (by decide) (fun b3 => ?_))
    refine ⟨(.refl _), ?_⟩
    refine vw_e 9 rfl (by kernel_rfl) (op1_l rfl (lo_b2s (i := 0) [UInt8.ofNat ((n % 256)).toNat] rfl Tryz.underlying127 Tryz.underlying9 Tryz.underlying5 rfl (by simp only [List.map_cons, List.map_nil]; rw [u8v_of (by omega) (by omega)]; rfl)) ?_)
    refine ⟨⟨(.refl _), (by repeat (first | exact lle_l0 | exact LLe.refl _ | exact lle_none | refine lle_up ?_ rfl))⟩, ?_⟩
    refine vw_q 10 rfl (by kernel_rfl) (by repeat (first | exact lle_l0 | exact LLe.refl _ | exact lle_none | refine lle_up ?_ rfl)) (fun _ _ hh hl => lo_cat rfl rfl (by first | omega | (simp only [List.length_append, List.length_cons, List.length_nil]; omega))) ?_
    refine vw_q 11 rfl (by kernel_rfl) (by repeat (first | exact lle_l0 | exact LLe.refl _ | exact lle_none | refine lle_up ?_ rfl)) (fun _ _ hh hl => lo_assign (v := str _) rfl) ?_
    refine vw_done (by kernel_rfl) (seqK_n (cw_ret (fnK_r (res1 rfl (rv_t (v := str _) rfl)) (.refl _) ?_)))
    first
      | (rw [num_doc n_r.1 (by omega) (by omega)]; done)
      | (rw [show numK bytes = numK 8 by unfold numK; omega, num_doc (b := 8) n_r.1 (by omega) (by omega)]; done)
      | (rw [show numK bytes = 0 by unfold numK; omega]; rfl)
  have p4 := df h1
  refine cw_skip (seqK_n (cw_seq (cw_seq (cw_region (omi rfl rfl ?_)))))
  refine ol rfl (lo_leq rfl rfl) (ow_nil (seqK_n (cw_cond rfl (fun h5 => ?_) (fun h5 => ?_))))
  · have p6 := dt h5
    refine cw_seq (cw_region (ol rfl (lo_assign (v := str _) rfl) (ow_nil (seqK_n (cw_ret ?_)))))
    refine seqK_r (fnK_r (res1 rfl (rv_t (v := str _) rfl)) (.refl _) ?_)
    first
      | (rw [num_doc n_r.1 (by omega) (by omega)]; done)
      | (rw [show numK bytes = numK 8 by unfold numK; omega, num_doc (b := 8) n_r.1 (by omega) (by omega)]; done)
      | (rw [show numK bytes = 0 by unfold numK; omega]; rfl)
  have p7 := df h5
  refine cw_skip (seqK_n (cw_seq (cw_anyL mixd (vw_q 0 rfl (by kernel_rfl) (by repeat (first | exact lle_l0 | exact LLe.refl _ | exact lle_none | refine lle_up ?_ rfl)) (fun _ _ hh hl => lo_move (v := .int _ _) rfl) ?_))))
  refine vw_q 1 rfl (by kernel_rfl) (by repeat (first | exact lle_l0 | exact LLe.refl _ | exact lle_none | refine lle_up ?_ rfl)) (fun _ _ hh hl => lo_quo rfl rfl (by omega) ((rg_u64 (by omega))).2 (by omega)) ?_
  refine vw_q 2 rfl (by kernel_rfl) (by repeat (first | exact lle_l0 | exact LLe.refl _ | exact lle_none | refine lle_up ?_ rfl)) (fun _ _ hh hl => lo_move (v := .int _ _) rfl) ?_
  refine vw_q 3 rfl (by kernel_rfl) (by repeat (first | exact lle_l0 | exact LLe.refl _ | exact lle_none | refine lle_up ?_ rfl)) (fun _ _ hh hl => lo_sub rfl rfl (rg_i64 (by omega))) ?_
  have := numB_len (numK (bytes - 1)) ((n / 256)).toNat
  have := numK_le (bytes - 1)
  refine vw_qc 4 rfl (by kernel_rfl) (by repeat (first | exact lle_l0 | exact LLe.refl _ | exact lle_none | refine lle_up ?_ rfl)) (r1_Num _ (n / 256) (by omega) (bytes - 1) (by omega)) (en_f cb95 rfl) ?_
  refine vw_q 5 rfl (by kernel_rfl) (by repeat (first | exact lle_l0 | exact LLe.refl _ | exact lle_none | refine lle_up ?_ rfl)) (fun _ _ hh hl => lo_move (v := .int _ _) rfl) ?_
  refine vw_q 6 rfl (by kernel_rfl) (by repeat (first | exact lle_l0 | exact LLe.refl _ | exact lle_none | refine lle_up ?_ rfl)) (fun _ _ hh hl => lo_rem rfl rfl (by omega) (by omega)) ?_
  refine vw_q 7 rfl (by kernel_rfl) (by repeat (first | exact lle_l0 | exact LLe.refl _ | exact lle_none | refine lle_up ?_ rfl)) (fun _ _ hh hl => lo_conv_in rfl (by rw [Tryz.underlying39]; rfl) Tryz.underlying5 (rg_u8 (by omega))) ?_
  refine vw_tp 8 rfl (by kernel_rfl) (by kernel_rfl) (op1_bslice (cs := [_]) 0 rfl Tryz.underlying127 sz5 zx5 rfl ⟨rfl, rfl, trivial⟩ rfl rfl (by decide) (fun b8 => ?_))
  refine ⟨(.refl _), ?_⟩
  refine vw_e 9 rfl (by kernel_rfl) (op1_l rfl (lo_b2s (i := 0) [UInt8.ofNat ((n % 256)).toNat] rfl Tryz.underlying127 Tryz.underlying9 Tryz.underlying5 rfl (by simp only [List.map_cons, List.map_nil]; rw [u8v_of (by omega) (by omega)]; rfl)) ?_)
  refine ⟨⟨(.refl _), (by repeat (first | exact lle_l0 | exact LLe.refl _ | exact lle_none | refine lle_up ?_ rfl))⟩, ?_⟩
  refine vw_q 10 rfl (by kernel_rfl) (by repeat (first | exact lle_l0 | exact LLe.refl _ | exact lle_none | refine lle_up ?_ rfl)) (fun _ _ hh hl => lo_cat rfl rfl (by first | omega | (simp only [List.length_append, List.length_cons, List.length_nil]; omega))) ?_
  refine vw_q 11 rfl (by kernel_rfl) (by repeat (first | exact lle_l0 | exact LLe.refl _ | exact lle_none | refine lle_up ?_ rfl)) (fun _ _ hh hl => lo_assign (v := str _) rfl) ?_
  refine vw_done (by kernel_rfl) (seqK_n (cw_ret (fnK_r (res1 rfl (rv_t (v := str _) rfl)) (.refl _) ?_)))
  first
    | (rw [num_doc n_r.1 (by omega) (by omega)]; done)
    | (rw [show numK bytes = numK 8 by unfold numK; omega, num_doc (b := 8) n_r.1 (by omega) (by omega)]; done)
    | (rw [show numK bytes = 0 by unfold numK; omega]; rfl)
termination_by numK bytes
decreasing_by all_goals (unfold numK; omega)
theorem r1_Text (H : Hp) (s : Bs) (hs : s.length ≤ 4611686018427387904) : Pr Tryz.prog 94 #[str s] H (str (txtB s)) := by
  refine pr_cw Tryz.func94 rfl Tryz.ntmps94 rfl (fun N => ?_)
  refine cw_seq (cw_region (ol rfl (lo_assign (v := str _) rfl) (ow_nil (seqK_n (cw_seq ?_)))))
  refine cw_region (ol rfl (lo_move (v := str _) rfl) (ol rfl (lo_len_str rfl Tryz.underlying9) (ol rfl (lo_conv_in rfl (by rw [Tryz.underlying3]; rfl) Tryz.underlying39 (rg_u64 (by omega))) ?_)))
  refine ow1 (op1_pr (r1_Num _ (s.length : Int) (by omega) 2 (by omega)) (en_f cb95 rfl) rfl ?_)
  have := numB_len (numK 2) ((s.length : Int)).toNat
  have := numK_le 2
  have : numK 2 = 2 := by decide
  refine ol rfl (lo_move (v := str _) rfl) (ol rfl (lo_cat rfl rfl (by first | omega | (simp <;> omega))) (ol rfl (lo_assign (v := str _) rfl) (ow_nil (seqK_n (cw_ret ?_)))))
  refine fnK_r (res1 rfl (rv_t (v := str _) rfl)) (.refl _) ?_
  unfold txtB
  rw [show numK 2 = 2 by decide, Int.toNat_natCast]
theorem r9_Bytes (H : Hp) (h_a : Option Addr) (h_l h_c : Nat) (h : List Pair) (h_h : SlH pairE 4 H (.slice h_a h_l h_c) h) (hs : smallH h) : Pr Tryz.prog 96 #[.slice h_a h_l h_c] H (str (r9B h)) := by
  refine pr_cw Tryz.func96 rfl Tryz.ntmps96 rfl (fun N => ?_)
  have hs1 := hs.1
  refine cw_seq (cw_region (ol rfl (lo_assign (v := str _) rfl) (ow_nil (seqK_n (cw_seq ?_)))))
  refine cw_region (ol rfl (lo_move (v := .slice _ _ _) rfl) (ol rfl (lo_len_slh rfl h_h Tryz.underlying40) (ol rfl (lo_conv_in rfl (by rw [Tryz.underlying3]; rfl) Tryz.underlying39 (rg_u64 (by omega))) ?_)))
  refine ow1 (op1_pr (r1_Num _ (h.length : Int) (by omega) 1 (by omega)) (en_f cb95 rfl) rfl ?_)
  have := numB_len (numK 1) ((h.length : Int)).toNat
  have := numK_le 1
  have : numK 1 = 1 := by decide
  refine ol rfl (lo_assign (v := str _) rfl) (ow_nil (seqK_n (cw_seq (cw_seq (cw_region ?_)))))
  refine ol rfl (lo_move (v := .slice _ _ _) rfl) (ol rfl (lo_len_slh rfl h_h Tryz.underlying40) (omi rfl rfl (ow_nil (seqK_n (cw_block ?_)))))
  refine cw_loop2 [3, 5, 12, 13, 14, 15, 16, 17, 18, 19, 20, 21, 22, 23, 24, 25, 26, 27, 28, 29, 30, 31, 32, 33, 34, 35, 36, 37, 38, 39, 40, 41, 42, 43, 44, 45, 46, 47, 48, 49] [0] (fun (k : Nat) (acc : Bs) G => upd (upd (G) 12 (.int .i64 (k : Int))) 3 (str acc)) (fun (k : Nat) (acc : Bs) G => G) (fun (k : Nat) (acc : Bs) H' => k ≤ h.length ∧ r9B h = acc ++ (h.drop k).flatMap pairB ∧ acc.length ≤ 1 + 2100 * k) (fun (k : Nat) (acc : Bs) => h.length - k) 0 (numB (numK 1) (h.length : Int).toNat) (upd_intro (upd_intro (mask_intro (by first | exact off_refl | (repeat (first | exact off_mask | refine off_upd rfl ?_ | refine off_mask2 rfl ?_)))) rfl) rfl) (lmask_intro offl_refl) ?_ ?_
  · exact ⟨Nat.zero_le _, by unfold r9B; rw [show numK 1 = 1 by decide, Int.toNat_natCast]; simp, by omega⟩
  intro k acc J2 JL2 H2 hp1 hl2
  obtain ⟨hk1, hk2, hk3⟩ := hp1
  refine cw_seq (cw_region (ol rfl (lo_lss rfl rfl) (ow_nil (seqK_n (cw_seq ?_)))))
  refine cw_cond rfl (fun h3 => ?_) (fun h3 => ?_)
  · have p4 := dt h3
    refine cw_skip (seqK_n (cw_seq (cw_block (cw_seq (cw_region ?_)))))
    obtain ⟨c5, hc6⟩ := getE (xs := h) (m := k) (by omega)
    obtain ⟨cs7, hE8, at9⟩ := (h_h.mono ((HLe.refl _).trans hl2) (fun _ _ h => h)).get hc6
    obtain ⟨rfl, c5_w⟩ := hE8
    have c5_w' := c5_w
    simp only [Pair.wf] at c5_w'
    have hsm0 := hs.2 c5 (List.mem_of_getElem? hc6)
    refine ol rfl (lo_indexAddr rfl rfl (h_h.mono ((HLe.refl _).trans hl2) (fun _ _ h => h)).1 at9 Tryz.underlying40 sz182 (by omega) (by omega)) (ol rfl (lo_loadEA rfl ag182 sz182 at9) (ow1 (op1_alloc 0 rfl zr182 (fun b10 => ?_))))
    refine ow1 (op1_storeA (i := 0) (vs := [_, _, _, _]) rfl rfl rfl sz182 rfl rfl rfl ?_)
    refine ow_nil (seqK_n (cw_seq (cw_anyL mixd (vw_q 0 rfl (by kernel_rfl) (by repeat (first | exact lle_l0 | exact LLe.refl _ | exact lle_none | refine lle_up ?_ rfl)) (fun _ _ hh hl => lo_move (v := str _) rfl) ?_))))
    refine vw_q 1 rfl (by kernel_rfl) (by repeat (first | exact lle_l0 | exact LLe.refl _ | exact lle_none | refine lle_up ?_ rfl)) (fun _ _ hh hl => lo_fieldAddr rfl fl182_0) ?_
    refine vw_q 2 rfl (by kernel_rfl) (by repeat (first | exact lle_l0 | exact LLe.refl _ | exact lle_none | refine lle_up ?_ rfl)) (fun _ _ hh hl => lo_load1 (i := 0) (v := str _) rfl ag9 (hl _ _ rfl) rfl) ?_
    have := txtB_len c5.key
    refine vw_qc 3 rfl (by kernel_rfl) (by repeat (first | exact lle_l0 | exact LLe.refl _ | exact lle_none | refine lle_up ?_ rfl)) (r1_Text _ c5.key (by first | omega | (simp; done) | (simp; omega))) (en_f cb94 rfl) ?_
    refine vw_q 4 rfl (by kernel_rfl) (by repeat (first | exact lle_l0 | exact LLe.refl _ | exact lle_none | refine lle_up ?_ rfl)) (fun _ _ hh hl => lo_cat rfl rfl (by first | omega | (simp <;> omega))) ?_
    refine vw_q 5 rfl (by kernel_rfl) (by repeat (first | exact lle_l0 | exact LLe.refl _ | exact lle_none | refine lle_up ?_ rfl)) (fun _ _ hh hl => lo_fieldAddr rfl fl182_1) ?_
    refine vw_q 6 rfl (by kernel_rfl) (by repeat (first | exact lle_l0 | exact LLe.refl _ | exact lle_none | refine lle_up ?_ rfl)) (fun _ _ hh hl => lo_load1 (i := 0) (v := .int _ _) rfl ag5 (hl _ _ rfl) rfl) ?_
    refine vw_q 7 rfl (by kernel_rfl) (by repeat (first | exact lle_l0 | exact LLe.refl _ | exact lle_none | refine lle_up ?_ rfl)) (fun _ _ hh hl => lo_conv_in rfl (by rw [Tryz.underlying5]; rfl) Tryz.underlying39 (rg_u64 (by omega))) ?_
    have := numB_len (numK 1) (c5.kind).toNat
    have := numK_le 1
    have : numK 1 = 1 := by decide
    refine vw_qc 8 rfl (by kernel_rfl) (by repeat (first | exact lle_l0 | exact LLe.refl _ | exact lle_none | refine lle_up ?_ rfl)) (r1_Num _ c5.kind (by omega) 1 (by omega)) (en_f cb95 rfl) ?_
    refine vw_q 9 rfl (by kernel_rfl) (by repeat (first | exact lle_l0 | exact LLe.refl _ | exact lle_none | refine lle_up ?_ rfl)) (fun _ _ hh hl => lo_cat rfl rfl (by first | omega | (simp <;> omega))) ?_
    refine vw_q 10 rfl (by kernel_rfl) (by repeat (first | exact lle_l0 | exact LLe.refl _ | exact lle_none | refine lle_up ?_ rfl)) (fun _ _ hh hl => lo_assign (v := str _) rfl) ?_
    refine vw_done (by kernel_rfl) (seqK_n (cw_seq (cw_region (ol rfl (lo_fieldAddr rfl fl182_1) (ol rfl (lo_load1 (i := 0) (v := .int _ _) rfl ag5 rfl rfl) ?_)))))
    refine ol rfl (lo_eql rfl rfl) (ow_nil (seqK_n (cw_cond rfl (fun h11 => ?_) (fun h11 => ?_))))
    · have p12 := dt h11
      refine cw_region (ol rfl (lo_move (v := str _) rfl) (ol rfl (lo_fieldAddr rfl fl182_2) (ol rfl (lo_load1 (i := 0) (v := .int _ _) rfl ag2 rfl rfl) ?_)))
      have := wr_u64 c5.num
      refine ol rfl (lo_conv rfl (by rw [Tryz.underlying2]; rfl) Tryz.underlying39) ?_
      refine ow1 (op1_pr (r1_Num _ (IntKind.wrap .u64 c5.num) (by omega) 8 (by omega)) (en_f cb95 rfl) rfl ?_)
      have := numB_len (numK 8) ((IntKind.wrap .u64 c5.num)).toNat
      have := numK_le 8
      have : numK 8 = 8 := by decide
      refine ol rfl (lo_cat rfl rfl (by first | omega | (simp <;> omega))) (ol rfl (lo_assign (v := str _) rfl) (ow_nil (blkK_n (seqK_n (cw_region ?_)))))
      refine ol rfl (lo_add rfl rfl (rg_i64 (by omega))) (omi rfl rfl (ow_nil ?_))
      refine next2 (k + 1) (((acc ++ (txtB c5.key)) ++ (numB (numK 1) c5.kind.toNat)) ++ (numB (numK 8) (IntKind.wrap .u64 c5.num).toNat)) (upd_intro (upd_intro (mask_intro (by first | exact off_refl | (repeat (first | exact off_mask | refine off_upd rfl ?_ | refine off_mask2 rfl ?_)))) rfl) rfl) (lmask_intro (by first | exact offl_refl | (repeat (first | exact offl_mask | refine offl_upd rfl ?_ | refine offl_mask2 rfl ?_)))) hl2 ?_ ?_
      · have hsm := hs.2 c5 (List.mem_of_getElem? hc6)
        have hpl := pairB_len hsm
        have e : (((acc ++ (txtB c5.key)) ++ (numB (numK 1) c5.kind.toNat)) ++ (numB (numK 8) (IntKind.wrap .u64 c5.num).toNat)) = acc ++ pairB c5 := by
          unfold pairB
          have k1 : numK 1 = 1 := by decide
          have k8 : numK 8 = 8 := by decide
          rw [k1]
          first | (rw [if_pos (by omega), k8]; simp; done) | (rw [if_neg (by omega), if_pos (by omega)]; simp; done) | (rw [if_neg (by omega), if_neg (by omega)]; simp; done)
        rw [e]
        refine ⟨by omega, ?_, by rw [List.length_append]; omega⟩
        rw [hk2, dropE hc6, List.flatMap_cons, List.append_assoc]
      omega
    have p13 := df h11
    refine cw_seq (cw_region (ol rfl (lo_fieldAddr rfl fl182_1) (ol rfl (lo_load1 (i := 0) (v := .int _ _) rfl ag5 rfl rfl) (ol rfl (lo_eql rfl rfl) (ow_nil ?_)))))
    refine seqK_n (cw_cond rfl (fun h14 => ?_) (fun h14 => ?_))
    · have p15 := dt h14
      refine cw_region (ol rfl (lo_move (v := str _) rfl) (ol rfl (lo_fieldAddr rfl fl182_3) (ol rfl (lo_load1 (i := 0) (v := str _) rfl ag9 rfl rfl) ?_)))
      refine ow1 (op1_pr (r1_Text _ c5.text (by first | omega | (simp; done) | (simp; omega))) (en_f cb94 rfl) rfl ?_)
      have := txtB_len c5.text
      refine ol rfl (lo_cat rfl rfl (by first | omega | (simp <;> omega))) (ol rfl (lo_assign (v := str _) rfl) (ow_nil (blkK_n (seqK_n (cw_region ?_)))))
      refine ol rfl (lo_add rfl rfl (rg_i64 (by omega))) (omi rfl rfl (ow_nil ?_))
      refine next2 (k + 1) (((acc ++ (txtB c5.key)) ++ (numB (numK 1) c5.kind.toNat)) ++ (txtB c5.text)) (upd_intro (upd_intro (mask_intro (by first | exact off_refl | (repeat (first | exact off_mask | refine off_upd rfl ?_ | refine off_mask2 rfl ?_)))) rfl) rfl) (lmask_intro (by first | exact offl_refl | (repeat (first | exact offl_mask | refine offl_upd rfl ?_ | refine offl_mask2 rfl ?_)))) hl2 ?_ ?_
      · have hsm := hs.2 c5 (List.mem_of_getElem? hc6)
        have hpl := pairB_len hsm
        have e : (((acc ++ (txtB c5.key)) ++ (numB (numK 1) c5.kind.toNat)) ++ (txtB c5.text)) = acc ++ pairB c5 := by
          unfold pairB
          have k1 : numK 1 = 1 := by decide
          have k8 : numK 8 = 8 := by decide
          rw [k1]
          first | (rw [if_pos (by omega), k8]; simp; done) | (rw [if_neg (by omega), if_pos (by omega)]; simp; done) | (rw [if_neg (by omega), if_neg (by omega)]; simp; done)
        rw [e]
        refine ⟨by omega, ?_, by rw [List.length_append]; omega⟩
        rw [hk2, dropE hc6, List.flatMap_cons, List.append_assoc]
      omega
    have p16 := df h14
    refine cw_region (ol rfl (lo_move (v := str _) rfl) (ol rfl (lo_fieldAddr rfl fl182_2) (ol rfl (lo_load1 (i := 0) (v := .int _ _) rfl ag2 rfl rfl) ?_)))
    have := wr_u64 c5.num
    refine ol rfl (lo_conv rfl (by rw [Tryz.underlying2]; rfl) Tryz.underlying39) ?_
    refine ow1 (op1_pr (r1_Num _ (IntKind.wrap .u64 c5.num) (by omega) 1 (by omega)) (en_f cb95 rfl) rfl ?_)
    have := numB_len (numK 1) ((IntKind.wrap .u64 c5.num)).toNat
    have := numK_le 1
    have : numK 1 = 1 := by decide
    refine ol rfl (lo_cat rfl rfl (by first | omega | (simp <;> omega))) (ol rfl (lo_assign (v := str _) rfl) (ow_nil (blkK_n (seqK_n (cw_region ?_)))))
    refine ol rfl (lo_add rfl rfl (rg_i64 (by omega))) (omi rfl rfl (ow_nil ?_))
    refine next2 (k + 1) (((acc ++ (txtB c5.key)) ++ (numB (numK 1) c5.kind.toNat)) ++ (numB (numK 1) (IntKind.wrap .u64 c5.num).toNat)) (upd_intro (upd_intro (mask_intro (by first | exact off_refl | (repeat (first | exact off_mask | refine off_upd rfl ?_ | refine off_mask2 rfl ?_)))) rfl) rfl) (lmask_intro (by first | exact offl_refl | (repeat (first | exact offl_mask | refine offl_upd rfl ?_ | refine offl_mask2 rfl ?_)))) hl2 ?_ ?_
    · have hsm := hs.2 c5 (List.mem_of_getElem? hc6)
      have hpl := pairB_len hsm
      have e : (((acc ++ (txtB c5.key)) ++ (numB (numK 1) c5.kind.toNat)) ++ (numB (numK 1) (IntKind.wrap .u64 c5.num).toNat)) = acc ++ pairB c5 := by
        unfold pairB
        have k1 : numK 1 = 1 := by decide
        have k8 : numK 8 = 8 := by decide
        rw [k1]
        first | (rw [if_pos (by omega), k8]; simp; done) | (rw [if_neg (by omega), if_pos (by omega)]; simp; done) | (rw [if_neg (by omega), if_neg (by omega)]; simp; done)
      rw [e]
      refine ⟨by omega, ?_, by rw [List.length_append]; omega⟩
      rw [hk2, dropE hc6, List.flatMap_cons, List.append_assoc]
    omega
  have p17 := df h3
  refine cw_exit (seqK_e (loopK_e (blkK_hit (seqK_n (cw_seq ?_)))))
  refine cw_region (ol rfl (lo_move (v := str _) rfl) (ol rfl (lo_assign (v := str _) rfl) (ow_nil (seqK_n (cw_ret ?_)))))
  refine fnK_r (res1 rfl (rv_t (v := str _) rfl)) ((HLe.refl _).trans hl2) ?_
  rw [hk2, List.drop_of_length_le (by omega)]
  simp
end Go.SW
