/-
  A part of the proof of DeedShort: The walks of this seat, printed by program: feed.Feed.Rest, feed.Feed.Err, stairwelllaw01.awake, stairwelllaw01.Awake, stairwelllaw02.awake, stairwelllaw02.Awake, stairwelllaw07.awake, stairwelllaw07.Awake. The walks of this seat, printed by program: stairwelllaw08.awake, stairwelllaw08.Awake. The walks of this seat, printed by program: words.Matches, stairwelllaw04.awake, stairwelllaw04.Awake, stairwelllaw09.awake, stairwelllaw09.Awake, stairwelllaw12.awake, stairwelllaw12.Awake. The walks of this seat, printed by program: api.Pair], head.Same, stairwellref09.Same, reply.sameMail, reply.Same, stairwellref12.SameMail, stairwellref12.Same, stairwelllaw09.Light, stairwelllaw12.Light, stairwelllaw12.To, stairwelllaw12.ReplySame. The walks of this seat, printed by program: stairwellref01.In.Fail, stairwellref01.In.Raw, stairwellref01.In.Num, stairwellref01.In.Text, stairwellref01.In.End, stairwellref12.tellsN, stairwellref12.tellsM. The walks of this seat, printed by program: stairwellref04.Name, stairwellref04.Split. The walks of this seat, printed by program: stairwellref04.Key, stairwellref09.Pair, stairwellref09.Check, stairwellref12.Check, stairwellref01.Num, stairwellref01.Text, stairwellref09.Bytes. The walks of this seat, printed by program: head.one, head.Read, stairwellref09.Read, frame.Same. The walks of this seat, printed by program: reply.Of, stairwellref12.Parse. The walks of this seat, printed by program: stairwellref12.Frame, stairwelllaw12.ReplyFrames. The walks of this seat, printed by program: method.Method.tells, method.Method.spare, words.Pattern. The walks of this seat, printed by program: method.Method.one, method.Method.Check. The walks of this seat, printed by program: method.Method.Frame. The walks of this seat, printed by program: match.Rule.Check, match.Rule.heads, match.Rule.Goes. The walks of this seat, printed by program: stairwelllaw10.awake, stairwelllaw10.Awake, stairwelllaw11.awake, stairwelllaw11.Awake. The walks of this seat, printed by program: method.Same, stairwellref11.Same, match.Same, stairwelllaw11.Light, stairwelllaw11.To, method.Method.Rule, stairwelllaw11.MethodSame. The walks of this seat, printed by program: mail.Check, mail.Bytes, draft.Life, stairwellref26.Life, stairwelllaw13.awake, stairwelllaw13.Awake. The walks of this seat, printed by program: deed.maybe, deed.bound, deed.bit. The walks of this seat, printed by program: deed.sameBind, mail.Same, deed.Same. The walks of this seat, printed by program: deed.Deed.told. The walks of this seat, printed by program: deed.first, deed.Deed.Check. The walks of this seat, printed by program: api.Pair], deed.Deed].
-/
import Derived.Test.YtbcoemocijnooaaGreatDoorProg
import Derived.KernelRfl
import Derived.Test.YtbcoemocijnooaaGreatDoorDeedShortP2
set_option linter.unusedVariables false
set_option linter.unusedSimpArgs false
set_option linter.unusedVariables false
set_option maxRecDepth 100000
set_option maxHeartbeats 4000000
namespace Go.SW
open Go.Proofs
theorem cb162 : Callable Tryz.prog 162 := callable_of Tryz.func162 (by kernel_rfl) (by kernel_rfl)
theorem cb186 : Callable Tryz.prog 186 := callable_of Tryz.func186 (by kernel_rfl) (by kernel_rfl)
theorem l01_awake (H : Hp)  : Pr Tryz.prog 186 #[] H (.bool true) := by
  refine pr_cw Tryz.func186 rfl Tryz.ntmps186 rfl (fun N => ?_)
  refine cw_seq (cw_region (oab rfl rfl (ow_nil (seqK_n (cw_seq ?_)))))
  refine cw_region (ol rfl (lo_build (v := .agg #[_, _]) rfl (bd157)) ?_)
  refine ow1 (op1_pr (out_Num _ (⟨[], 0⟩ : Out) 258 (by omega) 2 (by omega) (by first | omega | (have := hrl (by assumption); omega) | (simp [outNum, outRaw, numB_len, numK] <;> omega) | (have := hrl (by assumption); simp [outNum, outRaw, numB_len, numK] <;> omega))) (en_f cb90 rfl) rfl ?_)
  have nl0 : (⟨[], 0⟩ : Out).s.length = 0 := rfl
  have := outNum_len (⟨[], 0⟩ : Out) 258 2
  refine ow1 (op1_pr (out_String _ (outNum (⟨[], 0⟩ : Out) 258 2)) (en_f cb91 rfl) rfl ?_)
  refine ol rfl (lo_seql rfl rfl) (omb rfl rfl ?_)
  refine ow1 (op1_g rfl (by decide +kernel) rfl (lo_build (v := .agg #[_, _]) rfl (bd157)) ?_)
  refine ow1 (op1_prg rfl (by decide +kernel) (out_Text _ (⟨[], 0⟩ : Out) [97, 98] (by first | omega | (have := hrl (by assumption); omega) | (simp [outNum, outRaw, numB_len, numK] <;> omega) | (have := hrl (by assumption); simp [outNum, outRaw, numB_len, numK] <;> omega))) (en_f cb87 rfl) rfl ?_)
  have nl0 : (⟨[], 0⟩ : Out).s.length = 0 := rfl
  have := outText_len (⟨[], 0⟩ : Out) [97, 98]
  refine ow1 (op1_prg rfl (by decide +kernel) (out_String _ (outText (⟨[], 0⟩ : Out) [97, 98])) (en_f cb91 rfl) rfl ?_)
  refine ow1 (op1_g rfl (by decide +kernel) rfl (lo_seql rfl rfl) ?_)
  refine ol rfl (lo_pick_t (v := .bool _) rfl (by decide +kernel) rfl) (omb rfl rfl ?_)
  refine ow1 (op1_png 0 rfl (by decide +kernel) (octet_New _ [1, 2]) (en_f cb48 rfl) rfl ?_)
  rintro _ _ b3 _ ⟨rfl, rfl, rfl⟩ _
  refine ow1 (op1_pmg 0 rfl (by decide +kernel) rfl (in_Num _ b3 (⟨[1, 2], 0⟩) 2 (by omega)) (en_f cb49 rfl) rfl ?_)
  rintro _ _ _ ⟨rfl, rfl, rfl⟩ _
  have := inNum_r (⟨[1, 2], 0⟩) 2
  refine ow1 (op1_g rfl (by decide +kernel) rfl (lo_eql rfl rfl) ?_)
  refine ol rfl (lo_pick_t (v := .bool _) rfl (by decide +kernel) rfl) (oab rfl rfl (ow_nil (seqK_n (cw_ret (fnK_r (res1 rfl (rv_t (v := .bool _) rfl)) (.refl _) ?_)))))
  exact congrArg Value.bool (by decide +kernel)
theorem l01_Awake (H : Hp)  : Pr Tryz.prog 162 #[] H (.bool true) := by
  refine pr_cw Tryz.func162 rfl Tryz.ntmps162 rfl (fun N => ?_)
  refine cw_seq (cw_region (oab rfl rfl (ow_nil (seqK_n (cw_seq ?_)))))
  refine cw_region ?_
  refine ow1 (op1_pr (l01_awake _ ) (en_f cb186 rfl) rfl ?_)
  refine oab rfl rfl (ow_nil (seqK_n (cw_ret (fnK_r (res1 rfl (rv_t (v := .bool _) rfl)) (.refl _) ?_))))
  rfl
end Go.SW
set_option linter.unusedVariables false
set_option maxRecDepth 100000
set_option maxHeartbeats 4000000
namespace Go.SW
open Go.Proofs
end Go.SW
set_option linter.unusedVariables false
set_option maxRecDepth 100000
set_option maxHeartbeats 4000000
namespace Go.SW
open Go.Proofs
theorem cb123 : Callable Tryz.prog 123 := callable_of Tryz.func123 (by kernel_rfl) (by kernel_rfl)
theorem cb151 : Callable Tryz.prog 151 := callable_of Tryz.func151 (by kernel_rfl) (by kernel_rfl)
theorem cb184 : Callable Tryz.prog 184 := callable_of Tryz.func184 (by kernel_rfl) (by kernel_rfl)
theorem cb188 : Callable Tryz.prog 188 := callable_of Tryz.func188 (by kernel_rfl) (by kernel_rfl)
theorem cb65 : Callable Tryz.prog 65 := callable_of Tryz.func65 (by kernel_rfl) (by kernel_rfl)
theorem words_Matches (H : Hp) (pattern : Bs) (key : Bs) (hML : GInt H 2) (hp : pattern.length < 4294967281) (hk : key.length < 4294967281) : Pr Tryz.prog 188 #[str pattern, str key] H (.bool (mt (wordsOf pattern) (wordsOf key))) := by
  refine pr_cw Tryz.func188 rfl Tryz.ntmps188 rfl (fun N => ?_)
  refine cw_seq (cw_region (oab rfl rfl (ow_nil (seqK_n (cw_seq ?_)))))
  refine cw_region (ol rfl (lo_move (v := str _) rfl) ?_)
  refine ow1 (op1_ph (words_Split _ pattern hML (by omega)) (en_f cb191 rfl) rfl ?_)
  rintro _ H5 ⟨a1, c2, rfl, hs3⟩ hl4
  refine ol rfl (lo_move (v := str _) rfl) ?_
  refine ow1 (op1_ph (words_Split _ key (hML.mono ((HLe.refl _).trans hl4)) (by omega)) (en_f cb191 rfl) rfl ?_)
  rintro _ H10 ⟨a6, c7, rfl, hs8⟩ hl9
  refine ol rfl (lo_assign (v := .slice _ _ _) rfl) (ol rfl (lo_assign (v := .slice _ _ _) rfl) (ow_nil (seqK_n (cw_seq (cw_region ?_)))))
  refine oai rfl rfl (oai rfl rfl (ow_nil (seqK_n (cw_seq (cw_region ?_)))))
  refine oai rfl rfl (oai rfl rfl (ow_nil (seqK_n (cw_seq (cw_block ?_)))))
  refine cw_loop4 [4, 7, 8, 9, 10, 15, 16, 17, 18, 19, 20, 21, 22, 23, 24, 25, 26, 27, 28, 29, 30, 31, 32, 33, 34, 35, 36, 37, 38, 39, 40, 41, 42, 43, 44, 45, 46, 47, 48, 49, 50, 51, 52, 53, 54, 55, 56, 57, 58, 59, 60, 61, 62, 63, 64, 65, 66, 67, 68] [] (fun (i : Nat) (j : Nat) (b : Int) (f : Nat) G => upd (upd (upd (upd (G) 7 (.int .i64 (i : Int))) 8 (.int .i64 (j : Int))) 9 (.int .i64 b)) 10 (.int .i64 (f : Int))) (fun (i : Nat) (j : Nat) (b : Int) (f : Nat) G => G) (fun (i : Nat) (j : Nat) (b : Int) (f : Nat) H' => MI (wordsOf pattern) (wordsOf key) i j b f) (fun (i : Nat) (j : Nat) (b : Int) (f : Nat) => mmu (wordsOf pattern) (wordsOf key) j b f) 0 0 (-1) 0 (upd_intro (upd_intro (upd_intro (upd_intro (mask_intro (by first | exact off_refl | (repeat (first | exact off_mask | refine off_upd rfl ?_ | refine off_mask2 rfl ?_)))) rfl) rfl) rfl) rfl) (lmask_intro offl_refl) ?_ ?_
  · exact MI.start _ _
  intro i j b f J12 JL12 H12 hp11 hl12
  have hmi := hp11
  have hwp := words_le pattern
  have hwk := words_le key
  have := hmi.hi
  have := hmi.hj
  have := hmi.hf
  have := hmi.hb
  have := hmi.hbi
  refine cw_seq (cw_seq (cw_region (omi rfl rfl (ol rfl (lo_move (v := .slice _ _ _) rfl) (ol rfl (lo_len_slh rfl (hs8.mono ((HLe.refl _).trans hl12) (fun _ _ h => h)) Tryz.underlying183) ?_)))))
  refine ol rfl (lo_lss rfl rfl) (ow_nil (seqK_n (cw_cond rfl (fun h13 => ?_) (fun h13 => ?_))))
  · have p14 := dt h13
    refine cw_skip (seqK_n (cw_block (cw_block (cw_seq (cw_region ?_)))))
    refine omi rfl rfl (ol rfl (lo_move (v := .slice _ _ _) rfl) (ol rfl (lo_len_slh rfl (hs3.mono (((HLe.refl _).trans hl9).trans hl12) (fun _ _ h => h)) Tryz.underlying183) (ol rfl (lo_lss rfl rfl) (omb rfl rfl (ow_sp (j := 4) rfl (fun h15 => ?_) (fun h15 => ?_))))))
    · have p16 := dt h15
      refine ow1 (op1_g rfl h15 rfl (lo_move (v := .slice _ _ _) rfl) ?_)
      refine ow1 (op1_g rfl h15 rfl (lo_move (v := .int _ _) rfl) ?_)
      obtain ⟨c17, hc18⟩ := getE (xs := wordsOf pattern) (m := i) (by omega)
      obtain ⟨cs19, hE20, at21⟩ := (hs3.mono (((HLe.refl _).trans hl9).trans hl12) (fun _ _ h => h)).get hc18
      obtain ⟨rfl, c17_w⟩ := hE20
      have c17_w : c17.length ≤ 9223372036854775807 := c17_w
      refine ow1 (op1_g rfl h15 rfl (lo_indexAddr rfl rfl (hs3.mono (((HLe.refl _).trans hl9).trans hl12) (fun _ _ h => h)).1 at21 Tryz.underlying183 sz9 (by omega) (by omega)) ?_)
      refine ow1 (op1_g rfl h15 rfl (lo_loadE1 rfl ag9 at21) ?_)
      refine ow1 (op1_g rfl h15 rfl (lo_seql rfl rfl) ?_)
      refine ol rfl (lo_pick_t (v := .bool _) rfl h15 rfl) (oab rfl rfl (ow_nil (seqK_n (cw_cond rfl (fun h22 => ?_) (fun h22 => ?_)))))
      · have p23 := dt h22
        refine cw_seq (cw_region (omi rfl rfl (ol rfl (lo_add rfl rfl (rg_i64 (by omega))) (oai rfl rfl (ow_nil ?_)))))
        refine seqK_n (cw_region (omi rfl rfl (omi rfl rfl (oai rfl rfl (oai rfl rfl ?_)))))
        refine ow_nil (blkK_n (blkK_n ?_))
        obtain ⟨c24, hc25⟩ := getE (xs := wordsOf key) (m := j) (by omega)
        refine next4 (i + 1) j ((i : Int) + 1) j (upd_intro (upd_intro (upd_intro (upd_intro (mask_intro (by first | exact off_refl | (repeat (first | exact off_mask | refine off_upd rfl ?_ | refine off_mask2 rfl ?_)))) (congrArg (Value.int .i64) (by omega))) rfl) rfl) rfl) (lmask_intro (by first | exact offl_refl | (repeat (first | exact offl_mask | refine offl_upd rfl ?_ | refine offl_mask2 rfl ?_)))) hl12 ?_ ?_
        · exact MI.hash hmi (by rw [hc18]; simp [*])
        exact mmu_hash hmi (by omega)
      have p26 := df h22
      refine cw_seq (cw_anyL mixd (vw_q 0 rfl (by kernel_rfl) (by repeat (first | exact lle_l0 | exact LLe.refl _ | exact lle_none | refine lle_up ?_ rfl)) (fun _ _ hh hl => lo_move (v := .int _ _) rfl) ?_))
      refine vw_q 1 rfl (by kernel_rfl) (by repeat (first | exact lle_l0 | exact LLe.refl _ | exact lle_none | refine lle_up ?_ rfl)) (fun _ _ hh hl => lo_move (v := .slice _ _ _) rfl) ?_
      refine vw_q 2 rfl (by kernel_rfl) (by repeat (first | exact lle_l0 | exact LLe.refl _ | exact lle_none | refine lle_up ?_ rfl)) (fun _ _ hh hl => lo_len_slh rfl (hs3.mono ((((HLe.refl _).trans hl9).trans hl12).trans hh) (fun _ _ h => h)) Tryz.underlying183) ?_
      refine vw_q 3 rfl (by kernel_rfl) (by repeat (first | exact lle_l0 | exact LLe.refl _ | exact lle_none | refine lle_up ?_ rfl)) (fun _ _ hh hl => lo_lss rfl rfl) ?_
      refine vw_q 4 rfl (by kernel_rfl) (by repeat (first | exact lle_l0 | exact LLe.refl _ | exact lle_none | refine lle_up ?_ rfl)) (fun _ _ hh hl => lo_move (v := .bool _) rfl) ?_
      refine vw_qg 5 rfl (by kernel_rfl) (by repeat (first | exact lle_l0 | exact LLe.refl _ | exact lle_none | refine lle_up ?_ rfl)) rfl h15 (fun _ _ hh hl => lo_move (v := .slice _ _ _) rfl) ?_
      refine vw_qg 6 rfl (by kernel_rfl) (by repeat (first | exact lle_l0 | exact LLe.refl _ | exact lle_none | refine lle_up ?_ rfl)) rfl h15 (fun _ _ hh hl => lo_move (v := .int _ _) rfl) ?_
      refine vw_qg 7 rfl (by kernel_rfl) (by repeat (first | exact lle_l0 | exact LLe.refl _ | exact lle_none | refine lle_up ?_ rfl)) rfl h15 (fun _ _ hh hl => lo_indexAddr rfl rfl (hs3.mono ((((HLe.refl _).trans hl9).trans hl12).trans hh) (fun _ _ h => h)).1 (at21.mono hh) Tryz.underlying183 sz9 (by omega) (by omega)) ?_
      refine vw_qg 8 rfl (by kernel_rfl) (by repeat (first | exact lle_l0 | exact LLe.refl _ | exact lle_none | refine lle_up ?_ rfl)) rfl h15 (fun _ _ hh hl => lo_loadE1 rfl ag9 (at21.mono hh)) ?_
      refine vw_qg 9 rfl (by kernel_rfl) (by repeat (first | exact lle_l0 | exact LLe.refl _ | exact lle_none | refine lle_up ?_ rfl)) rfl h15 (fun _ _ hh hl => lo_seql rfl rfl) ?_
      refine vw_qg 10 rfl (by kernel_rfl) (by repeat (first | exact lle_l0 | exact LLe.refl _ | exact lle_none | refine lle_up ?_ rfl)) rfl h15 (fun _ _ hh hl => lo_move (v := .bool _) rfl) ?_
      refine vw_sp (j := 10) rfl (fun h27 => ?_) (fun h27 => ?_)
      · have p28 := dt h27
        refine vw_qgs 11 rfl (by kernel_rfl) (by repeat (first | exact lle_l0 | exact LLe.refl _ | exact lle_none | refine lle_up ?_ rfl)) rfl h27 ?_
        refine vw_qgs 12 rfl (by kernel_rfl) (by repeat (first | exact lle_l0 | exact LLe.refl _ | exact lle_none | refine lle_up ?_ rfl)) rfl h27 ?_
        refine vw_qgs 13 rfl (by kernel_rfl) (by repeat (first | exact lle_l0 | exact LLe.refl _ | exact lle_none | refine lle_up ?_ rfl)) rfl h27 ?_
        refine vw_qgs 14 rfl (by kernel_rfl) (by repeat (first | exact lle_l0 | exact LLe.refl _ | exact lle_none | refine lle_up ?_ rfl)) rfl h27 ?_
        refine vw_qgs 15 rfl (by kernel_rfl) (by repeat (first | exact lle_l0 | exact LLe.refl _ | exact lle_none | refine lle_up ?_ rfl)) rfl h27 ?_
        refine vw_qgs 16 rfl (by kernel_rfl) (by repeat (first | exact lle_l0 | exact LLe.refl _ | exact lle_none | refine lle_up ?_ rfl)) rfl h27 ?_
        refine vw_qgs 17 rfl (by kernel_rfl) (by repeat (first | exact lle_l0 | exact LLe.refl _ | exact lle_none | refine lle_up ?_ rfl)) rfl h27 ?_
        refine vw_qgs 18 rfl (by kernel_rfl) (by repeat (first | exact lle_l0 | exact LLe.refl _ | exact lle_none | refine lle_up ?_ rfl)) rfl h27 ?_
        refine vw_qgs 19 rfl (by kernel_rfl) (by repeat (first | exact lle_l0 | exact LLe.refl _ | exact lle_none | refine lle_up ?_ rfl)) rfl h27 ?_
        refine vw_qg 20 rfl (by kernel_rfl) (by repeat (first | exact lle_l0 | exact LLe.refl _ | exact lle_none | refine lle_up ?_ rfl)) rfl h15 (fun _ _ hh hl => lo_pick_t (v := .bool _) rfl h27 rfl) ?_
        refine vw_q 21 rfl (by kernel_rfl) (by repeat (first | exact lle_l0 | exact LLe.refl _ | exact lle_none | refine lle_up ?_ rfl)) (fun _ _ hh hl => lo_pick_t (v := .bool _) rfl h15 rfl) ?_
        refine vw_q 22 rfl (by kernel_rfl) (by repeat (first | exact lle_l0 | exact LLe.refl _ | exact lle_none | refine lle_up ?_ rfl)) (fun _ _ hh hl => lo_assign (v := .bool _) rfl) ?_
        refine vw_done (by kernel_rfl) (seqK_n (cw_cond_t rfl rfl (cw_region (omi rfl rfl (ol rfl (lo_add rfl rfl (rg_i64 (by omega))) ?_)))))
        refine omi rfl rfl (ol rfl (lo_add rfl rfl (rg_i64 (by omega))) (oai rfl rfl (oai rfl rfl (ow_nil (blkK_n ?_)))))
        refine blkK_n ?_
        obtain ⟨c29, hc30⟩ := getE (xs := wordsOf key) (m := j) (by omega)
        refine next4 (i + 1) (j + 1) b f (upd_intro (upd_intro (upd_intro (upd_intro (mask_intro (by first | exact off_refl | (repeat (first | exact off_mask | refine off_upd rfl ?_ | refine off_mask2 rfl ?_)))) (congrArg (Value.int .i64) (by omega))) rfl) rfl) rfl) (lmask_intro (by first | exact offl_refl | (repeat (first | exact offl_mask | refine offl_upd rfl ?_ | refine offl_mask2 rfl ?_)))) hl12 ?_ ?_
        · exact MI.step hmi hc18 hc30 (by assumption) (by first | exact .inl (by assumption) | exact .inr (by assumption))
        exact mmu_step (by omega)
      have p31 := df h27
      refine vw_qg 11 rfl (by kernel_rfl) (by repeat (first | exact lle_l0 | exact LLe.refl _ | exact lle_none | refine lle_up ?_ rfl)) rfl h27 (fun _ _ hh hl => lo_move (v := .slice _ _ _) rfl) ?_
      refine vw_qg 12 rfl (by kernel_rfl) (by repeat (first | exact lle_l0 | exact LLe.refl _ | exact lle_none | refine lle_up ?_ rfl)) rfl h27 (fun _ _ hh hl => lo_move (v := .int _ _) rfl) ?_
      refine vw_qg 13 rfl (by kernel_rfl) (by repeat (first | exact lle_l0 | exact LLe.refl _ | exact lle_none | refine lle_up ?_ rfl)) rfl h27 (fun _ _ hh hl => lo_indexAddr rfl rfl (hs3.mono ((((HLe.refl _).trans hl9).trans hl12).trans hh) (fun _ _ h => h)).1 (at21.mono hh) Tryz.underlying183 sz9 (by omega) (by omega)) ?_
      refine vw_qg 14 rfl (by kernel_rfl) (by repeat (first | exact lle_l0 | exact LLe.refl _ | exact lle_none | refine lle_up ?_ rfl)) rfl h27 (fun _ _ hh hl => lo_loadE1 rfl ag9 (at21.mono hh)) ?_
      refine vw_qg 15 rfl (by kernel_rfl) (by repeat (first | exact lle_l0 | exact LLe.refl _ | exact lle_none | refine lle_up ?_ rfl)) rfl h27 (fun _ _ hh hl => lo_move (v := .slice _ _ _) rfl) ?_
      refine vw_qg 16 rfl (by kernel_rfl) (by repeat (first | exact lle_l0 | exact LLe.refl _ | exact lle_none | refine lle_up ?_ rfl)) rfl h27 (fun _ _ hh hl => lo_move (v := .int _ _) rfl) ?_
      obtain ⟨c32, hc33⟩ := getE (xs := wordsOf key) (m := j) (by omega)
      obtain ⟨cs34, hE35, at36⟩ := (hs8.mono ((HLe.refl _).trans hl12) (fun _ _ h => h)).get hc33
      obtain ⟨rfl, c32_w⟩ := hE35
      have c32_w : c32.length ≤ 9223372036854775807 := c32_w
      refine vw_qg 17 rfl (by kernel_rfl) (by repeat (first | exact lle_l0 | exact LLe.refl _ | exact lle_none | refine lle_up ?_ rfl)) rfl h27 (fun _ _ hh hl => lo_indexAddr rfl rfl (hs8.mono (((HLe.refl _).trans hl12).trans hh) (fun _ _ h => h)).1 (at36.mono hh) Tryz.underlying183 sz9 (by omega) (by omega)) ?_
      refine vw_qg 18 rfl (by kernel_rfl) (by repeat (first | exact lle_l0 | exact LLe.refl _ | exact lle_none | refine lle_up ?_ rfl)) rfl h27 (fun _ _ hh hl => lo_loadE1 rfl ag9 (at36.mono hh)) ?_
      refine vw_qg 19 rfl (by kernel_rfl) (by repeat (first | exact lle_l0 | exact LLe.refl _ | exact lle_none | refine lle_up ?_ rfl)) rfl h27 (fun _ _ hh hl => lo_seql rfl rfl) ?_
      refine vw_qg 20 rfl (by kernel_rfl) (by repeat (first | exact lle_l0 | exact LLe.refl _ | exact lle_none | refine lle_up ?_ rfl)) rfl h15 (fun _ _ hh hl => lo_pick_f (v := .bool _) rfl h27 rfl) ?_
      refine vw_q 21 rfl (by kernel_rfl) (by repeat (first | exact lle_l0 | exact LLe.refl _ | exact lle_none | refine lle_up ?_ rfl)) (fun _ _ hh hl => lo_pick_t (v := .bool _) rfl h15 rfl) ?_
      refine vw_q 22 rfl (by kernel_rfl) (by repeat (first | exact lle_l0 | exact LLe.refl _ | exact lle_none | refine lle_up ?_ rfl)) (fun _ _ hh hl => lo_assign (v := .bool _) rfl) ?_
      refine vw_done (by kernel_rfl) (seqK_n (cw_cond rfl (fun h37 => ?_) (fun h37 => ?_)))
      · have p38 := dt h37
        refine cw_region (omi rfl rfl (ol rfl (lo_add rfl rfl (rg_i64 (by omega))) (omi rfl rfl (ol rfl (lo_add rfl rfl (rg_i64 (by omega))) (oai rfl rfl ?_)))))
        refine oai rfl rfl (ow_nil (blkK_n (blkK_n ?_)))
        refine next4 (i + 1) (j + 1) b f (upd_intro (upd_intro (upd_intro (upd_intro (mask_intro (by first | exact off_refl | (repeat (first | exact off_mask | refine off_upd rfl ?_ | refine off_mask2 rfl ?_)))) (congrArg (Value.int .i64) (by omega))) rfl) rfl) rfl) (lmask_intro (by first | exact offl_refl | (repeat (first | exact offl_mask | refine offl_upd rfl ?_ | refine offl_mask2 rfl ?_)))) hl12 ?_ ?_
        · exact MI.step hmi hc18 hc33 (by assumption) (by first | exact .inl (by assumption) | exact .inr (by assumption))
        exact mmu_step (by omega)
      have p39 := df h37
      refine cw_seq (cw_region (omi rfl rfl (ol rfl (lo_geq rfl rfl) (oab rfl rfl (ow_nil ?_)))))
      refine seqK_n (cw_cond rfl (fun h40 => ?_) (fun h40 => ?_))
      · have p41 := dt h40
        refine cw_seq (cw_region (omi rfl rfl (ol rfl (lo_add rfl rfl (rg_i64 (by omega))) (oai rfl rfl (ow_nil ?_)))))
        refine seqK_n (cw_region (omi rfl rfl (omi rfl rfl (oai rfl rfl (oai rfl rfl ?_)))))
        refine ow_nil (blkK_n (blkK_n ?_))
        have hbad : ∀ w, (wordsOf pattern)[i]? = some w → w ≠ [35] ∧ w ≠ [42] ∧ w ≠ c32 := by
          intro w hw
          rw [hc18] at hw; cases hw
          exact ⟨by assumption, by assumption, by assumption⟩
        refine next4 b.toNat (f + 1) b (f + 1) (upd_intro (upd_intro (upd_intro (upd_intro (mask_intro (by first | exact off_refl | (repeat (first | exact off_mask | refine off_upd rfl ?_ | refine off_mask2 rfl ?_)))) (congrArg (Value.int .i64) (by omega))) rfl) rfl) rfl) (lmask_intro (by first | exact offl_refl | (repeat (first | exact offl_mask | refine offl_upd rfl ?_ | refine offl_mask2 rfl ?_)))) hl12 ?_ ?_
        · exact MI.back hmi hc33 (by omega) hbad
        exact mmu_back hmi.hf (by omega)
      have p42 := df h40
      refine cw_seq (cw_region (oab rfl rfl (ow_nil (seqK_n (cw_ret ?_)))))
      refine blkK_r (blkK_r (loopK_r (blkK_r (seqK_r (fnK_r (res1 rfl (rv_t (v := .bool _) rfl)) ((((HLe.refl _).trans hl4).trans hl9).trans hl12) ?_)))))
      have hbad : ∀ w, (wordsOf pattern)[i]? = some w → w ≠ [35] ∧ w ≠ [42] ∧ w ≠ c32 := by
        intro w hw
        rw [hc18] at hw; cases hw
        exact ⟨by assumption, by assumption, by assumption⟩
      exact congrArg Value.bool (MI.none hmi hc33 (by omega) hbad).symm
    have p43 := df h15
    refine og rfl h15 rfl (og rfl h15 rfl (og rfl h15 rfl (og rfl h15 rfl (og rfl h15 rfl (ol rfl (lo_pick_f (v := .bool _) rfl h15 rfl) ?_)))))
    refine oab rfl rfl (ow_nil (seqK_n (cw_cond_f rfl rfl (cw_seq (cw_anyL mixd ?_)))))
    refine vw_q 0 rfl (by kernel_rfl) (by repeat (first | exact lle_l0 | exact LLe.refl _ | exact lle_none | refine lle_up ?_ rfl)) (fun _ _ hh hl => lo_move (v := .int _ _) rfl) ?_
    refine vw_q 1 rfl (by kernel_rfl) (by repeat (first | exact lle_l0 | exact LLe.refl _ | exact lle_none | refine lle_up ?_ rfl)) (fun _ _ hh hl => lo_move (v := .slice _ _ _) rfl) ?_
    refine vw_q 2 rfl (by kernel_rfl) (by repeat (first | exact lle_l0 | exact LLe.refl _ | exact lle_none | refine lle_up ?_ rfl)) (fun _ _ hh hl => lo_len_slh rfl (hs3.mono ((((HLe.refl _).trans hl9).trans hl12).trans hh) (fun _ _ h => h)) Tryz.underlying183) ?_
    refine vw_q 3 rfl (by kernel_rfl) (by repeat (first | exact lle_l0 | exact LLe.refl _ | exact lle_none | refine lle_up ?_ rfl)) (fun _ _ hh hl => lo_lss rfl rfl) ?_
    refine vw_q 4 rfl (by kernel_rfl) (by repeat (first | exact lle_l0 | exact LLe.refl _ | exact lle_none | refine lle_up ?_ rfl)) (fun _ _ hh hl => lo_move (v := .bool _) rfl) ?_
    refine vw_qgs 5 rfl (by kernel_rfl) (by repeat (first | exact lle_l0 | exact LLe.refl _ | exact lle_none | refine lle_up ?_ rfl)) rfl h15 ?_
    refine vw_qgs 6 rfl (by kernel_rfl) (by repeat (first | exact lle_l0 | exact LLe.refl _ | exact lle_none | refine lle_up ?_ rfl)) rfl h15 ?_
    refine vw_qgs 7 rfl (by kernel_rfl) (by repeat (first | exact lle_l0 | exact LLe.refl _ | exact lle_none | refine lle_up ?_ rfl)) rfl h15 ?_
    refine vw_qgs 8 rfl (by kernel_rfl) (by repeat (first | exact lle_l0 | exact LLe.refl _ | exact lle_none | refine lle_up ?_ rfl)) rfl h15 ?_
    refine vw_qgs 9 rfl (by kernel_rfl) (by repeat (first | exact lle_l0 | exact LLe.refl _ | exact lle_none | refine lle_up ?_ rfl)) rfl h15 ?_
    refine vw_qgs 10 rfl (by kernel_rfl) (by repeat (first | exact lle_l0 | exact LLe.refl _ | exact lle_none | refine lle_up ?_ rfl)) rfl h15 ?_
    refine vw_qgx (j := 10) 11 rfl (by kernel_rfl) (by repeat (first | exact lle_l0 | exact LLe.refl _ | exact lle_none | refine lle_up ?_ rfl)) rfl ?_
    refine vw_qgx (j := 10) 12 rfl (by kernel_rfl) (by repeat (first | exact lle_l0 | exact LLe.refl _ | exact lle_none | refine lle_up ?_ rfl)) rfl ?_
    refine vw_qgx (j := 10) 13 rfl (by kernel_rfl) (by repeat (first | exact lle_l0 | exact LLe.refl _ | exact lle_none | refine lle_up ?_ rfl)) rfl ?_
    refine vw_qgx (j := 10) 14 rfl (by kernel_rfl) (by repeat (first | exact lle_l0 | exact LLe.refl _ | exact lle_none | refine lle_up ?_ rfl)) rfl ?_
    refine vw_qgx (j := 10) 15 rfl (by kernel_rfl) (by repeat (first | exact lle_l0 | exact LLe.refl _ | exact lle_none | refine lle_up ?_ rfl)) rfl ?_
    refine vw_qgx (j := 10) 16 rfl (by kernel_rfl) (by repeat (first | exact lle_l0 | exact LLe.refl _ | exact lle_none | refine lle_up ?_ rfl)) rfl ?_
    refine vw_qgx (j := 10) 17 rfl (by kernel_rfl) (by repeat (first | exact lle_l0 | exact LLe.refl _ | exact lle_none | refine lle_up ?_ rfl)) rfl ?_
    refine vw_qgx (j := 10) 18 rfl (by kernel_rfl) (by repeat (first | exact lle_l0 | exact LLe.refl _ | exact lle_none | refine lle_up ?_ rfl)) rfl ?_
    refine vw_qgx (j := 10) 19 rfl (by kernel_rfl) (by repeat (first | exact lle_l0 | exact LLe.refl _ | exact lle_none | refine lle_up ?_ rfl)) rfl ?_
    refine vw_qgs 20 rfl (by kernel_rfl) (by repeat (first | exact lle_l0 | exact LLe.refl _ | exact lle_none | refine lle_up ?_ rfl)) rfl h15 ?_
    refine vw_q 21 rfl (by kernel_rfl) (by repeat (first | exact lle_l0 | exact LLe.refl _ | exact lle_none | refine lle_up ?_ rfl)) (fun _ _ hh hl => lo_pick_f (v := .bool _) rfl h15 rfl) ?_
    refine vw_q 22 rfl (by kernel_rfl) (by repeat (first | exact lle_l0 | exact LLe.refl _ | exact lle_none | refine lle_up ?_ rfl)) (fun _ _ hh hl => lo_assign (v := .bool _) rfl) ?_
    refine vw_done (by kernel_rfl) (seqK_n (cw_cond_f rfl rfl (cw_seq (cw_region (omi rfl rfl ?_)))))
    refine ol rfl (lo_geq rfl rfl) (oab rfl rfl (ow_nil (seqK_n (cw_cond rfl (fun h44 => ?_) (fun h44 => ?_)))))
    · have p45 := dt h44
      refine cw_seq (cw_region (omi rfl rfl (ol rfl (lo_add rfl rfl (rg_i64 (by omega))) (oai rfl rfl (ow_nil ?_)))))
      refine seqK_n (cw_region (omi rfl rfl (omi rfl rfl (oai rfl rfl (oai rfl rfl ?_)))))
      refine ow_nil (blkK_n (blkK_n ?_))
      obtain ⟨c46, hc47⟩ := getE (xs := wordsOf key) (m := j) (by omega)
      have hbad : ∀ w, (wordsOf pattern)[i]? = some w → w ≠ [35] ∧ w ≠ [42] ∧ w ≠ c46 := by
        intro w hw
        rw [List.getElem?_eq_none (by omega)] at hw; cases hw
      refine next4 b.toNat (f + 1) b (f + 1) (upd_intro (upd_intro (upd_intro (upd_intro (mask_intro (by first | exact off_refl | (repeat (first | exact off_mask | refine off_upd rfl ?_ | refine off_mask2 rfl ?_)))) (congrArg (Value.int .i64) (by omega))) rfl) rfl) rfl) (lmask_intro (by first | exact offl_refl | (repeat (first | exact offl_mask | refine offl_upd rfl ?_ | refine offl_mask2 rfl ?_)))) hl12 ?_ ?_
      · exact MI.back hmi hc47 (by omega) hbad
      exact mmu_back hmi.hf (by omega)
    have p48 := df h44
    refine cw_seq (cw_region (oab rfl rfl (ow_nil (seqK_n (cw_ret ?_)))))
    refine blkK_r (blkK_r (loopK_r (blkK_r (seqK_r (fnK_r (res1 rfl (rv_t (v := .bool _) rfl)) ((((HLe.refl _).trans hl4).trans hl9).trans hl12) ?_)))))
    obtain ⟨cz, hcz⟩ := getE (xs := wordsOf key) (m := j) (by omega)
    have hbad : ∀ w, (wordsOf pattern)[i]? = some w → w ≠ [35] ∧ w ≠ [42] ∧ w ≠ cz := by
      intro w hw
      rw [List.getElem?_eq_none (by omega)] at hw; cases hw
    exact congrArg Value.bool (MI.none hmi hcz (by omega) hbad).symm
  have p49 := df h13
  refine cw_exit (seqK_e (loopK_e (blkK_hit (seqK_n (cw_seq ?_)))))
  refine cw_block (cw_loop1 [7, 69, 70, 71, 72, 73, 74, 75, 76, 77, 78, 79, 80, 81] [] (fun (q : Nat) G => upd (G) 7 (.int .i64 (q : Int))) (fun (q : Nat) G => G) (fun (q : Nat) H' => q ≤ (wordsOf pattern).length ∧ mt (wordsOf pattern) (wordsOf key) = mt ((wordsOf pattern).drop q) []) (fun (q : Nat) => (wordsOf pattern).length - q) i (upd_intro (mask_intro (by first | exact off_refl | (repeat (first | exact off_mask | refine off_upd rfl ?_ | refine off_mask2 rfl ?_)))) rfl) (lmask_intro offl_refl) ?_ ?_)
  · exact ⟨by omega, hmi.fin (by omega)⟩
  intro q J51 JL51 H51 hp50 hl51
  obtain ⟨hq1, hq2⟩ := hp50
  refine cw_seq (cw_seq (cw_region (omi rfl rfl (ol rfl (lo_move (v := .slice _ _ _) rfl) (ol rfl (lo_len_slh rfl (hs3.mono ((((HLe.refl _).trans hl9).trans hl12).trans hl51) (fun _ _ h => h)) Tryz.underlying183) ?_)))))
  refine ol rfl (lo_lss rfl rfl) (omb rfl rfl (ow_sp (j := 4) rfl (fun h52 => ?_) (fun h52 => ?_)))
  · have p53 := dt h52
    refine ow1 (op1_g rfl h52 rfl (lo_move (v := .slice _ _ _) rfl) ?_)
    refine ow1 (op1_g rfl h52 rfl (lo_move (v := .int _ _) rfl) ?_)
    obtain ⟨c54, hc55⟩ := getE (xs := wordsOf pattern) (m := q) (by omega)
    obtain ⟨cs56, hE57, at58⟩ := (hs3.mono ((((HLe.refl _).trans hl9).trans hl12).trans hl51) (fun _ _ h => h)).get hc55
    obtain ⟨rfl, c54_w⟩ := hE57
    have c54_w : c54.length ≤ 9223372036854775807 := c54_w
    refine ow1 (op1_g rfl h52 rfl (lo_indexAddr rfl rfl (hs3.mono ((((HLe.refl _).trans hl9).trans hl12).trans hl51) (fun _ _ h => h)).1 at58 Tryz.underlying183 sz9 (by omega) (by omega)) ?_)
    refine ow1 (op1_g rfl h52 rfl (lo_loadE1 rfl ag9 at58) ?_)
    refine ow1 (op1_g rfl h52 rfl (lo_seql rfl rfl) ?_)
    refine ol rfl (lo_pick_t (v := .bool _) rfl h52 rfl) (ow_nil (seqK_n (cw_cond rfl (fun h59 => ?_) (fun h59 => ?_))))
    · have p60 := dt h59
      refine cw_skip (seqK_n (cw_block (cw_region (omi rfl rfl (ol rfl (lo_add rfl rfl (rg_i64 (by omega))) ?_)))))
      refine oai rfl rfl (ow_nil (blkK_n ?_))
      refine next1 (q + 1) (upd_intro (mask_intro (by first | exact off_refl | (repeat (first | exact off_mask | refine off_upd rfl ?_ | refine off_mask2 rfl ?_)))) rfl) (lmask_intro (by first | exact offl_refl | (repeat (first | exact offl_mask | refine offl_upd rfl ?_ | refine offl_mask2 rfl ?_)))) hl51 ?_ ?_
      · exact ⟨by omega, mt_end hq2 (by rw [hc55]; simp [*])⟩
      omega
    have p61 := df h59
    refine cw_exit (seqK_e (loopK_e (blkK_hit (seqK_n (cw_seq ?_)))))
    refine cw_region (omi rfl rfl (ol rfl (lo_move (v := .slice _ _ _) rfl) (ol rfl (lo_len_slh rfl (hs3.mono ((((HLe.refl _).trans hl9).trans hl12).trans hl51) (fun _ _ h => h)) Tryz.underlying183) (ol rfl (lo_eql rfl rfl) (oab rfl rfl ?_)))))
    refine ow_nil (seqK_n (cw_ret (fnK_r (res1 rfl (rv_t (v := .bool _) rfl)) (((((HLe.refl _).trans hl4).trans hl9).trans hl12).trans hl51) (congrArg Value.bool ?_))))
    rw [hq2]
    rw [mt_endN hc55 (by assumption)]
    rw [decide_eq_false_iff_not]; omega
  have p62 := df h52
  refine og rfl h52 rfl (og rfl h52 rfl (og rfl h52 rfl (og rfl h52 rfl (og rfl h52 rfl (ol rfl (lo_pick_f (v := .bool _) rfl h52 rfl) ?_)))))
  refine ow_nil (seqK_n (cw_cond_f rfl rfl (cw_exit (seqK_e (loopK_e ?_)))))
  refine blkK_hit (seqK_n (cw_seq (cw_region (omi rfl rfl (ol rfl (lo_move (v := .slice _ _ _) rfl) ?_)))))
  refine ol rfl (lo_len_slh rfl (hs3.mono ((((HLe.refl _).trans hl9).trans hl12).trans hl51) (fun _ _ h => h)) Tryz.underlying183) (ol rfl (lo_eql rfl rfl) (oab rfl rfl (ow_nil (seqK_n (cw_ret ?_)))))
  refine fnK_r (res1 rfl (rv_t (v := .bool _) rfl)) (((((HLe.refl _).trans hl4).trans hl9).trans hl12).trans hl51) (congrArg Value.bool ?_)
  rw [hq2]
  have hqe : q = (wordsOf pattern).length := by omega
  subst hqe
  rw [List.drop_length]; simp [mt]
theorem l04_awake (H : Hp)  (hML : GInt H 2) : Pr Tryz.prog 184 #[] H (.bool true) := by
  refine pr_cw Tryz.func184 rfl Tryz.ntmps184 rfl (fun N => ?_)
  refine cw_seq (cw_region (oab rfl rfl (ow_nil (seqK_n (cw_seq ?_)))))
  refine cw_region ?_
  refine ow1 (op1_pr (words_Matches _ [97, 46, 42, 46, 35] [97, 46, 98] hML (by first | omega | (simp; done) | decide) (by first | omega | (simp; done) | decide)) (en_f cb188 rfl) rfl ?_)
  refine omb rfl rfl ?_
  refine ow1 (op1_prg rfl (by decide +kernel) (words_Matches _ [97, 46, 42, 46, 35] [97, 46, 98, 46, 99, 46, 100] hML (by first | omega | (simp; done) | decide) (by first | omega | (simp; done) | decide)) (en_f cb188 rfl) rfl ?_)
  refine ol rfl (lo_pick_t (v := .bool _) rfl (by decide +kernel) rfl) (omb rfl rfl ?_)
  refine ow1 (op1_prg rfl (by decide +kernel) (words_Matches _ [97, 46, 42, 46, 35] [97] hML (by first | omega | (simp; done) | decide) (by first | omega | (simp; done) | decide)) (en_f cb188 rfl) rfl ?_)
  refine ow1 (op1_g rfl (by decide +kernel) rfl (lo_not rfl) ?_)
  refine ol rfl (lo_pick_t (v := .bool _) rfl (by decide +kernel) rfl) (omb rfl rfl ?_)
  refine ow1 (op1_prg rfl (by decide +kernel) (words_Name _ [97, 45, 49] (by first | omega | decide | (simp; done))) (en_f cb131 rfl) rfl ?_)
  refine ow1 (op1_g rfl (by decide +kernel) rfl (lo_eql rfl rfl) ?_)
  refine ol rfl (lo_pick_t (v := .bool _) rfl (by decide +kernel) rfl) (oab rfl rfl (ow_nil (seqK_n (cw_ret (fnK_r (res1 rfl (rv_t (v := .bool _) rfl)) (.refl _) ?_)))))
  exact congrArg Value.bool (by decide +kernel)
theorem l04_Awake (H : Hp)  (hML : GInt H 2) : Pr Tryz.prog 151 #[] H (.bool true) := by
  refine pr_cw Tryz.func151 rfl Tryz.ntmps151 rfl (fun N => ?_)
  refine cw_seq (cw_region (oab rfl rfl (ow_nil (seqK_n (cw_seq ?_)))))
  refine cw_region ?_
  refine ow1 (op1_pr (l04_awake _ hML) (en_f cb184 rfl) rfl ?_)
  refine oab rfl rfl (ow_nil (seqK_n (cw_ret (fnK_r (res1 rfl (rv_t (v := .bool _) rfl)) (.refl _) ?_))))
  rfl
theorem l09_awake (H : Hp)  (hML : GInt H 2) : Pr Tryz.prog 123 #[] H (.bool true) := by
  refine pr_cw Tryz.func123 rfl Tryz.ntmps123 rfl (fun N => ?_)
  refine cw_seq (cw_region (oab rfl rfl (ow_nil (seqK_n (cw_seq ?_)))))
  refine cw_region ?_
  refine ow1 (op1_pr (head_Bytes _ none 0 0 [] slh_nil (by first | omega | (simp <;> omega))) (en_f cb88 rfl) rfl ?_)
  have := headBytes_len []
  refine ol rfl (lo_move (v := .tuple #[_, _]) rfl) (ol rfl (lo_extract (v := str _) rfl rfl) (ol rfl (lo_extract (v := .int _ _) rfl rfl) (ol rfl (lo_assign (v := str _) rfl) (oai rfl rfl (ow_nil ?_)))))
  refine seqK_n (cw_seq (cw_region ?_))
  refine ow1 (op1_pr (l01_Awake _ ) (en_f cb162 rfl) rfl ?_)
  refine omb rfl rfl ?_
  refine ow1 (op1_prg rfl rfl (l04_Awake _ hML) (en_f cb151 rfl) rfl ?_)
  refine ol rfl (lo_pick_t (v := .bool _) rfl rfl rfl) (omb rfl rfl ?_)
  refine ow1 (op1_g rfl rfl rfl (lo_move (v := .int _ _) rfl) ?_)
  refine ow1 (op1_g rfl rfl rfl (lo_eql rfl rfl) ?_)
  refine ol rfl (lo_pick_t (v := .bool _) rfl rfl rfl) (omb rfl rfl ?_)
  refine ow1 (op1_g rfl (by decide +kernel) rfl (lo_move (v := str _) rfl) ?_)
  refine ow1 (op1_g rfl (by decide +kernel) rfl (lo_seql rfl rfl) ?_)
  refine ol rfl (lo_pick_t (v := .bool _) rfl (by decide +kernel) rfl) (oab rfl rfl (ow_nil (seqK_n (cw_ret (fnK_r (res1 rfl (rv_t (v := .bool _) rfl)) (.refl _) ?_)))))
  exact congrArg Value.bool (by decide +kernel)
theorem l09_Awake (H : Hp)  (hML : GInt H 2) : Pr Tryz.prog 65 #[] H (.bool true) := by
  refine pr_cw Tryz.func65 rfl Tryz.ntmps65 rfl (fun N => ?_)
  refine cw_seq (cw_region (oab rfl rfl (ow_nil (seqK_n (cw_seq ?_)))))
  refine cw_region ?_
  refine ow1 (op1_pr (l09_awake _ hML) (en_f cb123 rfl) rfl ?_)
  refine oab rfl rfl (ow_nil (seqK_n (cw_ret (fnK_r (res1 rfl (rv_t (v := .bool _) rfl)) (.refl _) ?_))))
  rfl
end Go.SW
set_option linter.unusedVariables false
set_option maxRecDepth 100000
set_option maxHeartbeats 4000000
namespace Go.SW
open Go.Proofs
theorem by182 : By Tryz.prog 182 48 := by_of (by kernel_rfl)
theorem cb139 : Callable Tryz.prog 139 := callable_of Tryz.func139 (by kernel_rfl) (by kernel_rfl)
theorem cb66 : Callable Tryz.prog 66 := callable_of Tryz.func66 (by kernel_rfl) (by kernel_rfl)
theorem cb97 : Callable Tryz.prog 97 := callable_of Tryz.func97 (by kernel_rfl) (by kernel_rfl)
theorem eqr182 (p q : Pair) (d : Nat) : EqV Tryz.prog (d + 1 + 1) 182 (.agg (Pair.cells p).toArray) (.agg (Pair.cells q).toArray) (decide (p = q)) :=
  EqV.to (eqv_agg Tryz.underlying182 (by kernel_rfl) (eqf_1 (by decide) ag9 rfl rfl (eqv_str Tryz.underlying9) (eqf_1 (by decide) ag5 rfl rfl (eqv_int Tryz.underlying5) (eqf_1 (by decide) ag2 rfl rfl (eqv_int Tryz.underlying2) (eqf_1 (by decide) ag9 rfl rfl (eqv_str Tryz.underlying9) eqf_nil))))) (by obtain ⟨a0, a1, a2, a3⟩ := p; obtain ⟨b0, b1, b2, b3⟩ := q; rw [Bool.eq_iff_iff]; simp)
theorem eqg182 : Tryz.prog.eqGuardType Tryz.prog.depth 182 = false := by kernel_rfl
theorem sz40 : Sz Tryz.prog 40 1 := fun w => by kernel_rfl
theorem zx182 : ∃ z, ∀ w, (zeroValue 182).run Tryz.prog w = .ok z w := ⟨.agg #[str [], .int .u8 0, .int .i64 0, str []], fun w => by kernel_rfl⟩
theorem eq_Pair (H : Hp) (a_a : Option Addr) (a_l a_c : Nat) (a : List Pair) (a_h : SlH pairE 4 H (.slice a_a a_l a_c) a) (b_a : Option Addr) (b_l b_c : Nat) (b : List Pair) (b_h : SlH pairE 4 H (.slice b_a b_l b_c) b) (hal : a.length ≤ 9223372036854775807) : Pr Tryz.prog 139 #[.slice a_a a_l a_c, .slice b_a b_l b_c] H (.bool (decide (a = b))) := by
  refine pr_cw Tryz.func139 rfl Tryz.ntmps139 rfl (fun N => ?_)
  refine cw_seq (cw_region (oab rfl rfl (ow_nil (seqK_n (cw_seq ?_)))))
  refine cw_seq (cw_region (ol rfl (lo_move (v := .slice _ _ _) rfl) (ol rfl (lo_len_slh rfl a_h Tryz.underlying40) (ol rfl (lo_move (v := .slice _ _ _) rfl) (ol rfl (lo_len_slh rfl b_h Tryz.underlying40) ?_)))))
  refine ol rfl (lo_neq rfl rfl) (ow_nil (seqK_n (cw_cond rfl (fun h1 => ?_) (fun h1 => ?_))))
  · have h2 := not_t h1
    have p3 := df h2
    refine cw_seq (cw_region (oab rfl rfl (ow_nil (seqK_n (cw_ret ?_)))))
    refine seqK_r (fnK_r (res1 rfl (rv_t (v := .bool _) rfl)) (.refl _) ?_)
    exact congrArg Value.bool (eqL_len (by assumption)).symm
  have h4 := not_f h1
  have p5 := dt h4
  refine cw_skip (seqK_n (cw_seq (cw_seq (cw_region (ol rfl (lo_move (v := .slice _ _ _) rfl) ?_)))))
  refine ol rfl (lo_len_slh rfl a_h Tryz.underlying40) (omi rfl rfl (ow_nil (seqK_n (cw_block (cw_loop1 [4, 5, 13, 14, 15, 16, 17, 18, 19, 20, 21, 22, 23, 24, 25] [] (fun (k : Nat) G => upd (G) 13 (.int .i64 (k : Int))) (fun (k : Nat) G => G) (fun (k : Nat) H' => k ≤ a.length ∧ decide (a = b) = decide (a.drop k = b.drop k)) (fun (k : Nat) => a.length - k) 0 (upd_intro (mask_intro (by first | exact off_refl | (repeat (first | exact off_mask | refine off_upd rfl ?_ | refine off_mask2 rfl ?_)))) rfl) (lmask_intro offl_refl) ?_ ?_)))))
  · exact ⟨Nat.zero_le _, rfl⟩
  intro k J7 JL7 H7 hp6 hl7
  obtain ⟨hk1, hk2⟩ := hp6
  refine cw_seq (cw_region (ol rfl (lo_lss rfl rfl) (ow_nil (seqK_n (cw_seq ?_)))))
  refine cw_cond rfl (fun h8 => ?_) (fun h8 => ?_)
  · have p9 := dt h8
    refine cw_skip (seqK_n (cw_seq (cw_block (cw_seq (cw_region ?_)))))
    refine omi rfl rfl (oai rfl rfl (ow_nil (seqK_n (cw_seq (cw_anyL mixd ?_)))))
    refine vw_q 0 rfl (by kernel_rfl) (by repeat (first | exact lle_l0 | exact LLe.refl _ | exact lle_none | refine lle_up ?_ rfl)) (fun _ _ hh hl => lo_move (v := .slice _ _ _) rfl) ?_
    refine vw_q 1 rfl (by kernel_rfl) (by repeat (first | exact lle_l0 | exact LLe.refl _ | exact lle_none | refine lle_up ?_ rfl)) (fun _ _ hh hl => lo_move (v := .int _ _) rfl) ?_
    obtain ⟨c10, hc11⟩ := getE (xs := a) (m := k) (by omega)
    obtain ⟨cs12, hE13, at14⟩ := (a_h.mono ((HLe.refl _).trans hl7) (fun _ _ h => h)).get hc11
    obtain ⟨rfl, c10_w⟩ := hE13
    have c10_w' := c10_w
    simp only [Pair.wf] at c10_w'
    refine vw_q 2 rfl (by kernel_rfl) (by repeat (first | exact lle_l0 | exact LLe.refl _ | exact lle_none | refine lle_up ?_ rfl)) (fun _ _ hh hl => lo_indexAddr rfl rfl (a_h.mono (((HLe.refl _).trans hl7).trans hh) (fun _ _ h => h)).1 (at14.mono hh) Tryz.underlying40 sz182 (by omega) (by omega)) ?_
    refine vw_q 3 rfl (by kernel_rfl) (by repeat (first | exact lle_l0 | exact LLe.refl _ | exact lle_none | refine lle_up ?_ rfl)) (fun _ _ hh hl => lo_loadEA rfl ag182 sz182 (at14.mono hh)) ?_
    refine vw_q 4 rfl (by kernel_rfl) (by repeat (first | exact lle_l0 | exact LLe.refl _ | exact lle_none | refine lle_up ?_ rfl)) (fun _ _ hh hl => lo_move (v := .slice _ _ _) rfl) ?_
    refine vw_q 5 rfl (by kernel_rfl) (by repeat (first | exact lle_l0 | exact LLe.refl _ | exact lle_none | refine lle_up ?_ rfl)) (fun _ _ hh hl => lo_move (v := .int _ _) rfl) ?_
    obtain ⟨c15, hc16⟩ := getE (xs := b) (m := k) (by omega)
    obtain ⟨cs17, hE18, at19⟩ := (b_h.mono ((HLe.refl _).trans hl7) (fun _ _ h => h)).get hc16
    obtain ⟨rfl, c15_w⟩ := hE18
    have c15_w' := c15_w
    simp only [Pair.wf] at c15_w'
    refine vw_q 6 rfl (by kernel_rfl) (by repeat (first | exact lle_l0 | exact LLe.refl _ | exact lle_none | refine lle_up ?_ rfl)) (fun _ _ hh hl => lo_indexAddr rfl rfl (b_h.mono (((HLe.refl _).trans hl7).trans hh) (fun _ _ h => h)).1 (at19.mono hh) Tryz.underlying40 sz182 (by omega) (by omega)) ?_
    refine vw_q 7 rfl (by kernel_rfl) (by repeat (first | exact lle_l0 | exact LLe.refl _ | exact lle_none | refine lle_up ?_ rfl)) (fun _ _ hh hl => lo_loadEA rfl ag182 sz182 (at19.mono hh)) ?_
    refine vw_q 8 rfl (by kernel_rfl) (by repeat (first | exact lle_l0 | exact LLe.refl _ | exact lle_none | refine lle_up ?_ rfl)) (fun _ _ hh hl => lo_aneq (u := (Pair.cells c10).toArray) (v := (Pair.cells c15).toArray) rfl rfl eqg182 (eqr182 _ _ 9998)) ?_
    refine vw_done (by kernel_rfl) (seqK_n (cw_cond rfl (fun h20 => ?_) (fun h20 => ?_)))
    · have h21 := not_t h20
      have p22 := df h21
      refine cw_seq (cw_region (oab rfl rfl (ow_nil (seqK_n (cw_ret ?_)))))
      refine blkK_r (seqK_r (loopK_r (blkK_r (seqK_r (fnK_r (res1 rfl (rv_t (v := .bool _) rfl)) ((HLe.refl _).trans hl7) ?_)))))
      exact congrArg Value.bool (eqL_miss hk2 (dropE hc11) (dropE hc16) (by assumption)).symm
    have h23 := not_f h20
    have p24 := dt h23
    refine cw_skip (blkK_n (seqK_n (cw_region (ol rfl (lo_add rfl rfl (rg_i64 (by omega))) (omi rfl rfl ?_)))))
    refine ow_nil ?_
    refine next1 (k + 1) (upd_intro (mask_intro (by first | exact off_refl | (repeat (first | exact off_mask | refine off_upd rfl ?_ | refine off_mask2 rfl ?_)))) rfl) (lmask_intro (by first | exact offl_refl | (repeat (first | exact offl_mask | refine offl_upd rfl ?_ | refine offl_mask2 rfl ?_)))) hl7 ?_ ?_
    · exact ⟨by omega, eqL_step hk2 (dropE hc11) (dropE hc16) (by assumption)⟩
    omega
  have p25 := df h8
  refine cw_exit (seqK_e (loopK_e (blkK_hit (seqK_n (cw_seq ?_)))))
  refine cw_region (oab rfl rfl (ow_nil (seqK_n (cw_ret (fnK_r (res1 rfl (rv_t (v := .bool _) rfl)) ((HLe.refl _).trans hl7) ?_)))))
  exact congrArg Value.bool (eqL_end hk2 (by omega) (by omega)).symm
theorem head_Same (H : Hp) (a_a : Option Addr) (a_l a_c : Nat) (a : List Pair) (a_h : SlH pairE 4 H (.slice a_a a_l a_c) a) (b_a : Option Addr) (b_l b_c : Nat) (b : List Pair) (b_h : SlH pairE 4 H (.slice b_a b_l b_c) b) (hal : a.length ≤ 9223372036854775807) : Pr Tryz.prog 97 #[.slice a_a a_l a_c, .slice b_a b_l b_c] H (.bool (decide (a = b))) := by
  refine pr_cw Tryz.func97 rfl Tryz.ntmps97 rfl (fun N => ?_)
  refine cw_seq (cw_region (oab rfl rfl (ow_nil (seqK_n (cw_seq ?_)))))
  refine cw_region (ol rfl (lo_move (v := .slice _ _ _) rfl) (ol rfl (lo_move (v := .slice _ _ _) rfl) ?_))
  refine ow1 (op1_pr (eq_Pair _ a_a a_l a_c a a_h b_a b_l b_c b b_h (by first | omega | (simp <;> omega))) (en_f cb139 rfl) rfl ?_)
  refine oab rfl rfl (ow_nil (seqK_n (cw_ret (fnK_r (res1 rfl (rv_t (v := .bool _) rfl)) (.refl _) ?_))))
  rfl
theorem l09_Light (H : Hp) (h_a : Option Addr) (h_l h_c : Nat) (h : List Pair) (h_h : SlH pairE 4 H (.slice h_a h_l h_c) h) : Pr Tryz.prog 66 #[.slice h_a h_l h_c] H (.bool (lightH h)) := by
  refine pr_cw Tryz.func66 rfl Tryz.ntmps66 rfl (fun N => ?_)
  refine cw_seq (cw_region (oab rfl rfl (ow_nil (seqK_n (cw_seq ?_)))))
  refine cw_seq (cw_region (ol rfl (lo_move (v := .slice _ _ _) rfl) (ol rfl (lo_len_slh rfl h_h Tryz.underlying40) (ol rfl (lo_gtr rfl rfl) (ow_nil ?_)))))
  refine seqK_n (cw_cond rfl (fun h1 => ?_) (fun h1 => ?_))
  · have p2 := dt h1
    refine cw_seq (cw_region (oab rfl rfl (ow_nil (seqK_n (cw_ret ?_)))))
    refine seqK_r (fnK_r (res1 rfl (rv_t (v := .bool _) rfl)) (.refl _) ?_)
    exact congrArg Value.bool (by simp [lightH]; omega)
  have p3 := df h1
  refine cw_skip (seqK_n (cw_seq (cw_seq (cw_region (ol rfl (lo_move (v := .slice _ _ _) rfl) ?_)))))
  refine ol rfl (lo_len_slh rfl h_h Tryz.underlying40) (omi rfl rfl (ow_nil (seqK_n (cw_block (cw_loop1 [2, 4, 10, 11, 12, 13, 14, 15, 16, 17, 18, 19, 20, 21, 22, 23, 24] [0] (fun (k : Nat) G => upd (G) 10 (.int .i64 (k : Int))) (fun (k : Nat) G => G) (fun (k : Nat) H' => k ≤ h.length ∧ h.all lightP = (h.drop k).all lightP) (fun (k : Nat) => h.length - k) 0 (upd_intro (mask_intro (by first | exact off_refl | (repeat (first | exact off_mask | refine off_upd rfl ?_ | refine off_mask2 rfl ?_)))) rfl) (lmask_intro offl_refl) ?_ ?_)))))
  · exact ⟨Nat.zero_le _, rfl⟩
  intro k J5 JL5 H5 hp4 hl5
  obtain ⟨hk1, hk2⟩ := hp4
  refine cw_seq (cw_region (ol rfl (lo_lss rfl rfl) (ow_nil (seqK_n (cw_seq ?_)))))
  refine cw_cond rfl (fun h6 => ?_) (fun h6 => ?_)
  · have p7 := dt h6
    refine cw_skip (seqK_n (cw_seq (cw_block (cw_seq (cw_region ?_)))))
    obtain ⟨c8, hc9⟩ := getE (xs := h) (m := k) (by omega)
    obtain ⟨cs10, hE11, at12⟩ := (h_h.mono ((HLe.refl _).trans hl5) (fun _ _ h => h)).get hc9
    obtain ⟨rfl, c8_w⟩ := hE11
    have c8_w' := c8_w
    simp only [Pair.wf] at c8_w'
    refine ol rfl (lo_indexAddr rfl rfl (h_h.mono ((HLe.refl _).trans hl5) (fun _ _ h => h)).1 at12 Tryz.underlying40 sz182 (by omega) (by omega)) (ol rfl (lo_loadEA rfl ag182 sz182 at12) (ow1 (op1_alloc 0 rfl zr182 (fun b13 => ?_))))
    refine ow1 (op1_storeA (i := 0) (vs := [_, _, _, _]) rfl rfl rfl sz182 rfl rfl rfl ?_)
    refine ow_nil (seqK_n (cw_seq (cw_region (ol rfl (lo_fieldAddr rfl fl182_0) (ol rfl (lo_load1 (i := 0) (v := str _) rfl ag9 rfl rfl) ?_)))))
    refine ol rfl (lo_len_str rfl Tryz.underlying9) (ol rfl (lo_gtr rfl rfl) (omb rfl rfl (ow_sp (j := 4) rfl (fun h14 => ?_) (fun h14 => ?_))))
    · have p15 := dt h14
      refine og rfl h14 rfl (og rfl h14 rfl (og rfl h14 rfl (og rfl h14 rfl (ol rfl (lo_pick_t (v := .bool _) rfl h14 rfl) (ow_nil ?_)))))
      refine seqK_n (cw_cond_t rfl rfl (cw_seq (cw_region (oab rfl rfl (ow_nil ?_)))))
      refine seqK_n (cw_ret (blkK_r (seqK_r (loopK_r (blkK_r ?_)))))
      refine seqK_r (fnK_r (res1 rfl (rv_t (v := .bool _) rfl)) ((HLe.refl _).trans hl5) ?_)
      exact congrArg Value.bool (by unfold lightH; rw [all_miss hk2 (dropE hc9) (by simp [lightP]; omega)]; simp)
    have p16 := df h14
    refine ow1 (op1_g rfl h14 rfl (lo_fieldAddr rfl fl182_3) ?_)
    refine ow1 (op1_g rfl h14 rfl (lo_load1 (i := 0) (v := str _) rfl ag9 rfl rfl) ?_)
    refine ow1 (op1_g rfl h14 rfl (lo_len_str rfl Tryz.underlying9) ?_)
    refine ow1 (op1_g rfl h14 rfl (lo_gtr rfl rfl) ?_)
    refine ol rfl (lo_pick_f (v := .bool _) rfl h14 rfl) (ow_nil (seqK_n (cw_cond rfl (fun h17 => ?_) (fun h17 => ?_))))
    · have p18 := dt h17
      refine cw_seq (cw_region (oab rfl rfl (ow_nil (seqK_n (cw_ret ?_)))))
      refine blkK_r (seqK_r (loopK_r (blkK_r (seqK_r (fnK_r (res1 rfl (rv_t (v := .bool _) rfl)) ((HLe.refl _).trans hl5) ?_)))))
      exact congrArg Value.bool (by unfold lightH; rw [all_miss hk2 (dropE hc9) (by simp [lightP]; omega)]; simp)
    have p19 := df h17
    refine cw_skip (blkK_n (seqK_n (cw_region (ol rfl (lo_add rfl rfl (rg_i64 (by omega))) (omi rfl rfl ?_)))))
    refine ow_nil ?_
    refine next1 (k + 1) (upd_intro (mask_intro (by first | exact off_refl | (repeat (first | exact off_mask | refine off_upd rfl ?_ | refine off_mask2 rfl ?_)))) rfl) (lmask_intro (by first | exact offl_refl | (repeat (first | exact offl_mask | refine offl_upd rfl ?_ | refine offl_mask2 rfl ?_)))) hl5 ?_ ?_
    · exact ⟨by omega, all_step hk2 (dropE hc9) (by simp [lightP]; omega)⟩
    omega
  have p20 := df h6
  refine cw_exit (seqK_e (loopK_e (blkK_hit (seqK_n (cw_seq ?_)))))
  refine cw_region (oab rfl rfl (ow_nil (seqK_n (cw_ret (fnK_r (res1 rfl (rv_t (v := .bool _) rfl)) ((HLe.refl _).trans hl5) ?_)))))
  exact congrArg Value.bool (by unfold lightH; rw [all_end hk2 (by omega)]; simp; omega)
end Go.SW
set_option linter.unusedVariables false
set_option maxRecDepth 100000
set_option maxHeartbeats 4000000
namespace Go.SW
open Go.Proofs
end Go.SW
set_option linter.unusedVariables false
set_option maxRecDepth 100000
set_option maxHeartbeats 4000000
namespace Go.SW
open Go.Proofs
theorem by9 : By Tryz.prog 9 16 := by_of (by kernel_rfl)
theorem zr9 : Zr Tryz.prog 9 [str []] := fun w => ⟨str [], by kernel_rfl, rfl⟩
end Go.SW
set_option linter.unusedVariables false
set_option maxRecDepth 100000
set_option maxHeartbeats 4000000
namespace Go.SW
open Go.Proofs
theorem zr42 : Zr Tryz.prog 42 [.int .u64 0, str [], str [], .slice none 0 0, str [], .int .u64 0, .int .u8 0] := fun w => ⟨.agg #[.int .u64 0, str [], str [], .slice none 0 0, str [], .int .u64 0, .int .u8 0], by kernel_rfl, rfl⟩
end Go.SW
set_option linter.unusedVariables false
set_option maxRecDepth 100000
set_option maxHeartbeats 4000000
namespace Go.SW
open Go.Proofs
theorem bd182_0s_1u8 (a1 : Bs) (a2 : Int) (w : World) : (Instr.build 182 #[(0, str a1), (1, .int .u8 a2)]).run Tryz.prog w = .ok (.agg #[str a1, .int .u8 a2, .int .i64 0, str []]) w := by kernel_rfl
theorem cb153 : Callable Tryz.prog 153 := callable_of Tryz.func153 (by kernel_rfl) (by kernel_rfl)
theorem sz2 : Sz Tryz.prog 2 1 := fun w => by kernel_rfl
theorem head_one (H : Hp) (i_b : Nat) (i : In) : Pm Tryz.prog 153 #[.pointer (some ⟨i_b, 0, none⟩)] H i_b (bx 169 (In.cells i)) (fun v H' o' => v = .agg (Pair.cells ((readOne i).1)).toArray ∧ H = H' ∧ o' = bx 169 (In.cells ((readOne i).2))) := by
  refine pm_cw Tryz.func153 rfl Tryz.ntmps153 rfl (fun N => ?_)
  refine cw_seq (cw_region (ow1 (op1_alloc 1 rfl zr182 (fun b1 => ?_))))
  refine ow_nil (seqK_n (cw_seq (cw_region (ol rfl (lo_move (v := .pointer (some ⟨_, _, none⟩)) rfl) ?_))))
  refine ow1 (op1_pm 0 rfl (in_Text _ i_b i 16 (by omega)) (en_f cb107 rfl) rfl ?_)
  rintro _ _ _ ⟨rfl, rfl, rfl⟩ _
  generalize hq5 : inText i 16 = q2
  have hf6 := inText_len i 16
  simp only [hq5] at hf6
  refine ol rfl (lo_move (v := .pointer (some ⟨_, _, none⟩)) rfl) ?_
  refine ow1 (op1_pm 0 rfl (in_Num _ i_b q2.2 1 (by omega)) (en_f cb49 rfl) rfl ?_)
  rintro _ _ _ ⟨rfl, rfl, rfl⟩ _
  generalize hq10 : inNum q2.2 1 = q7
  have hf11 := inNum_r q2.2 1
  simp only [hq10] at hf11
  refine ol rfl (lo_conv_in rfl (by rw [Tryz.underlying39]; rfl) Tryz.underlying5 (rg_u8 (by omega))) (ol rfl (lo_build (v := .agg #[_, _, _, _]) rfl (bd182_0s_1u8 _ _)) (ow1 (op1_alloc 2 rfl zr182 (fun b12 => ?_))))
  refine ow1 (op1_storeA (i := 2) (vs := [_, _, _, _]) rfl rfl rfl sz182 rfl rfl rfl ?_)
  refine ow_nil (seqK_n (cw_seq (cw_seq (cw_region (ol rfl (lo_fieldAddr rfl fl182_1) ?_)))))
  refine ol rfl (lo_load1 (i := 2) (v := .int _ _) rfl ag5 rfl rfl) (ow_nil (seqK_n (cw_block (cw_seq (cw_region ?_)))))
  refine ol rfl (lo_eql rfl rfl) (oab rfl rfl (ow_nil (seqK_n (cw_cond rfl (fun h13 => ?_) (fun h13 => ?_)))))
  · have p14 := dt h13
    refine cw_region (ol rfl (lo_move (v := .pointer (some ⟨_, _, none⟩)) rfl) ?_)
    refine ow1 (op1_pm 0 rfl (in_Num _ i_b q7.2 8 (by omega)) (en_f cb49 rfl) rfl ?_)
    rintro _ _ _ ⟨rfl, rfl, rfl⟩ _
    generalize hq18 : inNum q7.2 8 = q15
    have hf19 := inNum_r q7.2 8
    simp only [hq18] at hf19
    have := wr_i64 q15.1
    refine ol rfl (lo_conv rfl (by rw [Tryz.underlying39]; rfl) Tryz.underlying2) (ol rfl (lo_fieldAddr rfl fl182_2) ?_)
    refine ow1 (op1_store1 (i := 2) (v := .int _ _) rfl rfl rfl sz2 rfl rfl ?_)
    refine ow_nil (blkK_n (seqK_n (cw_seq (cw_region (ol rfl (lo_loadA (i := 2) (vs := [_, _, _, _]) rfl ag182 sz182 rfl rfl rfl) ?_)))))
    refine ow1 (op1_storeA (i := 1) (vs := [_, _, _, _]) rfl rfl rfl sz182 rfl rfl rfl ?_)
    refine ow_nil (seqK_n (cw_ret (fnK_r (res1 rfl (rv_c (i := 1) (vs := [_, _, _, _]) rfl ag182 sz182 rfl rfl rfl)) (.refl _) ?_)))
    refine ⟨_, rfl, ?_⟩
    have e : readOne i = ((⟨q2.1, q7.1, (IntKind.wrap .i64 q15.1), []⟩ : Pair), q15.2) := by unfold readOne; simp only; (repeat first | simp only [hq5, hq10, hq18] | rw [if_pos (by omega)] | rw [if_neg (by omega)]); all_goals first | rfl | (rw [wrap_i64s (by omega) (by omega)]; done) | (simp [*]; done) | (rw [wrap_i64s (by omega) (by omega)]; simp [*]; done)
    rw [e]
    exact ⟨rfl, rfl, rfl⟩
  have p20 := df h13
  refine cw_seq (cw_region (ol rfl (lo_eql rfl rfl) (oab rfl rfl (ow_nil (seqK_n ?_)))))
  refine cw_cond rfl (fun h21 => ?_) (fun h21 => ?_)
  · have p22 := dt h21
    refine cw_region (ol rfl (lo_move (v := .pointer (some ⟨_, _, none⟩)) rfl) ?_)
    refine ow1 (op1_pm 0 rfl (in_Text _ i_b q7.2 64 (by omega)) (en_f cb107 rfl) rfl ?_)
    rintro _ _ _ ⟨rfl, rfl, rfl⟩ _
    generalize hq26 : inText q7.2 64 = q23
    have hf27 := inText_len q7.2 64
    simp only [hq26] at hf27
    refine ol rfl (lo_fieldAddr rfl fl182_3) ?_
    refine ow1 (op1_store1 (i := 2) (v := str _) rfl rfl rfl sz9 rfl rfl ?_)
    refine ow_nil (blkK_n (seqK_n (cw_seq (cw_region (ol rfl (lo_loadA (i := 2) (vs := [_, _, _, _]) rfl ag182 sz182 rfl rfl rfl) ?_)))))
    refine ow1 (op1_storeA (i := 1) (vs := [_, _, _, _]) rfl rfl rfl sz182 rfl rfl rfl ?_)
    refine ow_nil (seqK_n (cw_ret (fnK_r (res1 rfl (rv_c (i := 1) (vs := [_, _, _, _]) rfl ag182 sz182 rfl rfl rfl)) (.refl _) ?_)))
    refine ⟨_, rfl, ?_⟩
    have e : readOne i = ((⟨q2.1, q7.1, 0, q23.1⟩ : Pair), q23.2) := by unfold readOne; simp only; (repeat first | simp only [hq5, hq10, hq26] | rw [if_pos (by omega)] | rw [if_neg (by omega)]); all_goals first | rfl | (rw [wrap_i64s (by omega) (by omega)]; done) | (simp [*]; done) | (rw [wrap_i64s (by omega) (by omega)]; simp [*]; done)
    rw [e]
    exact ⟨rfl, rfl, rfl⟩
  have p28 := df h21
  refine cw_seq (cw_region (ol rfl (lo_eql rfl rfl) (oab rfl rfl (ow_nil (seqK_n ?_)))))
  refine cw_cond rfl (fun h29 => ?_) (fun h29 => ?_)
  · have p30 := dt h29
    refine cw_region (ol rfl (lo_move (v := .pointer (some ⟨_, _, none⟩)) rfl) ?_)
    refine ow1 (op1_pm 0 rfl (in_Num _ i_b q7.2 1 (by omega)) (en_f cb49 rfl) rfl ?_)
    rintro _ _ _ ⟨rfl, rfl, rfl⟩ _
    generalize hq34 : inNum q7.2 1 = q31
    have hf35 := inNum_r q7.2 1
    simp only [hq34] at hf35
    refine ol rfl (lo_conv_in rfl (by rw [Tryz.underlying39]; rfl) Tryz.underlying2 (rg_i64 (by omega))) (ol rfl (lo_fieldAddr rfl fl182_2) ?_)
    refine ow1 (op1_store1 (i := 2) (v := .int _ _) rfl rfl rfl sz2 rfl rfl ?_)
    refine ow_nil (blkK_n (seqK_n (cw_seq (cw_region (ol rfl (lo_loadA (i := 2) (vs := [_, _, _, _]) rfl ag182 sz182 rfl rfl rfl) ?_)))))
    refine ow1 (op1_storeA (i := 1) (vs := [_, _, _, _]) rfl rfl rfl sz182 rfl rfl rfl ?_)
    refine ow_nil (seqK_n (cw_ret (fnK_r (res1 rfl (rv_c (i := 1) (vs := [_, _, _, _]) rfl ag182 sz182 rfl rfl rfl)) (.refl _) ?_)))
    refine ⟨_, rfl, ?_⟩
    have e : readOne i = ((⟨q2.1, q7.1, q31.1, []⟩ : Pair), q31.2) := by unfold readOne; simp only; (repeat first | simp only [hq5, hq10, hq34] | rw [if_pos (by omega)] | rw [if_neg (by omega)]); all_goals first | rfl | (rw [wrap_i64s (by omega) (by omega)]; done) | (simp [*]; done) | (rw [wrap_i64s (by omega) (by omega)]; simp [*]; done)
    rw [e]
    exact ⟨rfl, rfl, rfl⟩
  have p36 := df h29
  refine cw_region (ol rfl (lo_move (v := .pointer (some ⟨_, _, none⟩)) rfl) ?_)
  refine ow1 (op1_pm 0 rfl (in_Fail _ i_b q7.2 8 (by omega)) (en_f cb129 rfl) rfl ?_)
  rintro _ _ _ ⟨rfl, rfl, rfl⟩ _
  generalize hq40 : inFail q7.2 8 = q37
  refine ow_nil (blkK_n (seqK_n (cw_seq (cw_region (ol rfl (lo_loadA (i := 2) (vs := [_, _, _, _]) rfl ag182 sz182 rfl rfl rfl) ?_)))))
  refine ow1 (op1_storeA (i := 1) (vs := [_, _, _, _]) rfl rfl rfl sz182 rfl rfl rfl ?_)
  refine ow_nil (seqK_n (cw_ret (fnK_r (res1 rfl (rv_c (i := 1) (vs := [_, _, _, _]) rfl ag182 sz182 rfl rfl rfl)) (.refl _) ?_)))
  refine ⟨_, rfl, ?_⟩
  have e : readOne i = ((⟨q2.1, q7.1, 0, []⟩ : Pair), q37) := by unfold readOne; simp only; (repeat first | simp only [hq5, hq10, hq40] | rw [if_pos (by omega)] | rw [if_neg (by omega)]); all_goals first | rfl | (rw [wrap_i64s (by omega) (by omega)]; done) | (simp [*]; done) | (rw [wrap_i64s (by omega) (by omega)]; simp [*]; done)
  rw [e]
  exact ⟨rfl, rfl, rfl⟩
theorem head_Read (H : Hp) (i_b : Nat) (i : In) : Pm Tryz.prog 108 #[.pointer (some ⟨i_b, 0, none⟩)] H i_b (bx 169 (In.cells i)) (fun v H' o' => ∃ (a1 : Option Addr) (c1 : Nat), v = .slice a1 ((headRead i).1).length c1 ∧ o' = bx 169 (In.cells ((headRead i).2)) ∧ SlH pairE 4 H' (.slice a1 ((headRead i).1).length c1) ((headRead i).1)) := by
  refine pm_cw Tryz.func108 rfl Tryz.ntmps108 rfl (fun N => ?_)
  refine cw_seq (cw_region (ol rfl (lo_assign (v := .slice _ _ _) rfl) (ow_nil (seqK_n (cw_seq ?_)))))
  refine cw_region (ol rfl (lo_move (v := .pointer (some ⟨_, _, none⟩)) rfl) ?_)
  refine ow1 (op1_pm 0 rfl (in_Num _ i_b i 1 (by omega)) (en_f cb49 rfl) rfl ?_)
  rintro _ _ _ ⟨rfl, rfl, rfl⟩ _
  generalize hq4 : inNum i 1 = q1
  have hf5 := inNum_r i 1
  simp only [hq4] at hf5
  refine ol rfl (lo_conv_in rfl (by rw [Tryz.underlying39]; rfl) Tryz.underlying3 (rg_i64 (by omega))) (oai rfl rfl (ow_nil (seqK_n (cw_seq (cw_seq ?_)))))
  refine cw_region (omi rfl rfl (ol rfl (lo_gtr rfl rfl) (ow_nil (seqK_n (cw_cond rfl (fun h6 => ?_) (fun h6 => ?_))))))
  · have p7 := dt h6
    refine cw_region (ol rfl (lo_move (v := .pointer (some ⟨_, _, none⟩)) rfl) ?_)
    refine ow1 (op1_pm 0 rfl (in_Fail _ i_b q1.2 6 (by omega)) (en_f cb129 rfl) rfl ?_)
    rintro _ _ _ ⟨rfl, rfl, rfl⟩ _
    generalize hq11 : inFail q1.2 6 = q8
    refine ow_nil (seqK_n (cw_seq (cw_region (ol rfl (lo_assign (v := .slice _ _ _) rfl) (ow_nil ?_)))))
    refine seqK_n (cw_seq (cw_seq (cw_region (omi rfl rfl (omi rfl rfl ?_)))))
    refine ow_nil (seqK_n (cw_block (cw_loop5 [2, 4, 5, 14, 15, 16, 17, 18, 19, 20, 21, 22, 23, 24, 25, 26, 27, 28, 29, 30, 31, 32, 33] [0, 1, 2, 7] (fun (k : Nat) (j : In) (h : List Pair) (v : Value) (en : Option (Nat × Obj)) G => upd (upd (G) 14 (.int .i64 (k : Int))) 4 (v)) (fun (k : Nat) (j : In) (h : List Pair) (v : Value) (en : Option (Nat × Obj)) G => lupd (lupd (G) 0 (some (i_b, bx 169 (In.cells j)))) 7 (en)) (fun (k : Nat) (j : In) (h : List Pair) (v : Value) (en : Option (Nat × Obj)) H' => k ≤ q1.1.toNat ∧ headRead i = readGo (q1.1.toNat - k) j h ∧ h.length ≤ k ∧ OwnV 4 182 v en h.length (h.flatMap Pair.cells) ∧ (∀ x ∈ h, Pair.wf x)) (fun (k : Nat) (j : In) (h : List Pair) (v : Value) (en : Option (Nat × Obj)) => q1.1.toNat - k) 0 q8 [] (.slice none 0 0) none (upd_intro (upd_intro (mask_intro (by first | exact off_refl | (repeat (first | exact off_mask | refine off_upd rfl ?_ | refine off_mask2 rfl ?_)))) rfl) rfl) (lupd_intro (lupd_intro (lmask_intro offl_refl) rfl) rfl) ?_ ?_)))
    · exact ⟨Nat.zero_le _, by unfold headRead; (repeat first | simp only [hq4, hq11] | rw [if_pos (by omega)] | rw [if_neg (by omega)]); all_goals rfl, Nat.zero_le _, ownV_nil, wf_nil⟩
    intro k j h v en J13 JL13 H13 hp12 hl13
    obtain ⟨hk1, hk2, hk3, ho, hw⟩ := hp12
    refine cw_seq (cw_region (ol rfl (lo_lss rfl rfl) (ow_nil (seqK_n (cw_seq ?_)))))
    refine cw_cond rfl (fun h14 => ?_) (fun h14 => ?_)
    · have p15 := dt h14
      refine cw_skip (seqK_n (cw_seq (cw_block (cw_seq (cw_region ?_)))))
      refine ol rfl (lo_move (v := .pointer (some ⟨_, _, none⟩)) rfl) ?_
      refine ow1 (op1_pm 0 rfl (head_one _ i_b j) (en_f cb153 rfl) rfl ?_)
      rintro _ _ _ ⟨rfl, rfl, rfl⟩ _
      generalize hq19 : readOne j = q16
      have hf20 := readOne_wf j
      simp only [hq19] at hf20
      refine ow1 (op1_alloc 1 rfl zr182 (fun b21 => ?_))
      refine ow1 (op1_storeA (i := 1) (vs := [_, _, _, _]) rfl rfl rfl sz182 rfl rfl rfl ?_)
      refine ow_nil (seqK_n (cw_seq (cw_seq (cw_region (ol rfl (lo_move (v := .pointer (some ⟨_, _, none⟩)) rfl) ?_)))))
      refine ow1 (op1_pm 0 rfl (in_Err _ i_b q16.2) (en_f cb50 rfl) rfl ?_)
      rintro _ _ _ ⟨rfl, rfl, rfl⟩ _
      refine ol rfl (lo_eql rfl rfl) (ow_nil (seqK_n (cw_cond rfl (fun h24 => ?_) (fun h24 => ?_))))
      · have p25 := dt h24
        refine cw_region (ol rfl (lo_move (v := .pointer (some ⟨_, _, none⟩)) rfl) (ol rfl (lo_loadA (i := 1) (vs := [_, _, _, _]) rfl ag182 sz182 rfl rfl rfl) (ol rfl (lo_move rfl) ?_)))
        obtain ⟨a26, c27, rfl⟩ := own_shape ho
        refine ow1 (op1_prl 7 rfl (fun _ hl28 hg29 => (head_pair _ q16.1 hf20 a26 h.length c27 h (slh_own (enc := Pair.cells) (wf := Pair.wf) (fun _ => rfl) ho hw hg29) (by first | omega | (simp <;> omega)))) (en_f cb154 rfl) rfl ?_)
        have := pairErr_r q16.1 h
        refine ow1 (op1_pm 0 rfl (in_Fail _ i_b q16.2 (pairErr q16.1 h) (by omega)) (en_f cb129 rfl) rfl ?_)
        rintro _ _ _ ⟨rfl, rfl, rfl⟩ _
        generalize hq33 : inFail q16.2 (pairErr q16.1 h) = q30
        refine ow_nil (seqK_n (cw_seq (cw_seq (cw_region (ol rfl (lo_move (v := .pointer (some ⟨_, _, none⟩)) rfl) ?_)))))
        refine ow1 (op1_pm 0 rfl (in_Err _ i_b q30) (en_f cb50 rfl) rfl ?_)
        rintro _ _ _ ⟨rfl, rfl, rfl⟩ _
        refine ol rfl (lo_neq rfl rfl) (ow_nil (seqK_n (cw_cond rfl (fun h36 => ?_) (fun h36 => ?_))))
        · have h37 := not_t h36
          have p38 := df h37
          refine cw_seq (cw_region (ol rfl (lo_assign (v := .slice _ _ _) rfl) (ow_nil (seqK_n (cw_ret ?_)))))
          refine seqK_r (blkK_r (seqK_r (loopK_r (blkK_r (seqK_r ?_)))))
          refine fnK_r (res1 rfl (rv_t (v := .slice _ _ _) rfl)) ((HLe.refl _).trans hl13) ?_
          refine ⟨_, rfl, ?_⟩
          have e : headRead i = ([], q30) := by
            rw [hk2, show q1.1.toNat - k = (q1.1.toNat - (k + 1)) + 1 by omega]
            have z := fun k => readGo_er1 (k := k) (h := h) (show readOne j = (q16.1, q16.2) from hq19) (by omega) (by rw [hq33]; omega)
            rw [hq33] at z
            exact z _
          rw [e]
          exact ⟨none, 0, rfl, rfl, slh_nil⟩
        have h39 := not_f h36
        have p40 := dt h39
        refine cw_skip (seqK_n (cw_region (ol rfl (lo_move rfl) (ol rfl (lo_loadA (i := 1) (vs := [_, _, _, _]) rfl ag182 sz182 rfl rfl rfl) ?_))))
        refine ow1 (op1_bslice (cs := [_, _, _, _]) 2 rfl Tryz.underlying40 sz182 zx182 rfl ⟨rfl, rfl, trivial⟩ rfl rfl (by decide) (fun b41 => ?_))
        refine ow1 (op1_app 7 rfl rfl Tryz.underlying40 Tryz.underlying40 rfl sz182 by182 (by decide) zr182 ho (src_bx (i := 2) rfl rfl) (List.all_eq_true.1 rfl) rfl (by omega) rfl (fun v42 en43 ho44 => ?_))
        have ho45 := own_push (enc := Pair.cells) h q16.1 ho44 rfl
        refine ol rfl (lo_assign rfl) (ow_nil (blkK_n (seqK_n (cw_region (ol rfl (lo_add rfl rfl (rg_i64 (by omega))) ?_)))))
        refine omi rfl rfl (ow_nil ?_)
        refine next5 (k + 1) q30 (h ++ [q16.1]) _ _ (upd_intro (upd_intro (mask_intro (by first | exact off_refl | (repeat (first | exact off_mask | refine off_upd rfl ?_ | refine off_mask2 rfl ?_)))) rfl) rfl) (lupd_intro (lupd_intro (lmask_intro (by first | exact offl_refl | (repeat (first | exact offl_mask | refine offl_upd rfl ?_ | refine offl_mask2 rfl ?_)))) rfl) rfl) hl13 ?_ ?_
        · refine ⟨by omega, ?_, by simp; omega, ho45, (wf_push hw hf20)⟩
          rw [hk2, show q1.1.toNat - k = (q1.1.toNat - (k + 1)) + 1 by omega]
          have z := fun k => readGo_ok (k := k) (h := h) (show readOne j = (q16.1, q16.2) from hq19) (by omega) (by rw [hq33]; omega)
          rw [hq33] at z
          exact z _
        omega
      have p46 := df h24
      refine cw_skip (seqK_n (cw_seq (cw_seq (cw_region (ol rfl (lo_move (v := .pointer (some ⟨_, _, none⟩)) rfl) ?_)))))
      refine ow1 (op1_pm 0 rfl (in_Err _ i_b q16.2) (en_f cb50 rfl) rfl ?_)
      rintro _ _ _ ⟨rfl, rfl, rfl⟩ _
      refine ol rfl (lo_neq rfl rfl) (ow_nil (seqK_n (cw_cond_t rfl (by rw [h24] <;> rfl) (cw_seq (cw_region ?_)))))
      refine ol rfl (lo_assign (v := .slice _ _ _) rfl) (ow_nil (seqK_n (cw_ret (seqK_r (blkK_r ?_)))))
      refine seqK_r (loopK_r (blkK_r (seqK_r (fnK_r (res1 rfl (rv_t (v := .slice _ _ _) rfl)) ((HLe.refl _).trans hl13) ?_))))
      refine ⟨_, rfl, ?_⟩
      have e : headRead i = ([], q16.2) := by
        rw [hk2, show q1.1.toNat - k = (q1.1.toNat - (k + 1)) + 1 by omega]
        exact readGo_er0 (show readOne j = (q16.1, q16.2) from hq19) (by omega)
      rw [e]
      exact ⟨none, 0, rfl, rfl, slh_nil⟩
    have p49 := df h14
    refine cw_exit (seqK_e (loopK_e (blkK_hit (seqK_n (cw_seq ?_)))))
    refine cw_region (ol rfl (lo_move rfl) (ol rfl (lo_assign rfl) (ow_nil (seqK_n (cw_giveO 7 rfl (fun _ hl50 hg51 => ?_))))))
    have hs52 := slh_own (enc := Pair.cells) (wf := Pair.wf) (fun _ => rfl) ho hw hg51
    obtain ⟨⟨a53, c54, rfl, -⟩, -⟩ := id hs52
    refine cw_ret (fnK_r (res1 rfl (rv_t (v := .slice _ _ _) rfl)) (((HLe.refl _).trans hl13).trans hl50) ?_)
    refine ⟨_, rfl, ?_⟩
    have e : headRead i = (h, j) := by
      rw [hk2, show q1.1.toNat - k = 0 by omega]
      rfl
    rw [e]
    exact ⟨_, _, rfl, rfl, hs52⟩
  have p55 := df h6
  refine cw_skip (seqK_n (cw_seq (cw_region (ol rfl (lo_assign (v := .slice _ _ _) rfl) (ow_nil ?_)))))
  refine seqK_n (cw_seq (cw_seq (cw_region (omi rfl rfl (omi rfl rfl ?_)))))
  refine ow_nil (seqK_n (cw_block (cw_loop5 [2, 4, 5, 14, 15, 16, 17, 18, 19, 20, 21, 22, 23, 24, 25, 26, 27, 28, 29, 30, 31, 32, 33] [0, 1, 2, 7] (fun (k : Nat) (j : In) (h : List Pair) (v : Value) (en : Option (Nat × Obj)) G => upd (upd (G) 14 (.int .i64 (k : Int))) 4 (v)) (fun (k : Nat) (j : In) (h : List Pair) (v : Value) (en : Option (Nat × Obj)) G => lupd (lupd (G) 0 (some (i_b, bx 169 (In.cells j)))) 7 (en)) (fun (k : Nat) (j : In) (h : List Pair) (v : Value) (en : Option (Nat × Obj)) H' => k ≤ q1.1.toNat ∧ headRead i = readGo (q1.1.toNat - k) j h ∧ h.length ≤ k ∧ OwnV 4 182 v en h.length (h.flatMap Pair.cells) ∧ (∀ x ∈ h, Pair.wf x)) (fun (k : Nat) (j : In) (h : List Pair) (v : Value) (en : Option (Nat × Obj)) => q1.1.toNat - k) 0 q1.2 [] (.slice none 0 0) none (upd_intro (upd_intro (mask_intro (by first | exact off_refl | (repeat (first | exact off_mask | refine off_upd rfl ?_ | refine off_mask2 rfl ?_)))) rfl) rfl) (lupd_intro (lupd_intro (lmask_intro offl_refl) rfl) rfl) ?_ ?_)))
  · exact ⟨Nat.zero_le _, by unfold headRead; (repeat first | simp only [hq4] | rw [if_pos (by omega)] | rw [if_neg (by omega)]); all_goals rfl, Nat.zero_le _, ownV_nil, wf_nil⟩
  intro k j h v en J57 JL57 H57 hp56 hl57
  obtain ⟨hk1, hk2, hk3, ho, hw⟩ := hp56
  refine cw_seq (cw_region (ol rfl (lo_lss rfl rfl) (ow_nil (seqK_n (cw_seq ?_)))))
  refine cw_cond rfl (fun h58 => ?_) (fun h58 => ?_)
  · have p59 := dt h58
    refine cw_skip (seqK_n (cw_seq (cw_block (cw_seq (cw_region ?_)))))
    refine ol rfl (lo_move (v := .pointer (some ⟨_, _, none⟩)) rfl) ?_
    refine ow1 (op1_pm 0 rfl (head_one _ i_b j) (en_f cb153 rfl) rfl ?_)
    rintro _ _ _ ⟨rfl, rfl, rfl⟩ _
    generalize hq63 : readOne j = q60
    have hf64 := readOne_wf j
    simp only [hq63] at hf64
    refine ow1 (op1_alloc 1 rfl zr182 (fun b65 => ?_))
    refine ow1 (op1_storeA (i := 1) (vs := [_, _, _, _]) rfl rfl rfl sz182 rfl rfl rfl ?_)
    refine ow_nil (seqK_n (cw_seq (cw_seq (cw_region (ol rfl (lo_move (v := .pointer (some ⟨_, _, none⟩)) rfl) ?_)))))
    refine ow1 (op1_pm 0 rfl (in_Err _ i_b q60.2) (en_f cb50 rfl) rfl ?_)
    rintro _ _ _ ⟨rfl, rfl, rfl⟩ _
    refine ol rfl (lo_eql rfl rfl) (ow_nil (seqK_n (cw_cond rfl (fun h68 => ?_) (fun h68 => ?_))))
    · have p69 := dt h68
      refine cw_region (ol rfl (lo_move (v := .pointer (some ⟨_, _, none⟩)) rfl) (ol rfl (lo_loadA (i := 1) (vs := [_, _, _, _]) rfl ag182 sz182 rfl rfl rfl) (ol rfl (lo_move rfl) ?_)))
      obtain ⟨a70, c71, rfl⟩ := own_shape ho
      refine ow1 (op1_prl 7 rfl (fun _ hl72 hg73 => (head_pair _ q60.1 hf64 a70 h.length c71 h (slh_own (enc := Pair.cells) (wf := Pair.wf) (fun _ => rfl) ho hw hg73) (by first | omega | (simp <;> omega)))) (en_f cb154 rfl) rfl ?_)
      have := pairErr_r q60.1 h
      refine ow1 (op1_pm 0 rfl (in_Fail _ i_b q60.2 (pairErr q60.1 h) (by omega)) (en_f cb129 rfl) rfl ?_)
      rintro _ _ _ ⟨rfl, rfl, rfl⟩ _
      generalize hq77 : inFail q60.2 (pairErr q60.1 h) = q74
      refine ow_nil (seqK_n (cw_seq (cw_seq (cw_region (ol rfl (lo_move (v := .pointer (some ⟨_, _, none⟩)) rfl) ?_)))))
      refine ow1 (op1_pm 0 rfl (in_Err _ i_b q74) (en_f cb50 rfl) rfl ?_)
      rintro _ _ _ ⟨rfl, rfl, rfl⟩ _
      refine ol rfl (lo_neq rfl rfl) (ow_nil (seqK_n (cw_cond rfl (fun h80 => ?_) (fun h80 => ?_))))
      · have h81 := not_t h80
        have p82 := df h81
        refine cw_seq (cw_region (ol rfl (lo_assign (v := .slice _ _ _) rfl) (ow_nil (seqK_n (cw_ret ?_)))))
        refine seqK_r (blkK_r (seqK_r (loopK_r (blkK_r (seqK_r ?_)))))
        refine fnK_r (res1 rfl (rv_t (v := .slice _ _ _) rfl)) ((HLe.refl _).trans hl57) ?_
        refine ⟨_, rfl, ?_⟩
        have e : headRead i = ([], q74) := by
          rw [hk2, show q1.1.toNat - k = (q1.1.toNat - (k + 1)) + 1 by omega]
          have z := fun k => readGo_er1 (k := k) (h := h) (show readOne j = (q60.1, q60.2) from hq63) (by omega) (by rw [hq77]; omega)
          rw [hq77] at z
          exact z _
        rw [e]
        exact ⟨none, 0, rfl, rfl, slh_nil⟩
      have h83 := not_f h80
      have p84 := dt h83
      refine cw_skip (seqK_n (cw_region (ol rfl (lo_move rfl) (ol rfl (lo_loadA (i := 1) (vs := [_, _, _, _]) rfl ag182 sz182 rfl rfl rfl) ?_))))
      refine ow1 (op1_bslice (cs := [_, _, _, _]) 2 rfl Tryz.underlying40 sz182 zx182 rfl ⟨rfl, rfl, trivial⟩ rfl rfl (by decide) (fun b85 => ?_))
      refine ow1 (op1_app 7 rfl rfl Tryz.underlying40 Tryz.underlying40 rfl sz182 by182 (by decide) zr182 ho (src_bx (i := 2) rfl rfl) (List.all_eq_true.1 rfl) rfl (by omega) rfl (fun v86 en87 ho88 => ?_))
      have ho89 := own_push (enc := Pair.cells) h q60.1 ho88 rfl
      refine ol rfl (lo_assign rfl) (ow_nil (blkK_n (seqK_n (cw_region (ol rfl (lo_add rfl rfl (rg_i64 (by omega))) ?_)))))
      refine omi rfl rfl (ow_nil ?_)
      refine next5 (k + 1) q74 (h ++ [q60.1]) _ _ (upd_intro (upd_intro (mask_intro (by first | exact off_refl | (repeat (first | exact off_mask | refine off_upd rfl ?_ | refine off_mask2 rfl ?_)))) rfl) rfl) (lupd_intro (lupd_intro (lmask_intro (by first | exact offl_refl | (repeat (first | exact offl_mask | refine offl_upd rfl ?_ | refine offl_mask2 rfl ?_)))) rfl) rfl) hl57 ?_ ?_
      · refine ⟨by omega, ?_, by simp; omega, ho89, (wf_push hw hf64)⟩
        rw [hk2, show q1.1.toNat - k = (q1.1.toNat - (k + 1)) + 1 by omega]
        have z := fun k => readGo_ok (k := k) (h := h) (show readOne j = (q60.1, q60.2) from hq63) (by omega) (by rw [hq77]; omega)
        rw [hq77] at z
        exact z _
      omega
    have p90 := df h68
    refine cw_skip (seqK_n (cw_seq (cw_seq (cw_region (ol rfl (lo_move (v := .pointer (some ⟨_, _, none⟩)) rfl) ?_)))))
    refine ow1 (op1_pm 0 rfl (in_Err _ i_b q60.2) (en_f cb50 rfl) rfl ?_)
    rintro _ _ _ ⟨rfl, rfl, rfl⟩ _
    refine ol rfl (lo_neq rfl rfl) (ow_nil (seqK_n (cw_cond_t rfl (by rw [h68] <;> rfl) (cw_seq (cw_region ?_)))))
    refine ol rfl (lo_assign (v := .slice _ _ _) rfl) (ow_nil (seqK_n (cw_ret (seqK_r (blkK_r ?_)))))
    refine seqK_r (loopK_r (blkK_r (seqK_r (fnK_r (res1 rfl (rv_t (v := .slice _ _ _) rfl)) ((HLe.refl _).trans hl57) ?_))))
    refine ⟨_, rfl, ?_⟩
    have e : headRead i = ([], q60.2) := by
      rw [hk2, show q1.1.toNat - k = (q1.1.toNat - (k + 1)) + 1 by omega]
      exact readGo_er0 (show readOne j = (q60.1, q60.2) from hq63) (by omega)
    rw [e]
    exact ⟨none, 0, rfl, rfl, slh_nil⟩
  have p93 := df h58
  refine cw_exit (seqK_e (loopK_e (blkK_hit (seqK_n (cw_seq ?_)))))
  refine cw_region (ol rfl (lo_move rfl) (ol rfl (lo_assign rfl) (ow_nil (seqK_n (cw_giveO 7 rfl (fun _ hl94 hg95 => ?_))))))
  have hs96 := slh_own (enc := Pair.cells) (wf := Pair.wf) (fun _ => rfl) ho hw hg95
  obtain ⟨⟨a97, c98, rfl, -⟩, -⟩ := id hs96
  refine cw_ret (fnK_r (res1 rfl (rv_t (v := .slice _ _ _) rfl)) (((HLe.refl _).trans hl57).trans hl94) ?_)
  refine ⟨_, rfl, ?_⟩
  have e : headRead i = (h, j) := by
    rw [hk2, show q1.1.toNat - k = 0 by omega]
    rfl
  rw [e]
  exact ⟨_, _, rfl, rfl, hs96⟩
end Go.SW
set_option linter.unusedVariables false
set_option maxRecDepth 100000
set_option maxHeartbeats 4000000
namespace Go.SW
open Go.Proofs
theorem cb108 : Callable Tryz.prog 108 := callable_of Tryz.func108 (by kernel_rfl) (by kernel_rfl)
theorem cb52 : Callable Tryz.prog 52 := callable_of Tryz.func52 (by kernel_rfl) (by kernel_rfl)
theorem sz39 : Sz Tryz.prog 39 1 := fun w => by kernel_rfl
theorem sz4 : Sz Tryz.prog 4 1 := fun w => by kernel_rfl
end Go.SW
set_option linter.unusedVariables false
set_option maxRecDepth 100000
set_option maxHeartbeats 4000000
namespace Go.SW
open Go.Proofs
end Go.SW
set_option linter.unusedVariables false
set_option maxRecDepth 100000
set_option maxHeartbeats 4000000
namespace Go.SW
open Go.Proofs
theorem words_Pattern (H : Hp) (s : Bs) (hML : GInt H 2) : Pr Tryz.prog 138 #[str s] H (.int .i64 (keyE patB s)) := by
  refine pr_cw Tryz.func138 rfl Tryz.ntmps138 rfl (fun N => ?_)
  refine cw_seq (cw_region (oai rfl rfl (ow_nil (seqK_n (cw_seq ?_)))))
  refine cw_region (ol rfl (lo_move (v := str _) rfl) ?_)
  refine ow1 (op1_bslice (cs := [_, _]) 0 rfl Tryz.underlying183 sz9 zx9 rfl ⟨rfl, rfl, ⟨rfl, rfl, trivial⟩⟩ rfl rfl (by decide) (fun b1 => ?_))
  refine ow_giveO 0 rfl (fun _ hl2 hg3 => ?_)
  have hs4 := slh_bx (H := _) (enc := (fun s => [str s])) (wf := (fun s => s.length ≤ 9223372036854775807)) [[42], [35]] (fun _ => rfl) (hg3 _ _ rfl) rfl rfl (Nat.le_refl _) (by first | (intro x hx; simp at hx; subst hx; first | omega | (simp; done) | (simp; omega)) | (simp; done) | (simp; omega))
  refine ow1 (op1_pr (words_key _ s (some ⟨b1, 0, none⟩) 2 2 [[42], [35]] hs4 (hML.mono ((HLe.refl _).trans hl2)) (by first | (simp; done) | omega)) (en_f cb171 rfl) rfl ?_)
  refine oai rfl rfl (ow_nil (seqK_n (cw_ret (fnK_r (res1 rfl (rv_t (v := .int _ _) rfl)) ((HLe.refl _).trans hl2) ?_))))
  rfl
end Go.SW
set_option linter.unusedVariables false
set_option maxRecDepth 100000
set_option maxHeartbeats 4000000
namespace Go.SW
open Go.Proofs
theorem cb138 : Callable Tryz.prog 138 := callable_of Tryz.func138 (by kernel_rfl) (by kernel_rfl)
end Go.SW
set_option linter.unusedVariables false
set_option maxRecDepth 100000
set_option maxHeartbeats 4000000
namespace Go.SW
open Go.Proofs
end Go.SW
set_option linter.unusedVariables false
set_option maxRecDepth 100000
set_option maxHeartbeats 4000000
namespace Go.SW
open Go.Proofs
theorem ag222 : Ag Tryz.prog 222 true := fun w => by kernel_rfl
theorem cb189 : Callable Tryz.prog 189 := callable_of Tryz.func189 (by kernel_rfl) (by kernel_rfl)
theorem fl222_0 : Fld Tryz.prog 222 0 0 := fun b o w => by kernel_rfl
theorem fl222_1 : Fld Tryz.prog 222 1 1 := fun b o w => by kernel_rfl
theorem fl222_2 : Fld Tryz.prog 222 2 2 := fun b o w => by kernel_rfl
theorem fl222_3 : Fld Tryz.prog 222 3 3 := fun b o w => by kernel_rfl
theorem sz222 : Sz Tryz.prog 222 4 := fun w => by kernel_rfl
theorem rule_Check (H : Hp) (r : Rule) (r_want_a : Option Addr) (r_want_c : Nat) (r_want_h : SlH pairE 4 H (.slice r_want_a r.want.length r_want_c) r.want) (r_w : Rule.wf r) (hML : GInt H 2) : Pr Tryz.prog 168 #[.agg (Rule.cells r r_want_a r_want_c).toArray] H (.int .i64 (ruleE r)) := by
  refine pr_cw Tryz.func168 rfl Tryz.ntmps168 rfl (fun N => ?_)
  have r_w' := r_w
  simp only [Rule.wf] at r_w'
  refine cw_seq (cw_region (ow1 (op1_box (cs := [_, _, _, _]) 0 rfl rfl (fun b1 => ?_))))
  refine oai rfl rfl (ow_nil (seqK_n (cw_seq (cw_region (oai rfl rfl ?_)))))
  refine ow_nil (seqK_n (cw_seq (cw_block (cw_seq (cw_region ?_)))))
  refine ol rfl (lo_fieldAddr rfl fl222_0) (ol rfl (lo_load1 (i := 0) (v := .int _ _) rfl ag5 rfl rfl) (ol rfl (lo_gtr rfl rfl) (oab rfl rfl (ow_nil (seqK_n ?_)))))
  refine cw_cond rfl (fun h2 => ?_) (fun h2 => ?_)
  · have p3 := dt h2
    refine cw_seq (cw_region (oai rfl rfl (ow_nil (seqK_n (cw_ret ?_)))))
    refine blkK_r (seqK_r (fnK_r (res1 rfl (rv_t (v := .int _ _) rfl)) (.refl _) (congrArg (Value.int .i64) ?_)))
    unfold ruleE
    repeat (first | rw [if_pos (by omega)] | rw [if_neg (by omega)])
  have p4 := df h2
  refine cw_seq (cw_region (ol rfl (lo_fieldAddr rfl fl222_0) (ol rfl (lo_load1 (i := 0) (v := .int _ _) rfl ag5 rfl rfl) (ol rfl (lo_eql rfl rfl) (oab rfl rfl ?_)))))
  refine ow_nil (seqK_n (cw_cond rfl (fun h5 => ?_) (fun h5 => ?_)))
  · have p6 := dt h5
    refine cw_region (ol rfl (lo_fieldAddr rfl fl222_1) (ol rfl (lo_load1 (i := 0) (v := str _) rfl ag9 rfl rfl) ?_))
    refine ow1 (op1_pr (words_Key _ r.key hML) (en_f cb137 rfl) rfl ?_)
    refine oai rfl rfl (ow_nil (blkK_n (seqK_n (cw_seq (cw_seq ?_)))))
    refine cw_region (omi rfl rfl (ol rfl (lo_neq rfl rfl) (ow_nil (seqK_n (cw_cond rfl (fun h7 => ?_) (fun h7 => ?_))))))
    · have h8 := not_t h7
      have p9 := df h8
      refine cw_seq (cw_region (omi rfl rfl (oai rfl rfl (ow_nil (seqK_n ?_)))))
      refine cw_ret (seqK_r (fnK_r (res1 rfl (rv_t (v := .int _ _) rfl)) (.refl _) (congrArg (Value.int .i64) ?_)))
      unfold ruleE
      repeat (first | rw [if_pos (by omega)] | rw [if_neg (by omega)])
    have h10 := not_f h7
    have p11 := dt h10
    refine cw_skip (seqK_n (cw_seq (cw_region (ol rfl (lo_fieldAddr rfl fl222_2) (ol rfl (lo_load1 (i := 0) (v := .slice _ _ _) rfl ag40 rfl rfl) ?_)))))
    refine ow1 (op1_pr (head_Check _ r_want_a r.want.length r_want_c r.want r_want_h (by first | omega | (simp <;> omega))) (en_f cb135 rfl) rfl ?_)
    refine oai rfl rfl (ow_nil (seqK_n (cw_ret (fnK_r (res1 rfl (rv_t (v := .int _ _) rfl)) (.refl _) (congrArg (Value.int .i64) ?_)))))
    unfold ruleE
    repeat (first | rw [if_pos (by omega)] | rw [if_neg (by omega)])
  have p12 := df h5
  refine cw_region (ol rfl (lo_fieldAddr rfl fl222_1) (ol rfl (lo_load1 (i := 0) (v := str _) rfl ag9 rfl rfl) ?_))
  refine ow1 (op1_pr (words_Pattern _ r.key hML) (en_f cb138 rfl) rfl ?_)
  refine oai rfl rfl (ow_nil (blkK_n (seqK_n (cw_seq (cw_seq ?_)))))
  refine cw_region (omi rfl rfl (ol rfl (lo_neq rfl rfl) (ow_nil (seqK_n (cw_cond rfl (fun h13 => ?_) (fun h13 => ?_))))))
  · have h14 := not_t h13
    have p15 := df h14
    refine cw_seq (cw_region (omi rfl rfl (oai rfl rfl (ow_nil (seqK_n ?_)))))
    refine cw_ret (seqK_r (fnK_r (res1 rfl (rv_t (v := .int _ _) rfl)) (.refl _) (congrArg (Value.int .i64) ?_)))
    unfold ruleE
    repeat (first | rw [if_pos (by omega)] | rw [if_neg (by omega)])
  have h16 := not_f h13
  have p17 := dt h16
  refine cw_skip (seqK_n (cw_seq (cw_region (ol rfl (lo_fieldAddr rfl fl222_2) (ol rfl (lo_load1 (i := 0) (v := .slice _ _ _) rfl ag40 rfl rfl) ?_)))))
  refine ow1 (op1_pr (head_Check _ r_want_a r.want.length r_want_c r.want r_want_h (by first | omega | (simp <;> omega))) (en_f cb135 rfl) rfl ?_)
  refine oai rfl rfl (ow_nil (seqK_n (cw_ret (fnK_r (res1 rfl (rv_t (v := .int _ _) rfl)) (.refl _) (congrArg (Value.int .i64) ?_)))))
  unfold ruleE
  repeat (first | rw [if_pos (by omega)] | rw [if_neg (by omega)])
theorem rule_heads (H : Hp) (r : Rule) (r_want_a : Option Addr) (r_want_c : Nat) (r_want_h : SlH pairE 4 H (.slice r_want_a r.want.length r_want_c) r.want) (r_w : Rule.wf r) (h_a : Option Addr) (h_l h_c : Nat) (h : List Pair) (h_h : SlH pairE 4 H (.slice h_a h_l h_c) h) (hl : h.length ≤ 9223372036854775807) : Pr Tryz.prog 189 #[.agg (Rule.cells r r_want_a r_want_c).toArray, .slice h_a h_l h_c] H (.bool (headsGo r.all h r.want)) := by
  refine pr_cw Tryz.func189 rfl Tryz.ntmps189 rfl (fun N => ?_)
  have r_w' := r_w
  simp only [Rule.wf] at r_w'
  refine cw_seq (cw_region (ow1 (op1_box (cs := [_, _, _, _]) 0 rfl rfl (fun b1 => ?_))))
  refine oab rfl rfl (ow_nil (seqK_n (cw_scope (cw_seq (cw_label ?_)))))
  refine seqK_n (cw_seq (cw_seq (cw_region (ol rfl (lo_fieldAddr rfl fl222_2) (ol rfl (lo_load1 (i := 0) (v := .slice _ _ _) rfl ag40 rfl rfl) ?_)))))
  refine ol rfl (lo_len_slh rfl r_want_h Tryz.underlying40) (omi rfl rfl (ow_nil (seqK_n (cw_block (cw_loop1 [4, 6, 7, 8, 9, 13, 14, 15, 16, 17, 18, 19, 20, 21, 22, 23, 24, 25, 26, 27, 28, 29, 30, 31, 32, 33, 34, 35, 36, 37, 38, 39, 40, 41] [1, 2] (fun (k : Nat) G => upd (G) 13 (.int .i64 (k : Int))) (fun (k : Nat) G => G) (fun (k : Nat) H' => k ≤ r.want.length ∧ headsGo r.all h r.want = headsGo r.all h (r.want.drop k)) (fun (k : Nat) => r.want.length - k) 0 (upd_intro (mask_intro (by first | exact off_refl | (repeat (first | exact off_mask | refine off_upd rfl ?_ | refine off_mask2 rfl ?_)))) rfl) (lmask_intro offl_refl) ?_ ?_)))))
  · exact ⟨Nat.zero_le _, rfl⟩
  intro k J3 JL3 H3 hp2 hl3
  obtain ⟨hk1, hk2⟩ := hp2
  refine cw_seq (cw_region (ol rfl (lo_lss rfl rfl) (ow_nil (seqK_n (cw_seq ?_)))))
  refine cw_cond rfl (fun h4 => ?_) (fun h4 => ?_)
  · have p5 := dt h4
    refine cw_skip (seqK_n (cw_seq (cw_block (cw_seq (cw_region ?_)))))
    obtain ⟨c6, hc7⟩ := getE (xs := r.want) (m := k) (by omega)
    obtain ⟨cs8, hE9, at10⟩ := (r_want_h.mono ((HLe.refl _).trans hl3) (fun _ _ h => h)).get hc7
    obtain ⟨rfl, c6_w⟩ := hE9
    have c6_w' := c6_w
    simp only [Pair.wf] at c6_w'
    refine ol rfl (lo_indexAddr rfl rfl (r_want_h.mono ((HLe.refl _).trans hl3) (fun _ _ h => h)).1 at10 Tryz.underlying40 sz182 (by omega) (by omega)) (ol rfl (lo_loadEA rfl ag182 sz182 at10) (ow1 (op1_alloc 1 rfl zr182 (fun b11 => ?_))))
    refine ow1 (op1_storeAn (i := 1) (vs := [_, _, _, _]) [_, _, _, _] rfl rfl rfl sz182 rfl rfl rfl rfl ?_)
    refine ow_nil (seqK_n (cw_seq (cw_region (ol rfl (lo_move (v := .slice _ _ _) rfl) (ol rfl (lo_fieldAddr rfl fl182_0) ?_)))))
    refine ol rfl (lo_load1 (i := 1) (v := str _) rfl ag9 rfl rfl) (ow1 (op1_pr (head_Find _ h_a h_l h_c h (h_h.mono ((HLe.refl _).trans hl3) (fun _ _ h => h)) c6.key (by first | omega | (simp <;> omega))) (en_f cb185 rfl) rfl ?_))
    refine ol rfl (lo_move (v := .tuple #[_, _]) rfl) (ol rfl (lo_extract (v := .agg #[_, _, _, _]) rfl rfl) (ol rfl (lo_extract (v := .bool _) rfl rfl) (ow1 (op1_alloc 2 rfl zr182 (fun b12 => ?_)))))
    refine ow1 (op1_storeAn (i := 2) (vs := [_, _, _, _]) [_, _, _, _] rfl rfl rfl sz182 rfl rfl rfl rfl ?_)
    refine oab rfl rfl (ow_nil (seqK_n (cw_seq (cw_region (omb rfl rfl ?_)))))
    refine omb rfl rfl (ow_sp (j := 1) rfl (fun h13 => ?_) (fun h13 => ?_))
    · refine ow1 (op1_g rfl h13 rfl (lo_loadA (i := 2) (vs := [_, _, _, _]) rfl ag182 sz182 rfl rfl rfl) ?_)
      refine ow1 (op1_g rfl h13 rfl (lo_loadA (i := 1) (vs := [_, _, _, _]) rfl ag182 sz182 rfl rfl rfl) ?_)
      refine ow1 (op1_g rfl h13 rfl (lo_aeql (u := (Pair.cells ((findP h c6.key).getD Pair.zero)).toArray) (v := (Pair.cells c6).toArray) rfl rfl eqg182 (eqr182 _ _ 9998)) ?_)
      refine ol rfl (lo_pick_t (v := .bool _) rfl h13 rfl) (oab rfl rfl (ow_nil (seqK_n (cw_block (cw_seq ?_)))))
      refine cw_region (omb rfl rfl (omb rfl rfl (ow_sp (j := 1) rfl (fun h14 => ?_) (fun h14 => ?_))))
      · have p15 := dt h14
        refine ow1 (op1_g rfl h14 rfl (lo_fieldAddr rfl fl222_3) ?_)
        refine ow1 (op1_g rfl h14 rfl (lo_load1 (i := 0) (v := .bool _) rfl ag4 rfl rfl) ?_)
        refine ol rfl (lo_pick_t (v := .bool _) rfl h14 rfl) (oab rfl rfl (ow_nil (seqK_n (cw_cond rfl (fun h16 => ?_) (fun h16 => ?_)))))
        · refine cw_exit (blkK_e rfl (blkK_hit (seqK_n (cw_region (ol rfl (lo_add rfl rfl (rg_i64 (by omega))) ?_)))))
          refine omi rfl rfl (ow_nil ?_)
          refine next1 (k + 1) (upd_intro (mask_intro (by first | exact off_refl | (repeat (first | exact off_mask | refine off_upd rfl ?_ | refine off_mask2 rfl ?_)))) rfl) (lmask_intro (by first | exact offl_refl | (repeat (first | exact offl_mask | refine offl_upd rfl ?_ | refine offl_mask2 rfl ?_)))) hl3 ?_ ?_
          · refine ⟨by omega, ?_⟩
            rw [hk2, dropE hc7]
            simp only [headsGo, hasP, h4, h13, h14, h16, Bool.or_false, Bool.true_or, Bool.or_true, Bool.false_or, Bool.not_true, Bool.not_false, Bool.and_true, Bool.true_and, Bool.false_and, Bool.and_false, if_true, if_false, Bool.false_eq_true, Bool.true_eq_false, decide_true, decide_false]
          omega
        refine cw_seq (cw_region (omb rfl rfl (oab rfl rfl (ow_nil (seqK_n ?_)))))
        refine cw_cond_t rfl h14 (cw_seq (cw_region (oab rfl rfl (ow_nil (seqK_n ?_)))))
        refine cw_ret (blkK_r (blkK_r (seqK_r (loopK_r (blkK_r ?_)))))
        refine seqK_r (scK_r (fnK_r (res1 rfl (rv_t (v := .bool _) rfl)) ((HLe.refl _).trans hl3) (congrArg Value.bool ?_)))
        rw [hk2, dropE hc7]
        simp only [headsGo, hasP, h4, h13, h14, h16, Bool.or_false, Bool.true_or, Bool.or_true, Bool.false_or, Bool.not_true, Bool.not_false, Bool.and_true, Bool.true_and, Bool.false_and, Bool.and_false, if_true, if_false, Bool.false_eq_true, Bool.true_eq_false, decide_true, decide_false]
      have p17 := df h14
      refine og rfl h14 rfl (og rfl h14 rfl (ol rfl (lo_pick_f (v := .bool _) rfl h14 rfl) (oab rfl rfl (ow_nil (seqK_n ?_)))))
      refine cw_cond_f rfl rfl (cw_seq (cw_region (omb rfl rfl (oab rfl rfl (ow_nil ?_)))))
      refine seqK_n (cw_cond_f rfl h14 (cw_seq (cw_region (ol rfl (lo_fieldAddr rfl fl222_3) (ol rfl (lo_load1 (i := 0) (v := .bool _) rfl ag4 rfl rfl) ?_)))))
      refine oab rfl rfl (ow_nil (seqK_n (cw_cond rfl (fun h18 => ?_) (fun h18 => ?_))))
      · refine cw_seq (cw_region (oab rfl rfl (ow_nil (seqK_n (cw_ret ?_)))))
        refine blkK_r (blkK_r (seqK_r (loopK_r (blkK_r (seqK_r ?_)))))
        refine scK_r (fnK_r (res1 rfl (rv_t (v := .bool _) rfl)) ((HLe.refl _).trans hl3) (congrArg Value.bool ?_))
        rw [hk2, dropE hc7]
        simp only [headsGo, hasP, h4, h13, h14, h18, Bool.or_false, Bool.true_or, Bool.or_true, Bool.false_or, Bool.not_true, Bool.not_false, Bool.and_true, Bool.true_and, Bool.false_and, Bool.and_false, if_true, if_false, Bool.false_eq_true, Bool.true_eq_false, decide_true, decide_false]
      refine cw_skip (blkK_n (blkK_n (seqK_n (cw_region (ol rfl (lo_add rfl rfl (rg_i64 (by omega))) ?_)))))
      refine omi rfl rfl (ow_nil ?_)
      refine next1 (k + 1) (upd_intro (mask_intro (by first | exact off_refl | (repeat (first | exact off_mask | refine off_upd rfl ?_ | refine off_mask2 rfl ?_)))) rfl) (lmask_intro (by first | exact offl_refl | (repeat (first | exact offl_mask | refine offl_upd rfl ?_ | refine offl_mask2 rfl ?_)))) hl3 ?_ ?_
      · refine ⟨by omega, ?_⟩
        rw [hk2, dropE hc7]
        simp only [headsGo, hasP, h4, h13, h14, h18, Bool.or_false, Bool.true_or, Bool.or_true, Bool.false_or, Bool.not_true, Bool.not_false, Bool.and_true, Bool.true_and, Bool.false_and, Bool.and_false, if_true, if_false, Bool.false_eq_true, Bool.true_eq_false, decide_true, decide_false]
      omega
    refine og rfl h13 rfl (og rfl h13 rfl (og rfl h13 rfl (ol rfl (lo_pick_f (v := .bool _) rfl h13 rfl) (oab rfl rfl (ow_nil ?_)))))
    refine seqK_n (cw_block (cw_seq (cw_region (omb rfl rfl (omb rfl rfl ?_)))))
    refine og rfl rfl rfl (og rfl rfl rfl (ol rfl (lo_pick_f (v := .bool _) rfl rfl rfl) (oab rfl rfl (ow_nil (seqK_n ?_)))))
    refine cw_cond_f rfl rfl (cw_seq (cw_region (omb rfl rfl (oab rfl rfl (ow_nil ?_)))))
    refine seqK_n (cw_cond_f rfl rfl (cw_seq (cw_region (ol rfl (lo_fieldAddr rfl fl222_3) (ol rfl (lo_load1 (i := 0) (v := .bool _) rfl ag4 rfl rfl) ?_)))))
    refine oab rfl rfl (ow_nil (seqK_n (cw_cond rfl (fun h19 => ?_) (fun h19 => ?_))))
    · refine cw_seq (cw_region (oab rfl rfl (ow_nil (seqK_n (cw_ret ?_)))))
      refine blkK_r (blkK_r (seqK_r (loopK_r (blkK_r (seqK_r ?_)))))
      refine scK_r (fnK_r (res1 rfl (rv_t (v := .bool _) rfl)) ((HLe.refl _).trans hl3) (congrArg Value.bool ?_))
      rw [hk2, dropE hc7]
      simp only [headsGo, hasP, h4, h13, h19, Bool.or_false, Bool.true_or, Bool.or_true, Bool.false_or, Bool.not_true, Bool.not_false, Bool.and_true, Bool.true_and, Bool.false_and, Bool.and_false, if_true, if_false, Bool.false_eq_true, Bool.true_eq_false, decide_true, decide_false]
    refine cw_skip (blkK_n (blkK_n (seqK_n (cw_region (ol rfl (lo_add rfl rfl (rg_i64 (by omega))) ?_)))))
    refine omi rfl rfl (ow_nil ?_)
    refine next1 (k + 1) (upd_intro (mask_intro (by first | exact off_refl | (repeat (first | exact off_mask | refine off_upd rfl ?_ | refine off_mask2 rfl ?_)))) rfl) (lmask_intro (by first | exact offl_refl | (repeat (first | exact offl_mask | refine offl_upd rfl ?_ | refine offl_mask2 rfl ?_)))) hl3 ?_ ?_
    · refine ⟨by omega, ?_⟩
      rw [hk2, dropE hc7]
      simp only [headsGo, hasP, h4, h13, h19, Bool.or_false, Bool.true_or, Bool.or_true, Bool.false_or, Bool.not_true, Bool.not_false, Bool.and_true, Bool.true_and, Bool.false_and, Bool.and_false, if_true, if_false, Bool.false_eq_true, Bool.true_eq_false, decide_true, decide_false]
    omega
  have p20 := df h4
  refine cw_exit (seqK_e (loopK_e (blkK_hit (seqK_n (cw_seq ?_)))))
  refine cw_region (ol rfl (lo_fieldAddr rfl fl222_3) (ol rfl (lo_load1 (i := 0) (v := .bool _) rfl ag4 rfl rfl) (oab rfl rfl (ow_nil (seqK_n ?_)))))
  refine cw_ret (scK_r (fnK_r (res1 rfl (rv_t (v := .bool _) rfl)) ((HLe.refl _).trans hl3) (congrArg Value.bool ?_)))
  rw [hk2, List.drop_of_length_le (by omega)]
  rfl
theorem rule_Goes (H : Hp) (r : Rule) (r_want_a : Option Addr) (r_want_c : Nat) (r_want_h : SlH pairE 4 H (.slice r_want_a r.want.length r_want_c) r.want) (r_w : Rule.wf r) (key : Bs) (h_a : Option Addr) (h_l h_c : Nat) (h : List Pair) (h_h : SlH pairE 4 H (.slice h_a h_l h_c) h) (hML : GInt H 2) (hrk : r.key.length < 4294967281) (hk : key.length < 4294967281) (hl : h.length ≤ 9223372036854775807) : Pr Tryz.prog 169 #[.agg (Rule.cells r r_want_a r_want_c).toArray, str key, .slice h_a h_l h_c] H (.bool (goesR r key h)) := by
  refine pr_cw Tryz.func169 rfl Tryz.ntmps169 rfl (fun N => ?_)
  have r_w' := r_w
  simp only [Rule.wf] at r_w'
  refine cw_seq (cw_region (ow1 (op1_box (cs := [_, _, _, _]) 0 rfl rfl (fun b1 => ?_))))
  refine oab rfl rfl (ow_nil (seqK_n (cw_seq (cw_seq (cw_region ?_)))))
  refine ol rfl (lo_fieldAddr rfl fl222_0) (ol rfl (lo_load1 (i := 0) (v := .int _ _) rfl ag5 rfl rfl) (ow_nil (seqK_n (cw_block (cw_seq ?_)))))
  refine cw_region (ol rfl (lo_eql rfl rfl) (oab rfl rfl (ow_nil (seqK_n (cw_cond rfl (fun h2 => ?_) (fun h2 => ?_))))))
  · have p3 := dt h2
    refine cw_seq (cw_region (ol rfl (lo_move (v := str _) rfl) (ol rfl (lo_fieldAddr rfl fl222_1) (ol rfl (lo_load1 (i := 0) (v := str _) rfl ag9 rfl rfl) (ol rfl (lo_seql rfl rfl) ?_)))))
    refine oab rfl rfl (ow_nil (seqK_n (cw_ret (blkK_r (seqK_r ?_)))))
    refine fnK_r (res1 rfl (rv_t (v := .bool _) rfl)) (.refl _) ?_
    first | (simp [goesR, *]; done) | (simp [goesR, *]; omega)
  have p4 := df h2
  refine cw_seq (cw_region (ol rfl (lo_eql rfl rfl) (oab rfl rfl (ow_nil (seqK_n ?_)))))
  refine cw_cond rfl (fun h5 => ?_) (fun h5 => ?_)
  · have p6 := dt h5
    refine cw_seq (cw_region (ol rfl (lo_fieldAddr rfl fl222_1) (ol rfl (lo_load1 (i := 0) (v := str _) rfl ag9 rfl rfl) (ol rfl (lo_move (v := str _) rfl) ?_))))
    refine ow1 (op1_pr (words_Matches _ r.key key hML (by first | omega | (simp; done) | decide) (by first | omega | (simp; done) | decide)) (en_f cb188 rfl) rfl ?_)
    refine oab rfl rfl (ow_nil (seqK_n (cw_ret (blkK_r (seqK_r ?_)))))
    refine fnK_r (res1 rfl (rv_t (v := .bool _) rfl)) (.refl _) ?_
    first | (simp [goesR, *]; done) | (simp [goesR, *]; omega)
  have p7 := df h5
  refine cw_seq (cw_region (ol rfl (lo_eql rfl rfl) (oab rfl rfl (ow_nil (seqK_n ?_)))))
  refine cw_cond rfl (fun h8 => ?_) (fun h8 => ?_)
  · have p9 := dt h8
    refine cw_seq (cw_region (ol rfl (lo_loadA (i := 0) (vs := [_, _, _, _]) rfl ag222 sz222 rfl rfl rfl) (ol rfl (lo_move (v := .slice _ _ _) rfl) ?_)))
    refine ow1 (op1_pr (rule_heads _ r r_want_a r_want_c r_want_h r_w h_a h_l h_c h h_h (by first | omega | (simp <;> omega))) (en_f cb189 rfl) rfl ?_)
    refine oab rfl rfl (ow_nil (seqK_n (cw_ret (blkK_r (seqK_r ?_)))))
    refine fnK_r (res1 rfl (rv_t (v := .bool _) rfl)) (.refl _) ?_
    first | (simp [goesR, *]; done) | (simp [goesR, *]; omega)
  have p10 := df h8
  refine cw_skip (blkK_n (seqK_n (cw_seq (cw_region (oab rfl rfl ?_)))))
  refine ow_nil (seqK_n (cw_ret (fnK_r (res1 rfl (rv_t (v := .bool _) rfl)) (.refl _) ?_)))
  first | (simp [goesR, *]; done) | (simp [goesR, *]; omega)
end Go.SW
set_option linter.unusedVariables false
set_option maxRecDepth 100000
set_option maxHeartbeats 4000000
namespace Go.SW
open Go.Proofs
theorem bd222_0u8_1s (a1 : Int) (a2 : Bs) (w : World) : (Instr.build 222 #[(0, .int .u8 a1), (1, str a2)]).run Tryz.prog w = .ok (.agg #[.int .u8 a1, str a2, .slice none 0 0, .bool false]) w := by kernel_rfl
theorem cb134 : Callable Tryz.prog 134 := callable_of Tryz.func134 (by kernel_rfl) (by kernel_rfl)
theorem cb168 : Callable Tryz.prog 168 := callable_of Tryz.func168 (by kernel_rfl) (by kernel_rfl)
theorem cb169 : Callable Tryz.prog 169 := callable_of Tryz.func169 (by kernel_rfl) (by kernel_rfl)
theorem cb80 : Callable Tryz.prog 80 := callable_of Tryz.func80 (by kernel_rfl) (by kernel_rfl)
theorem zr222 : Zr Tryz.prog 222 [.int .u8 0, str [], .slice none 0 0, .bool false] := fun w => ⟨.agg #[.int .u8 0, str [], .slice none 0 0, .bool false], by kernel_rfl, rfl⟩
theorem l10_awake (H : Hp)  (hML : GInt H 2) : Pr Tryz.prog 134 #[] H (.bool true) := by
  refine pr_cw Tryz.func134 rfl Tryz.ntmps134 rfl (fun N => ?_)
  refine cw_seq (cw_region (oab rfl rfl (ow_nil (seqK_n (cw_seq ?_)))))
  refine cw_region (ol rfl (lo_build (v := .agg #[_, _, _, _]) rfl (bd222_0u8_1s _ _)) (ow1 (op1_alloc 0 rfl zr222 (fun b1 => ?_))))
  refine ow1 (op1_storeAn (i := 0) (vs := [_, _, _, _]) [_, _, _, _] rfl rfl rfl sz222 rfl rfl rfl rfl ?_)
  refine ow_nil (seqK_n (cw_seq (cw_region ?_)))
  refine ow1 (op1_pr (l04_Awake _ hML) (en_f cb151 rfl) rfl ?_)
  refine omb rfl rfl ?_
  refine ow1 (op1_prg rfl rfl (l09_Awake _ hML) (en_f cb65 rfl) rfl ?_)
  refine ol rfl (lo_pick_t (v := .bool _) rfl rfl rfl) (omb rfl rfl ?_)
  refine ow1 (op1_g rfl rfl rfl (lo_loadA (i := 0) (vs := [_, _, _, _]) rfl ag222 sz222 rfl rfl rfl) ?_)
  refine ow1 (op1_prg rfl rfl (rule_Check _ (⟨2, [97, 46, 35], [], false⟩ : Rule) none 0 slh_nil (by simp only [Rule.wf]; first | omega | (simp; done) | (simp; omega)) hML) (en_f cb168 rfl) rfl ?_)
  refine ow1 (op1_g rfl rfl rfl (lo_eql rfl rfl) ?_)
  refine ol rfl (lo_pick_t (v := .bool _) rfl rfl rfl) (omb rfl rfl ?_)
  refine ow1 (op1_g rfl (by decide +kernel) rfl (lo_loadA (i := 0) (vs := [_, _, _, _]) rfl ag222 sz222 rfl rfl rfl) ?_)
  refine ow1 (op1_prg rfl (by decide +kernel) (rule_Goes _ (⟨2, [97, 46, 35], [], false⟩ : Rule) none 0 slh_nil (by simp only [Rule.wf]; first | omega | (simp; done) | (simp; omega)) [97, 46, 98] none 0 0 [] slh_nil hML (by first | omega | (simp; done) | decide) (by first | omega | (simp; done) | decide) (by first | omega | (simp <;> omega))) (en_f cb169 rfl) rfl ?_)
  refine ol rfl (lo_pick_t (v := .bool _) rfl (by decide +kernel) rfl) (omb rfl rfl ?_)
  refine ow1 (op1_g rfl (by decide +kernel) rfl (lo_loadA (i := 0) (vs := [_, _, _, _]) rfl ag222 sz222 rfl rfl rfl) ?_)
  refine ow1 (op1_prg rfl (by decide +kernel) (rule_Goes _ (⟨2, [97, 46, 35], [], false⟩ : Rule) none 0 slh_nil (by simp only [Rule.wf]; first | omega | (simp; done) | (simp; omega)) [98] none 0 0 [] slh_nil hML (by first | omega | (simp; done) | decide) (by first | omega | (simp; done) | decide) (by first | omega | (simp <;> omega))) (en_f cb169 rfl) rfl ?_)
  refine ow1 (op1_g rfl (by decide +kernel) rfl (lo_not rfl) ?_)
  refine ol rfl (lo_pick_t (v := .bool _) rfl (by decide +kernel) rfl) (oab rfl rfl (ow_nil (seqK_n (cw_ret (fnK_r (res1 rfl (rv_t (v := .bool _) rfl)) (.refl _) ?_)))))
  exact congrArg Value.bool (by decide +kernel)
theorem l10_Awake (H : Hp)  (hML : GInt H 2) : Pr Tryz.prog 80 #[] H (.bool true) := by
  refine pr_cw Tryz.func80 rfl Tryz.ntmps80 rfl (fun N => ?_)
  refine cw_seq (cw_region (oab rfl rfl (ow_nil (seqK_n (cw_seq ?_)))))
  refine cw_region ?_
  refine ow1 (op1_pr (l10_awake _ hML) (en_f cb134 rfl) rfl ?_)
  refine oab rfl rfl (ow_nil (seqK_n (cw_ret (fnK_r (res1 rfl (rv_t (v := .bool _) rfl)) (.refl _) ?_))))
  rfl
end Go.SW
set_option linter.unusedVariables false
set_option maxRecDepth 100000
set_option maxHeartbeats 4000000
namespace Go.SW
open Go.Proofs
theorem match_Same (H : Hp) (a : Rule) (a_want_a : Option Addr) (a_want_c : Nat) (a_want_h : SlH pairE 4 H (.slice a_want_a a.want.length a_want_c) a.want) (a_w : Rule.wf a) (b : Rule) (b_want_a : Option Addr) (b_want_c : Nat) (b_want_h : SlH pairE 4 H (.slice b_want_a b.want.length b_want_c) b.want) (b_w : Rule.wf b) : Pr Tryz.prog 205 #[.agg (Rule.cells a a_want_a a_want_c).toArray, .agg (Rule.cells b b_want_a b_want_c).toArray] H (.bool (decide (a = b))) := by
  refine pr_cw Tryz.func205 rfl Tryz.ntmps205 rfl (fun N => ?_)
  have a_w' := a_w
  simp only [Rule.wf] at a_w'
  have b_w' := b_w
  simp only [Rule.wf] at b_w'
  refine cw_seq (cw_region (ow1 (op1_box (cs := [_, _, _, _]) 0 rfl rfl (fun b1 => ?_))))
  refine ow1 (op1_box (cs := [_, _, _, _]) 1 rfl rfl (fun b2 => ?_))
  refine oab rfl rfl (ow_nil (seqK_n (cw_seq (cw_region (ol rfl (lo_fieldAddr rfl fl222_0) ?_)))))
  refine ol rfl (lo_load1 (i := 0) (v := .int _ _) rfl ag5 rfl rfl) (ol rfl (lo_fieldAddr rfl fl222_0) (ol rfl (lo_load1 (i := 1) (v := .int _ _) rfl ag5 rfl rfl) (ol rfl (lo_eql rfl rfl) (omb rfl rfl (ow_sp (j := 5) rfl (fun h3 => ?_) (fun h3 => ?_))))))
  · have p4 := dt h3
    refine ow1 (op1_g rfl h3 rfl (lo_fieldAddr rfl fl222_1) ?_)
    refine ow1 (op1_g rfl h3 rfl (lo_load1 (i := 0) (v := str _) rfl ag9 rfl rfl) ?_)
    refine ow1 (op1_g rfl h3 rfl (lo_fieldAddr rfl fl222_1) ?_)
    refine ow1 (op1_g rfl h3 rfl (lo_load1 (i := 1) (v := str _) rfl ag9 rfl rfl) ?_)
    refine ow1 (op1_g rfl h3 rfl (lo_seql rfl rfl) ?_)
    refine ol rfl (lo_pick_t (v := .bool _) rfl h3 rfl) (omb rfl rfl (ow_sp (j := 12) rfl (fun h5 => ?_) (fun h5 => ?_)))
    · have p6 := dt h5
      refine ow1 (op1_g rfl h5 rfl (lo_fieldAddr rfl fl222_3) ?_)
      refine ow1 (op1_g rfl h5 rfl (lo_load1 (i := 0) (v := .bool _) rfl ag4 rfl rfl) ?_)
      refine ow1 (op1_g rfl h5 rfl (lo_fieldAddr rfl fl222_3) ?_)
      refine ow1 (op1_g rfl h5 rfl (lo_load1 (i := 1) (v := .bool _) rfl ag4 rfl rfl) ?_)
      refine ow1 (op1_g rfl h5 rfl (lo_beql rfl rfl Tryz.underlying4) ?_)
      refine ol rfl (lo_pick_t (v := .bool _) rfl h5 rfl) (omb rfl rfl (ow_sp (j := 19) rfl (fun h7 => ?_) (fun h7 => ?_)))
      · have p8 := beqT h7
        refine ow1 (op1_g rfl h7 rfl (lo_fieldAddr rfl fl222_2) ?_)
        refine ow1 (op1_g rfl h7 rfl (lo_load1 (i := 0) (v := .slice _ _ _) rfl ag40 rfl rfl) ?_)
        refine ow1 (op1_g rfl h7 rfl (lo_fieldAddr rfl fl222_2) ?_)
        refine ow1 (op1_g rfl h7 rfl (lo_load1 (i := 1) (v := .slice _ _ _) rfl ag40 rfl rfl) ?_)
        refine ow1 (op1_prg rfl h7 (eq_Pair _ a_want_a a.want.length a_want_c a.want a_want_h b_want_a b.want.length b_want_c b.want b_want_h (by first | omega | (simp <;> omega))) (en_f cb139 rfl) rfl ?_)
        refine ol rfl (lo_pick_t (v := .bool _) rfl h7 rfl) (oab rfl rfl (ow_nil (seqK_n (cw_ret (fnK_r (res1 rfl (rv_t (v := .bool _) rfl)) (.refl _) ?_)))))
        first | (simp [Rule.eq_iff, *]; done)
      have p9 := beqF h7
      refine og rfl h7 rfl (og rfl h7 rfl (og rfl h7 rfl (og rfl h7 rfl (og rfl h7 rfl (ol rfl (lo_pick_f (v := .bool _) rfl h7 rfl) ?_)))))
      refine oab rfl rfl (ow_nil (seqK_n (cw_ret (fnK_r (res1 rfl (rv_t (v := .bool _) rfl)) (.refl _) ?_))))
      first | (simp [Rule.eq_iff, *]; done)
    have p10 := df h5
    refine og rfl h5 rfl (og rfl h5 rfl (og rfl h5 rfl (og rfl h5 rfl (og rfl h5 rfl (ol rfl (lo_pick_f (v := .bool _) rfl h5 rfl) ?_)))))
    refine omb rfl rfl (og rfl rfl rfl (og rfl rfl rfl (og rfl rfl rfl (og rfl rfl rfl (og rfl rfl rfl ?_)))))
    refine ol rfl (lo_pick_f (v := .bool _) rfl rfl rfl) (oab rfl rfl (ow_nil (seqK_n (cw_ret (fnK_r (res1 rfl (rv_t (v := .bool _) rfl)) (.refl _) ?_)))))
    first | (simp [Rule.eq_iff, *]; done)
  have p11 := df h3
  refine og rfl h3 rfl (og rfl h3 rfl (og rfl h3 rfl (og rfl h3 rfl (og rfl h3 rfl (ol rfl (lo_pick_f (v := .bool _) rfl h3 rfl) ?_)))))
  refine omb rfl rfl (og rfl rfl rfl (og rfl rfl rfl (og rfl rfl rfl (og rfl rfl rfl (og rfl rfl rfl ?_)))))
  refine ol rfl (lo_pick_f (v := .bool _) rfl rfl rfl) (omb rfl rfl (og rfl rfl rfl (og rfl rfl rfl (og rfl rfl rfl (og rfl rfl rfl ?_)))))
  refine og rfl rfl rfl (ol rfl (lo_pick_f (v := .bool _) rfl rfl rfl) (oab rfl rfl (ow_nil (seqK_n (cw_ret ?_)))))
  refine fnK_r (res1 rfl (rv_t (v := .bool _) rfl)) (.refl _) ?_
  first | (simp [Rule.eq_iff, *]; done)
end Go.SW
set_option linter.unusedVariables false
set_option maxRecDepth 100000
set_option maxHeartbeats 4000000
namespace Go.SW
open Go.Proofs
theorem bd42_1s (a1 : Bs) (w : World) : (Instr.build 42 #[(1, str a1)]).run Tryz.prog w = .ok (.agg #[.int .u64 0, str a1, str [], .slice none 0 0, str [], .int .u64 0, .int .u8 0]) w := by kernel_rfl
theorem cb102 : Callable Tryz.prog 102 := callable_of Tryz.func102 (by kernel_rfl) (by kernel_rfl)
theorem cb104 : Callable Tryz.prog 104 := callable_of Tryz.func104 (by kernel_rfl) (by kernel_rfl)
theorem cb147 : Callable Tryz.prog 147 := callable_of Tryz.func147 (by kernel_rfl) (by kernel_rfl)
theorem mail_Check (H : Hp) (m : Mail) (m_head_a : Option Addr) (m_head_c : Nat) (m_head_h : SlH pairE 4 H (.slice m_head_a m.head.length m_head_c) m.head) (m_w : Mail.wf m) (hML : GInt H 2) : Pr Tryz.prog 147 #[.agg (Mail.cells m m_head_a m_head_c).toArray] H (.int .i64 (mailC m)) := by
  refine pr_cw Tryz.func147 rfl Tryz.ntmps147 rfl (fun N => ?_)
  have m_w' := m_w
  simp only [Mail.wf] at m_w'
  refine cw_seq (cw_region (ow1 (op1_box (cs := [_, _, _, _, _, _, _]) 0 rfl rfl (fun b1 => ?_))))
  refine oai rfl rfl (ow_nil (seqK_n (cw_seq (cw_seq (cw_region ?_)))))
  refine ol rfl (lo_fieldAddr rfl fl42_1) (ol rfl (lo_load1 (i := 0) (v := str _) rfl ag9 rfl rfl) ?_)
  refine ow1 (op1_pr (words_Name _ m.shop (by first | omega | decide | (simp; done))) (en_f cb131 rfl) rfl ?_)
  refine oai rfl rfl (ow_nil (seqK_n (cw_seq (cw_region (omi rfl rfl ?_)))))
  refine ol rfl (lo_neq rfl rfl) (ow_nil (seqK_n (cw_cond rfl (fun h2 => ?_) (fun h2 => ?_))))
  · have h3 := not_t h2
    have p4 := df h3
    refine cw_seq (cw_region (omi rfl rfl (oai rfl rfl (ow_nil (seqK_n ?_)))))
    refine cw_ret (seqK_r (fnK_r (res1 rfl (rv_t (v := .int _ _) rfl)) (.refl _) (congrArg (Value.int .i64) ?_)))
    unfold mailC
    repeat (first | rw [if_pos (by omega)] | rw [if_neg (by omega)])
  have h5 := not_f h2
  have p6 := dt h5
  refine cw_skip (seqK_n (cw_seq (cw_seq (cw_region (ol rfl (lo_fieldAddr rfl fl42_2) ?_)))))
  refine ol rfl (lo_load1 (i := 0) (v := str _) rfl ag9 rfl rfl) ?_
  refine ow1 (op1_pr (words_Key _ m.key hML) (en_f cb137 rfl) rfl ?_)
  refine oai rfl rfl (ow_nil (seqK_n (cw_seq (cw_region (omi rfl rfl ?_)))))
  refine ol rfl (lo_neq rfl rfl) (ow_nil (seqK_n (cw_cond rfl (fun h7 => ?_) (fun h7 => ?_))))
  · have h8 := not_t h7
    have p9 := df h8
    refine cw_seq (cw_region (omi rfl rfl (oai rfl rfl (ow_nil (seqK_n ?_)))))
    refine cw_ret (seqK_r (fnK_r (res1 rfl (rv_t (v := .int _ _) rfl)) (.refl _) (congrArg (Value.int .i64) ?_)))
    unfold mailC
    repeat (first | rw [if_pos (by omega)] | rw [if_neg (by omega)])
  have h10 := not_f h7
  have p11 := dt h10
  refine cw_skip (seqK_n (cw_seq (cw_seq (cw_region (ol rfl (lo_fieldAddr rfl fl42_3) ?_)))))
  refine ol rfl (lo_load1 (i := 0) (v := .slice _ _ _) rfl ag40 rfl rfl) ?_
  refine ow1 (op1_pr (head_Check _ m_head_a m.head.length m_head_c m.head m_head_h (by first | omega | (simp <;> omega))) (en_f cb135 rfl) rfl ?_)
  refine oai rfl rfl (ow_nil (seqK_n (cw_block (cw_seq (cw_region ?_)))))
  refine omi rfl rfl (ol rfl (lo_neq rfl rfl) (oab rfl rfl (ow_nil (seqK_n (cw_cond rfl (fun h12 => ?_) (fun h12 => ?_))))))
  · have h13 := not_t h12
    have p14 := df h13
    refine cw_seq (cw_region (omi rfl rfl (oai rfl rfl (ow_nil (seqK_n ?_)))))
    refine cw_ret (blkK_r (seqK_r (fnK_r (res1 rfl (rv_t (v := .int _ _) rfl)) (.refl _) (congrArg (Value.int .i64) ?_))))
    unfold mailC
    repeat (first | rw [if_pos (by omega)] | rw [if_neg (by omega)])
  have h15 := not_f h12
  have p16 := dt h15
  refine cw_seq (cw_region (ol rfl (lo_fieldAddr rfl fl42_4) (ol rfl (lo_load1 (i := 0) (v := str _) rfl ag9 rfl rfl) (ol rfl (lo_len_str rfl Tryz.underlying9) (ol rfl (lo_gtr rfl rfl) ?_)))))
  refine oab rfl rfl (ow_nil (seqK_n (cw_cond rfl (fun h17 => ?_) (fun h17 => ?_))))
  · have p18 := dt h17
    refine cw_seq (cw_region (oai rfl rfl (ow_nil (seqK_n (cw_ret ?_)))))
    refine blkK_r (seqK_r (fnK_r (res1 rfl (rv_t (v := .int _ _) rfl)) (.refl _) (congrArg (Value.int .i64) ?_)))
    unfold mailC
    repeat (first | rw [if_pos (by omega)] | rw [if_neg (by omega)])
  have p19 := df h17
  refine cw_seq (cw_region (ol rfl (lo_fieldAddr rfl fl42_6) (ol rfl (lo_load1 (i := 0) (v := .int _ _) rfl ag5 rfl rfl) (ol rfl (lo_gtr rfl rfl) (oab rfl rfl ?_)))))
  refine ow_nil (seqK_n (cw_cond rfl (fun h20 => ?_) (fun h20 => ?_)))
  · have p21 := dt h20
    refine cw_seq (cw_region (oai rfl rfl (ow_nil (seqK_n (cw_ret ?_)))))
    refine blkK_r (seqK_r (fnK_r (res1 rfl (rv_t (v := .int _ _) rfl)) (.refl _) (congrArg (Value.int .i64) ?_)))
    unfold mailC
    repeat (first | rw [if_pos (by omega)] | rw [if_neg (by omega)])
  have p22 := df h20
  refine cw_skip (blkK_n (seqK_n (cw_seq (cw_region (oai rfl rfl ?_)))))
  refine ow_nil (seqK_n (cw_ret (fnK_r (res1 rfl (rv_t (v := .int _ _) rfl)) (.refl _) (congrArg (Value.int .i64) ?_))))
  unfold mailC
  repeat (first | rw [if_pos (by omega)] | rw [if_neg (by omega)])
theorem mail_Bytes (H : Hp) (m : Mail) (m_head_a : Option Addr) (m_head_c : Nat) (m_head_h : SlH pairE 4 H (.slice m_head_a m.head.length m_head_c) m.head) (m_w : Mail.wf m) (hML : GInt H 2) : Pr Tryz.prog 102 #[.agg (Mail.cells m m_head_a m_head_c).toArray] H (.tuple #[str (mailBytes m), .int .i64 (mailC m)]) := by
  refine pr_cw Tryz.func102 rfl Tryz.ntmps102 rfl (fun N => ?_)
  have m_w' := m_w
  simp only [Mail.wf] at m_w'
  refine cw_seq (cw_region (ow1 (op1_box (cs := [_, _, _, _, _, _, _]) 0 rfl rfl (fun b1 => ?_))))
  refine ol rfl (lo_assign (v := str _) rfl) (oai rfl rfl (ow_nil (seqK_n (cw_seq (cw_seq ?_)))))
  refine cw_region (ol rfl (lo_loadA (i := 0) (vs := [_, _, _, _, _, _, _]) rfl ag42 sz42 rfl rfl rfl) ?_)
  refine ow1 (op1_pr (mail_Check _ m m_head_a m_head_c m_head_h m_w hML) (en_f cb147 rfl) rfl ?_)
  have := mailC_r m
  have hmo1 := fun h => mailC_ok (m := m) h
  refine oai rfl rfl (ow_nil (seqK_n (cw_seq (cw_region (omi rfl rfl ?_)))))
  refine ol rfl (lo_neq rfl rfl) (ow_nil (seqK_n (cw_cond rfl (fun h2 => ?_) (fun h2 => ?_))))
  · have h3 := not_t h2
    have p4 := df h3
    refine cw_seq (cw_region (omi rfl rfl (ol rfl (lo_assign (v := str _) rfl) (oai rfl rfl (ow_nil ?_)))))
    refine seqK_n (cw_ret (seqK_r (fnK_r (res2 rfl (rv_t (v := str _) rfl) (rv_t (v := .int _ _) rfl)) (.refl _) ?_)))
    simp [mailBytes, mailOut, *]
  have h5 := not_f h2
  have p6 := dt h5
  refine cw_skip (seqK_n (cw_seq (cw_region (ol rfl (lo_fieldAddr rfl fl42_3) (ol rfl (lo_load1 (i := 0) (v := .slice _ _ _) rfl ag40 rfl rfl) ?_)))))
  refine ow1 (op1_pr (head_Bytes _ m_head_a m.head.length m_head_c m.head m_head_h (by first | omega | (simp <;> omega))) (en_f cb88 rfl) rfl ?_)
  have := headBytes_len m.head
  refine ol rfl (lo_move (v := .tuple #[_, _]) rfl) (ol rfl (lo_extract (v := str _) rfl rfl) (ol rfl (lo_extract (v := .int _ _) rfl rfl) (ol rfl (lo_assign (v := str _) rfl) (oai rfl rfl (ow_nil ?_)))))
  refine seqK_n (cw_seq (cw_anyL mixd (vw_q 0 rfl (by kernel_rfl) (by repeat (first | exact lle_l0 | exact LLe.refl _ | exact lle_none | refine lle_up ?_ rfl)) (fun _ _ hh hl => lo_build (v := .agg #[_, _]) rfl (bd157)) ?_)))
  refine vw_q 1 rfl (by kernel_rfl) (by repeat (first | exact lle_l0 | exact LLe.refl _ | exact lle_none | refine lle_up ?_ rfl)) (fun _ _ hh hl => lo_fieldAddr rfl fl42_0) ?_
  refine vw_q 2 rfl (by kernel_rfl) (by repeat (first | exact lle_l0 | exact LLe.refl _ | exact lle_none | refine lle_up ?_ rfl)) (fun _ _ hh hl => lo_load1 (i := 0) (v := .int _ _) rfl ag39 (hl _ _ rfl) rfl) ?_
  have nl0 : (⟨[], 0⟩ : Out).s.length = 0 := rfl
  have := outNum_len (⟨[], 0⟩ : Out) m.id 8
  refine vw_qc 3 rfl (by kernel_rfl) (by repeat (first | exact lle_l0 | exact LLe.refl _ | exact lle_none | refine lle_up ?_ rfl)) (out_Num _ (⟨[], 0⟩ : Out) m.id (by omega) 8 (by omega) (by first | omega | (have := hrl (by assumption); omega) | (simp [outNum, outRaw, numB_len, numK] <;> omega) | (have := hrl (by assumption); simp [outNum, outRaw, numB_len, numK] <;> omega))) (en_f cb90 rfl) ?_
  refine vw_q 4 rfl (by kernel_rfl) (by repeat (first | exact lle_l0 | exact LLe.refl _ | exact lle_none | refine lle_up ?_ rfl)) (fun _ _ hh hl => lo_fieldAddr rfl fl42_1) ?_
  refine vw_q 5 rfl (by kernel_rfl) (by repeat (first | exact lle_l0 | exact LLe.refl _ | exact lle_none | refine lle_up ?_ rfl)) (fun _ _ hh hl => lo_load1 (i := 0) (v := str _) rfl ag9 (hl _ _ rfl) rfl) ?_
  have := outText_len (outNum (⟨[], 0⟩ : Out) m.id 8) m.shop
  refine vw_qc 6 rfl (by kernel_rfl) (by repeat (first | exact lle_l0 | exact LLe.refl _ | exact lle_none | refine lle_up ?_ rfl)) (out_Text _ (outNum (⟨[], 0⟩ : Out) m.id 8) m.shop (by first | omega | (have := hrl (by assumption); omega) | (simp [outNum, outRaw, numB_len, numK] <;> omega) | (have := hrl (by assumption); simp [outNum, outRaw, numB_len, numK] <;> omega))) (en_f cb87 rfl) ?_
  refine vw_q 7 rfl (by kernel_rfl) (by repeat (first | exact lle_l0 | exact LLe.refl _ | exact lle_none | refine lle_up ?_ rfl)) (fun _ _ hh hl => lo_fieldAddr rfl fl42_2) ?_
  refine vw_q 8 rfl (by kernel_rfl) (by repeat (first | exact lle_l0 | exact LLe.refl _ | exact lle_none | refine lle_up ?_ rfl)) (fun _ _ hh hl => lo_load1 (i := 0) (v := str _) rfl ag9 (hl _ _ rfl) rfl) ?_
  have := outText_len (outText (outNum (⟨[], 0⟩ : Out) m.id 8) m.shop) m.key
  refine vw_qc 9 rfl (by kernel_rfl) (by repeat (first | exact lle_l0 | exact LLe.refl _ | exact lle_none | refine lle_up ?_ rfl)) (out_Text _ (outText (outNum (⟨[], 0⟩ : Out) m.id 8) m.shop) m.key (by first | omega | (have := hrl (by assumption); omega) | (simp [outNum, outRaw, numB_len, numK] <;> omega) | (have := hrl (by assumption); simp [outNum, outRaw, numB_len, numK] <;> omega))) (en_f cb87 rfl) ?_
  refine vw_q 10 rfl (by kernel_rfl) (by repeat (first | exact lle_l0 | exact LLe.refl _ | exact lle_none | refine lle_up ?_ rfl)) (fun _ _ hh hl => lo_move (v := str _) rfl) ?_
  have := outRaw_len (outText (outText (outNum (⟨[], 0⟩ : Out) m.id 8) m.shop) m.key) (headBytes m.head)
  refine vw_qc 11 rfl (by kernel_rfl) (by repeat (first | exact lle_l0 | exact LLe.refl _ | exact lle_none | refine lle_up ?_ rfl)) (out_Raw _ (outText (outText (outNum (⟨[], 0⟩ : Out) m.id 8) m.shop) m.key) (headBytes m.head) (by first | omega | (have := hrl (by assumption); omega) | (simp [outNum, outRaw, numB_len, numK] <;> omega) | (have := hrl (by assumption); simp [outNum, outRaw, numB_len, numK] <;> omega))) (en_f cb89 rfl) ?_
  refine vw_q 12 rfl (by kernel_rfl) (by repeat (first | exact lle_l0 | exact LLe.refl _ | exact lle_none | refine lle_up ?_ rfl)) (fun _ _ hh hl => lo_fieldAddr rfl fl42_4) ?_
  refine vw_q 13 rfl (by kernel_rfl) (by repeat (first | exact lle_l0 | exact LLe.refl _ | exact lle_none | refine lle_up ?_ rfl)) (fun _ _ hh hl => lo_load1 (i := 0) (v := str _) rfl ag9 (hl _ _ rfl) rfl) ?_
  have := outText_len (outRaw (outText (outText (outNum (⟨[], 0⟩ : Out) m.id 8) m.shop) m.key) (headBytes m.head)) m.body
  refine vw_qc 14 rfl (by kernel_rfl) (by repeat (first | exact lle_l0 | exact LLe.refl _ | exact lle_none | refine lle_up ?_ rfl)) (out_Text _ (outRaw (outText (outText (outNum (⟨[], 0⟩ : Out) m.id 8) m.shop) m.key) (headBytes m.head)) m.body (by first | omega | (have := hrl (by assumption); omega) | (simp [outNum, outRaw, numB_len, numK] <;> omega) | (have := hrl (by assumption); simp [outNum, outRaw, numB_len, numK] <;> omega))) (en_f cb87 rfl) ?_
  refine vw_e 15 rfl (by kernel_rfl) (op1_alloc 1 rfl zr157 (fun b7 => ?_))
  refine ⟨⟨(.refl _), (by repeat (first | exact lle_l0 | exact LLe.refl _ | exact lle_none | refine lle_up ?_ rfl))⟩, ?_⟩
  refine vw_t 16 rfl (by kernel_rfl) (by kernel_rfl) (op1_storeAn (i := 1) (vs := [_, _]) [_, _] rfl rfl rfl sz157 rfl rfl rfl rfl ?_)
  refine vw_done (by kernel_rfl) (seqK_n (cw_seq (cw_anyL mixd (vw_q 0 rfl (by kernel_rfl) (by repeat (first | exact lle_l0 | exact LLe.refl _ | exact lle_none | refine lle_up ?_ rfl)) (fun _ _ hh hl => lo_loadA (i := 1) (vs := [_, _]) rfl ag157 sz157 (hl _ _ rfl) rfl rfl) ?_))))
  refine vw_q 1 rfl (by kernel_rfl) (by repeat (first | exact lle_l0 | exact LLe.refl _ | exact lle_none | refine lle_up ?_ rfl)) (fun _ _ hh hl => lo_fieldAddr rfl fl42_5) ?_
  refine vw_q 2 rfl (by kernel_rfl) (by repeat (first | exact lle_l0 | exact LLe.refl _ | exact lle_none | refine lle_up ?_ rfl)) (fun _ _ hh hl => lo_load1 (i := 0) (v := .int _ _) rfl ag39 (hl _ _ rfl) rfl) ?_
  have := outNum_len (outText (outRaw (outText (outText (outNum (⟨[], 0⟩ : Out) m.id 8) m.shop) m.key) (headBytes m.head)) m.body) m.due 8
  refine vw_qc 3 rfl (by kernel_rfl) (by repeat (first | exact lle_l0 | exact LLe.refl _ | exact lle_none | refine lle_up ?_ rfl)) (out_Num _ (outText (outRaw (outText (outText (outNum (⟨[], 0⟩ : Out) m.id 8) m.shop) m.key) (headBytes m.head)) m.body) m.due (by omega) 8 (by omega) (by first | omega | (have := hrl (by assumption); omega) | (simp [outNum, outRaw, numB_len, numK] <;> omega) | (have := hrl (by assumption); simp [outNum, outRaw, numB_len, numK] <;> omega))) (en_f cb90 rfl) ?_
  refine vw_q 4 rfl (by kernel_rfl) (by repeat (first | exact lle_l0 | exact LLe.refl _ | exact lle_none | refine lle_up ?_ rfl)) (fun _ _ hh hl => lo_fieldAddr rfl fl42_6) ?_
  refine vw_q 5 rfl (by kernel_rfl) (by repeat (first | exact lle_l0 | exact LLe.refl _ | exact lle_none | refine lle_up ?_ rfl)) (fun _ _ hh hl => lo_load1 (i := 0) (v := .int _ _) rfl ag5 (hl _ _ rfl) rfl) ?_
  refine vw_q 6 rfl (by kernel_rfl) (by repeat (first | exact lle_l0 | exact LLe.refl _ | exact lle_none | refine lle_up ?_ rfl)) (fun _ _ hh hl => lo_conv_in rfl (by rw [Tryz.underlying5]; rfl) Tryz.underlying39 (rg_u64 (by omega))) ?_
  have := outNum_len (outNum (outText (outRaw (outText (outText (outNum (⟨[], 0⟩ : Out) m.id 8) m.shop) m.key) (headBytes m.head)) m.body) m.due 8) m.hops 1
  refine vw_qc 7 rfl (by kernel_rfl) (by repeat (first | exact lle_l0 | exact LLe.refl _ | exact lle_none | refine lle_up ?_ rfl)) (out_Num _ (outNum (outText (outRaw (outText (outText (outNum (⟨[], 0⟩ : Out) m.id 8) m.shop) m.key) (headBytes m.head)) m.body) m.due 8) m.hops (by omega) 1 (by omega) (by first | omega | (have := hrl (by assumption); omega) | (simp [outNum, outRaw, numB_len, numK] <;> omega) | (have := hrl (by assumption); simp [outNum, outRaw, numB_len, numK] <;> omega))) (en_f cb90 rfl) ?_
  refine vw_qc 8 rfl (by kernel_rfl) (by repeat (first | exact lle_l0 | exact LLe.refl _ | exact lle_none | refine lle_up ?_ rfl)) (out_String _ (outNum (outNum (outText (outRaw (outText (outText (outNum (⟨[], 0⟩ : Out) m.id 8) m.shop) m.key) (headBytes m.head)) m.body) m.due 8) m.hops 1)) (en_f cb91 rfl) ?_
  refine vw_q 9 rfl (by kernel_rfl) (by repeat (first | exact lle_l0 | exact LLe.refl _ | exact lle_none | refine lle_up ?_ rfl)) (fun _ _ hh hl => lo_assign (v := str _) rfl) ?_
  refine vw_q 10 rfl (by kernel_rfl) (by repeat (first | exact lle_l0 | exact LLe.refl _ | exact lle_none | refine lle_up ?_ rfl)) (fun _ _ hh hl => lo_assign (v := .int _ _) rfl) ?_
  refine vw_done (by kernel_rfl) (seqK_n (cw_ret (fnK_r (res2 rfl (rv_t (v := str _) rfl) (rv_t (v := .int _ _) rfl)) (.refl _) ?_)))
  simp [mailBytes, mailOut, *]
theorem l13_awake (H : Hp)  (hML : GInt H 2) : Pr Tryz.prog 104 #[] H (.bool true) := by
  refine pr_cw Tryz.func104 rfl Tryz.ntmps104 rfl (fun N => ?_)
  refine cw_seq (cw_region (oab rfl rfl (ow_nil (seqK_n (cw_seq ?_)))))
  refine cw_region (ol rfl (lo_build (v := .agg #[_, _, _, _, _, _, _]) rfl (bd42_1s _)) ?_)
  refine ow1 (op1_pr (mail_Bytes _ (⟨0, [97], [], [], [], 0, 0⟩ : Mail) none 0 slh_nil (by simp only [Mail.wf]; first | omega | (simp; done) | (simp; omega)) hML) (en_f cb102 rfl) rfl ?_)
  refine ol rfl (lo_move (v := .tuple #[_, _]) rfl) (ol rfl (lo_extract (v := str _) rfl rfl) (ol rfl (lo_extract (v := .int _ _) rfl rfl) (ol rfl (lo_assign (v := str _) rfl) (oai rfl rfl (ow_nil ?_)))))
  refine seqK_n (cw_seq (cw_region ?_))
  refine ow1 (op1_pr (l09_Awake _ hML) (en_f cb65 rfl) rfl ?_)
  refine omb rfl rfl ?_
  refine ow1 (op1_g rfl rfl rfl (lo_move (v := .int _ _) rfl) ?_)
  refine ow1 (op1_g rfl rfl rfl (lo_eql rfl rfl) ?_)
  refine ol rfl (lo_pick_t (v := .bool _) rfl rfl rfl) (omb rfl rfl ?_)
  refine ow1 (op1_g rfl (by decide +kernel) rfl (lo_move (v := str _) rfl) ?_)
  refine ow1 (op1_g rfl (by decide +kernel) rfl (lo_len_str rfl Tryz.underlying9) ?_)
  refine ow1 (op1_g rfl (by decide +kernel) rfl (lo_eql rfl rfl) ?_)
  refine ol rfl (lo_pick_t (v := .bool _) rfl (by decide +kernel) rfl) (oab rfl rfl (ow_nil (seqK_n (cw_ret (fnK_r (res1 rfl (rv_t (v := .bool _) rfl)) (.refl _) ?_)))))
  exact congrArg Value.bool (by decide +kernel)
theorem l13_Awake (H : Hp)  (hML : GInt H 2) : Pr Tryz.prog 46 #[] H (.bool true) := by
  refine pr_cw Tryz.func46 rfl Tryz.ntmps46 rfl (fun N => ?_)
  refine cw_seq (cw_region (oab rfl rfl (ow_nil (seqK_n (cw_seq ?_)))))
  refine cw_region ?_
  refine ow1 (op1_pr (l13_awake _ hML) (en_f cb104 rfl) rfl ?_)
  refine oab rfl rfl (ow_nil (seqK_n (cw_ret (fnK_r (res1 rfl (rv_t (v := .bool _) rfl)) (.refl _) ?_))))
  rfl
end Go.SW
set_option linter.unusedVariables false
set_option maxRecDepth 100000
set_option maxHeartbeats 4000000
namespace Go.SW
open Go.Proofs
theorem deed_maybe (H : Hp) (s : Bs) (hs : s.length ≤ 9223372036854775807) : Pr Tryz.prog 146 #[str s] H (.int .i64 (maybeE s)) := by
  refine pr_cw Tryz.func146 rfl Tryz.ntmps146 rfl (fun N => ?_)
  refine cw_seq (cw_region (oai rfl rfl (ow_nil (seqK_n (cw_seq ?_)))))
  refine cw_seq (cw_region (ol rfl (lo_move (v := str _) rfl) (ol rfl (lo_seql rfl rfl) (ow_nil (seqK_n ?_)))))
  refine cw_cond rfl (fun h1 => ?_) (fun h1 => ?_)
  · have p2 := dt h1
    refine cw_seq (cw_region (oai rfl rfl (ow_nil (seqK_n (cw_ret ?_)))))
    refine seqK_r (fnK_r (res1 rfl (rv_t (v := .int _ _) rfl)) (.refl _) ?_)
    simp [maybeE, *]
  have p3 := df h1
  refine cw_skip (seqK_n (cw_seq (cw_region (ol rfl (lo_move (v := str _) rfl) ?_))))
  refine ow1 (op1_pr (words_Name _ s (by first | omega | decide | (simp; done))) (en_f cb131 rfl) rfl ?_)
  refine oai rfl rfl (ow_nil (seqK_n (cw_ret (fnK_r (res1 rfl (rv_t (v := .int _ _) rfl)) (.refl _) ?_))))
  simp [maybeE, *]
theorem deed_bound (H : Hp) (b : Bool) (e : Int) (e_r : -9223372036854775808 ≤ e ∧ e ≤ 9223372036854775807) : Pr Tryz.prog 145 #[.bool b, .int .i64 e] H (.int .i64 (boundE b e)) := by
  refine pr_cw Tryz.func145 rfl Tryz.ntmps145 rfl (fun N => ?_)
  refine cw_seq (cw_region (oai rfl rfl (ow_nil (seqK_n (cw_seq ?_)))))
  refine cw_seq (cw_region (omb rfl rfl (ow_nil (seqK_n (cw_cond rfl (fun h1 => ?_) (fun h1 => ?_))))))
  · refine cw_seq (cw_region (omi rfl rfl (oai rfl rfl (ow_nil (seqK_n ?_)))))
    refine cw_ret (seqK_r (fnK_r (res1 rfl (rv_t (v := .int _ _) rfl)) (.refl _) ?_))
    simp [boundE, *]
  refine cw_skip (seqK_n (cw_seq (cw_region (oai rfl rfl (ow_nil ?_)))))
  refine seqK_n (cw_ret (fnK_r (res1 rfl (rv_t (v := .int _ _) rfl)) (.refl _) ?_))
  simp [boundE, *]
theorem deed_bit (H : Hp) (yes : Bool) : Pr Tryz.prog 103 #[.bool yes] H (.int .u64 (bitN yes)) := by
  refine pr_cw Tryz.func103 rfl Tryz.ntmps103 rfl (fun N => ?_)
  refine cw_seq (cw_region (oai rfl rfl (ow_nil (seqK_n (cw_seq ?_)))))
  refine cw_seq (cw_region (omb rfl rfl (ow_nil (seqK_n (cw_cond rfl (fun h1 => ?_) (fun h1 => ?_))))))
  · refine cw_seq (cw_region (oai rfl rfl (ow_nil (seqK_n (cw_ret ?_)))))
    refine seqK_r (fnK_r (res1 rfl (rv_t (v := .int _ _) rfl)) (.refl _) ?_)
    simp [bitN, *]
  refine cw_skip (seqK_n (cw_seq (cw_region (oai rfl rfl (ow_nil ?_)))))
  refine seqK_n (cw_ret (fnK_r (res1 rfl (rv_t (v := .int _ _) rfl)) (.refl _) ?_))
  simp [bitN, *]
end Go.SW
set_option linter.unusedVariables false
set_option maxRecDepth 100000
set_option maxHeartbeats 4000000
namespace Go.SW
open Go.Proofs
theorem ag100 : Ag Tryz.prog 100 true := fun w => by kernel_rfl
theorem ag102 : Ag Tryz.prog 102 true := fun w => by kernel_rfl
theorem ag104 : Ag Tryz.prog 104 true := fun w => by kernel_rfl
theorem cb174 : Callable Tryz.prog 174 := callable_of Tryz.func174 (by kernel_rfl) (by kernel_rfl)
theorem cb175 : Callable Tryz.prog 175 := callable_of Tryz.func175 (by kernel_rfl) (by kernel_rfl)
theorem eqr100 (p q : ShopR) (d : Nat) : EqV Tryz.prog (d + 1 + 1) 100 (.agg (ShopR.cells p).toArray) (.agg (ShopR.cells q).toArray) (decide (p = q)) :=
  EqV.to (eqv_agg Tryz.underlying100 (by kernel_rfl) (eqf_1 (by decide) ag9 rfl rfl (eqv_str Tryz.underlying9) (eqf_1 (by decide) ag5 rfl rfl (eqv_int Tryz.underlying5) (eqf_1 (by decide) ag9 rfl rfl (eqv_str Tryz.underlying9) eqf_nil)))) (by obtain ⟨a0, a1, a2⟩ := p; obtain ⟨b0, b1, b2⟩ := q; rw [Bool.eq_iff_iff]; simp)
theorem eqg100 : Tryz.prog.eqGuardType Tryz.prog.depth 100 = false := by kernel_rfl
theorem eqr102 (p q : QueueR) (d : Nat) : EqV Tryz.prog (d + 1 + 1) 102 (.agg (QueueR.cells p).toArray) (.agg (QueueR.cells q).toArray) (decide (p = q)) :=
  EqV.to (eqv_agg Tryz.underlying102 (by kernel_rfl) (eqf_1 (by decide) ag9 rfl rfl (eqv_str Tryz.underlying9) (eqf_1 (by decide) ag39 rfl rfl (eqv_int Tryz.underlying39) (eqf_1 (by decide) ag39 rfl rfl (eqv_int Tryz.underlying39) (eqf_1 (by decide) ag9 rfl rfl (eqv_str Tryz.underlying9) eqf_nil))))) (by obtain ⟨a0, a1, a2, a3⟩ := p; obtain ⟨b0, b1, b2, b3⟩ := q; rw [Bool.eq_iff_iff]; simp)
theorem eqg102 : Tryz.prog.eqGuardType Tryz.prog.depth 102 = false := by kernel_rfl
theorem fl104_0 : Fld Tryz.prog 104 0 0 := fun b o w => by kernel_rfl
theorem fl104_1 : Fld Tryz.prog 104 1 1 := fun b o w => by kernel_rfl
theorem fl104_2 : Fld Tryz.prog 104 2 2 := fun b o w => by kernel_rfl
theorem fl104_3 : Fld Tryz.prog 104 3 3 := fun b o w => by kernel_rfl
theorem fl104_4 : Fld Tryz.prog 104 4 4 := fun b o w => by kernel_rfl
theorem fl104_5 : Fld Tryz.prog 104 5 5 := fun b o w => by kernel_rfl
theorem fl106_0 : Fld Tryz.prog 106 0 0 := fun b o w => by kernel_rfl
theorem fl106_1 : Fld Tryz.prog 106 1 1 := fun b o w => by kernel_rfl
theorem fl106_10 : Fld Tryz.prog 106 10 20 := fun b o w => by kernel_rfl
theorem fl106_11 : Fld Tryz.prog 106 11 21 := fun b o w => by kernel_rfl
theorem fl106_12 : Fld Tryz.prog 106 12 28 := fun b o w => by kernel_rfl
theorem fl106_2 : Fld Tryz.prog 106 2 2 := fun b o w => by kernel_rfl
theorem fl106_3 : Fld Tryz.prog 106 3 5 := fun b o w => by kernel_rfl
theorem fl106_4 : Fld Tryz.prog 106 4 9 := fun b o w => by kernel_rfl
theorem fl106_5 : Fld Tryz.prog 106 5 15 := fun b o w => by kernel_rfl
theorem fl106_6 : Fld Tryz.prog 106 6 16 := fun b o w => by kernel_rfl
theorem fl106_7 : Fld Tryz.prog 106 7 17 := fun b o w => by kernel_rfl
theorem fl106_8 : Fld Tryz.prog 106 8 18 := fun b o w => by kernel_rfl
theorem fl106_9 : Fld Tryz.prog 106 9 19 := fun b o w => by kernel_rfl
theorem sz100 : Sz Tryz.prog 100 3 := fun w => by kernel_rfl
theorem sz102 : Sz Tryz.prog 102 4 := fun w => by kernel_rfl
theorem sz104 : Sz Tryz.prog 104 6 := fun w => by kernel_rfl
theorem deed_sameBind (H : Hp) (a : BindR) (a_want_a : Option Addr) (a_want_c : Nat) (a_want_h : SlH pairE 4 H (.slice a_want_a a.want.length a_want_c) a.want) (a_w : BindR.wf a) (b : BindR) (b_want_a : Option Addr) (b_want_c : Nat) (b_want_h : SlH pairE 4 H (.slice b_want_a b.want.length b_want_c) b.want) (b_w : BindR.wf b) : Pr Tryz.prog 174 #[.agg (BindR.cells a a_want_a a_want_c).toArray, .agg (BindR.cells b b_want_a b_want_c).toArray] H (.bool (decide (a = b))) := by
  refine pr_cw Tryz.func174 rfl Tryz.ntmps174 rfl (fun N => ?_)
  have a_w' := a_w
  simp only [BindR.wf] at a_w'
  have b_w' := b_w
  simp only [BindR.wf] at b_w'
  refine cw_seq (cw_region (ow1 (op1_box (cs := [_, _, _, _, _, _]) 0 rfl rfl (fun b1 => ?_))))
  refine ow1 (op1_box (cs := [_, _, _, _, _, _]) 1 rfl rfl (fun b2 => ?_))
  refine oab rfl rfl (ow_nil (seqK_n (cw_seq (cw_region (ol rfl (lo_fieldAddr rfl fl104_0) ?_)))))
  refine ol rfl (lo_load1 (i := 0) (v := str _) rfl ag9 rfl rfl) (ol rfl (lo_fieldAddr rfl fl104_0) (ol rfl (lo_load1 (i := 1) (v := str _) rfl ag9 rfl rfl) (ol rfl (lo_seql rfl rfl) (omb rfl rfl (gqt rfl rfl (fun hc => lo_fieldAddr rfl fl104_1) ?_)))))
  refine gqt rfl rfl (fun hc => lo_load1 (i := 0) (v := str _) (gvE rfl hc) ag9 rfl rfl) (gqt rfl rfl (fun hc => lo_fieldAddr rfl fl104_1) (gqt rfl rfl (fun hc => lo_load1 (i := 1) (v := str _) (gvE rfl hc) ag9 rfl rfl) (gqt rfl rfl (fun hc => lo_seql (gvE rfl hc) (gvE rfl hc)) (ol rfl (lo_pick_and rfl rfl rfl rfl) (omb rfl rfl ?_)))))
  refine gqt rfl rfl (fun hc => lo_fieldAddr rfl fl104_2) (gqt rfl rfl (fun hc => lo_load1 (i := 0) (v := .bool _) (gvE rfl hc) ag4 rfl rfl) (gqt rfl rfl (fun hc => lo_fieldAddr rfl fl104_2) (gqt rfl rfl (fun hc => lo_load1 (i := 1) (v := .bool _) (gvE rfl hc) ag4 rfl rfl) (gqt rfl rfl (fun hc => lo_beql (gvE rfl hc) (gvE rfl hc) Tryz.underlying4) (ol rfl (lo_pick_and rfl rfl rfl rfl) ?_)))))
  refine omb rfl rfl (gqt rfl rfl (fun hc => lo_fieldAddr rfl fl104_3) (gqt rfl rfl (fun hc => lo_load1 (i := 0) (v := str _) (gvE rfl hc) ag9 rfl rfl) (gqt rfl rfl (fun hc => lo_fieldAddr rfl fl104_3) (gqt rfl rfl (fun hc => lo_load1 (i := 1) (v := str _) (gvE rfl hc) ag9 rfl rfl) (gqt rfl rfl (fun hc => lo_seql (gvE rfl hc) (gvE rfl hc)) ?_)))))
  refine ol rfl (lo_pick_and rfl rfl rfl rfl) (omb rfl rfl (gqt rfl rfl (fun hc => lo_fieldAddr rfl fl104_4) (gqt rfl rfl (fun hc => lo_load1 (i := 0) (v := .slice _ _ _) (gvE rfl hc) ag40 rfl rfl) (gqt rfl rfl (fun hc => lo_fieldAddr rfl fl104_4) (gqt rfl rfl (fun hc => lo_load1 (i := 1) (v := .slice _ _ _) (gvE rfl hc) ag40 rfl rfl) ?_)))))
  refine gpt rfl (fun hc => (head_Same _ a_want_a a.want.length a_want_c a.want a_want_h b_want_a b.want.length b_want_c b.want b_want_h (by first | omega | (simp <;> omega)))) (fun hc => (en_f cb97 (evs1 (gvE rfl hc) (evs1 (gvE rfl hc) rfl)))) rfl (ol rfl (lo_pick_and rfl rfl rfl rfl) (omb rfl rfl (gqt rfl rfl (fun hc => lo_fieldAddr rfl fl104_5) (gqt rfl rfl (fun hc => lo_load1 (i := 0) (v := .bool _) (gvE rfl hc) ag4 rfl rfl) (gqt rfl rfl (fun hc => lo_fieldAddr rfl fl104_5) ?_)))))
  refine gqt rfl rfl (fun hc => lo_load1 (i := 1) (v := .bool _) (gvE rfl hc) ag4 rfl rfl) (gqt rfl rfl (fun hc => lo_beql (gvE rfl hc) (gvE rfl hc) Tryz.underlying4) (ol rfl (lo_pick_and rfl rfl rfl rfl) (oab rfl rfl (ow_nil (seqK_n ?_)))))
  refine cw_ret (fnK_r (res1 rfl (rv_t (v := .bool _) rfl)) (.refl _) ?_)
  exact congrArg Value.bool (by rw [Bool.eq_iff_iff]; first | (simp [BindR.eq_iff, and_assoc]; done) | (simp [BindR.eq_iff]; grind))
theorem mail_Same (H : Hp) (a : Mail) (a_head_a : Option Addr) (a_head_c : Nat) (a_head_h : SlH pairE 4 H (.slice a_head_a a.head.length a_head_c) a.head) (a_w : Mail.wf a) (b : Mail) (b_head_a : Option Addr) (b_head_c : Nat) (b_head_h : SlH pairE 4 H (.slice b_head_a b.head.length b_head_c) b.head) (b_w : Mail.wf b) : Pr Tryz.prog 175 #[.agg (Mail.cells a a_head_a a_head_c).toArray, .agg (Mail.cells b b_head_a b_head_c).toArray] H (.bool (decide (a = b))) := by
  refine pr_cw Tryz.func175 rfl Tryz.ntmps175 rfl (fun N => ?_)
  have a_w' := a_w
  simp only [Mail.wf] at a_w'
  have b_w' := b_w
  simp only [Mail.wf] at b_w'
  refine cw_seq (cw_region (ow1 (op1_box (cs := [_, _, _, _, _, _, _]) 0 rfl rfl (fun b1 => ?_))))
  refine ow1 (op1_box (cs := [_, _, _, _, _, _, _]) 1 rfl rfl (fun b2 => ?_))
  refine oab rfl rfl (ow_nil (seqK_n (cw_seq (cw_region (ol rfl (lo_fieldAddr rfl fl42_0) ?_)))))
  refine ol rfl (lo_load1 (i := 0) (v := .int _ _) rfl ag39 rfl rfl) (ol rfl (lo_fieldAddr rfl fl42_0) (ol rfl (lo_load1 (i := 1) (v := .int _ _) rfl ag39 rfl rfl) (ol rfl (lo_eql rfl rfl) (omb rfl rfl (gqt rfl rfl (fun hc => lo_fieldAddr rfl fl42_1) ?_)))))
  refine gqt rfl rfl (fun hc => lo_load1 (i := 0) (v := str _) (gvE rfl hc) ag9 rfl rfl) (gqt rfl rfl (fun hc => lo_fieldAddr rfl fl42_1) (gqt rfl rfl (fun hc => lo_load1 (i := 1) (v := str _) (gvE rfl hc) ag9 rfl rfl) (gqt rfl rfl (fun hc => lo_seql (gvE rfl hc) (gvE rfl hc)) (ol rfl (lo_pick_and rfl rfl rfl rfl) (omb rfl rfl ?_)))))
  refine gqt rfl rfl (fun hc => lo_fieldAddr rfl fl42_2) (gqt rfl rfl (fun hc => lo_load1 (i := 0) (v := str _) (gvE rfl hc) ag9 rfl rfl) (gqt rfl rfl (fun hc => lo_fieldAddr rfl fl42_2) (gqt rfl rfl (fun hc => lo_load1 (i := 1) (v := str _) (gvE rfl hc) ag9 rfl rfl) (gqt rfl rfl (fun hc => lo_seql (gvE rfl hc) (gvE rfl hc)) (ol rfl (lo_pick_and rfl rfl rfl rfl) ?_)))))
  refine omb rfl rfl (gqt rfl rfl (fun hc => lo_fieldAddr rfl fl42_3) (gqt rfl rfl (fun hc => lo_load1 (i := 0) (v := .slice _ _ _) (gvE rfl hc) ag40 rfl rfl) (gqt rfl rfl (fun hc => lo_fieldAddr rfl fl42_3) (gqt rfl rfl (fun hc => lo_load1 (i := 1) (v := .slice _ _ _) (gvE rfl hc) ag40 rfl rfl) (gpt rfl (fun hc => (head_Same _ a_head_a a.head.length a_head_c a.head a_head_h b_head_a b.head.length b_head_c b.head b_head_h (by first | omega | (simp <;> omega)))) (fun hc => (en_f cb97 (evs1 (gvE rfl hc) (evs1 (gvE rfl hc) rfl)))) rfl ?_)))))
  refine ol rfl (lo_pick_and rfl rfl rfl rfl) (omb rfl rfl (gqt rfl rfl (fun hc => lo_fieldAddr rfl fl42_4) (gqt rfl rfl (fun hc => lo_load1 (i := 0) (v := str _) (gvE rfl hc) ag9 rfl rfl) (gqt rfl rfl (fun hc => lo_fieldAddr rfl fl42_4) (gqt rfl rfl (fun hc => lo_load1 (i := 1) (v := str _) (gvE rfl hc) ag9 rfl rfl) ?_)))))
  refine gqt rfl rfl (fun hc => lo_seql (gvE rfl hc) (gvE rfl hc)) (ol rfl (lo_pick_and rfl rfl rfl rfl) (omb rfl rfl (gqt rfl rfl (fun hc => lo_fieldAddr rfl fl42_5) (gqt rfl rfl (fun hc => lo_load1 (i := 0) (v := .int _ _) (gvE rfl hc) ag39 rfl rfl) (gqt rfl rfl (fun hc => lo_fieldAddr rfl fl42_5) ?_)))))
  refine gqt rfl rfl (fun hc => lo_load1 (i := 1) (v := .int _ _) (gvE rfl hc) ag39 rfl rfl) (gqt rfl rfl (fun hc => lo_eql (gvE rfl hc) (gvE rfl hc)) (ol rfl (lo_pick_and rfl rfl rfl rfl) (omb rfl rfl (gqt rfl rfl (fun hc => lo_fieldAddr rfl fl42_6) (gqt rfl rfl (fun hc => lo_load1 (i := 0) (v := .int _ _) (gvE rfl hc) ag5 rfl rfl) ?_)))))
  refine gqt rfl rfl (fun hc => lo_fieldAddr rfl fl42_6) (gqt rfl rfl (fun hc => lo_load1 (i := 1) (v := .int _ _) (gvE rfl hc) ag5 rfl rfl) (gqt rfl rfl (fun hc => lo_eql (gvE rfl hc) (gvE rfl hc)) (ol rfl (lo_pick_and rfl rfl rfl rfl) (oab rfl rfl (ow_nil ?_)))))
  refine seqK_n (cw_ret (fnK_r (res1 rfl (rv_t (v := .bool _) rfl)) (.refl _) ?_))
  exact congrArg Value.bool (by rw [Bool.eq_iff_iff]; first | (simp [Mail.eq_iff, and_assoc]; done) | (simp [Mail.eq_iff]; grind))
theorem deed_Same (H : Hp) (a : DeedR) (a_bind_want_a : Option Addr) (a_bind_want_c : Nat) (a_bind_want_h : SlH pairE 4 H (.slice a_bind_want_a a.bind.want.length a_bind_want_c) a.bind.want) (a_mail_head_a : Option Addr) (a_mail_head_c : Nat) (a_mail_head_h : SlH pairE 4 H (.slice a_mail_head_a a.mail.head.length a_mail_head_c) a.mail.head) (a_w : DeedR.wf a) (b : DeedR) (b_bind_want_a : Option Addr) (b_bind_want_c : Nat) (b_bind_want_h : SlH pairE 4 H (.slice b_bind_want_a b.bind.want.length b_bind_want_c) b.bind.want) (b_mail_head_a : Option Addr) (b_mail_head_c : Nat) (b_mail_head_h : SlH pairE 4 H (.slice b_mail_head_a b.mail.head.length b_mail_head_c) b.mail.head) (b_w : DeedR.wf b) : Pr Tryz.prog 142 #[.agg (DeedR.cells a a_bind_want_a a_bind_want_c a_mail_head_a a_mail_head_c).toArray, .agg (DeedR.cells b b_bind_want_a b_bind_want_c b_mail_head_a b_mail_head_c).toArray] H (.bool (decide (a = b))) := by
  refine pr_cw Tryz.func142 rfl Tryz.ntmps142 rfl (fun N => ?_)
  have a_w' := a_w
  simp only [DeedR.wf, ShopR.wf, QueueR.wf, BindR.wf, Mail.wf] at a_w'
  have b_w' := b_w
  simp only [DeedR.wf, ShopR.wf, QueueR.wf, BindR.wf, Mail.wf] at b_w'
  refine cw_seq (cw_region (ow1 (op1_box (cs := [_, _, _, _, _, _, _, _, _, _, _, _, _, _, _, _, _, _, _, _, _, _, _, _, _, _, _, _, _]) 0 rfl rfl (fun b1 => ?_))))
  refine ow1 (op1_box (cs := [_, _, _, _, _, _, _, _, _, _, _, _, _, _, _, _, _, _, _, _, _, _, _, _, _, _, _, _, _]) 1 rfl rfl (fun b2 => ?_))
  refine oab rfl rfl (ow_nil (seqK_n (cw_seq (cw_region (ol rfl (lo_fieldAddr rfl fl106_0) ?_)))))
  refine ol rfl (lo_load1 (i := 0) (v := .int _ _) rfl ag5 rfl rfl) (ol rfl (lo_fieldAddr rfl fl106_0) (ol rfl (lo_load1 (i := 1) (v := .int _ _) rfl ag5 rfl rfl) (ol rfl (lo_eql rfl rfl) (omb rfl rfl (gqt rfl rfl (fun hc => lo_fieldAddr rfl fl106_1) ?_)))))
  refine gqt rfl rfl (fun hc => lo_load1 (i := 0) (v := .int _ _) (gvE rfl hc) ag39 rfl rfl) (gqt rfl rfl (fun hc => lo_fieldAddr rfl fl106_1) (gqt rfl rfl (fun hc => lo_load1 (i := 1) (v := .int _ _) (gvE rfl hc) ag39 rfl rfl) (gqt rfl rfl (fun hc => lo_eql (gvE rfl hc) (gvE rfl hc)) (ol rfl (lo_pick_and rfl rfl rfl rfl) (omb rfl rfl ?_)))))
  refine gqt rfl rfl (fun hc => lo_fieldAddr rfl fl106_2) (gqt rfl rfl (fun hc => lo_loadA (i := 0) (vs := [_, _, _]) (gvE rfl hc) ag100 sz100 rfl rfl rfl) (gqt rfl rfl (fun hc => lo_fieldAddr rfl fl106_2) (gqt rfl rfl (fun hc => lo_loadA (i := 1) (vs := [_, _, _]) (gvE rfl hc) ag100 sz100 rfl rfl rfl) (gqt rfl rfl (fun hc => lo_aeql (u := (ShopR.cells a.shop).toArray) (v := (ShopR.cells b.shop).toArray) (gvE rfl hc) (gvE rfl hc) eqg100 (eqr100 _ _ 9998)) (ol rfl (lo_pick_and rfl rfl rfl rfl) ?_)))))
  refine omb rfl rfl (gqt rfl rfl (fun hc => lo_fieldAddr rfl fl106_3) (gqt rfl rfl (fun hc => lo_loadA (i := 0) (vs := [_, _, _, _]) (gvE rfl hc) ag102 sz102 rfl rfl rfl) (gqt rfl rfl (fun hc => lo_fieldAddr rfl fl106_3) (gqt rfl rfl (fun hc => lo_loadA (i := 1) (vs := [_, _, _, _]) (gvE rfl hc) ag102 sz102 rfl rfl rfl) (gqt rfl rfl (fun hc => lo_aeql (u := (QueueR.cells a.queue).toArray) (v := (QueueR.cells b.queue).toArray) (gvE rfl hc) (gvE rfl hc) eqg102 (eqr102 _ _ 9998)) ?_)))))
  refine ol rfl (lo_pick_and rfl rfl rfl rfl) (omb rfl rfl (gqt rfl rfl (fun hc => lo_fieldAddr rfl fl106_4) (gqt rfl rfl (fun hc => lo_loadA (i := 0) (vs := [_, _, _, _, _, _]) (gvE rfl hc) ag104 sz104 rfl rfl rfl) (gqt rfl rfl (fun hc => lo_fieldAddr rfl fl106_4) (gqt rfl rfl (fun hc => lo_loadA (i := 1) (vs := [_, _, _, _, _, _]) (gvE rfl hc) ag104 sz104 rfl rfl rfl) ?_)))))
  refine gpt rfl (fun hc => (deed_sameBind _ a.bind a_bind_want_a a_bind_want_c a_bind_want_h (by simp only [BindR.wf]; first | omega | (simp; done) | (simp; omega)) b.bind b_bind_want_a b_bind_want_c b_bind_want_h (by simp only [BindR.wf]; first | omega | (simp; done) | (simp; omega)))) (fun hc => (en_f cb174 (evs1 (gvE rfl hc) (evs1 (gvE rfl hc) rfl)))) rfl (ol rfl (lo_pick_and rfl rfl rfl rfl) (omb rfl rfl (gqt rfl rfl (fun hc => lo_fieldAddr rfl fl106_5) (gqt rfl rfl (fun hc => lo_load1 (i := 0) (v := str _) (gvE rfl hc) ag9 rfl rfl) (gqt rfl rfl (fun hc => lo_fieldAddr rfl fl106_5) ?_)))))
  refine gqt rfl rfl (fun hc => lo_load1 (i := 1) (v := str _) (gvE rfl hc) ag9 rfl rfl) (gqt rfl rfl (fun hc => lo_seql (gvE rfl hc) (gvE rfl hc)) (ol rfl (lo_pick_and rfl rfl rfl rfl) (omb rfl rfl (gqt rfl rfl (fun hc => lo_fieldAddr rfl fl106_6) (gqt rfl rfl (fun hc => lo_load1 (i := 0) (v := .int _ _) (gvE rfl hc) ag39 rfl rfl) ?_)))))
  refine gqt rfl rfl (fun hc => lo_fieldAddr rfl fl106_6) (gqt rfl rfl (fun hc => lo_load1 (i := 1) (v := .int _ _) (gvE rfl hc) ag39 rfl rfl) (gqt rfl rfl (fun hc => lo_eql (gvE rfl hc) (gvE rfl hc)) (ol rfl (lo_pick_and rfl rfl rfl rfl) (omb rfl rfl (gqt rfl rfl (fun hc => lo_fieldAddr rfl fl106_7) ?_)))))
  refine gqt rfl rfl (fun hc => lo_load1 (i := 0) (v := .int _ _) (gvE rfl hc) ag5 rfl rfl) (gqt rfl rfl (fun hc => lo_fieldAddr rfl fl106_7) (gqt rfl rfl (fun hc => lo_load1 (i := 1) (v := .int _ _) (gvE rfl hc) ag5 rfl rfl) (gqt rfl rfl (fun hc => lo_eql (gvE rfl hc) (gvE rfl hc)) (ol rfl (lo_pick_and rfl rfl rfl rfl) (omb rfl rfl ?_)))))
  refine gqt rfl rfl (fun hc => lo_fieldAddr rfl fl106_8) (gqt rfl rfl (fun hc => lo_load1 (i := 0) (v := .int _ _) (gvE rfl hc) ag5 rfl rfl) (gqt rfl rfl (fun hc => lo_fieldAddr rfl fl106_8) (gqt rfl rfl (fun hc => lo_load1 (i := 1) (v := .int _ _) (gvE rfl hc) ag5 rfl rfl) (gqt rfl rfl (fun hc => lo_eql (gvE rfl hc) (gvE rfl hc)) (ol rfl (lo_pick_and rfl rfl rfl rfl) ?_)))))
  refine omb rfl rfl (gqt rfl rfl (fun hc => lo_fieldAddr rfl fl106_9) (gqt rfl rfl (fun hc => lo_load1 (i := 0) (v := .int _ _) (gvE rfl hc) ag5 rfl rfl) (gqt rfl rfl (fun hc => lo_fieldAddr rfl fl106_9) (gqt rfl rfl (fun hc => lo_load1 (i := 1) (v := .int _ _) (gvE rfl hc) ag5 rfl rfl) (gqt rfl rfl (fun hc => lo_eql (gvE rfl hc) (gvE rfl hc)) ?_)))))
  refine ol rfl (lo_pick_and rfl rfl rfl rfl) (omb rfl rfl (gqt rfl rfl (fun hc => lo_fieldAddr rfl fl106_10) (gqt rfl rfl (fun hc => lo_load1 (i := 0) (v := .int _ _) (gvE rfl hc) ag39 rfl rfl) (gqt rfl rfl (fun hc => lo_fieldAddr rfl fl106_10) (gqt rfl rfl (fun hc => lo_load1 (i := 1) (v := .int _ _) (gvE rfl hc) ag39 rfl rfl) ?_)))))
  refine gqt rfl rfl (fun hc => lo_eql (gvE rfl hc) (gvE rfl hc)) (ol rfl (lo_pick_and rfl rfl rfl rfl) (omb rfl rfl (gqt rfl rfl (fun hc => lo_fieldAddr rfl fl106_11) (gqt rfl rfl (fun hc => lo_loadA (i := 0) (vs := [_, _, _, _, _, _, _]) (gvE rfl hc) ag42 sz42 rfl rfl rfl) (gqt rfl rfl (fun hc => lo_fieldAddr rfl fl106_11) ?_)))))
  refine gqt rfl rfl (fun hc => lo_loadA (i := 1) (vs := [_, _, _, _, _, _, _]) (gvE rfl hc) ag42 sz42 rfl rfl rfl) (gpt rfl (fun hc => (mail_Same _ a.mail a_mail_head_a a_mail_head_c a_mail_head_h (by simp only [Mail.wf]; first | omega | (simp; done) | (simp; omega)) b.mail b_mail_head_a b_mail_head_c b_mail_head_h (by simp only [Mail.wf]; first | omega | (simp; done) | (simp; omega)))) (fun hc => (en_f cb175 (evs1 (gvE rfl hc) (evs1 (gvE rfl hc) rfl)))) rfl (ol rfl (lo_pick_and rfl rfl rfl rfl) (omb rfl rfl (gqt rfl rfl (fun hc => lo_fieldAddr rfl fl106_12) (gqt rfl rfl (fun hc => lo_load1 (i := 0) (v := str _) (gvE rfl hc) ag9 rfl rfl) ?_)))))
  refine gqt rfl rfl (fun hc => lo_fieldAddr rfl fl106_12) (gqt rfl rfl (fun hc => lo_load1 (i := 1) (v := str _) (gvE rfl hc) ag9 rfl rfl) (gqt rfl rfl (fun hc => lo_seql (gvE rfl hc) (gvE rfl hc)) (ol rfl (lo_pick_and rfl rfl rfl rfl) (oab rfl rfl (ow_nil ?_)))))
  refine seqK_n (cw_ret (fnK_r (res1 rfl (rv_t (v := .bool _) rfl)) (.refl _) ?_))
  exact congrArg Value.bool (by rw [Bool.eq_iff_iff]; first | (simp [DeedR.eq_iff, and_assoc]; done) | (simp [DeedR.eq_iff]; grind))
end Go.SW
set_option linter.unusedVariables false
set_option maxRecDepth 100000
set_option maxHeartbeats 4000000
namespace Go.SW
open Go.Proofs
theorem ag106 : Ag Tryz.prog 106 true := fun w => by kernel_rfl
theorem bd106_0u8_1u64 (a1 : Int) (a2 : Int) (w : World) : (Instr.build 106 #[(0, .int .u8 a1), (1, .int .u64 a2)]).run Tryz.prog w = .ok (.agg #[.int .u8 a1, .int .u64 a2, str [], .int .u8 0, str [], str [], .int .u64 0, .int .u64 0, str [], str [], str [], .bool false, str [], .slice none 0 0, .bool false, str [], .int .u64 0, .int .u8 0, .int .u8 0, .int .u8 0, .int .u64 0, .int .u64 0, str [], str [], .slice none 0 0, str [], .int .u64 0, .int .u8 0, str []]) w := by kernel_rfl
theorem sz106 : Sz Tryz.prog 106 29 := fun w => by kernel_rfl
theorem zr106 : Zr Tryz.prog 106 [.int .u8 0, .int .u64 0, str [], .int .u8 0, str [], str [], .int .u64 0, .int .u64 0, str [], str [], str [], .bool false, str [], .slice none 0 0, .bool false, str [], .int .u64 0, .int .u8 0, .int .u8 0, .int .u8 0, .int .u64 0, .int .u64 0, str [], str [], .slice none 0 0, str [], .int .u64 0, .int .u8 0, str []] := fun w => ⟨.agg #[.int .u8 0, .int .u64 0, str [], .int .u8 0, str [], str [], .int .u64 0, .int .u64 0, str [], str [], str [], .bool false, str [], .slice none 0 0, .bool false, str [], .int .u64 0, .int .u8 0, .int .u8 0, .int .u8 0, .int .u64 0, .int .u64 0, str [], str [], .slice none 0 0, str [], .int .u64 0, .int .u8 0, str []], by kernel_rfl, rfl⟩
theorem deed_told (H : Hp) (d : DeedR) (d_bind_want_a : Option Addr) (d_bind_want_c : Nat) (d_bind_want_h : SlH pairE 4 H (.slice d_bind_want_a d.bind.want.length d_bind_want_c) d.bind.want) (d_mail_head_a : Option Addr) (d_mail_head_c : Nat) (d_mail_head_h : SlH pairE 4 H (.slice d_mail_head_a d.mail.head.length d_mail_head_c) d.mail.head) (d_w : DeedR.wf d) : Ph Tryz.prog 143 #[.agg (DeedR.cells d d_bind_want_a d_bind_want_c d_mail_head_a d_mail_head_c).toArray] H (fun v H' => ∃ (a1 : Option Addr) (c1 : Nat) (a2 : Option Addr) (c2 : Nat), v = .agg (DeedR.cells (toldD d) a1 c1 a2 c2).toArray ∧ SlH pairE 4 H' (.slice a1 ((toldD d).bind.want).length c1) ((toldD d).bind.want) ∧ SlH pairE 4 H' (.slice a2 ((toldD d).mail.head).length c2) ((toldD d).mail.head)) := by
  refine ph_cw Tryz.func143 rfl Tryz.ntmps143 rfl (fun N => ?_)
  have d_w' := d_w
  simp only [DeedR.wf, ShopR.wf, QueueR.wf, BindR.wf, Mail.wf] at d_w'
  refine cw_seq (cw_region (ow1 (op1_box (cs := [_, _, _, _, _, _, _, _, _, _, _, _, _, _, _, _, _, _, _, _, _, _, _, _, _, _, _, _, _]) 0 rfl rfl (fun b1 => ?_))))
  refine ow1 (op1_alloc 1 rfl zr106 (fun b2 => ?_))
  refine ow_nil (seqK_n (cw_seq (cw_region (ol rfl (lo_fieldAddr rfl fl106_0) (ol rfl (lo_load1 (i := 0) (v := .int _ _) rfl ag5 rfl rfl) ?_)))))
  refine ol rfl (lo_fieldAddr rfl fl106_1) (ol rfl (lo_load1 (i := 0) (v := .int _ _) rfl ag39 rfl rfl) (ol rfl (lo_build (v := .agg #[_, _, _, _, _, _, _, _, _, _, _, _, _, _, _, _, _, _, _, _, _, _, _, _, _, _, _, _, _]) rfl (bd106_0u8_1u64 _ _)) (ow1 (op1_alloc 2 rfl zr106 (fun b3 => ?_)))))
  refine ow1 (op1_storeAll (i := 2) (vs := [_, _, _, _, _, _, _, _, _, _, _, _, _, _, _, _, _, _, _, _, _, _, _, _, _, _, _, _, _]) rfl rfl rfl sz106 rfl rfl rfl ?_)
  refine ow_nil (seqK_n (cw_seq (cw_seq (cw_region (ol rfl (lo_fieldAddr rfl fl106_0) ?_)))))
  refine ol rfl (lo_load1 (i := 0) (v := .int _ _) rfl ag5 rfl rfl) (ow_nil (seqK_n (cw_block (cw_seq (cw_region ?_)))))
  refine ol rfl (lo_eql rfl rfl) (oab rfl rfl (ow_nil (seqK_n (cw_cond rfl (fun h4 => ?_) (fun h4 => ?_)))))
  · have p5 := dt h4
    refine cw_region (ol rfl (lo_fieldAddr rfl fl106_2) (ol rfl (lo_loadA (i := 0) (vs := [_, _, _]) rfl ag100 sz100 rfl rfl rfl) (ol rfl (lo_fieldAddr rfl fl106_2) ?_)))
    refine ow1 (op1_storeAp (i := 2) (vs := [_, _, _]) [_, _, _, _, _, _, _, _, _, _, _, _, _, _, _, _, _, _, _, _, _, _, _, _, _, _, _, _, _] rfl rfl rfl sz100 rfl rfl rfl rfl ?_)
    refine ow_nil (blkK_n (seqK_n (cw_seq (cw_region (ol rfl (lo_loadA (i := 2) (vs := [_, _, _, _, _, _, _, _, _, _, _, _, _, _, _, _, _, _, _, _, _, _, _, _, _, _, _, _, _]) rfl ag106 sz106 rfl rfl rfl) ?_)))))
    refine ow1 (op1_storeAll (i := 1) (vs := [_, _, _, _, _, _, _, _, _, _, _, _, _, _, _, _, _, _, _, _, _, _, _, _, _, _, _, _, _]) rfl rfl rfl sz106 rfl rfl rfl ?_)
    refine ow_nil (seqK_n (cw_ret (fnK_r (res1 rfl (rv_c (i := 1) (vs := [_, _, _, _, _, _, _, _, _, _, _, _, _, _, _, _, _, _, _, _, _, _, _, _, _, _, _, _, _]) rfl ag106 sz106 rfl rfl rfl)) (.refl _) ?_)))
    have e : toldD d = (⟨d.kind, d.tick, d.shop, (⟨[], 0, 0, []⟩ : QueueR), (⟨[], [], false, [], [], false⟩ : BindR), [], 0, 0, 0, 0, 0, (⟨0, [], [], [], [], 0, 0⟩ : Mail), []⟩ : DeedR) := by
      unfold toldD
      repeat (first | rw [if_pos (by omega)] | rw [if_neg (by omega)])
      rfl
    rw [e]
    exact ⟨_, _, _, _, rfl, slh_nil, slh_nil⟩
  have p6 := df h4
  refine cw_seq (cw_region (ol rfl (lo_eql rfl rfl) (oab rfl rfl (ow_nil (seqK_n ?_)))))
  refine cw_cond rfl (fun h7 => ?_) (fun h7 => ?_)
  · have p8 := dt h7
    refine cw_region (ol rfl (lo_fieldAddr rfl fl106_3) (ol rfl (lo_loadA (i := 0) (vs := [_, _, _, _]) rfl ag102 sz102 rfl rfl rfl) (ol rfl (lo_fieldAddr rfl fl106_3) ?_)))
    refine ow1 (op1_storeAp (i := 2) (vs := [_, _, _, _]) [_, _, _, _, _, _, _, _, _, _, _, _, _, _, _, _, _, _, _, _, _, _, _, _, _, _, _, _, _] rfl rfl rfl sz102 rfl rfl rfl rfl ?_)
    refine ow_nil (blkK_n (seqK_n (cw_seq (cw_region (ol rfl (lo_loadA (i := 2) (vs := [_, _, _, _, _, _, _, _, _, _, _, _, _, _, _, _, _, _, _, _, _, _, _, _, _, _, _, _, _]) rfl ag106 sz106 rfl rfl rfl) ?_)))))
    refine ow1 (op1_storeAll (i := 1) (vs := [_, _, _, _, _, _, _, _, _, _, _, _, _, _, _, _, _, _, _, _, _, _, _, _, _, _, _, _, _]) rfl rfl rfl sz106 rfl rfl rfl ?_)
    refine ow_nil (seqK_n (cw_ret (fnK_r (res1 rfl (rv_c (i := 1) (vs := [_, _, _, _, _, _, _, _, _, _, _, _, _, _, _, _, _, _, _, _, _, _, _, _, _, _, _, _, _]) rfl ag106 sz106 rfl rfl rfl)) (.refl _) ?_)))
    have e : toldD d = (⟨d.kind, d.tick, (⟨[], 0, []⟩ : ShopR), d.queue, (⟨[], [], false, [], [], false⟩ : BindR), [], 0, 0, 0, 0, 0, (⟨0, [], [], [], [], 0, 0⟩ : Mail), []⟩ : DeedR) := by
      unfold toldD
      repeat (first | rw [if_pos (by omega)] | rw [if_neg (by omega)])
      rfl
    rw [e]
    exact ⟨_, _, _, _, rfl, slh_nil, slh_nil⟩
  have p9 := df h7
  refine cw_seq (cw_seq (cw_region (ol rfl (lo_eql rfl rfl) (oab rfl rfl (ow_nil ?_)))))
  refine seqK_n (cw_cond rfl (fun h10 => ?_) (fun h10 => ?_))
  · have p11 := dt h10
    refine cw_skip (seqK_n (cw_cond_t rfl h10 (cw_region (ol rfl (lo_fieldAddr rfl fl106_4) (ol rfl (lo_loadA (i := 0) (vs := [_, _, _, _, _, _]) rfl ag104 sz104 rfl rfl rfl) ?_)))))
    refine ol rfl (lo_fieldAddr rfl fl106_4) ?_
    refine ow1 (op1_storeAp (i := 2) (vs := [_, _, _, _, _, _]) [_, _, _, _, _, _, _, _, _, _, _, _, _, _, _, _, _, _, _, _, _, _, _, _, _, _, _, _, _] rfl rfl rfl sz104 rfl rfl rfl rfl ?_)
    refine ow_nil (blkK_n (seqK_n (cw_seq (cw_region (ol rfl (lo_loadA (i := 2) (vs := [_, _, _, _, _, _, _, _, _, _, _, _, _, _, _, _, _, _, _, _, _, _, _, _, _, _, _, _, _]) rfl ag106 sz106 rfl rfl rfl) ?_)))))
    refine ow1 (op1_storeAll (i := 1) (vs := [_, _, _, _, _, _, _, _, _, _, _, _, _, _, _, _, _, _, _, _, _, _, _, _, _, _, _, _, _]) rfl rfl rfl sz106 rfl rfl rfl ?_)
    refine ow_nil (seqK_n (cw_ret (fnK_r (res1 rfl (rv_c (i := 1) (vs := [_, _, _, _, _, _, _, _, _, _, _, _, _, _, _, _, _, _, _, _, _, _, _, _, _, _, _, _, _]) rfl ag106 sz106 rfl rfl rfl)) (.refl _) ?_)))
    have e : toldD d = (⟨d.kind, d.tick, (⟨[], 0, []⟩ : ShopR), (⟨[], 0, 0, []⟩ : QueueR), d.bind, [], 0, 0, 0, 0, 0, (⟨0, [], [], [], [], 0, 0⟩ : Mail), []⟩ : DeedR) := by
      unfold toldD
      repeat (first | rw [if_pos (by omega)] | rw [if_neg (by omega)])
      rfl
    rw [e]
    exact ⟨_, _, _, _, rfl, d_bind_want_h, slh_nil⟩
  have p12 := df h10
  refine cw_region (ol rfl (lo_eql rfl rfl) (oab rfl rfl (ow_nil (seqK_n (cw_cond rfl (fun h13 => ?_) (fun h13 => ?_))))))
  · have p14 := dt h13
    refine cw_region (ol rfl (lo_fieldAddr rfl fl106_4) (ol rfl (lo_loadA (i := 0) (vs := [_, _, _, _, _, _]) rfl ag104 sz104 rfl rfl rfl) (ol rfl (lo_fieldAddr rfl fl106_4) ?_)))
    refine ow1 (op1_storeAp (i := 2) (vs := [_, _, _, _, _, _]) [_, _, _, _, _, _, _, _, _, _, _, _, _, _, _, _, _, _, _, _, _, _, _, _, _, _, _, _, _] rfl rfl rfl sz104 rfl rfl rfl rfl ?_)
    refine ow_nil (blkK_n (seqK_n (cw_seq (cw_region (ol rfl (lo_loadA (i := 2) (vs := [_, _, _, _, _, _, _, _, _, _, _, _, _, _, _, _, _, _, _, _, _, _, _, _, _, _, _, _, _]) rfl ag106 sz106 rfl rfl rfl) ?_)))))
    refine ow1 (op1_storeAll (i := 1) (vs := [_, _, _, _, _, _, _, _, _, _, _, _, _, _, _, _, _, _, _, _, _, _, _, _, _, _, _, _, _]) rfl rfl rfl sz106 rfl rfl rfl ?_)
    refine ow_nil (seqK_n (cw_ret (fnK_r (res1 rfl (rv_c (i := 1) (vs := [_, _, _, _, _, _, _, _, _, _, _, _, _, _, _, _, _, _, _, _, _, _, _, _, _, _, _, _, _]) rfl ag106 sz106 rfl rfl rfl)) (.refl _) ?_)))
    have e : toldD d = (⟨d.kind, d.tick, (⟨[], 0, []⟩ : ShopR), (⟨[], 0, 0, []⟩ : QueueR), d.bind, [], 0, 0, 0, 0, 0, (⟨0, [], [], [], [], 0, 0⟩ : Mail), []⟩ : DeedR) := by
      unfold toldD
      repeat (first | rw [if_pos (by omega)] | rw [if_neg (by omega)])
      rfl
    rw [e]
    exact ⟨_, _, _, _, rfl, d_bind_want_h, slh_nil⟩
  have p15 := df h13
  refine cw_seq (cw_region (ol rfl (lo_eql rfl rfl) (oab rfl rfl (ow_nil (seqK_n ?_)))))
  refine cw_cond rfl (fun h16 => ?_) (fun h16 => ?_)
  · have p17 := dt h16
    refine cw_region (ol rfl (lo_fieldAddr rfl fl106_11) (ol rfl (lo_loadA (i := 0) (vs := [_, _, _, _, _, _, _]) rfl ag42 sz42 rfl rfl rfl) (ol rfl (lo_fieldAddr rfl fl106_11) ?_)))
    refine ow1 (op1_storeAp (i := 2) (vs := [_, _, _, _, _, _, _]) [_, _, _, _, _, _, _, _, _, _, _, _, _, _, _, _, _, _, _, _, _, _, _, _, _, _, _, _, _] rfl rfl rfl sz42 rfl rfl rfl rfl ?_)
    refine ow_nil (blkK_n (seqK_n (cw_seq (cw_region (ol rfl (lo_loadA (i := 2) (vs := [_, _, _, _, _, _, _, _, _, _, _, _, _, _, _, _, _, _, _, _, _, _, _, _, _, _, _, _, _]) rfl ag106 sz106 rfl rfl rfl) ?_)))))
    refine ow1 (op1_storeAll (i := 1) (vs := [_, _, _, _, _, _, _, _, _, _, _, _, _, _, _, _, _, _, _, _, _, _, _, _, _, _, _, _, _]) rfl rfl rfl sz106 rfl rfl rfl ?_)
    refine ow_nil (seqK_n (cw_ret (fnK_r (res1 rfl (rv_c (i := 1) (vs := [_, _, _, _, _, _, _, _, _, _, _, _, _, _, _, _, _, _, _, _, _, _, _, _, _, _, _, _, _]) rfl ag106 sz106 rfl rfl rfl)) (.refl _) ?_)))
    have e : toldD d = (⟨d.kind, d.tick, (⟨[], 0, []⟩ : ShopR), (⟨[], 0, 0, []⟩ : QueueR), (⟨[], [], false, [], [], false⟩ : BindR), [], 0, 0, 0, 0, 0, d.mail, []⟩ : DeedR) := by
      unfold toldD
      repeat (first | rw [if_pos (by omega)] | rw [if_neg (by omega)])
      rfl
    rw [e]
    exact ⟨_, _, _, _, rfl, slh_nil, d_mail_head_h⟩
  have p18 := df h16
  refine cw_seq (cw_seq (cw_region (ol rfl (lo_eql rfl rfl) (oab rfl rfl (ow_nil ?_)))))
  refine seqK_n (cw_cond rfl (fun h19 => ?_) (fun h19 => ?_))
  · have p20 := dt h19
    refine cw_skip (seqK_n (cw_cond_t rfl h19 (cw_region (ol rfl (lo_fieldAddr rfl fl106_5) (ol rfl (lo_load1 (i := 0) (v := str _) rfl ag9 rfl rfl) ?_)))))
    refine ol rfl (lo_fieldAddr rfl fl106_5) ?_
    refine ow1 (op1_store1n (i := 2) (v := str _) [_, _, _, _, _, _, _, _, _, _, _, _, _, _, _, _, _, _, _, _, _, _, _, _, _, _, _, _, _] rfl rfl rfl sz9 rfl rfl rfl ?_)
    refine ow_nil (blkK_n (seqK_n (cw_seq (cw_region (ol rfl (lo_loadA (i := 2) (vs := [_, _, _, _, _, _, _, _, _, _, _, _, _, _, _, _, _, _, _, _, _, _, _, _, _, _, _, _, _]) rfl ag106 sz106 rfl rfl rfl) ?_)))))
    refine ow1 (op1_storeAll (i := 1) (vs := [_, _, _, _, _, _, _, _, _, _, _, _, _, _, _, _, _, _, _, _, _, _, _, _, _, _, _, _, _]) rfl rfl rfl sz106 rfl rfl rfl ?_)
    refine ow_nil (seqK_n (cw_ret (fnK_r (res1 rfl (rv_c (i := 1) (vs := [_, _, _, _, _, _, _, _, _, _, _, _, _, _, _, _, _, _, _, _, _, _, _, _, _, _, _, _, _]) rfl ag106 sz106 rfl rfl rfl)) (.refl _) ?_)))
    have e : toldD d = (⟨d.kind, d.tick, (⟨[], 0, []⟩ : ShopR), (⟨[], 0, 0, []⟩ : QueueR), (⟨[], [], false, [], [], false⟩ : BindR), d.name, 0, 0, 0, 0, 0, (⟨0, [], [], [], [], 0, 0⟩ : Mail), []⟩ : DeedR) := by
      unfold toldD
      repeat (first | rw [if_pos (by omega)] | rw [if_neg (by omega)])
      rfl
    rw [e]
    exact ⟨_, _, _, _, rfl, slh_nil, slh_nil⟩
  have p21 := df h19
  refine cw_seq (cw_region (ol rfl (lo_eql rfl rfl) (oab rfl rfl (ow_nil (seqK_n ?_)))))
  refine cw_cond rfl (fun h22 => ?_) (fun h22 => ?_)
  · have p23 := dt h22
    refine cw_skip (seqK_n (cw_cond_t rfl h22 (cw_region (ol rfl (lo_fieldAddr rfl fl106_5) (ol rfl (lo_load1 (i := 0) (v := str _) rfl ag9 rfl rfl) ?_)))))
    refine ol rfl (lo_fieldAddr rfl fl106_5) ?_
    refine ow1 (op1_store1n (i := 2) (v := str _) [_, _, _, _, _, _, _, _, _, _, _, _, _, _, _, _, _, _, _, _, _, _, _, _, _, _, _, _, _] rfl rfl rfl sz9 rfl rfl rfl ?_)
    refine ow_nil (blkK_n (seqK_n (cw_seq (cw_region (ol rfl (lo_loadA (i := 2) (vs := [_, _, _, _, _, _, _, _, _, _, _, _, _, _, _, _, _, _, _, _, _, _, _, _, _, _, _, _, _]) rfl ag106 sz106 rfl rfl rfl) ?_)))))
    refine ow1 (op1_storeAll (i := 1) (vs := [_, _, _, _, _, _, _, _, _, _, _, _, _, _, _, _, _, _, _, _, _, _, _, _, _, _, _, _, _]) rfl rfl rfl sz106 rfl rfl rfl ?_)
    refine ow_nil (seqK_n (cw_ret (fnK_r (res1 rfl (rv_c (i := 1) (vs := [_, _, _, _, _, _, _, _, _, _, _, _, _, _, _, _, _, _, _, _, _, _, _, _, _, _, _, _, _]) rfl ag106 sz106 rfl rfl rfl)) (.refl _) ?_)))
    have e : toldD d = (⟨d.kind, d.tick, (⟨[], 0, []⟩ : ShopR), (⟨[], 0, 0, []⟩ : QueueR), (⟨[], [], false, [], [], false⟩ : BindR), d.name, 0, 0, 0, 0, 0, (⟨0, [], [], [], [], 0, 0⟩ : Mail), []⟩ : DeedR) := by
      unfold toldD
      repeat (first | rw [if_pos (by omega)] | rw [if_neg (by omega)])
      rfl
    rw [e]
    exact ⟨_, _, _, _, rfl, slh_nil, slh_nil⟩
  have p24 := df h22
  refine cw_region (ol rfl (lo_eql rfl rfl) (oab rfl rfl (ow_nil (seqK_n (cw_cond rfl (fun h25 => ?_) (fun h25 => ?_))))))
  · have p26 := dt h25
    refine cw_region (ol rfl (lo_fieldAddr rfl fl106_5) (ol rfl (lo_load1 (i := 0) (v := str _) rfl ag9 rfl rfl) (ol rfl (lo_fieldAddr rfl fl106_5) ?_)))
    refine ow1 (op1_store1n (i := 2) (v := str _) [_, _, _, _, _, _, _, _, _, _, _, _, _, _, _, _, _, _, _, _, _, _, _, _, _, _, _, _, _] rfl rfl rfl sz9 rfl rfl rfl ?_)
    refine ow_nil (blkK_n (seqK_n (cw_seq (cw_region (ol rfl (lo_loadA (i := 2) (vs := [_, _, _, _, _, _, _, _, _, _, _, _, _, _, _, _, _, _, _, _, _, _, _, _, _, _, _, _, _]) rfl ag106 sz106 rfl rfl rfl) ?_)))))
    refine ow1 (op1_storeAll (i := 1) (vs := [_, _, _, _, _, _, _, _, _, _, _, _, _, _, _, _, _, _, _, _, _, _, _, _, _, _, _, _, _]) rfl rfl rfl sz106 rfl rfl rfl ?_)
    refine ow_nil (seqK_n (cw_ret (fnK_r (res1 rfl (rv_c (i := 1) (vs := [_, _, _, _, _, _, _, _, _, _, _, _, _, _, _, _, _, _, _, _, _, _, _, _, _, _, _, _, _]) rfl ag106 sz106 rfl rfl rfl)) (.refl _) ?_)))
    have e : toldD d = (⟨d.kind, d.tick, (⟨[], 0, []⟩ : ShopR), (⟨[], 0, 0, []⟩ : QueueR), (⟨[], [], false, [], [], false⟩ : BindR), d.name, 0, 0, 0, 0, 0, (⟨0, [], [], [], [], 0, 0⟩ : Mail), []⟩ : DeedR) := by
      unfold toldD
      repeat (first | rw [if_pos (by omega)] | rw [if_neg (by omega)])
      rfl
    rw [e]
    exact ⟨_, _, _, _, rfl, slh_nil, slh_nil⟩
  have p27 := df h25
  refine cw_seq (cw_region (ol rfl (lo_eql rfl rfl) (oab rfl rfl (ow_nil (seqK_n ?_)))))
  refine cw_cond rfl (fun h28 => ?_) (fun h28 => ?_)
  · have p29 := dt h28
    refine cw_anyX 2 mixd (vw_q 0 rfl (by kernel_rfl) (by repeat (first | exact lle_l0 | exact LLe.refl _ | exact lle_none | refine lle_up ?_ rfl)) (fun _ _ hh hl => lo_fieldAddr rfl fl106_5) ?_)
    refine vw_q 1 rfl (by kernel_rfl) (by repeat (first | exact lle_l0 | exact LLe.refl _ | exact lle_none | refine lle_up ?_ rfl)) (fun _ _ hh hl => lo_load1 (i := 0) (v := str _) rfl ag9 (hl _ _ rfl) rfl) ?_
    refine vw_q 2 rfl (by kernel_rfl) (by repeat (first | exact lle_l0 | exact LLe.refl _ | exact lle_none | refine lle_up ?_ rfl)) (fun _ _ hh hl => lo_fieldAddr rfl fl106_6) ?_
    refine vw_q 3 rfl (by kernel_rfl) (by repeat (first | exact lle_l0 | exact LLe.refl _ | exact lle_none | refine lle_up ?_ rfl)) (fun _ _ hh hl => lo_load1 (i := 0) (v := .int _ _) rfl ag39 (hl _ _ rfl) rfl) ?_
    refine vw_q 4 rfl (by kernel_rfl) (by repeat (first | exact lle_l0 | exact LLe.refl _ | exact lle_none | refine lle_up ?_ rfl)) (fun _ _ hh hl => lo_fieldAddr rfl fl106_7) ?_
    refine vw_q 5 rfl (by kernel_rfl) (by repeat (first | exact lle_l0 | exact LLe.refl _ | exact lle_none | refine lle_up ?_ rfl)) (fun _ _ hh hl => lo_load1 (i := 0) (v := .int _ _) rfl ag5 (hl _ _ rfl) rfl) ?_
    refine vw_q 6 rfl (by kernel_rfl) (by repeat (first | exact lle_l0 | exact LLe.refl _ | exact lle_none | refine lle_up ?_ rfl)) (fun _ _ hh hl => lo_fieldAddr rfl fl106_5) ?_
    refine vw_e 7 rfl (by kernel_rfl) (op1_store1n (i := 2) (v := str _) [_, _, _, _, _, _, _, _, _, _, _, _, _, _, _, _, _, _, _, _, _, _, _, _, _, _, _, _, _] rfl rfl rfl sz9 rfl rfl rfl ?_)
    refine ⟨⟨(.refl _), (by repeat (first | exact lle_l0 | exact LLe.refl _ | exact lle_none | refine lle_up ?_ rfl))⟩, ?_⟩
    refine vw_q 8 rfl (by kernel_rfl) (by repeat (first | exact lle_l0 | exact LLe.refl _ | exact lle_none | refine lle_up ?_ rfl)) (fun _ _ hh hl => lo_fieldAddr rfl fl106_6) ?_
    refine vw_e 9 rfl (by kernel_rfl) (op1_store1n (i := 2) (v := .int _ _) [_, _, _, _, _, _, _, _, _, _, _, _, _, _, _, _, _, _, _, _, _, _, _, _, _, _, _, _, _] rfl rfl rfl sz39 rfl rfl rfl ?_)
    refine ⟨⟨(.refl _), (by repeat (first | exact lle_l0 | exact LLe.refl _ | exact lle_none | refine lle_up ?_ rfl))⟩, ?_⟩
    refine vw_q 10 rfl (by kernel_rfl) (by repeat (first | exact lle_l0 | exact LLe.refl _ | exact lle_none | refine lle_up ?_ rfl)) (fun _ _ hh hl => lo_fieldAddr rfl fl106_7) ?_
    refine vw_t 11 rfl (by kernel_rfl) (by kernel_rfl) (op1_store1n (i := 2) (v := .int _ _) [_, _, _, _, _, _, _, _, _, _, _, _, _, _, _, _, _, _, _, _, _, _, _, _, _, _, _, _, _] rfl rfl rfl sz5 rfl rfl rfl ?_)
    refine vw_done (by kernel_rfl) (blkK_n (seqK_n (cw_seq (cw_region (ol rfl (lo_loadA (i := 2) (vs := [_, _, _, _, _, _, _, _, _, _, _, _, _, _, _, _, _, _, _, _, _, _, _, _, _, _, _, _, _]) rfl ag106 sz106 rfl rfl rfl) ?_)))))
    refine ow1 (op1_storeAll (i := 1) (vs := [_, _, _, _, _, _, _, _, _, _, _, _, _, _, _, _, _, _, _, _, _, _, _, _, _, _, _, _, _]) rfl rfl rfl sz106 rfl rfl rfl ?_)
    refine ow_nil (seqK_n (cw_ret (fnK_r (res1 rfl (rv_c (i := 1) (vs := [_, _, _, _, _, _, _, _, _, _, _, _, _, _, _, _, _, _, _, _, _, _, _, _, _, _, _, _, _]) rfl ag106 sz106 rfl rfl rfl)) (.refl _) ?_)))
    have e : toldD d = (⟨d.kind, d.tick, (⟨[], 0, []⟩ : ShopR), (⟨[], 0, 0, []⟩ : QueueR), (⟨[], [], false, [], [], false⟩ : BindR), d.name, d.id, d.how, 0, 0, 0, (⟨0, [], [], [], [], 0, 0⟩ : Mail), []⟩ : DeedR) := by
      unfold toldD
      repeat (first | rw [if_pos (by omega)] | rw [if_neg (by omega)])
      rfl
    rw [e]
    exact ⟨_, _, _, _, rfl, slh_nil, slh_nil⟩
  have p30 := df h28
  refine cw_seq (cw_region (ol rfl (lo_eql rfl rfl) (oab rfl rfl (ow_nil (seqK_n ?_)))))
  refine cw_cond rfl (fun h31 => ?_) (fun h31 => ?_)
  · have p32 := dt h31
    refine cw_anyX 2 mixd (vw_q 0 rfl (by kernel_rfl) (by repeat (first | exact lle_l0 | exact LLe.refl _ | exact lle_none | refine lle_up ?_ rfl)) (fun _ _ hh hl => lo_fieldAddr rfl fl106_8) ?_)
    refine vw_q 1 rfl (by kernel_rfl) (by repeat (first | exact lle_l0 | exact LLe.refl _ | exact lle_none | refine lle_up ?_ rfl)) (fun _ _ hh hl => lo_load1 (i := 0) (v := .int _ _) rfl ag5 (hl _ _ rfl) rfl) ?_
    refine vw_q 2 rfl (by kernel_rfl) (by repeat (first | exact lle_l0 | exact LLe.refl _ | exact lle_none | refine lle_up ?_ rfl)) (fun _ _ hh hl => lo_fieldAddr rfl fl106_10) ?_
    refine vw_q 3 rfl (by kernel_rfl) (by repeat (first | exact lle_l0 | exact LLe.refl _ | exact lle_none | refine lle_up ?_ rfl)) (fun _ _ hh hl => lo_load1 (i := 0) (v := .int _ _) rfl ag39 (hl _ _ rfl) rfl) ?_
    refine vw_q 4 rfl (by kernel_rfl) (by repeat (first | exact lle_l0 | exact LLe.refl _ | exact lle_none | refine lle_up ?_ rfl)) (fun _ _ hh hl => lo_fieldAddr rfl fl106_11) ?_
    refine vw_q 5 rfl (by kernel_rfl) (by repeat (first | exact lle_l0 | exact LLe.refl _ | exact lle_none | refine lle_up ?_ rfl)) (fun _ _ hh hl => lo_loadA (i := 0) (vs := [_, _, _, _, _, _, _]) rfl ag42 sz42 (hl _ _ rfl) rfl rfl) ?_
    refine vw_q 6 rfl (by kernel_rfl) (by repeat (first | exact lle_l0 | exact LLe.refl _ | exact lle_none | refine lle_up ?_ rfl)) (fun _ _ hh hl => lo_fieldAddr rfl fl106_8) ?_
    refine vw_e 7 rfl (by kernel_rfl) (op1_store1n (i := 2) (v := .int _ _) [_, _, _, _, _, _, _, _, _, _, _, _, _, _, _, _, _, _, _, _, _, _, _, _, _, _, _, _, _] rfl rfl rfl sz5 rfl rfl rfl ?_)
    refine ⟨⟨(.refl _), (by repeat (first | exact lle_l0 | exact LLe.refl _ | exact lle_none | refine lle_up ?_ rfl))⟩, ?_⟩
    refine vw_q 8 rfl (by kernel_rfl) (by repeat (first | exact lle_l0 | exact LLe.refl _ | exact lle_none | refine lle_up ?_ rfl)) (fun _ _ hh hl => lo_fieldAddr rfl fl106_10) ?_
    refine vw_e 9 rfl (by kernel_rfl) (op1_store1n (i := 2) (v := .int _ _) [_, _, _, _, _, _, _, _, _, _, _, _, _, _, _, _, _, _, _, _, _, _, _, _, _, _, _, _, _] rfl rfl rfl sz39 rfl rfl rfl ?_)
    refine ⟨⟨(.refl _), (by repeat (first | exact lle_l0 | exact LLe.refl _ | exact lle_none | refine lle_up ?_ rfl))⟩, ?_⟩
    refine vw_q 10 rfl (by kernel_rfl) (by repeat (first | exact lle_l0 | exact LLe.refl _ | exact lle_none | refine lle_up ?_ rfl)) (fun _ _ hh hl => lo_fieldAddr rfl fl106_11) ?_
    refine vw_t 11 rfl (by kernel_rfl) (by kernel_rfl) (op1_storeAp (i := 2) (vs := [_, _, _, _, _, _, _]) [_, _, _, _, _, _, _, _, _, _, _, _, _, _, _, _, _, _, _, _, _, _, _, _, _, _, _, _, _] rfl rfl rfl sz42 rfl rfl rfl rfl ?_)
    refine vw_done (by kernel_rfl) (blkK_n (seqK_n (cw_seq (cw_region (ol rfl (lo_loadA (i := 2) (vs := [_, _, _, _, _, _, _, _, _, _, _, _, _, _, _, _, _, _, _, _, _, _, _, _, _, _, _, _, _]) rfl ag106 sz106 rfl rfl rfl) ?_)))))
    refine ow1 (op1_storeAll (i := 1) (vs := [_, _, _, _, _, _, _, _, _, _, _, _, _, _, _, _, _, _, _, _, _, _, _, _, _, _, _, _, _]) rfl rfl rfl sz106 rfl rfl rfl ?_)
    refine ow_nil (seqK_n (cw_ret (fnK_r (res1 rfl (rv_c (i := 1) (vs := [_, _, _, _, _, _, _, _, _, _, _, _, _, _, _, _, _, _, _, _, _, _, _, _, _, _, _, _, _]) rfl ag106 sz106 rfl rfl rfl)) (.refl _) ?_)))
    have e : toldD d = (⟨d.kind, d.tick, (⟨[], 0, []⟩ : ShopR), (⟨[], 0, 0, []⟩ : QueueR), (⟨[], [], false, [], [], false⟩ : BindR), [], 0, 0, d.frm, 0, d.number, d.mail, []⟩ : DeedR) := by
      unfold toldD
      repeat (first | rw [if_pos (by omega)] | rw [if_neg (by omega)])
      rfl
    rw [e]
    exact ⟨_, _, _, _, rfl, slh_nil, d_mail_head_h⟩
  have p33 := df h31
  refine cw_seq (cw_region (ol rfl (lo_eql rfl rfl) (oab rfl rfl (ow_nil (seqK_n ?_)))))
  refine cw_cond rfl (fun h34 => ?_) (fun h34 => ?_)
  · have p35 := dt h34
    refine cw_anyX 2 mixd (vw_q 0 rfl (by kernel_rfl) (by repeat (first | exact lle_l0 | exact LLe.refl _ | exact lle_none | refine lle_up ?_ rfl)) (fun _ _ hh hl => lo_fieldAddr rfl fl106_9) ?_)
    refine vw_q 1 rfl (by kernel_rfl) (by repeat (first | exact lle_l0 | exact LLe.refl _ | exact lle_none | refine lle_up ?_ rfl)) (fun _ _ hh hl => lo_load1 (i := 0) (v := .int _ _) rfl ag5 (hl _ _ rfl) rfl) ?_
    refine vw_q 2 rfl (by kernel_rfl) (by repeat (first | exact lle_l0 | exact LLe.refl _ | exact lle_none | refine lle_up ?_ rfl)) (fun _ _ hh hl => lo_fieldAddr rfl fl106_12) ?_
    refine vw_q 3 rfl (by kernel_rfl) (by repeat (first | exact lle_l0 | exact LLe.refl _ | exact lle_none | refine lle_up ?_ rfl)) (fun _ _ hh hl => lo_load1 (i := 0) (v := str _) rfl ag9 (hl _ _ rfl) rfl) ?_
    refine vw_q 4 rfl (by kernel_rfl) (by repeat (first | exact lle_l0 | exact LLe.refl _ | exact lle_none | refine lle_up ?_ rfl)) (fun _ _ hh hl => lo_fieldAddr rfl fl106_9) ?_
    refine vw_e 5 rfl (by kernel_rfl) (op1_store1n (i := 2) (v := .int _ _) [_, _, _, _, _, _, _, _, _, _, _, _, _, _, _, _, _, _, _, _, _, _, _, _, _, _, _, _, _] rfl rfl rfl sz5 rfl rfl rfl ?_)
    refine ⟨⟨(.refl _), (by repeat (first | exact lle_l0 | exact LLe.refl _ | exact lle_none | refine lle_up ?_ rfl))⟩, ?_⟩
    refine vw_q 6 rfl (by kernel_rfl) (by repeat (first | exact lle_l0 | exact LLe.refl _ | exact lle_none | refine lle_up ?_ rfl)) (fun _ _ hh hl => lo_fieldAddr rfl fl106_12) ?_
    refine vw_t 7 rfl (by kernel_rfl) (by kernel_rfl) (op1_store1n (i := 2) (v := str _) [_, _, _, _, _, _, _, _, _, _, _, _, _, _, _, _, _, _, _, _, _, _, _, _, _, _, _, _, _] rfl rfl rfl sz9 rfl rfl rfl ?_)
    refine vw_done (by kernel_rfl) (blkK_n (seqK_n (cw_seq (cw_region (ol rfl (lo_loadA (i := 2) (vs := [_, _, _, _, _, _, _, _, _, _, _, _, _, _, _, _, _, _, _, _, _, _, _, _, _, _, _, _, _]) rfl ag106 sz106 rfl rfl rfl) ?_)))))
    refine ow1 (op1_storeAll (i := 1) (vs := [_, _, _, _, _, _, _, _, _, _, _, _, _, _, _, _, _, _, _, _, _, _, _, _, _, _, _, _, _]) rfl rfl rfl sz106 rfl rfl rfl ?_)
    refine ow_nil (seqK_n (cw_ret (fnK_r (res1 rfl (rv_c (i := 1) (vs := [_, _, _, _, _, _, _, _, _, _, _, _, _, _, _, _, _, _, _, _, _, _, _, _, _, _, _, _, _]) rfl ag106 sz106 rfl rfl rfl)) (.refl _) ?_)))
    have e : toldD d = (⟨d.kind, d.tick, (⟨[], 0, []⟩ : ShopR), (⟨[], 0, 0, []⟩ : QueueR), (⟨[], [], false, [], [], false⟩ : BindR), [], 0, 0, 0, d.code, 0, (⟨0, [], [], [], [], 0, 0⟩ : Mail), d.text⟩ : DeedR) := by
      unfold toldD
      repeat (first | rw [if_pos (by omega)] | rw [if_neg (by omega)])
      rfl
    rw [e]
    exact ⟨_, _, _, _, rfl, slh_nil, slh_nil⟩
  have p36 := df h34
  refine cw_skip (blkK_n (seqK_n (cw_seq (cw_region (ol rfl (lo_loadA (i := 2) (vs := [_, _, _, _, _, _, _, _, _, _, _, _, _, _, _, _, _, _, _, _, _, _, _, _, _, _, _, _, _]) rfl ag106 sz106 rfl rfl rfl) ?_)))))
  refine ow1 (op1_storeAll (i := 1) (vs := [_, _, _, _, _, _, _, _, _, _, _, _, _, _, _, _, _, _, _, _, _, _, _, _, _, _, _, _, _]) rfl rfl rfl sz106 rfl rfl rfl ?_)
  refine ow_nil (seqK_n (cw_ret (fnK_r (res1 rfl (rv_c (i := 1) (vs := [_, _, _, _, _, _, _, _, _, _, _, _, _, _, _, _, _, _, _, _, _, _, _, _, _, _, _, _, _]) rfl ag106 sz106 rfl rfl rfl)) (.refl _) ?_)))
  have e : toldD d = (⟨d.kind, d.tick, (⟨[], 0, []⟩ : ShopR), (⟨[], 0, 0, []⟩ : QueueR), (⟨[], [], false, [], [], false⟩ : BindR), [], 0, 0, 0, 0, 0, (⟨0, [], [], [], [], 0, 0⟩ : Mail), []⟩ : DeedR) := by
    unfold toldD
    repeat (first | rw [if_pos (by omega)] | rw [if_neg (by omega)])
    rfl
  rw [e]
  exact ⟨_, _, _, _, rfl, slh_nil, slh_nil⟩
end Go.SW
set_option linter.unusedVariables false
set_option maxRecDepth 100000
set_option maxHeartbeats 4000000
namespace Go.SW
open Go.Proofs
theorem cb142 : Callable Tryz.prog 142 := callable_of Tryz.func142 (by kernel_rfl) (by kernel_rfl)
theorem cb143 : Callable Tryz.prog 143 := callable_of Tryz.func143 (by kernel_rfl) (by kernel_rfl)
theorem cb144 : Callable Tryz.prog 144 := callable_of Tryz.func144 (by kernel_rfl) (by kernel_rfl)
theorem cb145 : Callable Tryz.prog 145 := callable_of Tryz.func145 (by kernel_rfl) (by kernel_rfl)
theorem cb146 : Callable Tryz.prog 146 := callable_of Tryz.func146 (by kernel_rfl) (by kernel_rfl)
theorem fl100_0 : Fld Tryz.prog 100 0 0 := fun b o w => by kernel_rfl
theorem fl100_1 : Fld Tryz.prog 100 1 1 := fun b o w => by kernel_rfl
theorem fl100_2 : Fld Tryz.prog 100 2 2 := fun b o w => by kernel_rfl
theorem fl102_0 : Fld Tryz.prog 102 0 0 := fun b o w => by kernel_rfl
theorem fl102_3 : Fld Tryz.prog 102 3 3 := fun b o w => by kernel_rfl
theorem zr104 : Zr Tryz.prog 104 [str [], str [], .bool false, str [], .slice none 0 0, .bool false] := fun w => ⟨.agg #[str [], str [], .bool false, str [], .slice none 0 0, .bool false], by kernel_rfl, rfl⟩
theorem zx24 : ∃ z, ∀ w, (zeroValue 24).run Tryz.prog w = .ok z w := ⟨.int .i64 0, fun w => by kernel_rfl⟩
theorem deed_first (H : Hp) (l_a : Option Addr) (l_l l_c : Nat) (l : List Int) (l_h : SlH (FE (fun z => [.int .i64 z]) (fun _ => True)) 1 H (.slice l_a l_l l_c) l) (hl : l.length ≤ 1000) : Pr Tryz.prog 144 #[.slice l_a l_l l_c] H (.int .i64 (firstE l)) := by
  refine pr_cw Tryz.func144 rfl Tryz.ntmps144 rfl (fun N => ?_)
  refine cw_seq (cw_region (oai rfl rfl (ow_nil (seqK_n (cw_seq ?_)))))
  refine cw_seq (cw_region (ol rfl (lo_move (v := .slice _ _ _) rfl) (ol rfl (lo_len_slh rfl l_h Tryz.underlying228) (omi rfl rfl (ow_nil ?_)))))
  refine seqK_n (cw_block (cw_loop1 [2, 4, 7, 8, 9, 10, 11, 12, 13, 14] [] (fun (k : Nat) G => upd (G) 7 (.int .i64 (k : Int))) (fun (k : Nat) G => G) (fun (k : Nat) H' => k ≤ l.length ∧ firstE l = firstE (l.drop k)) (fun (k : Nat) => l.length - k) 0 (upd_intro (mask_intro (by first | exact off_refl | (repeat (first | exact off_mask | refine off_upd rfl ?_ | refine off_mask2 rfl ?_)))) rfl) (lmask_intro offl_refl) ?_ ?_))
  · exact ⟨Nat.zero_le _, rfl⟩
  intro k J2 JL2 H2 hp1 hl2
  obtain ⟨hk1, hk2⟩ := hp1
  refine cw_seq (cw_region (ol rfl (lo_lss rfl rfl) (ow_nil (seqK_n (cw_seq ?_)))))
  refine cw_cond rfl (fun h3 => ?_) (fun h3 => ?_)
  · have p4 := dt h3
    refine cw_skip (seqK_n (cw_seq (cw_block (cw_seq (cw_region ?_)))))
    obtain ⟨c5, hc6⟩ := getE (xs := l) (m := k) (by omega)
    obtain ⟨cs7, hE8, at9⟩ := (l_h.mono ((HLe.refl _).trans hl2) (fun _ _ h => h)).get hc6
    obtain ⟨rfl, c5_w⟩ := hE8
    refine ol rfl (lo_indexAddr rfl rfl (l_h.mono ((HLe.refl _).trans hl2) (fun _ _ h => h)).1 at9 Tryz.underlying228 sz24 (by omega) (by omega)) (ol rfl (lo_loadE1 rfl ag24 at9) (oai rfl rfl (ow_nil (seqK_n (cw_seq ?_)))))
    refine cw_region (omi rfl rfl (ol rfl (lo_neq rfl rfl) (ow_nil (seqK_n (cw_cond rfl (fun h10 => ?_) (fun h10 => ?_))))))
    · have h11 := not_t h10
      have p12 := df h11
      refine cw_seq (cw_region (omi rfl rfl (oai rfl rfl (ow_nil (seqK_n ?_)))))
      refine cw_ret (blkK_r (seqK_r (loopK_r (blkK_r (seqK_r ?_)))))
      refine fnK_r (res1 rfl (rv_t (v := .int _ _) rfl)) ((HLe.refl _).trans hl2) (congrArg (Value.int .i64) ?_)
      rw [hk2, dropE hc6]
      unfold firstE
      rw [if_pos (by assumption)]
    have h13 := not_f h10
    have p14 := dt h13
    refine cw_skip (blkK_n (seqK_n (cw_region (ol rfl (lo_add rfl rfl (rg_i64 (by omega))) (omi rfl rfl ?_)))))
    refine ow_nil ?_
    refine next1 (k + 1) (upd_intro (mask_intro (by first | exact off_refl | (repeat (first | exact off_mask | refine off_upd rfl ?_ | refine off_mask2 rfl ?_)))) rfl) (lmask_intro (by first | exact offl_refl | (repeat (first | exact offl_mask | refine offl_upd rfl ?_ | refine offl_mask2 rfl ?_)))) hl2 ?_ ?_
    · refine ⟨by omega, ?_⟩
      rw [hk2, dropE hc6]
      conv => lhs; unfold firstE
      rw [if_neg (by omega)]
    omega
  have p15 := df h3
  refine cw_exit (seqK_e (loopK_e (blkK_hit (seqK_n (cw_seq ?_)))))
  refine cw_region (oai rfl rfl (ow_nil (seqK_n (cw_ret (fnK_r (res1 rfl (rv_t (v := .int _ _) rfl)) ((HLe.refl _).trans hl2) ?_)))))
  refine congrArg (Value.int .i64) ?_
  rw [hk2, List.drop_of_length_le (by omega)]
  rfl
theorem deed_Check (H : Hp) (d : DeedR) (d_bind_want_a : Option Addr) (d_bind_want_c : Nat) (d_bind_want_h : SlH pairE 4 H (.slice d_bind_want_a d.bind.want.length d_bind_want_c) d.bind.want) (d_mail_head_a : Option Addr) (d_mail_head_c : Nat) (d_mail_head_h : SlH pairE 4 H (.slice d_mail_head_a d.mail.head.length d_mail_head_c) d.mail.head) (d_w : DeedR.wf d) (hML : GInt H 2) : Pr Tryz.prog 101 #[.agg (DeedR.cells d d_bind_want_a d_bind_want_c d_mail_head_a d_mail_head_c).toArray] H (.int .i64 (deedE d)) := by
  refine pr_cw Tryz.func101 rfl Tryz.ntmps101 rfl (fun N => ?_)
  have d_w' := d_w
  simp only [DeedR.wf, ShopR.wf, QueueR.wf, BindR.wf, Mail.wf] at d_w'
  refine cw_seq (cw_region (ow1 (op1_box (cs := [_, _, _, _, _, _, _, _, _, _, _, _, _, _, _, _, _, _, _, _, _, _, _, _, _, _, _, _, _]) 0 rfl rfl (fun b1 => ?_))))
  refine oai rfl rfl (ow_nil (seqK_n (cw_seq (cw_block (cw_seq ?_)))))
  refine cw_region (ol rfl (lo_fieldAddr rfl fl106_0) (ol rfl (lo_load1 (i := 0) (v := .int _ _) rfl ag5 rfl rfl) (ol rfl (lo_gtr rfl rfl) (oab rfl rfl (ow_nil ?_)))))
  refine seqK_n (cw_cond rfl (fun h2 => ?_) (fun h2 => ?_))
  · have p3 := dt h2
    refine cw_seq (cw_region (oai rfl rfl (ow_nil (seqK_n (cw_ret ?_)))))
    refine blkK_r (seqK_r (fnK_r (res1 rfl (rv_t (v := .int _ _) rfl)) (.refl _) (congrArg (Value.int .i64) ?_)))
    unfold deedE
    repeat (first | rw [if_pos (by omega)] | rw [if_neg (by omega)] | rw [if_pos (by assumption)] | rw [if_neg (fun q => q (by assumption))])
    all_goals rfl
  have p4 := df h2
  refine cw_seq (cw_anyL mixd (vw_q 0 rfl (by kernel_rfl) (by repeat (first | exact lle_l0 | exact LLe.refl _ | exact lle_none | refine lle_up ?_ rfl)) (fun _ _ hh hl => lo_loadA (i := 0) (vs := [_, _, _, _, _, _, _, _, _, _, _, _, _, _, _, _, _, _, _, _, _, _, _, _, _, _, _, _, _]) rfl ag106 sz106 (hl _ _ rfl) rfl rfl) ?_))
  refine vw_q 1 rfl (by kernel_rfl) (by repeat (first | exact lle_l0 | exact LLe.refl _ | exact lle_none | refine lle_up ?_ rfl)) (fun _ _ hh hl => lo_loadA (i := 0) (vs := [_, _, _, _, _, _, _, _, _, _, _, _, _, _, _, _, _, _, _, _, _, _, _, _, _, _, _, _, _]) rfl ag106 sz106 (hl _ _ rfl) rfl rfl) ?_
  refine vw_e 2 rfl (by kernel_rfl) (op1_ph (deed_told _ d d_bind_want_a d_bind_want_c d_bind_want_h d_mail_head_a d_mail_head_c d_mail_head_h d_w) (en_f cb143 rfl) rfl ?_)
  rintro _ H12 ⟨a5, c6, a8, c9, rfl, hs7, hs10⟩ hl11
  refine ⟨⟨((HLe.refl _).trans hl11), (by repeat (first | exact lle_l0 | exact LLe.refl _ | exact lle_none | refine lle_up ?_ rfl))⟩, ?_⟩
  refine vw_qc 3 rfl (by kernel_rfl) (by repeat (first | exact lle_l0 | exact LLe.refl _ | exact lle_none | refine lle_up ?_ rfl)) (deed_Same _ d d_bind_want_a d_bind_want_c (d_bind_want_h.mono ((HLe.refl _).trans hl11) (fun _ _ h => h)) d_mail_head_a d_mail_head_c (d_mail_head_h.mono ((HLe.refl _).trans hl11) (fun _ _ h => h)) d_w (toldD d) a5 c6 hs7 a8 c9 hs10 (toldD_wf d_w)) (en_f cb142 rfl) ?_
  refine vw_q 4 rfl (by kernel_rfl) (by repeat (first | exact lle_l0 | exact LLe.refl _ | exact lle_none | refine lle_up ?_ rfl)) (fun _ _ hh hl => lo_not rfl) ?_
  refine vw_q 5 rfl (by kernel_rfl) (by repeat (first | exact lle_l0 | exact LLe.refl _ | exact lle_none | refine lle_up ?_ rfl)) (fun _ _ hh hl => lo_assign (v := .bool _) rfl) ?_
  refine vw_done (by kernel_rfl) (seqK_n (cw_cond rfl (fun h13 => ?_) (fun h13 => ?_)))
  · have h14 := not_t h13
    have p15 := df h14
    refine cw_seq (cw_region (oai rfl rfl (ow_nil (seqK_n (cw_ret ?_)))))
    refine blkK_r (seqK_r (fnK_r (res1 rfl (rv_t (v := .int _ _) rfl)) ((HLe.refl _).trans hl11) (congrArg (Value.int .i64) ?_)))
    unfold deedE
    repeat (first | rw [if_pos (by omega)] | rw [if_neg (by omega)] | rw [if_pos (by assumption)] | rw [if_neg (fun q => q (by assumption))])
    all_goals rfl
  have h16 := not_f h13
  have p17 := dt h16
  refine cw_skip (blkK_n (seqK_n (cw_seq (cw_seq (cw_region ?_)))))
  refine ol rfl (lo_fieldAddr rfl fl106_0) (ol rfl (lo_load1 (i := 0) (v := .int _ _) rfl ag5 rfl rfl) (ow_nil (seqK_n (cw_block (cw_seq ?_)))))
  refine cw_region (ol rfl (lo_eql rfl rfl) (oab rfl rfl (ow_nil (seqK_n (cw_cond rfl (fun h18 => ?_) (fun h18 => ?_))))))
  · have p19 := dt h18
    refine cw_seq (cw_anyL mixd (vw_q 0 rfl (by kernel_rfl) (by repeat (first | exact lle_l0 | exact LLe.refl _ | exact lle_none | refine lle_up ?_ rfl)) (fun _ _ hh hl => lo_fieldAddr rfl fl106_2) ?_))
    refine vw_q 1 rfl (by kernel_rfl) (by repeat (first | exact lle_l0 | exact LLe.refl _ | exact lle_none | refine lle_up ?_ rfl)) (fun _ _ hh hl => lo_fieldAddr rfl fl100_0) ?_
    refine vw_q 2 rfl (by kernel_rfl) (by repeat (first | exact lle_l0 | exact LLe.refl _ | exact lle_none | refine lle_up ?_ rfl)) (fun _ _ hh hl => lo_load1 (i := 0) (v := str _) rfl ag9 (hl _ _ rfl) rfl) ?_
    refine vw_qc 3 rfl (by kernel_rfl) (by repeat (first | exact lle_l0 | exact LLe.refl _ | exact lle_none | refine lle_up ?_ rfl)) (words_Name _ d.shop.name (by first | omega | decide | (simp; done))) (en_f cb131 rfl) ?_
    refine vw_q 4 rfl (by kernel_rfl) (by repeat (first | exact lle_l0 | exact LLe.refl _ | exact lle_none | refine lle_up ?_ rfl)) (fun _ _ hh hl => lo_fieldAddr rfl fl106_2) ?_
    refine vw_q 5 rfl (by kernel_rfl) (by repeat (first | exact lle_l0 | exact LLe.refl _ | exact lle_none | refine lle_up ?_ rfl)) (fun _ _ hh hl => lo_fieldAddr rfl fl100_1) ?_
    refine vw_q 6 rfl (by kernel_rfl) (by repeat (first | exact lle_l0 | exact LLe.refl _ | exact lle_none | refine lle_up ?_ rfl)) (fun _ _ hh hl => lo_load1 (i := 0) (v := .int _ _) rfl ag5 (hl _ _ rfl) rfl) ?_
    refine vw_q 7 rfl (by kernel_rfl) (by repeat (first | exact lle_l0 | exact LLe.refl _ | exact lle_none | refine lle_up ?_ rfl)) (fun _ _ hh hl => lo_gtr rfl rfl) ?_
    refine vw_qc 8 rfl (by kernel_rfl) (by repeat (first | exact lle_l0 | exact LLe.refl _ | exact lle_none | refine lle_up ?_ rfl)) (deed_bound _ (decide (4 < d.shop.sort)) 8 (by omega)) (en_f cb145 rfl) ?_
    refine vw_q 9 rfl (by kernel_rfl) (by repeat (first | exact lle_l0 | exact LLe.refl _ | exact lle_none | refine lle_up ?_ rfl)) (fun _ _ hh hl => lo_fieldAddr rfl fl106_2) ?_
    refine vw_q 10 rfl (by kernel_rfl) (by repeat (first | exact lle_l0 | exact LLe.refl _ | exact lle_none | refine lle_up ?_ rfl)) (fun _ _ hh hl => lo_fieldAddr rfl fl100_2) ?_
    refine vw_q 11 rfl (by kernel_rfl) (by repeat (first | exact lle_l0 | exact LLe.refl _ | exact lle_none | refine lle_up ?_ rfl)) (fun _ _ hh hl => lo_load1 (i := 0) (v := str _) rfl ag9 (hl _ _ rfl) rfl) ?_
    have := maybeE_r d.shop.to
    refine vw_qc 12 rfl (by kernel_rfl) (by repeat (first | exact lle_l0 | exact LLe.refl _ | exact lle_none | refine lle_up ?_ rfl)) (deed_maybe _ d.shop.to (by first | omega | decide | (simp; done))) (en_f cb146 rfl) ?_
    refine vw_e 13 rfl (by kernel_rfl) (op1_bslice (cs := [_, _, _]) 1 rfl Tryz.underlying228 sz24 zx24 rfl ⟨rfl, rfl, ⟨rfl, rfl, ⟨rfl, rfl, trivial⟩⟩⟩ rfl rfl (by decide) (fun b20 => ?_))
    refine ⟨⟨(.refl _), (by repeat (first | exact lle_l0 | exact LLe.refl _ | exact lle_none | refine lle_up ?_ rfl))⟩, ?_⟩
    refine vw_giveO 1 rfl (by repeat (first | exact lle_l0 | exact LLe.refl _ | exact lle_none | refine lle_up ?_ rfl)) (by kernel_rfl) (fun _ hl21 hg22 => ?_)
    have hs23 := slh_bx (k := 1) (H := _) (enc := (fun z => [.int .i64 z])) (wf := (fun _ => True)) [nameE d.shop.name, boundE (decide (4 < d.shop.sort)) 8, maybeE d.shop.to] (fun _ => rfl) (hg22 _ _ rfl) rfl rfl (Nat.le_refl _) (fun _ _ => trivial)
    refine vw_qc 14 rfl (by kernel_rfl) (by repeat (first | exact lle_l0 | exact LLe.refl _ | exact lle_none | refine lle_up ?_ rfl)) (deed_first _ (some ⟨b20, 0, none⟩) 3 3 [nameE d.shop.name, boundE (decide (4 < d.shop.sort)) 8, maybeE d.shop.to] hs23 (by first | omega | (simp; done) | decide)) (en_f cb144 rfl) ?_
    refine vw_q 15 rfl (by kernel_rfl) (by repeat (first | exact lle_l0 | exact LLe.refl _ | exact lle_none | refine lle_up ?_ rfl)) (fun _ _ hh hl => lo_assign (v := .int _ _) rfl) ?_
    refine vw_done (by kernel_rfl) (seqK_n (cw_ret (blkK_r (seqK_r (fnK_r (res1 rfl (rv_t (v := .int _ _) rfl)) (((HLe.refl _).trans hl11).trans hl21) ?_)))))
    refine congrArg (Value.int .i64) ?_
    unfold deedE
    repeat (first | rw [if_pos (by omega)] | rw [if_neg (by omega)] | rw [if_pos (by assumption)] | rw [if_neg (fun q => q (by assumption))])
    all_goals rfl
  have p24 := df h18
  refine cw_seq (cw_region (ol rfl (lo_eql rfl rfl) (oab rfl rfl (ow_nil (seqK_n ?_)))))
  refine cw_cond rfl (fun h25 => ?_) (fun h25 => ?_)
  · have p26 := dt h25
    refine cw_seq (cw_anyL mixd (vw_q 0 rfl (by kernel_rfl) (by repeat (first | exact lle_l0 | exact LLe.refl _ | exact lle_none | refine lle_up ?_ rfl)) (fun _ _ hh hl => lo_fieldAddr rfl fl106_3) ?_))
    refine vw_q 1 rfl (by kernel_rfl) (by repeat (first | exact lle_l0 | exact LLe.refl _ | exact lle_none | refine lle_up ?_ rfl)) (fun _ _ hh hl => lo_fieldAddr rfl fl102_0) ?_
    refine vw_q 2 rfl (by kernel_rfl) (by repeat (first | exact lle_l0 | exact LLe.refl _ | exact lle_none | refine lle_up ?_ rfl)) (fun _ _ hh hl => lo_load1 (i := 0) (v := str _) rfl ag9 (hl _ _ rfl) rfl) ?_
    refine vw_qc 3 rfl (by kernel_rfl) (by repeat (first | exact lle_l0 | exact LLe.refl _ | exact lle_none | refine lle_up ?_ rfl)) (words_Name _ d.queue.name (by first | omega | decide | (simp; done))) (en_f cb131 rfl) ?_
    refine vw_q 4 rfl (by kernel_rfl) (by repeat (first | exact lle_l0 | exact LLe.refl _ | exact lle_none | refine lle_up ?_ rfl)) (fun _ _ hh hl => lo_fieldAddr rfl fl106_3) ?_
    refine vw_q 5 rfl (by kernel_rfl) (by repeat (first | exact lle_l0 | exact LLe.refl _ | exact lle_none | refine lle_up ?_ rfl)) (fun _ _ hh hl => lo_fieldAddr rfl fl102_3) ?_
    refine vw_q 6 rfl (by kernel_rfl) (by repeat (first | exact lle_l0 | exact LLe.refl _ | exact lle_none | refine lle_up ?_ rfl)) (fun _ _ hh hl => lo_load1 (i := 0) (v := str _) rfl ag9 (hl _ _ rfl) rfl) ?_
    have := maybeE_r d.queue.dead
    refine vw_qc 7 rfl (by kernel_rfl) (by repeat (first | exact lle_l0 | exact LLe.refl _ | exact lle_none | refine lle_up ?_ rfl)) (deed_maybe _ d.queue.dead (by first | omega | decide | (simp; done))) (en_f cb146 rfl) ?_
    refine vw_e 8 rfl (by kernel_rfl) (op1_bslice (cs := [_, _]) 1 rfl Tryz.underlying228 sz24 zx24 rfl ⟨rfl, rfl, ⟨rfl, rfl, trivial⟩⟩ rfl rfl (by decide) (fun b27 => ?_))
    refine ⟨⟨(.refl _), (by repeat (first | exact lle_l0 | exact LLe.refl _ | exact lle_none | refine lle_up ?_ rfl))⟩, ?_⟩
    refine vw_giveO 1 rfl (by repeat (first | exact lle_l0 | exact LLe.refl _ | exact lle_none | refine lle_up ?_ rfl)) (by kernel_rfl) (fun _ hl28 hg29 => ?_)
    have hs30 := slh_bx (k := 1) (H := _) (enc := (fun z => [.int .i64 z])) (wf := (fun _ => True)) [nameE d.queue.name, maybeE d.queue.dead] (fun _ => rfl) (hg29 _ _ rfl) rfl rfl (Nat.le_refl _) (fun _ _ => trivial)
    refine vw_qc 9 rfl (by kernel_rfl) (by repeat (first | exact lle_l0 | exact LLe.refl _ | exact lle_none | refine lle_up ?_ rfl)) (deed_first _ (some ⟨b27, 0, none⟩) 2 2 [nameE d.queue.name, maybeE d.queue.dead] hs30 (by first | omega | (simp; done) | decide)) (en_f cb144 rfl) ?_
    refine vw_q 10 rfl (by kernel_rfl) (by repeat (first | exact lle_l0 | exact LLe.refl _ | exact lle_none | refine lle_up ?_ rfl)) (fun _ _ hh hl => lo_assign (v := .int _ _) rfl) ?_
    refine vw_done (by kernel_rfl) (seqK_n (cw_ret (blkK_r (seqK_r (fnK_r (res1 rfl (rv_t (v := .int _ _) rfl)) (((HLe.refl _).trans hl11).trans hl28) ?_)))))
    refine congrArg (Value.int .i64) ?_
    unfold deedE
    repeat (first | rw [if_pos (by omega)] | rw [if_neg (by omega)] | rw [if_pos (by assumption)] | rw [if_neg (fun q => q (by assumption))])
    all_goals rfl
  have p31 := df h25
  refine cw_seq (cw_seq (cw_region (ol rfl (lo_eql rfl rfl) (oab rfl rfl (ow_nil ?_)))))
  refine seqK_n (cw_cond rfl (fun h32 => ?_) (fun h32 => ?_))
  · have p33 := dt h32
    refine cw_skip (seqK_n (cw_cond_t rfl h32 (cw_seq (cw_region (ol rfl (lo_fieldAddr rfl fl106_4) ?_)))))
    refine ol rfl (lo_loadA (i := 0) (vs := [_, _, _, _, _, _]) rfl ag104 sz104 rfl rfl rfl) (ow1 (op1_alloc 1 rfl zr104 (fun b34 => ?_)))
    refine ow1 (op1_storeAll (i := 1) (vs := [_, _, _, _, _, _]) rfl rfl rfl sz104 rfl rfl rfl ?_)
    refine ow_nil (seqK_n (cw_seq (cw_anyL mixd (vw_q 0 rfl (by kernel_rfl) (by repeat (first | exact lle_l0 | exact LLe.refl _ | exact lle_none | refine lle_up ?_ rfl)) (fun _ _ hh hl => lo_fieldAddr rfl fl104_0) ?_))))
    refine vw_q 1 rfl (by kernel_rfl) (by repeat (first | exact lle_l0 | exact LLe.refl _ | exact lle_none | refine lle_up ?_ rfl)) (fun _ _ hh hl => lo_load1 (i := 1) (v := str _) rfl ag9 (hl _ _ rfl) rfl) ?_
    refine vw_qc 2 rfl (by kernel_rfl) (by repeat (first | exact lle_l0 | exact LLe.refl _ | exact lle_none | refine lle_up ?_ rfl)) (words_Name _ d.bind.shop (by first | omega | decide | (simp; done))) (en_f cb131 rfl) ?_
    refine vw_q 3 rfl (by kernel_rfl) (by repeat (first | exact lle_l0 | exact LLe.refl _ | exact lle_none | refine lle_up ?_ rfl)) (fun _ _ hh hl => lo_fieldAddr rfl fl104_1) ?_
    refine vw_q 4 rfl (by kernel_rfl) (by repeat (first | exact lle_l0 | exact LLe.refl _ | exact lle_none | refine lle_up ?_ rfl)) (fun _ _ hh hl => lo_load1 (i := 1) (v := str _) rfl ag9 (hl _ _ rfl) rfl) ?_
    refine vw_qc 5 rfl (by kernel_rfl) (by repeat (first | exact lle_l0 | exact LLe.refl _ | exact lle_none | refine lle_up ?_ rfl)) (words_Name _ d.bind.to (by first | omega | decide | (simp; done))) (en_f cb131 rfl) ?_
    refine vw_q 6 rfl (by kernel_rfl) (by repeat (first | exact lle_l0 | exact LLe.refl _ | exact lle_none | refine lle_up ?_ rfl)) (fun _ _ hh hl => lo_fieldAddr rfl fl104_3) ?_
    refine vw_q 7 rfl (by kernel_rfl) (by repeat (first | exact lle_l0 | exact LLe.refl _ | exact lle_none | refine lle_up ?_ rfl)) (fun _ _ hh hl => lo_load1 (i := 1) (v := str _) rfl ag9 (hl _ _ rfl) rfl) ?_
    refine vw_q 8 rfl (by kernel_rfl) (by repeat (first | exact lle_l0 | exact LLe.refl _ | exact lle_none | refine lle_up ?_ rfl)) (fun _ _ hh hl => lo_len_str rfl Tryz.underlying9) ?_
    refine vw_q 9 rfl (by kernel_rfl) (by repeat (first | exact lle_l0 | exact LLe.refl _ | exact lle_none | refine lle_up ?_ rfl)) (fun _ _ hh hl => lo_gtr rfl rfl) ?_
    refine vw_qc 10 rfl (by kernel_rfl) (by repeat (first | exact lle_l0 | exact LLe.refl _ | exact lle_none | refine lle_up ?_ rfl)) (deed_bound _ (decide (64 < (d.bind.key.length : Int))) 5 (by omega)) (en_f cb145 rfl) ?_
    refine vw_q 11 rfl (by kernel_rfl) (by repeat (first | exact lle_l0 | exact LLe.refl _ | exact lle_none | refine lle_up ?_ rfl)) (fun _ _ hh hl => lo_fieldAddr rfl fl104_4) ?_
    refine vw_q 12 rfl (by kernel_rfl) (by repeat (first | exact lle_l0 | exact LLe.refl _ | exact lle_none | refine lle_up ?_ rfl)) (fun _ _ hh hl => lo_load1 (i := 1) (v := .slice _ _ _) rfl ag40 (hl _ _ rfl) rfl) ?_
    refine vw_qc 13 rfl (by kernel_rfl) (by repeat (first | exact lle_l0 | exact LLe.refl _ | exact lle_none | refine lle_up ?_ rfl)) (head_Check _ d_bind_want_a d.bind.want.length d_bind_want_c d.bind.want (d_bind_want_h.mono ((HLe.refl _).trans hl11) (fun _ _ h => h)) (by first | omega | (simp <;> omega))) (en_f cb135 rfl) ?_
    refine vw_e 14 rfl (by kernel_rfl) (op1_bslice (cs := [_, _, _, _]) 2 rfl Tryz.underlying228 sz24 zx24 rfl ⟨rfl, rfl, ⟨rfl, rfl, ⟨rfl, rfl, ⟨rfl, rfl, trivial⟩⟩⟩⟩ rfl rfl (by decide) (fun b35 => ?_))
    refine ⟨⟨(.refl _), (by repeat (first | exact lle_l0 | exact LLe.refl _ | exact lle_none | refine lle_up ?_ rfl))⟩, ?_⟩
    refine vw_giveO 2 rfl (by repeat (first | exact lle_l0 | exact LLe.refl _ | exact lle_none | refine lle_up ?_ rfl)) (by kernel_rfl) (fun _ hl36 hg37 => ?_)
    have hs38 := slh_bx (k := 1) (H := _) (enc := (fun z => [.int .i64 z])) (wf := (fun _ => True)) [nameE d.bind.shop, nameE d.bind.to, boundE (decide (64 < (d.bind.key.length : Int))) 5, headE d.bind.want] (fun _ => rfl) (hg37 _ _ rfl) rfl rfl (Nat.le_refl _) (fun _ _ => trivial)
    refine vw_qc 15 rfl (by kernel_rfl) (by repeat (first | exact lle_l0 | exact LLe.refl _ | exact lle_none | refine lle_up ?_ rfl)) (deed_first _ (some ⟨b35, 0, none⟩) 4 4 [nameE d.bind.shop, nameE d.bind.to, boundE (decide (64 < (d.bind.key.length : Int))) 5, headE d.bind.want] hs38 (by first | omega | (simp; done) | decide)) (en_f cb144 rfl) ?_
    refine vw_q 16 rfl (by kernel_rfl) (by repeat (first | exact lle_l0 | exact LLe.refl _ | exact lle_none | refine lle_up ?_ rfl)) (fun _ _ hh hl => lo_assign (v := .int _ _) rfl) ?_
    refine vw_done (by kernel_rfl) (seqK_n (cw_ret (blkK_r (seqK_r (fnK_r (res1 rfl (rv_t (v := .int _ _) rfl)) (((HLe.refl _).trans hl11).trans hl36) ?_)))))
    refine congrArg (Value.int .i64) ?_
    unfold deedE
    repeat (first | rw [if_pos (by omega)] | rw [if_neg (by omega)] | rw [if_pos (by assumption)] | rw [if_neg (fun q => q (by assumption))])
    all_goals rfl
  have p39 := df h32
  refine cw_region (ol rfl (lo_eql rfl rfl) (oab rfl rfl (ow_nil (seqK_n (cw_cond rfl (fun h40 => ?_) (fun h40 => ?_))))))
  · have p41 := dt h40
    refine cw_seq (cw_region (ol rfl (lo_fieldAddr rfl fl106_4) (ol rfl (lo_loadA (i := 0) (vs := [_, _, _, _, _, _]) rfl ag104 sz104 rfl rfl rfl) (ow1 (op1_alloc 1 rfl zr104 (fun b42 => ?_))))))
    refine ow1 (op1_storeAll (i := 1) (vs := [_, _, _, _, _, _]) rfl rfl rfl sz104 rfl rfl rfl ?_)
    refine ow_nil (seqK_n (cw_seq (cw_anyL mixd (vw_q 0 rfl (by kernel_rfl) (by repeat (first | exact lle_l0 | exact LLe.refl _ | exact lle_none | refine lle_up ?_ rfl)) (fun _ _ hh hl => lo_fieldAddr rfl fl104_0) ?_))))
    refine vw_q 1 rfl (by kernel_rfl) (by repeat (first | exact lle_l0 | exact LLe.refl _ | exact lle_none | refine lle_up ?_ rfl)) (fun _ _ hh hl => lo_load1 (i := 1) (v := str _) rfl ag9 (hl _ _ rfl) rfl) ?_
    refine vw_qc 2 rfl (by kernel_rfl) (by repeat (first | exact lle_l0 | exact LLe.refl _ | exact lle_none | refine lle_up ?_ rfl)) (words_Name _ d.bind.shop (by first | omega | decide | (simp; done))) (en_f cb131 rfl) ?_
    refine vw_q 3 rfl (by kernel_rfl) (by repeat (first | exact lle_l0 | exact LLe.refl _ | exact lle_none | refine lle_up ?_ rfl)) (fun _ _ hh hl => lo_fieldAddr rfl fl104_1) ?_
    refine vw_q 4 rfl (by kernel_rfl) (by repeat (first | exact lle_l0 | exact LLe.refl _ | exact lle_none | refine lle_up ?_ rfl)) (fun _ _ hh hl => lo_load1 (i := 1) (v := str _) rfl ag9 (hl _ _ rfl) rfl) ?_
    refine vw_qc 5 rfl (by kernel_rfl) (by repeat (first | exact lle_l0 | exact LLe.refl _ | exact lle_none | refine lle_up ?_ rfl)) (words_Name _ d.bind.to (by first | omega | decide | (simp; done))) (en_f cb131 rfl) ?_
    refine vw_q 6 rfl (by kernel_rfl) (by repeat (first | exact lle_l0 | exact LLe.refl _ | exact lle_none | refine lle_up ?_ rfl)) (fun _ _ hh hl => lo_fieldAddr rfl fl104_3) ?_
    refine vw_q 7 rfl (by kernel_rfl) (by repeat (first | exact lle_l0 | exact LLe.refl _ | exact lle_none | refine lle_up ?_ rfl)) (fun _ _ hh hl => lo_load1 (i := 1) (v := str _) rfl ag9 (hl _ _ rfl) rfl) ?_
    refine vw_q 8 rfl (by kernel_rfl) (by repeat (first | exact lle_l0 | exact LLe.refl _ | exact lle_none | refine lle_up ?_ rfl)) (fun _ _ hh hl => lo_len_str rfl Tryz.underlying9) ?_
    refine vw_q 9 rfl (by kernel_rfl) (by repeat (first | exact lle_l0 | exact LLe.refl _ | exact lle_none | refine lle_up ?_ rfl)) (fun _ _ hh hl => lo_gtr rfl rfl) ?_
    refine vw_qc 10 rfl (by kernel_rfl) (by repeat (first | exact lle_l0 | exact LLe.refl _ | exact lle_none | refine lle_up ?_ rfl)) (deed_bound _ (decide (64 < (d.bind.key.length : Int))) 5 (by omega)) (en_f cb145 rfl) ?_
    refine vw_q 11 rfl (by kernel_rfl) (by repeat (first | exact lle_l0 | exact LLe.refl _ | exact lle_none | refine lle_up ?_ rfl)) (fun _ _ hh hl => lo_fieldAddr rfl fl104_4) ?_
    refine vw_q 12 rfl (by kernel_rfl) (by repeat (first | exact lle_l0 | exact LLe.refl _ | exact lle_none | refine lle_up ?_ rfl)) (fun _ _ hh hl => lo_load1 (i := 1) (v := .slice _ _ _) rfl ag40 (hl _ _ rfl) rfl) ?_
    refine vw_qc 13 rfl (by kernel_rfl) (by repeat (first | exact lle_l0 | exact LLe.refl _ | exact lle_none | refine lle_up ?_ rfl)) (head_Check _ d_bind_want_a d.bind.want.length d_bind_want_c d.bind.want (d_bind_want_h.mono ((HLe.refl _).trans hl11) (fun _ _ h => h)) (by first | omega | (simp <;> omega))) (en_f cb135 rfl) ?_
    refine vw_e 14 rfl (by kernel_rfl) (op1_bslice (cs := [_, _, _, _]) 2 rfl Tryz.underlying228 sz24 zx24 rfl ⟨rfl, rfl, ⟨rfl, rfl, ⟨rfl, rfl, ⟨rfl, rfl, trivial⟩⟩⟩⟩ rfl rfl (by decide) (fun b43 => ?_))
    refine ⟨⟨(.refl _), (by repeat (first | exact lle_l0 | exact LLe.refl _ | exact lle_none | refine lle_up ?_ rfl))⟩, ?_⟩
    refine vw_giveO 2 rfl (by repeat (first | exact lle_l0 | exact LLe.refl _ | exact lle_none | refine lle_up ?_ rfl)) (by kernel_rfl) (fun _ hl44 hg45 => ?_)
    have hs46 := slh_bx (k := 1) (H := _) (enc := (fun z => [.int .i64 z])) (wf := (fun _ => True)) [nameE d.bind.shop, nameE d.bind.to, boundE (decide (64 < (d.bind.key.length : Int))) 5, headE d.bind.want] (fun _ => rfl) (hg45 _ _ rfl) rfl rfl (Nat.le_refl _) (fun _ _ => trivial)
    refine vw_qc 15 rfl (by kernel_rfl) (by repeat (first | exact lle_l0 | exact LLe.refl _ | exact lle_none | refine lle_up ?_ rfl)) (deed_first _ (some ⟨b43, 0, none⟩) 4 4 [nameE d.bind.shop, nameE d.bind.to, boundE (decide (64 < (d.bind.key.length : Int))) 5, headE d.bind.want] hs46 (by first | omega | (simp; done) | decide)) (en_f cb144 rfl) ?_
    refine vw_q 16 rfl (by kernel_rfl) (by repeat (first | exact lle_l0 | exact LLe.refl _ | exact lle_none | refine lle_up ?_ rfl)) (fun _ _ hh hl => lo_assign (v := .int _ _) rfl) ?_
    refine vw_done (by kernel_rfl) (seqK_n (cw_ret (blkK_r (seqK_r (fnK_r (res1 rfl (rv_t (v := .int _ _) rfl)) (((HLe.refl _).trans hl11).trans hl44) ?_)))))
    refine congrArg (Value.int .i64) ?_
    unfold deedE
    repeat (first | rw [if_pos (by omega)] | rw [if_neg (by omega)] | rw [if_pos (by assumption)] | rw [if_neg (fun q => q (by assumption))])
    all_goals rfl
  have p47 := df h40
  refine cw_seq (cw_seq (cw_region (ol rfl (lo_eql rfl rfl) (oab rfl rfl (ow_nil ?_)))))
  refine seqK_n (cw_cond rfl (fun h48 => ?_) (fun h48 => ?_))
  · have p49 := dt h48
    refine cw_skip (seqK_n (cw_cond_t rfl h48 (cw_seq (cw_region (ol rfl (lo_fieldAddr rfl fl106_11) ?_)))))
    refine ol rfl (lo_loadA (i := 0) (vs := [_, _, _, _, _, _, _]) rfl ag42 sz42 rfl rfl rfl) (ow1 (op1_pr (mail_Check _ d.mail d_mail_head_a d_mail_head_c (d_mail_head_h.mono ((HLe.refl _).trans hl11) (fun _ _ h => h)) (by simp only [Mail.wf]; first | omega | (simp; done) | (simp; omega)) (hML.mono ((HLe.refl _).trans hl11))) (en_f cb147 rfl) rfl ?_))
    have := mailC_r d.mail
    have hmo49 := fun h => mailC_ok (m := d.mail) h
    refine oai rfl rfl (ow_nil (seqK_n (cw_ret (blkK_r (seqK_r ?_)))))
    refine fnK_r (res1 rfl (rv_t (v := .int _ _) rfl)) ((HLe.refl _).trans hl11) (congrArg (Value.int .i64) ?_)
    unfold deedE
    repeat (first | rw [if_pos (by omega)] | rw [if_neg (by omega)] | rw [if_pos (by assumption)] | rw [if_neg (fun q => q (by assumption))])
    all_goals rfl
  have p50 := df h48
  refine cw_region (ol rfl (lo_eql rfl rfl) (oab rfl rfl (ow_nil (seqK_n (cw_cond rfl (fun h51 => ?_) (fun h51 => ?_))))))
  · have p52 := dt h51
    refine cw_seq (cw_region (ol rfl (lo_fieldAddr rfl fl106_11) (ol rfl (lo_loadA (i := 0) (vs := [_, _, _, _, _, _, _]) rfl ag42 sz42 rfl rfl rfl) (ow1 (op1_pr (mail_Check _ d.mail d_mail_head_a d_mail_head_c (d_mail_head_h.mono ((HLe.refl _).trans hl11) (fun _ _ h => h)) (by simp only [Mail.wf]; first | omega | (simp; done) | (simp; omega)) (hML.mono ((HLe.refl _).trans hl11))) (en_f cb147 rfl) rfl ?_)))))
    have := mailC_r d.mail
    have hmo52 := fun h => mailC_ok (m := d.mail) h
    refine oai rfl rfl (ow_nil (seqK_n (cw_ret (blkK_r (seqK_r ?_)))))
    refine fnK_r (res1 rfl (rv_t (v := .int _ _) rfl)) ((HLe.refl _).trans hl11) (congrArg (Value.int .i64) ?_)
    unfold deedE
    repeat (first | rw [if_pos (by omega)] | rw [if_neg (by omega)] | rw [if_pos (by assumption)] | rw [if_neg (fun q => q (by assumption))])
    all_goals rfl
  have p53 := df h51
  refine cw_seq (cw_seq (cw_region (ol rfl (lo_eql rfl rfl) (oab rfl rfl (ow_nil ?_)))))
  refine seqK_n (cw_cond rfl (fun h54 => ?_) (fun h54 => ?_))
  · have p55 := dt h54
    refine cw_skip (seqK_n (cw_cond_t rfl h54 (cw_seq (cw_region (oai rfl rfl ?_)))))
    refine ow_nil (seqK_n (cw_ret (blkK_r (seqK_r (fnK_r (res1 rfl (rv_t (v := .int _ _) rfl)) ((HLe.refl _).trans hl11) ?_)))))
    refine congrArg (Value.int .i64) ?_
    unfold deedE
    repeat (first | rw [if_pos (by omega)] | rw [if_neg (by omega)] | rw [if_pos (by assumption)] | rw [if_neg (fun q => q (by assumption))])
    all_goals rfl
  have p56 := df h54
  refine cw_region (ol rfl (lo_eql rfl rfl) (oab rfl rfl (ow_nil (seqK_n (cw_cond rfl (fun h57 => ?_) (fun h57 => ?_))))))
  · have p58 := dt h57
    refine cw_seq (cw_region (oai rfl rfl (ow_nil (seqK_n (cw_ret ?_)))))
    refine blkK_r (seqK_r (fnK_r (res1 rfl (rv_t (v := .int _ _) rfl)) ((HLe.refl _).trans hl11) (congrArg (Value.int .i64) ?_)))
    unfold deedE
    repeat (first | rw [if_pos (by omega)] | rw [if_neg (by omega)] | rw [if_pos (by assumption)] | rw [if_neg (fun q => q (by assumption))])
    all_goals rfl
  have p59 := df h57
  refine cw_seq (cw_region (ol rfl (lo_eql rfl rfl) (oab rfl rfl (ow_nil (seqK_n ?_)))))
  refine cw_cond rfl (fun h60 => ?_) (fun h60 => ?_)
  · have p61 := dt h60
    refine cw_seq (cw_region (ol rfl (lo_fieldAddr rfl fl106_12) (ol rfl (lo_load1 (i := 0) (v := str _) rfl ag9 rfl rfl) (ol rfl (lo_len_str rfl Tryz.underlying9) (ol rfl (lo_gtr rfl rfl) ?_)))))
    refine ow1 (op1_pr (deed_bound _ (decide (64 < (d.text.length : Int))) 5 (by omega)) (en_f cb145 rfl) rfl ?_)
    refine oai rfl rfl (ow_nil (seqK_n (cw_ret (blkK_r (seqK_r ?_)))))
    refine fnK_r (res1 rfl (rv_t (v := .int _ _) rfl)) ((HLe.refl _).trans hl11) (congrArg (Value.int .i64) ?_)
    unfold deedE
    repeat (first | rw [if_pos (by omega)] | rw [if_neg (by omega)] | rw [if_pos (by assumption)] | rw [if_neg (fun q => q (by assumption))])
    all_goals rfl
  have p62 := df h60
  refine cw_skip (blkK_n (seqK_n (cw_seq (cw_anyL mixd (vw_q 0 rfl (by kernel_rfl) (by repeat (first | exact lle_l0 | exact LLe.refl _ | exact lle_none | refine lle_up ?_ rfl)) (fun _ _ hh hl => lo_fieldAddr rfl fl106_5) ?_)))))
  refine vw_q 1 rfl (by kernel_rfl) (by repeat (first | exact lle_l0 | exact LLe.refl _ | exact lle_none | refine lle_up ?_ rfl)) (fun _ _ hh hl => lo_load1 (i := 0) (v := str _) rfl ag9 (hl _ _ rfl) rfl) ?_
  refine vw_qc 2 rfl (by kernel_rfl) (by repeat (first | exact lle_l0 | exact LLe.refl _ | exact lle_none | refine lle_up ?_ rfl)) (words_Name _ d.name (by first | omega | decide | (simp; done))) (en_f cb131 rfl) ?_
  refine vw_q 3 rfl (by kernel_rfl) (by repeat (first | exact lle_l0 | exact LLe.refl _ | exact lle_none | refine lle_up ?_ rfl)) (fun _ _ hh hl => lo_fieldAddr rfl fl106_7) ?_
  refine vw_q 4 rfl (by kernel_rfl) (by repeat (first | exact lle_l0 | exact LLe.refl _ | exact lle_none | refine lle_up ?_ rfl)) (fun _ _ hh hl => lo_load1 (i := 0) (v := .int _ _) rfl ag5 (hl _ _ rfl) rfl) ?_
  refine vw_q 5 rfl (by kernel_rfl) (by repeat (first | exact lle_l0 | exact LLe.refl _ | exact lle_none | refine lle_up ?_ rfl)) (fun _ _ hh hl => lo_gtr rfl rfl) ?_
  refine vw_qc 6 rfl (by kernel_rfl) (by repeat (first | exact lle_l0 | exact LLe.refl _ | exact lle_none | refine lle_up ?_ rfl)) (deed_bound _ (decide (2 < d.how)) 7 (by omega)) (en_f cb145 rfl) ?_
  refine vw_e 7 rfl (by kernel_rfl) (op1_bslice (cs := [_, _]) 1 rfl Tryz.underlying228 sz24 zx24 rfl ⟨rfl, rfl, ⟨rfl, rfl, trivial⟩⟩ rfl rfl (by decide) (fun b63 => ?_))
  refine ⟨⟨(.refl _), (by repeat (first | exact lle_l0 | exact LLe.refl _ | exact lle_none | refine lle_up ?_ rfl))⟩, ?_⟩
  refine vw_giveO 1 rfl (by repeat (first | exact lle_l0 | exact LLe.refl _ | exact lle_none | refine lle_up ?_ rfl)) (by kernel_rfl) (fun _ hl64 hg65 => ?_)
  have hs66 := slh_bx (k := 1) (H := _) (enc := (fun z => [.int .i64 z])) (wf := (fun _ => True)) [nameE d.name, boundE (decide (2 < d.how)) 7] (fun _ => rfl) (hg65 _ _ rfl) rfl rfl (Nat.le_refl _) (fun _ _ => trivial)
  refine vw_qc 8 rfl (by kernel_rfl) (by repeat (first | exact lle_l0 | exact LLe.refl _ | exact lle_none | refine lle_up ?_ rfl)) (deed_first _ (some ⟨b63, 0, none⟩) 2 2 [nameE d.name, boundE (decide (2 < d.how)) 7] hs66 (by first | omega | (simp; done) | decide)) (en_f cb144 rfl) ?_
  refine vw_q 9 rfl (by kernel_rfl) (by repeat (first | exact lle_l0 | exact LLe.refl _ | exact lle_none | refine lle_up ?_ rfl)) (fun _ _ hh hl => lo_assign (v := .int _ _) rfl) ?_
  refine vw_done (by kernel_rfl) (seqK_n (cw_ret (fnK_r (res1 rfl (rv_t (v := .int _ _) rfl)) (((HLe.refl _).trans hl11).trans hl64) (congrArg (Value.int .i64) ?_))))
  unfold deedE
  repeat (first | rw [if_pos (by omega)] | rw [if_neg (by omega)] | rw [if_pos (by assumption)] | rw [if_neg (fun q => q (by assumption))])
  all_goals rfl
end Go.SW
set_option linter.unusedVariables false
set_option maxRecDepth 100000
set_option maxHeartbeats 4000000
namespace Go.SW
open Go.Proofs
theorem clone_Pair (H : Hp) (s_a : Option Addr) (s_l s_c : Nat) (s : List Pair) (s_h : SlH pairE 4 H (.slice s_a s_l s_c) s) (hl : s.length ≤ 1000000) : Ph Tryz.prog 196 #[.slice s_a s_l s_c] H (fun v H' => ∃ (a1 : Option Addr) (c1 : Nat), v = .slice a1 s.length c1 ∧ SlH pairE 4 H' (.slice a1 s.length c1) s) := by
  refine ph_cw Tryz.func196 rfl Tryz.ntmps196 rfl (fun N => ?_)
  refine cw_seq (cw_region (ol rfl (lo_assign (v := .slice _ _ _) rfl) (ow_nil (seqK_n (cw_seq ?_)))))
  refine cw_seq (cw_region (ol rfl (lo_move (v := .slice _ _ _) rfl) (ol rfl (lo_sleq_nil rfl rfl Tryz.underlying40) (ow_nil (seqK_n ?_)))))
  refine cw_cond rfl (fun h1 => ?_) (fun h1 => ?_)
  · refine cw_seq (cw_region (ol rfl (lo_assign (v := .slice _ _ _) rfl) (ow_nil (seqK_n (cw_ret ?_)))))
    refine seqK_r (fnK_r (res1 rfl (rv_t (v := .slice _ _ _) rfl)) (.refl _) ?_)
    obtain rfl : s_a = none := Option.isNone_iff_eq_none.1 (by assumption)
    rw [slh_none s_h]
    exact ⟨none, 0, rfl, slh_nil⟩
  refine cw_skip (seqK_n (cw_seq (cw_region (ow1 (op1_bslice (cs := []) 0 rfl Tryz.underlying40 sz182 zx182 rfl trivial rfl rfl (by decide) (fun b2 => ?_))))))
  refine ol rfl (lo_move (v := .slice _ _ _) rfl) (ow1 (op1_app 0 rfl rfl Tryz.underlying40 Tryz.underlying40 rfl sz182 by182 (by decide) zr182 (ownV_bx rfl) (src_slh (enc := Pair.cells) (wf := Pair.wf) (fun _ => rfl) s_h) (one_flat (fun _ => rfl) _) rfl (by omega) rfl (fun v3 en4 ho5 => ?_)))
  have ho6 := own_cat0 (enc := Pair.cells) s ho5
  refine ol rfl (lo_assign rfl) (ow_nil (seqK_n (cw_giveO 0 rfl (fun _ hl7 hg8 => ?_))))
  have hs9 := slh_own (enc := Pair.cells) (wf := Pair.wf) (fun _ => rfl) ho6 (slh_wf s_h) hg8
  obtain ⟨⟨a10, c11, rfl, -⟩, -⟩ := id hs9
  refine cw_ret (fnK_r (res1 rfl (rv_t (v := .slice _ _ _) rfl)) ((HLe.refl _).trans hl7) ?_)
  exact ⟨_, _, rfl, hs9⟩
end Go.SW
