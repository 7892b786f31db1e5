/-
  A part of the proof of DeedShort: The walks of this seat, printed by program: deed.Pack. The walks of this seat, printed by program: stairwellref22.Pack, stairwellref22.SameAll. The walks of this seat, printed by program: stairwelllaw22.All. The walks of this seat, printed by program: mail.Read. The walks of this seat, printed by program: stairwellref13.Read. The walks of this seat, printed by program: deed.read. The walks of this seat, printed by program: stairwellref22.bind. The walks of this seat, printed by program: stairwellref22.read. The walks of this seat, printed by program: deed.Unpack, stairwellref22.Unpack. The walks of this seat, printed by program: stairwelllaw22.DeedReads. The walks of this seat, printed by program: stairwelllaw22.DeedShort. From the data that a row's arguments read as to the ground of the walks, and back: a world seen as one that is read alone; integers, texts, bools, structs, slices opened; the row's last step. Over any program; no condition. How long a slice that was handed over can be. Over any program; no condition.
-/
import Derived.Test.YtbcoemocijnooaaGreatDoorProg
import Derived.Test.YtbcoemocijnooaaGreatDoorDeedShortP2
import Derived.KernelRfl
import Derived.Test.YtbcoemocijnooaaGreatDoorDeedShortP4
import Derived.Test.YtbcoemocijnooaaGreatDoorDeedShortP1
import Derived.ProofKit
import Derived.OpenShut
import Derived.Deep.Slices
import Derived.Carry
import Derived.Lib.LaidTab
import Derived.SizedLaws
set_option linter.unusedVariables false
set_option linter.unusedSimpArgs false
set_option linter.unusedVariables false
set_option maxRecDepth 100000
set_option maxHeartbeats 4000000
namespace Go.SW
open Go.Proofs
theorem cb61 : Callable Tryz.prog 61 := callable_of Tryz.func61 (by kernel_rfl) (by kernel_rfl)
theorem deed_Pack (H : Hp) (l_a : Option Addr) (l_l l_c : Nat) (l : List DeedR) (l_h : SlH deedRE 29 H (.slice l_a l_l l_c) l) (hML : GInt H 2) : Pr Tryz.prog 14 #[.slice l_a l_l l_c] H (.tuple #[str ((packD l).1), .int .i64 ((packD l).2)]) := by
  refine pr_cw Tryz.func14 rfl Tryz.ntmps14 rfl (fun N => ?_)
  refine cw_seq (cw_region (ol rfl (lo_assign (v := str _) rfl) (oai rfl rfl (ow_nil (seqK_n ?_)))))
  refine cw_seq (cw_seq (cw_region (ol rfl (lo_move (v := .slice _ _ _) rfl) (ol rfl (lo_len_slh rfl l_h Tryz.underlying23) (ol rfl (lo_gtr rfl rfl) ?_)))))
  refine ow_nil (seqK_n (cw_cond rfl (fun h1 => ?_) (fun h1 => ?_)))
  · have p2 := dt h1
    refine cw_seq (cw_region (ol rfl (lo_assign (v := str _) rfl) (oai rfl rfl (ow_nil (seqK_n ?_)))))
    refine cw_ret (seqK_r (fnK_r (res2 rfl (rv_t (v := str _) rfl) (rv_t (v := .int _ _) rfl)) (.refl _) ?_))
    unfold packD
    rw [if_pos (by omega)]
  have p3 := df h1
  refine cw_skip (seqK_n (cw_seq (cw_region (ow1 (op1_alloc 0 rfl zr129 (fun b4 => ?_))))))
  refine ow_nil (seqK_n (cw_seq (cw_region (ol rfl (lo_move (v := .slice _ _ _) rfl) (ol rfl (lo_len_slh rfl l_h Tryz.underlying23) ?_)))))
  refine ol rfl (lo_conv_in rfl (by rw [Tryz.underlying3]; rfl) Tryz.underlying5 (rg_u8 (by omega))) ?_
  refine ow1 (op1_in (en_f cb60 rfl) Tryz.func60 rfl Tryz.ntmps60 rfl rfl ?_)
  refine cw_seq (cw_region (ol rfl (lo_assign rfl) (ow_nil (seqK_n (cw_seq ?_)))))
  refine cw_region (ol rfl (lo_move (v := .pointer (some ⟨_, _, none⟩)) rfl) ?_)
  refine ow1 (copyCheck 0 rfl rfl (.inl rfl) rfl ?_)
  refine ow_nil (seqK_n (cw_seq (cw_region (ol rfl (lo_move (v := .pointer (some ⟨_, _, none⟩)) rfl) (ol rfl (lo_move (v := .pointer (some ⟨_, _, none⟩)) rfl) ?_)))))
  refine ol rfl (lo_nilCheck rfl) (ol rfl (lo_fieldAddr rfl fl129_1) (ol rfl (lo_load1 (i := 0) (v := .slice _ _ _) rfl ag127 rfl rfl) (omi rfl rfl ?_)))
  refine ow1 (op1_bslice (cs := [_]) 1 rfl Tryz.underlying127 sz5 zx5 rfl ⟨rfl, rfl, trivial⟩ rfl rfl (by decide) (fun b5 => ?_))
  refine ow1 (op1_app 2 rfl rfl Tryz.underlying127 Tryz.underlying127 rfl sz5 by5 (by decide) zr5 ownV_nil (src_bx (i := 1) rfl rfl) (List.all_eq_true.1 rfl) rfl (by omega) rfl (fun v6 en7 ho8 => ?_))
  have ho9 := byte_app (bs := []) ho8 (by first | rfl | simp) (by omega)
  refine ol rfl (lo_nilCheck rfl) (ol rfl (lo_fieldAddr rfl fl129_1) ?_)
  refine ow1 (op1_store1n (i := 0) [_, _] rfl rfl (ownV_one ho9) sz127 rfl rfl rfl ?_)
  refine ow_nil (seqK_n (cw_seq (cw_region (ol rfl (lo_assign rfl) (ow_nil ?_)))))
  refine seqK_n (cw_ret (fnK_r (res1 rfl (rv_t rfl)) (.refl _) (ow_nil (seqK_n (cw_seq ?_)))))
  refine cw_seq (cw_region (ol rfl (lo_move (v := .slice _ _ _) rfl) (ol rfl (lo_len_slh rfl l_h Tryz.underlying23) (omi rfl rfl (ow_nil ?_)))))
  refine seqK_n (cw_block ?_)
  refine cw_loop4 [2, 3, 6, 7, 8, 18, 19, 20, 21, 22, 23, 24, 25, 26, 27, 28, 29, 30, 31, 32] [0, 2, 3] (fun (k : Nat) (bs : Bs) (v : Value) (en : Option (Nat × Obj)) G => upd (G) 18 (.int .i64 (k : Int))) (fun (k : Nat) (bs : Bs) (v : Value) (en : Option (Nat × Obj)) G => lupd (lupd (G) 0 (some (b4, bx 129 [.pointer (some ⟨b4, 0, none⟩), v]))) 2 (en)) (fun (k : Nat) (bs : Bs) (v : Value) (en : Option (Nat × Obj)) H' => k ≤ l.length ∧ packD l = packGo (l.drop k) bs ∧ (1 ≤ bs.length ∧ bs.length ≤ 1 + 5000 * k) ∧ OwnV 1 5 v en bs.length (bs.map u8v) ∧ (bs.length = 0 → v = .slice none 0 0)) (fun (k : Nat) (bs : Bs) (v : Value) (en : Option (Nat × Obj)) => l.length - k) 0 ([] ++ [UInt8.ofNat ((l.length : Int)).toNat]) v6 en7 (upd_intro (mask_intro (by first | exact off_refl | (repeat (first | exact off_mask | refine off_upd rfl ?_ | refine off_mask2 rfl ?_)))) rfl) (lupd_intro (lupd_intro (lmask_intro offl_refl) rfl) rfl) ?_ ?_
  · refine ⟨Nat.zero_le _, ?_, ?_, ho9, (nz_of ho9 (by first | (simp; done) | (simp; omega)))⟩
    · unfold packD
      rw [if_neg (by omega)]
      simp [numB]
    simp
  intro k bs v en J11 JL11 H11 hp10 hl11
  obtain ⟨hk1, hk2, hk3, ho, hz⟩ := hp10
  refine cw_seq (cw_region (ol rfl (lo_lss rfl rfl) (ow_nil (seqK_n (cw_seq ?_)))))
  refine cw_cond rfl (fun h12 => ?_) (fun h12 => ?_)
  · have p13 := dt h12
    refine cw_skip (seqK_n (cw_seq (cw_block (cw_seq (cw_region ?_)))))
    obtain ⟨c14, hc15⟩ := getE (xs := l) (m := k) (by omega)
    obtain ⟨cs16, hE17, at18⟩ := (l_h.mono ((HLe.refl _).trans hl11) (fun _ _ q => deedRE_mono _ _ _ _ ((HLe.refl _).trans hl11) q)).get hc15
    obtain ⟨a19, c20, a22, c23, rfl, hs21, hs24, c14_w⟩ := hE17
    have c14_w' := c14_w
    simp only [DeedR.wf, ShopR.wf, QueueR.wf, BindR.wf, Mail.wf] at c14_w'
    refine ol rfl (lo_indexAddr rfl rfl (l_h.mono ((HLe.refl _).trans hl11) (fun _ _ q => deedRE_mono _ _ _ _ ((HLe.refl _).trans hl11) q)).1 at18 Tryz.underlying23 sz106 (by omega) (by omega)) (ol rfl (lo_loadEA rfl ag106 sz106 at18) (ow1 (op1_alloc 3 rfl zr106 (fun b25 => ?_))))
    refine ow1 (op1_storeAll (i := 3) (vs := [_, _, _, _, _, _, _, _, _, _, _, _, _, _, _, _, _, _, _, _, _, _, _, _, _, _, _, _, _]) rfl rfl rfl sz106 rfl rfl rfl ?_)
    refine ow_nil (seqK_n (cw_seq (cw_region (ol rfl (lo_loadA (i := 3) (vs := [_, _, _, _, _, _, _, _, _, _, _, _, _, _, _, _, _, _, _, _, _, _, _, _, _, _, _, _, _]) rfl ag106 sz106 rfl rfl rfl) ?_))))
    refine ow1 (op1_pr (deed_Bytes _ c14 a19 c20 hs21 a22 c23 hs24 c14_w (hML.mono ((HLe.refl _).trans hl11))) (en_f cb45 rfl) rfl ?_)
    have := deedBytes_len (d := c14) (by first | omega | decide)
    have := deedE_r c14
    refine ol rfl (lo_move (v := .tuple #[_, _]) rfl) (ol rfl (lo_extract (v := str _) rfl rfl) (ol rfl (lo_extract (v := .int _ _) rfl rfl) (ol rfl (lo_assign (v := str _) rfl) (oai rfl rfl (ow_nil ?_)))))
    refine seqK_n (cw_seq (cw_seq (cw_region (omi rfl rfl (ol rfl (lo_neq rfl rfl) ?_)))))
    refine ow_nil (seqK_n (cw_cond rfl (fun h26 => ?_) (fun h26 => ?_)))
    · have h27 := not_t h26
      have p28 := df h27
      refine cw_seq (cw_region (omi rfl rfl (ol rfl (lo_assign (v := str _) rfl) (oai rfl rfl (ow_nil ?_)))))
      refine seqK_n (cw_ret (seqK_r (blkK_r (seqK_r (loopK_r ?_)))))
      refine blkK_r (seqK_r (fnK_r (res2 rfl (rv_t (v := str _) rfl) (rv_t (v := .int _ _) rfl)) ((HLe.refl _).trans hl11) ?_))
      have e : packD l = ([], deedE c14) := by
        rw [hk2, dropE hc15]
        unfold packGo
        rw [if_pos (by omega)]
      rw [e]
    have h29 := not_f h26
    have p30 := dt h29
    refine cw_skip (seqK_n (cw_region (ol rfl (lo_move (v := str _) rfl) ?_)))
    refine ow1 (op1_in (en_f cb61 rfl) Tryz.func61 rfl Tryz.ntmps61 rfl rfl ?_)
    refine cw_seq (cw_region (oai rfl rfl (ol rfl (lo_assign rfl) (ow_nil (seqK_n ?_)))))
    refine cw_seq (cw_region (ol rfl (lo_move (v := .pointer (some ⟨_, _, none⟩)) rfl) ?_))
    refine ow1 (copyCheck 0 rfl rfl (.inr rfl) rfl ?_)
    refine ow_nil (seqK_n (cw_seq (cw_region (ol rfl (lo_move (v := .pointer (some ⟨_, _, none⟩)) rfl) (ol rfl (lo_move (v := .pointer (some ⟨_, _, none⟩)) rfl) ?_)))))
    refine ol rfl (lo_nilCheck rfl) (ol rfl (lo_fieldAddr rfl fl129_1) (ol rfl (lo_load1 (i := 0) rfl ag127 rfl rfl) (ol rfl (lo_move (v := str _) rfl) (ow1 (op1_app 2 rfl rfl Tryz.underlying127 Tryz.underlying9 rfl sz5 by5 (by decide) zr5 ho src_str one_str rfl (by omega) rfl (fun v31 en32 ho33 => ?_))))))
    have ho34 := bytes_app (bs := bs) (cs := deedBytes c14) ho33
    refine ol rfl (lo_nilCheck rfl) (ol rfl (lo_fieldAddr rfl fl129_1) ?_)
    refine ow1 (op1_store1n (i := 0) [_, _] rfl rfl (ownV_one ho34) sz127 rfl rfl rfl ?_)
    refine ow_nil (seqK_n (cw_seq (cw_region (ol rfl (lo_move (v := str _) rfl) (ol rfl (lo_len_str rfl Tryz.underlying9) ?_)))))
    refine oai rfl rfl (ol rfl (lo_assign rfl) (ow_nil (seqK_n (cw_ret (fnK_r (res2 rfl (rv_t (v := .int _ _) rfl) (rv_t rfl)) (.refl _) ?_)))))
    refine ow_nil (blkK_n (seqK_n (cw_region (ol rfl (lo_add rfl rfl (rg_i64 (by omega))) (omi rfl rfl ?_)))))
    refine ow_nil ?_
    refine next4 (k + 1) (bs ++ deedBytes c14) v31 en32 (upd_intro (mask_intro (by first | exact off_refl | (repeat (first | exact off_mask | refine off_upd rfl ?_ | refine off_mask2 rfl ?_)))) rfl) (lupd_intro (lupd_intro (lmask_intro (by first | exact offl_refl | (repeat (first | exact offl_mask | refine offl_upd rfl ?_ | refine offl_mask2 rfl ?_)))) rfl) rfl) hl11 ?_ ?_
    · have hdb := deedBytes_s (d := c14) (by omega) (by omega) (by first | assumption | exact slh_kind (by assumption)) (by first | assumption | exact slh_kind (by assumption))
      have hdl := deedBytes_len (d := c14) (by omega)
      refine ⟨by omega, ?_, ?_, ho34, (nz_of ho34 (by first | (simp; done) | (simp; omega)))⟩
      · rw [hk2, dropE hc15]
        conv => lhs; unfold packGo
        rw [if_neg (by omega), ← hdb]
      rw [List.length_append]; omega
    omega
  have p35 := df h12
  refine cw_exit (seqK_e (loopK_e (blkK_hit (seqK_n (cw_seq ?_)))))
  refine cw_region ?_
  refine ow1 (op1_in (en_f cb62 rfl) Tryz.func62 rfl Tryz.ntmps62 rfl rfl ?_)
  refine cw_seq (cw_region (ol rfl (lo_assign (v := str _) rfl) (ow_nil (seqK_n (cw_seq ?_)))))
  refine cw_anyX 2 mixd ?_
  refine vw_q 0 rfl (by kernel_rfl) (by repeat (first | exact lle_l0 | exact LLe.refl _ | exact lle_none | refine lle_up ?_ rfl)) (fun _ _ hh hl => lo_move (v := .pointer (some ⟨_, _, none⟩)) rfl) ?_
  refine vw_q 1 rfl (by kernel_rfl) (by repeat (first | exact lle_l0 | exact LLe.refl _ | exact lle_none | refine lle_up ?_ rfl)) (fun _ _ hh hl => lo_nilCheck rfl) ?_
  refine vw_q 2 rfl (by kernel_rfl) (by repeat (first | exact lle_l0 | exact LLe.refl _ | exact lle_none | refine lle_up ?_ rfl)) (fun _ _ hh hl => lo_fieldAddr rfl fl129_1) ?_
  refine vw_q 3 rfl (by kernel_rfl) (by repeat (first | exact lle_l0 | exact LLe.refl _ | exact lle_none | refine lle_up ?_ rfl)) (fun _ _ hh hl => lo_load1 (i := 0) rfl ag127 (hl _ _ rfl) rfl) ?_
  refine vw_q 4 rfl (by kernel_rfl) (by repeat (first | exact lle_l0 | exact LLe.refl _ | exact lle_none | refine lle_up ?_ rfl)) (fun _ _ hh hl => lo_usd rfl ho hz) ?_
  refine vw_q 5 rfl (by kernel_rfl) (by repeat (first | exact lle_l0 | exact LLe.refl _ | exact lle_none | refine lle_up ?_ rfl)) (fun _ _ hh hl => lo_move (v := .pointer (some ⟨_, _, none⟩)) rfl) ?_
  refine vw_q 6 rfl (by kernel_rfl) (by repeat (first | exact lle_l0 | exact LLe.refl _ | exact lle_none | refine lle_up ?_ rfl)) (fun _ _ hh hl => lo_nilCheck rfl) ?_
  refine vw_q 7 rfl (by kernel_rfl) (by repeat (first | exact lle_l0 | exact LLe.refl _ | exact lle_none | refine lle_up ?_ rfl)) (fun _ _ hh hl => lo_fieldAddr rfl fl129_1) ?_
  refine vw_q 8 rfl (by kernel_rfl) (by repeat (first | exact lle_l0 | exact LLe.refl _ | exact lle_none | refine lle_up ?_ rfl)) (fun _ _ hh hl => lo_load1 (i := 0) rfl ag127 (hl _ _ rfl) rfl) ?_
  refine vw_q 9 rfl (by kernel_rfl) (by repeat (first | exact lle_l0 | exact LLe.refl _ | exact lle_none | refine lle_up ?_ rfl)) (fun _ _ hh hl => lo_len_own rfl ho Tryz.underlying127) ?_
  refine vw_e 10 rfl (by kernel_rfl) (op1_ustr (l := bs) 2 rfl rfl Tryz.underlying180 co5 ho hz (by omega) rfl ?_)
  refine ⟨⟨(.refl _), (by repeat (first | exact lle_l0 | exact LLe.refl _ | exact lle_none | refine lle_up ?_ rfl))⟩, ?_⟩
  refine vw_q 11 rfl (by kernel_rfl) (by repeat (first | exact lle_l0 | exact LLe.refl _ | exact lle_none | refine lle_up ?_ rfl)) (fun _ _ hh hl => lo_assign (v := str _) rfl) ?_
  refine vw_done (by kernel_rfl) (seqK_n (cw_ret (fnK_r (res1 rfl (rv_t (v := str _) rfl)) (.refl _) (ol rfl (lo_assign (v := str _) rfl) (oai rfl rfl ?_)))))
  refine ow_nil (seqK_n (cw_ret (fnK_r (res2 rfl (rv_t (v := str _) rfl) (rv_t (v := .int _ _) rfl)) ((HLe.refl _).trans hl11) ?_)))
  rw [List.drop_of_length_le (by omega)] at hk2
  rw [hk2]
  rfl
end Go.SW
set_option linter.unusedVariables false
set_option maxRecDepth 100000
set_option maxHeartbeats 4000000
namespace Go.SW
open Go.Proofs
end Go.SW
set_option linter.unusedVariables false
set_option maxRecDepth 100000
set_option maxHeartbeats 4000000
namespace Go.SW
open Go.Proofs
theorem by119 : By Tryz.prog 119 344 := by_of (by kernel_rfl)
theorem cb57 : Callable Tryz.prog 57 := callable_of Tryz.func57 (by kernel_rfl) (by kernel_rfl)
theorem cb58 : Callable Tryz.prog 58 := callable_of Tryz.func58 (by kernel_rfl) (by kernel_rfl)
theorem zx119 : ∃ z, ∀ w, (zeroValue 119).run Tryz.prog w = .ok z w := ⟨.agg #[.int .u8 0, .int .u64 0, str [], .int .u8 0, str [], str [], .int .u64 0, .int .u64 0, str [], str [], str [], .bool false, str [], .slice none 0 0, .bool false, str [], .int .u64 0, .int .u8 0, .int .u8 0, .int .u8 0, .int .u64 0, .int .u64 0, str [], str [], .slice none 0 0, str [], .int .u64 0, .int .u8 0, str []], fun w => by kernel_rfl⟩
theorem l22_All (H : Hp) (l_a : Option Addr) (l_l l_c : Nat) (l : List DeedR) (l_h : SlH deedRE 29 H (.slice l_a l_l l_c) l) (hl : l.length ≤ 409120605684) : Ph Tryz.prog 12 #[.slice l_a l_l l_c] H (fun v H' => ∃ (a1 : Option Addr) (c1 : Nat), v = .tuple #[.slice a1 ((allD l).1).length c1, .bool ((allD l).2)] ∧ SlH deedRE 29 H' (.slice a1 ((allD l).1).length c1) ((allD l).1)) := by
  refine ph_cw Tryz.func12 rfl Tryz.ntmps12 rfl (fun N => ?_)
  refine cw_seq (cw_region (ol rfl (lo_assign (v := .slice _ _ _) rfl) (oab rfl rfl (ow_nil (seqK_n ?_)))))
  refine cw_seq (cw_region (ol rfl (lo_assign (v := .slice _ _ _) rfl) (ow_nil (seqK_n (cw_seq ?_)))))
  refine cw_seq (cw_region (ol rfl (lo_move (v := .slice _ _ _) rfl) (ol rfl (lo_len_slh rfl l_h Tryz.underlying23) (omi rfl rfl (ow_nil ?_)))))
  refine seqK_n (cw_block (cw_loop5 [2, 3, 4, 6, 9, 10, 11, 12, 13, 14, 15, 16, 17, 18, 19, 20, 21] [0, 1, 3] (fun (k : Nat) (out : List DeedR) (v : Value) (en : Option (Nat × Obj)) (cs : List Value) G => upd (upd (G) 9 (.int .i64 (k : Int))) 4 (v)) (fun (k : Nat) (out : List DeedR) (v : Value) (en : Option (Nat × Obj)) (cs : List Value) G => lupd (G) 3 (en)) (fun (k : Nat) (out : List DeedR) (v : Value) (en : Option (Nat × Obj)) (cs : List Value) H' => k ≤ l.length ∧ out = l.take k ∧ (l.take k).all lightD = true ∧ OwnV 29 119 v en out.length cs ∧ Rl deedRE H' out cs) (fun (k : Nat) (out : List DeedR) (v : Value) (en : Option (Nat × Obj)) (cs : List Value) => l.length - k) 0 [] (.slice none 0 0) none [] (upd_intro (upd_intro (mask_intro (by first | exact off_refl | (repeat (first | exact off_mask | refine off_upd rfl ?_ | refine off_mask2 rfl ?_)))) rfl) rfl) (lupd_intro (lmask_intro offl_refl) rfl) ?_ ?_))
  · exact ⟨Nat.zero_le _, rfl, rfl, ownV_nil, rl_nil⟩
  intro k out v en cs J2 JL2 H2 hp1 hl2
  obtain ⟨hk1, hk2, hk3, ho, hw⟩ := hp1
  have hol : out.length = k := by rw [hk2, List.length_take]; omega
  refine cw_seq (cw_region (ol rfl (lo_lss rfl rfl) (ow_nil (seqK_n (cw_seq ?_)))))
  refine cw_cond rfl (fun h3 => ?_) (fun h3 => ?_)
  · have p4 := dt h3
    refine cw_skip (seqK_n (cw_seq (cw_block (cw_seq (cw_region ?_)))))
    obtain ⟨c5, hc6⟩ := getE (xs := l) (m := k) (by omega)
    obtain ⟨cs7, hE8, at9⟩ := (l_h.mono ((HLe.refl _).trans hl2) (fun _ _ q => deedRE_mono _ _ _ _ ((HLe.refl _).trans hl2) q)).get hc6
    obtain ⟨a10, c11, a13, c14, rfl, hs12, hs15, c5_w⟩ := hE8
    have c5_w' := c5_w
    simp only [DeedR.wf, ShopR.wf, QueueR.wf, BindR.wf, Mail.wf] at c5_w'
    refine ol rfl (lo_indexAddr rfl rfl (l_h.mono ((HLe.refl _).trans hl2) (fun _ _ q => deedRE_mono _ _ _ _ ((HLe.refl _).trans hl2) q)).1 at9 Tryz.underlying23 sz106 (by omega) (by omega)) (ol rfl (lo_loadEA rfl ag106 sz106 at9) (ow1 (op1_alloc 0 rfl zr106 (fun b16 => ?_))))
    refine ow1 (op1_storeAll (i := 0) (vs := [_, _, _, _, _, _, _, _, _, _, _, _, _, _, _, _, _, _, _, _, _, _, _, _, _, _, _, _, _]) rfl rfl rfl sz106 rfl rfl rfl ?_)
    refine ow_nil (seqK_n (cw_seq (cw_seq (cw_region (ol rfl (lo_loadA (i := 0) (vs := [_, _, _, _, _, _, _, _, _, _, _, _, _, _, _, _, _, _, _, _, _, _, _, _, _, _, _, _, _]) rfl ag106 sz106 rfl rfl rfl) ?_)))))
    refine ow1 (op1_pr (l22_Light _ c5 a10 c11 hs12 a13 c14 hs15 c5_w) (en_f cb57 rfl) rfl ?_)
    have hld16 := lightD_len c5
    refine ol rfl (lo_not rfl) (ow_nil (seqK_n (cw_cond rfl (fun h17 => ?_) (fun h17 => ?_))))
    · have h18 := not_t h17
      refine cw_seq (cw_region (ol rfl (lo_assign (v := .slice _ _ _) rfl) (oab rfl rfl (ow_nil (seqK_n ?_)))))
      refine cw_ret (seqK_r (blkK_r (seqK_r (loopK_r (blkK_r ?_)))))
      refine seqK_r (fnK_r (res2 rfl (rv_t (v := .slice _ _ _) rfl) (rv_t (v := .bool _) rfl)) ((HLe.refl _).trans hl2) ?_)
      have e : allD l = ([], false) := by
        unfold allD
        rw [if_neg]
        rw [Bool.not_eq_true]
        exact List.all_eq_false.2 ⟨c5, List.mem_of_getElem? hc6, by simp [*]⟩
      rw [e]
      exact ⟨none, 0, rfl, slh_nil⟩
    have h19 := not_f h17
    refine cw_skip (seqK_n (cw_region (ol rfl (lo_move rfl) (ol rfl (lo_loadA (i := 0) (vs := [_, _, _, _, _, _, _, _, _, _, _, _, _, _, _, _, _, _, _, _, _, _, _, _, _, _, _, _, _]) rfl ag106 sz106 rfl rfl rfl) ?_))))
    refine ow1 (op1_ph (l22_To _ c5 a10 c11 hs12 a13 c14 hs15 c5_w (by first | omega | (have := lightD_len c5 (by assumption); omega))) (en_f cb58 rfl) rfl ?_)
    rintro _ H27 ⟨a20, c21, a23, c24, rfl, hs22, hs25⟩ hl26
    refine ow1 (op1_bslice (cs := [_, _, _, _, _, _, _, _, _, _, _, _, _, _, _, _, _, _, _, _, _, _, _, _, _, _, _, _, _]) 1 rfl Tryz.underlying27 sz119 zx119 rfl ⟨rfl, rfl, trivial⟩ rfl rfl (by decide) (fun b28 => ?_))
    refine ow1 (op1_app 3 rfl rfl Tryz.underlying27 Tryz.underlying27 rfl sz119 by119 (by decide) zr119 ho (src_bx (i := 1) rfl rfl) (List.all_eq_true.1 rfl) rfl (by omega) rfl (fun v29 en30 ho31 => ?_))
    have ho32 := ownV_cast (len' := (out ++ [c5]).length) ho31 (by simp) rfl
    have hrl33 : Rl deedRE _ (out ++ [c5]) _ := rl_app (hw.mono deedRE_mono ((HLe.refl _).trans hl26)) (⟨_, _, rfl, ⟨a20, c21, a23, c24, rfl, hs22, hs25, c5_w⟩, rl_nil⟩)
    refine ol rfl (lo_assign rfl) (ow_nil (blkK_n (seqK_n (cw_region (ol rfl (lo_add rfl rfl (rg_i64 (by omega))) ?_)))))
    refine omi rfl rfl (ow_nil ?_)
    refine next5 (k + 1) (out ++ [c5]) v29 en30 (cs ++ [.int .u8 c5.kind, .int .u64 c5.tick, str c5.shop.name, .int .u8 c5.shop.sort, str c5.shop.to, str c5.queue.name, .int .u64 c5.queue.most, .int .u64 c5.queue.life, str c5.queue.dead, str c5.bind.shop, str c5.bind.to, .bool c5.bind.up, str c5.bind.key, (.slice a20 c5.bind.want.length c21), .bool c5.bind.all, str c5.name, .int .u64 c5.id, .int .u8 c5.how, .int .u8 c5.frm, .int .u8 c5.code, .int .u64 c5.number, .int .u64 c5.mail.id, str c5.mail.shop, str c5.mail.key, (.slice a23 c5.mail.head.length c24), str c5.mail.body, .int .u64 c5.mail.due, .int .u8 c5.mail.hops, str c5.text]) (upd_intro (upd_intro (mask_intro (by first | exact off_refl | (repeat (first | exact off_mask | refine off_upd rfl ?_ | refine off_mask2 rfl ?_)))) rfl) rfl) (lupd_intro (lmask_intro (by first | exact offl_refl | (repeat (first | exact offl_mask | refine offl_upd rfl ?_ | refine offl_mask2 rfl ?_)))) rfl) (hl2.trans hl26) ?_ ?_
    · refine ⟨by omega, ?_, ?_, ho32, hrl33⟩
      · rw [takeE hc6, hk2]
      rw [takeE hc6, List.all_append, hk3]
      simp [*]
    omega
  have p34 := df h3
  refine cw_exit (seqK_e (loopK_e (blkK_hit (seqK_n (cw_seq ?_)))))
  refine cw_region (ol rfl (lo_move rfl) (ol rfl (lo_assign rfl) (oab rfl rfl (ow_nil (seqK_n ?_)))))
  refine cw_giveO 3 rfl (fun _ hl35 hg36 => ?_)
  have hs37 := slh_ownE (E := deedRE) deedRE_wide ho (hw.mono deedRE_mono ((HLe.refl _).trans hl35)) hg36
  obtain ⟨⟨a38, c39, rfl, -⟩, -⟩ := id hs37
  refine cw_ret (fnK_r (res2 rfl (rv_t (v := .slice _ _ _) rfl) (rv_t (v := .bool _) rfl)) (((HLe.refl _).trans hl2).trans hl35) ?_)
  rw [List.take_of_length_le (by omega)] at hk2 hk3
  subst hk2
  have e : allD out = (out, true) := by unfold allD; rw [if_pos hk3]
  rw [e]
  exact ⟨_, _, rfl, hs37⟩
end Go.SW
set_option linter.unusedVariables false
set_option maxRecDepth 100000
set_option maxHeartbeats 4000000
namespace Go.SW
open Go.Proofs
theorem bd42_0u64 (a1 : Int) (w : World) : (Instr.build 42 #[(0, .int .u64 a1)]).run Tryz.prog w = .ok (.agg #[.int .u64 a1, str [], str [], .slice none 0 0, str [], .int .u64 0, .int .u8 0]) w := by kernel_rfl
theorem mail_Read (H : Hp) (i_b : Nat) (i : In) (hML : GInt H 2) : Pm Tryz.prog 109 #[.pointer (some ⟨i_b, 0, none⟩)] H i_b (bx 169 (In.cells i)) (fun v H' o' => ∃ (a1 : Option Addr) (c1 : Nat), v = .agg (Mail.cells ((mailRead i).1) a1 c1).toArray ∧ o' = bx 169 (In.cells ((mailRead i).2)) ∧ SlH pairE 4 H' (.slice a1 (((mailRead i).1).head).length c1) (((mailRead i).1).head)) := by
  refine pm_cw Tryz.func109 rfl Tryz.ntmps109 rfl (fun N => ?_)
  refine cw_seq (cw_region (ow1 (op1_alloc 1 rfl zr42 (fun b1 => ?_))))
  refine ow_nil (seqK_n (cw_seq (cw_region (ol rfl (lo_move (v := .pointer (some ⟨_, _, none⟩)) rfl) ?_))))
  refine ow1 (op1_pm 0 rfl (in_Num _ i_b i 8 (by omega)) (en_f cb49 rfl) rfl ?_)
  rintro _ _ _ ⟨rfl, rfl, rfl⟩ _
  generalize hq5 : inNum i 8 = q2
  have hf6 := inNum_r i 8
  simp only [hq5] at hf6
  refine ol rfl (lo_build (v := .agg #[_, _, _, _, _, _, _]) rfl (bd42_0u64 _)) (ow1 (op1_alloc 2 rfl zr42 (fun b7 => ?_)))
  refine ow1 (op1_storeAll (i := 2) (vs := [_, _, _, _, _, _, _]) rfl rfl rfl sz42 rfl rfl rfl ?_)
  refine ow_nil (seqK_n (cw_seq (cw_region (ol rfl (lo_move (v := .pointer (some ⟨_, _, none⟩)) rfl) ?_))))
  refine ow1 (op1_pm 0 rfl (in_Text _ i_b q2.2 16 (by omega)) (en_f cb107 rfl) rfl ?_)
  rintro _ _ _ ⟨rfl, rfl, rfl⟩ _
  generalize hq11 : inText q2.2 16 = q8
  have hf12 := inText_len q2.2 16
  simp only [hq11] at hf12
  refine ol rfl (lo_fieldAddr rfl fl42_1) ?_
  refine ow1 (op1_store1n (i := 2) (v := str _) [_, _, _, _, _, _, _] rfl rfl rfl sz9 rfl rfl rfl ?_)
  refine ow_nil (seqK_n (cw_seq (cw_region (ol rfl (lo_move (v := .pointer (some ⟨_, _, none⟩)) rfl) ?_))))
  refine ow1 (op1_pm 0 rfl (in_Text _ i_b q8.2 64 (by omega)) (en_f cb107 rfl) rfl ?_)
  rintro _ _ _ ⟨rfl, rfl, rfl⟩ _
  generalize hq16 : inText q8.2 64 = q13
  have hf17 := inText_len q8.2 64
  simp only [hq16] at hf17
  refine ol rfl (lo_fieldAddr rfl fl42_2) ?_
  refine ow1 (op1_store1n (i := 2) (v := str _) [_, _, _, _, _, _, _] rfl rfl rfl sz9 rfl rfl rfl ?_)
  refine ow_nil (seqK_n (cw_seq (cw_region (ol rfl (lo_move (v := .pointer (some ⟨_, _, none⟩)) rfl) ?_))))
  refine ow1 (op1_pm 0 rfl (head_Read _ i_b q13.2) (en_f cb108 rfl) rfl ?_)
  rintro _ H23 _ ⟨a19, c20, rfl, rfl, hs21⟩ hl22
  generalize hq24 : headRead q13.2 = q18
  simp only [hq24] at hs21
  have hf25 := headRead_len q13.2
  simp only [hq24] at hf25
  refine ol rfl (lo_fieldAddr rfl fl42_3) ?_
  refine ow1 (op1_store1n (i := 2) (v := .slice _ _ _) [_, _, _, _, _, _, _] rfl rfl rfl sz40 rfl rfl rfl ?_)
  refine ow_nil (seqK_n (cw_seq (cw_region (ol rfl (lo_move (v := .pointer (some ⟨_, _, none⟩)) rfl) ?_))))
  refine ow1 (op1_pm 0 rfl (in_Text _ i_b q18.2 256 (by omega)) (en_f cb107 rfl) rfl ?_)
  rintro _ _ _ ⟨rfl, rfl, rfl⟩ _
  generalize hq29 : inText q18.2 256 = q26
  have hf30 := inText_len q18.2 256
  simp only [hq29] at hf30
  refine ol rfl (lo_fieldAddr rfl fl42_4) ?_
  refine ow1 (op1_store1n (i := 2) (v := str _) [_, _, _, _, _, _, _] rfl rfl rfl sz9 rfl rfl rfl ?_)
  refine ow_nil (seqK_n (cw_seq (cw_region (ol rfl (lo_move (v := .pointer (some ⟨_, _, none⟩)) rfl) ?_))))
  refine ow1 (op1_pm 0 rfl (in_Num _ i_b q26.2 8 (by omega)) (en_f cb49 rfl) rfl ?_)
  rintro _ _ _ ⟨rfl, rfl, rfl⟩ _
  generalize hq34 : inNum q26.2 8 = q31
  have hf35 := inNum_r q26.2 8
  simp only [hq34] at hf35
  refine ol rfl (lo_fieldAddr rfl fl42_5) ?_
  refine ow1 (op1_store1n (i := 2) (v := .int _ _) [_, _, _, _, _, _, _] rfl rfl rfl sz39 rfl rfl rfl ?_)
  refine ow_nil (seqK_n (cw_seq (cw_region (ol rfl (lo_move (v := .pointer (some ⟨_, _, none⟩)) rfl) ?_))))
  refine ow1 (op1_pm 0 rfl (in_Num _ i_b q31.2 1 (by omega)) (en_f cb49 rfl) rfl ?_)
  rintro _ _ _ ⟨rfl, rfl, rfl⟩ _
  generalize hq39 : inNum q31.2 1 = q36
  have hf40 := inNum_r q31.2 1
  simp only [hq39] at hf40
  refine ol rfl (lo_conv_in rfl (by rw [Tryz.underlying39]; rfl) Tryz.underlying5 (rg_u8 (by omega))) (ol rfl (lo_fieldAddr rfl fl42_6) ?_)
  refine ow1 (op1_store1n (i := 2) (v := .int _ _) [_, _, _, _, _, _, _] rfl rfl rfl sz5 rfl rfl rfl ?_)
  refine ow_nil (seqK_n (cw_seq (cw_seq (cw_region (ol rfl (lo_move (v := .pointer (some ⟨_, _, none⟩)) rfl) ?_)))))
  refine ow1 (op1_pm 0 rfl (in_Err _ i_b q36.2) (en_f cb50 rfl) rfl ?_)
  rintro _ _ _ ⟨rfl, rfl, rfl⟩ _
  refine ol rfl (lo_eql rfl rfl) (ow_nil (seqK_n (cw_cond rfl (fun h43 => ?_) (fun h43 => ?_))))
  · have p44 := dt h43
    refine cw_region (ol rfl (lo_move (v := .pointer (some ⟨_, _, none⟩)) rfl) (ol rfl (lo_loadA (i := 2) (vs := [_, _, _, _, _, _, _]) rfl ag42 sz42 rfl rfl rfl) ?_))
    refine ow1 (op1_pr (mail_Check _ (⟨q2.1, q8.1, q13.1, q18.1, q26.1, q31.1, q36.1⟩ : Mail) a19 c20 hs21 (by simp only [Mail.wf]; first | omega | (simp; done) | (simp; omega)) (hML.mono ((HLe.refl _).trans hl22))) (en_f cb147 rfl) rfl ?_)
    have := mailC_r (⟨q2.1, q8.1, q13.1, q18.1, q26.1, q31.1, q36.1⟩ : Mail)
    have hmo44 := fun h => mailC_ok (m := (⟨q2.1, q8.1, q13.1, q18.1, q26.1, q31.1, q36.1⟩ : Mail)) h
    refine ow1 (op1_pm 0 rfl (in_Fail _ i_b q36.2 (mailC (⟨q2.1, q8.1, q13.1, q18.1, q26.1, q31.1, q36.1⟩ : Mail)) (by omega)) (en_f cb129 rfl) rfl ?_)
    rintro _ _ _ ⟨rfl, rfl, rfl⟩ _
    generalize hq48 : inFail q36.2 (mailC (⟨q2.1, q8.1, q13.1, q18.1, q26.1, q31.1, q36.1⟩ : Mail)) = q45
    refine ow_nil (seqK_n (cw_seq (cw_seq (cw_region (ol rfl (lo_move (v := .pointer (some ⟨_, _, none⟩)) rfl) ?_)))))
    refine ow1 (op1_pm 0 rfl (in_Err _ i_b q45) (en_f cb50 rfl) rfl ?_)
    rintro _ _ _ ⟨rfl, rfl, rfl⟩ _
    refine ol rfl (lo_neq rfl rfl) (ow_nil (seqK_n (cw_cond rfl (fun h51 => ?_) (fun h51 => ?_))))
    · have h52 := not_t h51
      have p53 := df h52
      refine cw_seq (cw_region (ol rfl (lo_build (v := .agg #[_, _, _, _, _, _, _]) rfl (bd42)) ?_))
      refine ow1 (op1_storeAll (i := 1) (vs := [_, _, _, _, _, _, _]) rfl rfl rfl sz42 rfl rfl rfl ?_)
      refine ow_nil (seqK_n (cw_ret (seqK_r (fnK_r (res1 rfl (rv_c (i := 1) (vs := [_, _, _, _, _, _, _]) rfl ag42 sz42 rfl rfl rfl)) ((HLe.refl _).trans hl22) ?_))))
      refine ⟨_, rfl, ?_⟩
      have e : mailRead i = ((⟨0, [], [], [], [], 0, 0⟩ : Mail), q45) := by unfold mailRead; simp only; (repeat first | simp only [hq5, hq11, hq16, hq24, hq29, hq34, hq39, hq48] | rw [if_pos (by omega)] | rw [if_neg (by omega)]); all_goals first | rfl | (simp [*]; done) | (simp [*]; rfl)
      rw [e]
      exact ⟨_, _, rfl, rfl, slh_nil⟩
    have h54 := not_f h51
    have p55 := dt h54
    refine cw_skip (seqK_n (cw_seq (cw_region (ol rfl (lo_loadA (i := 2) (vs := [_, _, _, _, _, _, _]) rfl ag42 sz42 rfl rfl rfl) ?_))))
    refine ow1 (op1_storeAll (i := 1) (vs := [_, _, _, _, _, _, _]) rfl rfl rfl sz42 rfl rfl rfl ?_)
    refine ow_nil (seqK_n (cw_ret (fnK_r (res1 rfl (rv_c (i := 1) (vs := [_, _, _, _, _, _, _]) rfl ag42 sz42 rfl rfl rfl)) ((HLe.refl _).trans hl22) ?_)))
    refine ⟨_, rfl, ?_⟩
    have e : mailRead i = ((⟨q2.1, q8.1, q13.1, q18.1, q26.1, q31.1, q36.1⟩ : Mail), q45) := by unfold mailRead; simp only; (repeat first | simp only [hq5, hq11, hq16, hq24, hq29, hq34, hq39, hq48] | rw [if_pos (by omega)] | rw [if_neg (by omega)]); all_goals first | rfl | (simp [*]; done) | (simp [*]; rfl)
    rw [e]
    exact ⟨_, _, rfl, rfl, hs21⟩
  have p56 := df h43
  refine cw_skip (seqK_n (cw_seq (cw_seq (cw_region (ol rfl (lo_move (v := .pointer (some ⟨_, _, none⟩)) rfl) ?_)))))
  refine ow1 (op1_pm 0 rfl (in_Err _ i_b q36.2) (en_f cb50 rfl) rfl ?_)
  rintro _ _ _ ⟨rfl, rfl, rfl⟩ _
  refine ol rfl (lo_neq rfl rfl) (ow_nil (seqK_n (cw_cond_t rfl (by rw [h43] <;> rfl) (cw_seq (cw_region ?_)))))
  refine ol rfl (lo_build (v := .agg #[_, _, _, _, _, _, _]) rfl (bd42)) ?_
  refine ow1 (op1_storeAll (i := 1) (vs := [_, _, _, _, _, _, _]) rfl rfl rfl sz42 rfl rfl rfl ?_)
  refine ow_nil (seqK_n (cw_ret (seqK_r (fnK_r (res1 rfl (rv_c (i := 1) (vs := [_, _, _, _, _, _, _]) rfl ag42 sz42 rfl rfl rfl)) ((HLe.refl _).trans hl22) ?_))))
  refine ⟨_, rfl, ?_⟩
  have e : mailRead i = ((⟨0, [], [], [], [], 0, 0⟩ : Mail), q36.2) := by unfold mailRead; simp only; (repeat first | simp only [hq5, hq11, hq16, hq24, hq29, hq34, hq39] | rw [if_pos (by omega)] | rw [if_neg (by omega)]); all_goals first | rfl | (simp [*]; done) | (simp [*]; rfl)
  rw [e]
  exact ⟨_, _, rfl, rfl, slh_nil⟩
end Go.SW
set_option linter.unusedVariables false
set_option maxRecDepth 100000
set_option maxHeartbeats 4000000
namespace Go.SW
open Go.Proofs
end Go.SW
set_option linter.unusedVariables false
set_option maxRecDepth 100000
set_option maxHeartbeats 4000000
namespace Go.SW
open Go.Proofs
theorem bd102_0s_1u64_2u64 (a1 : Bs) (a2 : Int) (a3 : Int) (w : World) : (Instr.build 102 #[(0, str a1), (1, .int .u64 a2), (2, .int .u64 a3)]).run Tryz.prog w = .ok (.agg #[str a1, .int .u64 a2, .int .u64 a3, str []]) w := by kernel_rfl
theorem bd104_0s_1s_2b (a1 : Bs) (a2 : Bs) (a3 : Bool) (w : World) : (Instr.build 104 #[(0, str a1), (1, str a2), (2, .bool a3)]).run Tryz.prog w = .ok (.agg #[str a1, str a2, .bool a3, str [], .slice none 0 0, .bool false]) w := by kernel_rfl
theorem cb109 : Callable Tryz.prog 109 := callable_of Tryz.func109 (by kernel_rfl) (by kernel_rfl)
theorem deed_read (H : Hp) (i_b : Nat) (i : In) (hML : GInt H 2) : Pm Tryz.prog 51 #[.pointer (some ⟨i_b, 0, none⟩)] H i_b (bx 169 (In.cells i)) (fun v H' o' => ∃ (a1 : Option Addr) (c1 : Nat) (a2 : Option Addr) (c2 : Nat), v = .agg (DeedR.cells ((readD i).1) a1 c1 a2 c2).toArray ∧ o' = bx 169 (In.cells ((readD i).2)) ∧ SlH pairE 4 H' (.slice a1 (((readD i).1).bind.want).length c1) (((readD i).1).bind.want) ∧ SlH pairE 4 H' (.slice a2 (((readD i).1).mail.head).length c2) (((readD i).1).mail.head)) := by
  refine pm_cw Tryz.func51 rfl Tryz.ntmps51 rfl (fun N => ?_)
  refine cw_seq (cw_region (ow1 (op1_alloc 1 rfl zr106 (fun b1 => ?_))))
  refine ow_nil (seqK_n (cw_seq (cw_region (ol rfl (lo_move (v := .pointer (some ⟨_, _, none⟩)) rfl) ?_))))
  refine ow1 (op1_pm 0 rfl (in_Num _ i_b i 1 (by omega)) (en_f cb49 rfl) rfl ?_)
  rintro _ _ _ ⟨rfl, rfl, rfl⟩ _
  generalize hq5 : inNum i 1 = q2
  have hf6 := inNum_r i 1
  simp only [hq5] at hf6
  refine ol rfl (lo_conv_in rfl (by rw [Tryz.underlying39]; rfl) Tryz.underlying5 (rg_u8 (by omega))) (ol rfl (lo_move (v := .pointer (some ⟨_, _, none⟩)) rfl) ?_)
  refine ow1 (op1_pm 0 rfl (in_Num _ i_b q2.2 8 (by omega)) (en_f cb49 rfl) rfl ?_)
  rintro _ _ _ ⟨rfl, rfl, rfl⟩ _
  generalize hq10 : inNum q2.2 8 = q7
  have hf11 := inNum_r q2.2 8
  simp only [hq10] at hf11
  refine ol rfl (lo_build (v := .agg #[_, _, _, _, _, _, _, _, _, _, _, _, _, _, _, _, _, _, _, _, _, _, _, _, _, _, _, _, _]) rfl (bd106_0u8_1u64 _ _)) (ow1 (op1_alloc 2 rfl zr106 (fun b12 => ?_)))
  refine ow1 (op1_storeAll (i := 2) (vs := [_, _, _, _, _, _, _, _, _, _, _, _, _, _, _, _, _, _, _, _, _, _, _, _, _, _, _, _, _]) rfl rfl rfl sz106 rfl rfl rfl ?_)
  refine ow_nil (seqK_n (cw_seq (cw_seq (cw_region (ol rfl (lo_fieldAddr rfl fl106_0) ?_)))))
  refine ol rfl (lo_load1 (i := 2) (v := .int _ _) rfl ag5 rfl rfl) (ow_nil (seqK_n (cw_block (cw_seq (cw_region ?_)))))
  refine ol rfl (lo_eql rfl rfl) (oab rfl rfl (ow_nil (seqK_n (cw_cond rfl (fun h13 => ?_) (fun h13 => ?_)))))
  · have p14 := dt h13
    refine cw_seq (cw_region (ol rfl (lo_move (v := .pointer (some ⟨_, _, none⟩)) rfl) ?_))
    refine ow1 (op1_pm 0 rfl (in_Text _ i_b q7.2 16 (by omega)) (en_f cb107 rfl) rfl ?_)
    rintro _ _ _ ⟨rfl, rfl, rfl⟩ _
    generalize hq18 : inText q7.2 16 = q15
    have hf19 := inText_len q7.2 16
    simp only [hq18] at hf19
    refine ol rfl (lo_move (v := .pointer (some ⟨_, _, none⟩)) rfl) ?_
    refine ow1 (op1_pm 0 rfl (in_Num _ i_b q15.2 1 (by omega)) (en_f cb49 rfl) rfl ?_)
    rintro _ _ _ ⟨rfl, rfl, rfl⟩ _
    generalize hq23 : inNum q15.2 1 = q20
    have hf24 := inNum_r q15.2 1
    simp only [hq23] at hf24
    refine ol rfl (lo_conv_in rfl (by rw [Tryz.underlying39]; rfl) Tryz.underlying5 (rg_u8 (by omega))) (ol rfl (lo_build (v := .agg #[_, _, _]) rfl (bd100_0s_1u8 _ _)) (ol rfl (lo_fieldAddr rfl fl106_2) ?_))
    refine ow1 (op1_storeAp (i := 2) (vs := [_, _, _]) [_, _, _, _, _, _, _, _, _, _, _, _, _, _, _, _, _, _, _, _, _, _, _, _, _, _, _, _, _] rfl rfl rfl sz100 rfl rfl rfl rfl ?_)
    refine ow_nil (seqK_n (cw_region (ol rfl (lo_move (v := .pointer (some ⟨_, _, none⟩)) rfl) ?_)))
    refine ow1 (op1_pm 0 rfl (in_Text _ i_b q20.2 16 (by omega)) (en_f cb107 rfl) rfl ?_)
    rintro _ _ _ ⟨rfl, rfl, rfl⟩ _
    generalize hq28 : inText q20.2 16 = q25
    have hf29 := inText_len q20.2 16
    simp only [hq28] at hf29
    refine ol rfl (lo_fieldAddr rfl fl106_2) (ol rfl (lo_fieldAddr rfl fl100_2) ?_)
    refine ow1 (op1_store1n (i := 2) (v := str _) [_, _, _, _, _, _, _, _, _, _, _, _, _, _, _, _, _, _, _, _, _, _, _, _, _, _, _, _, _] rfl rfl rfl sz9 rfl rfl rfl ?_)
    refine ow_nil (blkK_n (seqK_n (cw_seq (cw_region (ol rfl (lo_loadA (i := 2) (vs := [_, _, _, _, _, _, _, _, _, _, _, _, _, _, _, _, _, _, _, _, _, _, _, _, _, _, _, _, _]) rfl ag106 sz106 rfl rfl rfl) ?_)))))
    refine ow1 (op1_storeAll (i := 1) (vs := [_, _, _, _, _, _, _, _, _, _, _, _, _, _, _, _, _, _, _, _, _, _, _, _, _, _, _, _, _]) rfl rfl rfl sz106 rfl rfl rfl ?_)
    refine ow_nil (seqK_n (cw_ret (fnK_r (res1 rfl (rv_c (i := 1) (vs := [_, _, _, _, _, _, _, _, _, _, _, _, _, _, _, _, _, _, _, _, _, _, _, _, _, _, _, _, _]) rfl ag106 sz106 rfl rfl rfl)) (.refl _) ?_)))
    refine ⟨_, rfl, ?_⟩
    have e : readD i = ((⟨q2.1, q7.1, (⟨q15.1, q20.1, q25.1⟩ : ShopR), (⟨[], 0, 0, []⟩ : QueueR), (⟨[], [], false, [], [], false⟩ : BindR), [], 0, 0, 0, 0, 0, (⟨0, [], [], [], [], 0, 0⟩ : Mail), []⟩ : DeedR), q25.2) := by unfold readD readK; simp only [DeedR.blank, bindRead]; (repeat first | simp only [hq5, hq10, hq18, hq23, hq28] | rw [if_pos (by omega)] | rw [if_neg (by omega)]); all_goals first | rfl | (simp [*]; done) | (simp [*]; rfl)
    rw [e]
    exact ⟨_, _, _, _, rfl, rfl, slh_nil, slh_nil⟩
  have p30 := df h13
  refine cw_seq (cw_region (ol rfl (lo_eql rfl rfl) (oab rfl rfl (ow_nil (seqK_n ?_)))))
  refine cw_cond rfl (fun h31 => ?_) (fun h31 => ?_)
  · have p32 := dt h31
    refine cw_seq (cw_region (ol rfl (lo_move (v := .pointer (some ⟨_, _, none⟩)) rfl) ?_))
    refine ow1 (op1_pm 0 rfl (in_Text _ i_b q7.2 16 (by omega)) (en_f cb107 rfl) rfl ?_)
    rintro _ _ _ ⟨rfl, rfl, rfl⟩ _
    generalize hq36 : inText q7.2 16 = q33
    have hf37 := inText_len q7.2 16
    simp only [hq36] at hf37
    refine ol rfl (lo_move (v := .pointer (some ⟨_, _, none⟩)) rfl) ?_
    refine ow1 (op1_pm 0 rfl (in_Num _ i_b q33.2 8 (by omega)) (en_f cb49 rfl) rfl ?_)
    rintro _ _ _ ⟨rfl, rfl, rfl⟩ _
    generalize hq41 : inNum q33.2 8 = q38
    have hf42 := inNum_r q33.2 8
    simp only [hq41] at hf42
    refine ol rfl (lo_move (v := .pointer (some ⟨_, _, none⟩)) rfl) ?_
    refine ow1 (op1_pm 0 rfl (in_Num _ i_b q38.2 8 (by omega)) (en_f cb49 rfl) rfl ?_)
    rintro _ _ _ ⟨rfl, rfl, rfl⟩ _
    generalize hq46 : inNum q38.2 8 = q43
    have hf47 := inNum_r q38.2 8
    simp only [hq46] at hf47
    refine ol rfl (lo_build (v := .agg #[_, _, _, _]) rfl (bd102_0s_1u64_2u64 _ _ _)) (ol rfl (lo_fieldAddr rfl fl106_3) ?_)
    refine ow1 (op1_storeAp (i := 2) (vs := [_, _, _, _]) [_, _, _, _, _, _, _, _, _, _, _, _, _, _, _, _, _, _, _, _, _, _, _, _, _, _, _, _, _] rfl rfl rfl sz102 rfl rfl rfl rfl ?_)
    refine ow_nil (seqK_n (cw_region (ol rfl (lo_move (v := .pointer (some ⟨_, _, none⟩)) rfl) ?_)))
    refine ow1 (op1_pm 0 rfl (in_Text _ i_b q43.2 16 (by omega)) (en_f cb107 rfl) rfl ?_)
    rintro _ _ _ ⟨rfl, rfl, rfl⟩ _
    generalize hq51 : inText q43.2 16 = q48
    have hf52 := inText_len q43.2 16
    simp only [hq51] at hf52
    refine ol rfl (lo_fieldAddr rfl fl106_3) (ol rfl (lo_fieldAddr rfl fl102_3) ?_)
    refine ow1 (op1_store1n (i := 2) (v := str _) [_, _, _, _, _, _, _, _, _, _, _, _, _, _, _, _, _, _, _, _, _, _, _, _, _, _, _, _, _] rfl rfl rfl sz9 rfl rfl rfl ?_)
    refine ow_nil (blkK_n (seqK_n (cw_seq (cw_region (ol rfl (lo_loadA (i := 2) (vs := [_, _, _, _, _, _, _, _, _, _, _, _, _, _, _, _, _, _, _, _, _, _, _, _, _, _, _, _, _]) rfl ag106 sz106 rfl rfl rfl) ?_)))))
    refine ow1 (op1_storeAll (i := 1) (vs := [_, _, _, _, _, _, _, _, _, _, _, _, _, _, _, _, _, _, _, _, _, _, _, _, _, _, _, _, _]) rfl rfl rfl sz106 rfl rfl rfl ?_)
    refine ow_nil (seqK_n (cw_ret (fnK_r (res1 rfl (rv_c (i := 1) (vs := [_, _, _, _, _, _, _, _, _, _, _, _, _, _, _, _, _, _, _, _, _, _, _, _, _, _, _, _, _]) rfl ag106 sz106 rfl rfl rfl)) (.refl _) ?_)))
    refine ⟨_, rfl, ?_⟩
    have e : readD i = ((⟨q2.1, q7.1, (⟨[], 0, []⟩ : ShopR), (⟨q33.1, q38.1, q43.1, q48.1⟩ : QueueR), (⟨[], [], false, [], [], false⟩ : BindR), [], 0, 0, 0, 0, 0, (⟨0, [], [], [], [], 0, 0⟩ : Mail), []⟩ : DeedR), q48.2) := by unfold readD readK; simp only [DeedR.blank, bindRead]; (repeat first | simp only [hq5, hq10, hq36, hq41, hq46, hq51] | rw [if_pos (by omega)] | rw [if_neg (by omega)]); all_goals first | rfl | (simp [*]; done) | (simp [*]; rfl)
    rw [e]
    exact ⟨_, _, _, _, rfl, rfl, slh_nil, slh_nil⟩
  have p53 := df h31
  refine cw_seq (cw_seq (cw_region (ol rfl (lo_eql rfl rfl) (oab rfl rfl (ow_nil ?_)))))
  refine seqK_n (cw_cond rfl (fun h54 => ?_) (fun h54 => ?_))
  · have p55 := dt h54
    refine cw_skip (seqK_n (cw_cond_t rfl h54 (cw_seq (cw_region (ol rfl (lo_move (v := .pointer (some ⟨_, _, none⟩)) rfl) ?_)))))
    refine ow1 (op1_pm 0 rfl (in_Text _ i_b q7.2 16 (by omega)) (en_f cb107 rfl) rfl ?_)
    rintro _ _ _ ⟨rfl, rfl, rfl⟩ _
    generalize hq59 : inText q7.2 16 = q56
    have hf60 := inText_len q7.2 16
    simp only [hq59] at hf60
    refine ol rfl (lo_move (v := .pointer (some ⟨_, _, none⟩)) rfl) ?_
    refine ow1 (op1_pm 0 rfl (in_Text _ i_b q56.2 16 (by omega)) (en_f cb107 rfl) rfl ?_)
    rintro _ _ _ ⟨rfl, rfl, rfl⟩ _
    generalize hq64 : inText q56.2 16 = q61
    have hf65 := inText_len q56.2 16
    simp only [hq64] at hf65
    refine ol rfl (lo_move (v := .pointer (some ⟨_, _, none⟩)) rfl) ?_
    refine ow1 (op1_pm 0 rfl (in_Num _ i_b q61.2 1 (by omega)) (en_f cb49 rfl) rfl ?_)
    rintro _ _ _ ⟨rfl, rfl, rfl⟩ _
    generalize hq69 : inNum q61.2 1 = q66
    have hf70 := inNum_r q61.2 1
    simp only [hq69] at hf70
    refine ol rfl (lo_eql rfl rfl) (ol rfl (lo_build (v := .agg #[_, _, _, _, _, _]) rfl (bd104_0s_1s_2b _ _ _)) (ol rfl (lo_fieldAddr rfl fl106_4) ?_))
    refine ow1 (op1_storeAp (i := 2) (vs := [_, _, _, _, _, _]) [_, _, _, _, _, _, _, _, _, _, _, _, _, _, _, _, _, _, _, _, _, _, _, _, _, _, _, _, _] rfl rfl rfl sz104 rfl rfl rfl rfl ?_)
    refine ow_nil (seqK_n (cw_seq (cw_region (ol rfl (lo_move (v := .pointer (some ⟨_, _, none⟩)) rfl) ?_))))
    refine ow1 (op1_pm 0 rfl (in_Text _ i_b q66.2 64 (by omega)) (en_f cb107 rfl) rfl ?_)
    rintro _ _ _ ⟨rfl, rfl, rfl⟩ _
    generalize hq74 : inText q66.2 64 = q71
    have hf75 := inText_len q66.2 64
    simp only [hq74] at hf75
    refine ol rfl (lo_fieldAddr rfl fl106_4) (ol rfl (lo_fieldAddr rfl fl104_3) ?_)
    refine ow1 (op1_store1n (i := 2) (v := str _) [_, _, _, _, _, _, _, _, _, _, _, _, _, _, _, _, _, _, _, _, _, _, _, _, _, _, _, _, _] rfl rfl rfl sz9 rfl rfl rfl ?_)
    refine ow_nil (seqK_n (cw_seq (cw_region (ol rfl (lo_move (v := .pointer (some ⟨_, _, none⟩)) rfl) ?_))))
    refine ow1 (op1_pm 0 rfl (head_Read _ i_b q71.2) (en_f cb108 rfl) rfl ?_)
    rintro _ H81 _ ⟨a77, c78, rfl, rfl, hs79⟩ hl80
    generalize hq82 : headRead q71.2 = q76
    simp only [hq82] at hs79
    have hf83 := headRead_len q71.2
    simp only [hq82] at hf83
    refine ol rfl (lo_fieldAddr rfl fl106_4) (ol rfl (lo_fieldAddr rfl fl104_4) ?_)
    refine ow1 (op1_store1n (i := 2) (v := .slice _ _ _) [_, _, _, _, _, _, _, _, _, _, _, _, _, _, _, _, _, _, _, _, _, _, _, _, _, _, _, _, _] rfl rfl rfl sz40 rfl rfl rfl ?_)
    refine ow_nil (seqK_n (cw_region (ol rfl (lo_move (v := .pointer (some ⟨_, _, none⟩)) rfl) ?_)))
    refine ow1 (op1_pm 0 rfl (in_Num _ i_b q76.2 1 (by omega)) (en_f cb49 rfl) rfl ?_)
    rintro _ _ _ ⟨rfl, rfl, rfl⟩ _
    generalize hq87 : inNum q76.2 1 = q84
    have hf88 := inNum_r q76.2 1
    simp only [hq87] at hf88
    refine ol rfl (lo_eql rfl rfl) (ol rfl (lo_fieldAddr rfl fl106_4) (ol rfl (lo_fieldAddr rfl fl104_5) ?_))
    refine ow1 (op1_store1n (i := 2) (v := .bool _) [_, _, _, _, _, _, _, _, _, _, _, _, _, _, _, _, _, _, _, _, _, _, _, _, _, _, _, _, _] rfl rfl rfl sz4 rfl rfl rfl ?_)
    refine ow_nil (blkK_n (seqK_n (cw_seq (cw_region (ol rfl (lo_loadA (i := 2) (vs := [_, _, _, _, _, _, _, _, _, _, _, _, _, _, _, _, _, _, _, _, _, _, _, _, _, _, _, _, _]) rfl ag106 sz106 rfl rfl rfl) ?_)))))
    refine ow1 (op1_storeAll (i := 1) (vs := [_, _, _, _, _, _, _, _, _, _, _, _, _, _, _, _, _, _, _, _, _, _, _, _, _, _, _, _, _]) rfl rfl rfl sz106 rfl rfl rfl ?_)
    refine ow_nil (seqK_n (cw_ret (fnK_r (res1 rfl (rv_c (i := 1) (vs := [_, _, _, _, _, _, _, _, _, _, _, _, _, _, _, _, _, _, _, _, _, _, _, _, _, _, _, _, _]) rfl ag106 sz106 rfl rfl rfl)) ((HLe.refl _).trans hl80) ?_)))
    refine ⟨_, rfl, ?_⟩
    have e : readD i = ((⟨q2.1, q7.1, (⟨[], 0, []⟩ : ShopR), (⟨[], 0, 0, []⟩ : QueueR), (⟨q56.1, q61.1, decide (q66.1 = 1), q71.1, q76.1, decide (q84.1 = 1)⟩ : BindR), [], 0, 0, 0, 0, 0, (⟨0, [], [], [], [], 0, 0⟩ : Mail), []⟩ : DeedR), q84.2) := by unfold readD readK; simp only [DeedR.blank, bindRead]; (repeat first | simp only [hq5, hq10, hq59, hq64, hq69, hq74, hq82, hq87] | rw [if_pos (by omega)] | rw [if_neg (by omega)]); all_goals first | rfl | (simp [*]; done) | (simp [*]; rfl)
    rw [e]
    exact ⟨_, _, _, _, rfl, rfl, hs79, slh_nil⟩
  have p89 := df h54
  refine cw_region (ol rfl (lo_eql rfl rfl) (oab rfl rfl (ow_nil (seqK_n (cw_cond rfl (fun h90 => ?_) (fun h90 => ?_))))))
  · have p91 := dt h90
    refine cw_seq (cw_region (ol rfl (lo_move (v := .pointer (some ⟨_, _, none⟩)) rfl) ?_))
    refine ow1 (op1_pm 0 rfl (in_Text _ i_b q7.2 16 (by omega)) (en_f cb107 rfl) rfl ?_)
    rintro _ _ _ ⟨rfl, rfl, rfl⟩ _
    generalize hq95 : inText q7.2 16 = q92
    have hf96 := inText_len q7.2 16
    simp only [hq95] at hf96
    refine ol rfl (lo_move (v := .pointer (some ⟨_, _, none⟩)) rfl) ?_
    refine ow1 (op1_pm 0 rfl (in_Text _ i_b q92.2 16 (by omega)) (en_f cb107 rfl) rfl ?_)
    rintro _ _ _ ⟨rfl, rfl, rfl⟩ _
    generalize hq100 : inText q92.2 16 = q97
    have hf101 := inText_len q92.2 16
    simp only [hq100] at hf101
    refine ol rfl (lo_move (v := .pointer (some ⟨_, _, none⟩)) rfl) ?_
    refine ow1 (op1_pm 0 rfl (in_Num _ i_b q97.2 1 (by omega)) (en_f cb49 rfl) rfl ?_)
    rintro _ _ _ ⟨rfl, rfl, rfl⟩ _
    generalize hq105 : inNum q97.2 1 = q102
    have hf106 := inNum_r q97.2 1
    simp only [hq105] at hf106
    refine ol rfl (lo_eql rfl rfl) (ol rfl (lo_build (v := .agg #[_, _, _, _, _, _]) rfl (bd104_0s_1s_2b _ _ _)) (ol rfl (lo_fieldAddr rfl fl106_4) ?_))
    refine ow1 (op1_storeAp (i := 2) (vs := [_, _, _, _, _, _]) [_, _, _, _, _, _, _, _, _, _, _, _, _, _, _, _, _, _, _, _, _, _, _, _, _, _, _, _, _] rfl rfl rfl sz104 rfl rfl rfl rfl ?_)
    refine ow_nil (seqK_n (cw_seq (cw_region (ol rfl (lo_move (v := .pointer (some ⟨_, _, none⟩)) rfl) ?_))))
    refine ow1 (op1_pm 0 rfl (in_Text _ i_b q102.2 64 (by omega)) (en_f cb107 rfl) rfl ?_)
    rintro _ _ _ ⟨rfl, rfl, rfl⟩ _
    generalize hq110 : inText q102.2 64 = q107
    have hf111 := inText_len q102.2 64
    simp only [hq110] at hf111
    refine ol rfl (lo_fieldAddr rfl fl106_4) (ol rfl (lo_fieldAddr rfl fl104_3) ?_)
    refine ow1 (op1_store1n (i := 2) (v := str _) [_, _, _, _, _, _, _, _, _, _, _, _, _, _, _, _, _, _, _, _, _, _, _, _, _, _, _, _, _] rfl rfl rfl sz9 rfl rfl rfl ?_)
    refine ow_nil (seqK_n (cw_seq (cw_region (ol rfl (lo_move (v := .pointer (some ⟨_, _, none⟩)) rfl) ?_))))
    refine ow1 (op1_pm 0 rfl (head_Read _ i_b q107.2) (en_f cb108 rfl) rfl ?_)
    rintro _ H117 _ ⟨a113, c114, rfl, rfl, hs115⟩ hl116
    generalize hq118 : headRead q107.2 = q112
    simp only [hq118] at hs115
    have hf119 := headRead_len q107.2
    simp only [hq118] at hf119
    refine ol rfl (lo_fieldAddr rfl fl106_4) (ol rfl (lo_fieldAddr rfl fl104_4) ?_)
    refine ow1 (op1_store1n (i := 2) (v := .slice _ _ _) [_, _, _, _, _, _, _, _, _, _, _, _, _, _, _, _, _, _, _, _, _, _, _, _, _, _, _, _, _] rfl rfl rfl sz40 rfl rfl rfl ?_)
    refine ow_nil (seqK_n (cw_region (ol rfl (lo_move (v := .pointer (some ⟨_, _, none⟩)) rfl) ?_)))
    refine ow1 (op1_pm 0 rfl (in_Num _ i_b q112.2 1 (by omega)) (en_f cb49 rfl) rfl ?_)
    rintro _ _ _ ⟨rfl, rfl, rfl⟩ _
    generalize hq123 : inNum q112.2 1 = q120
    have hf124 := inNum_r q112.2 1
    simp only [hq123] at hf124
    refine ol rfl (lo_eql rfl rfl) (ol rfl (lo_fieldAddr rfl fl106_4) (ol rfl (lo_fieldAddr rfl fl104_5) ?_))
    refine ow1 (op1_store1n (i := 2) (v := .bool _) [_, _, _, _, _, _, _, _, _, _, _, _, _, _, _, _, _, _, _, _, _, _, _, _, _, _, _, _, _] rfl rfl rfl sz4 rfl rfl rfl ?_)
    refine ow_nil (blkK_n (seqK_n (cw_seq (cw_region (ol rfl (lo_loadA (i := 2) (vs := [_, _, _, _, _, _, _, _, _, _, _, _, _, _, _, _, _, _, _, _, _, _, _, _, _, _, _, _, _]) rfl ag106 sz106 rfl rfl rfl) ?_)))))
    refine ow1 (op1_storeAll (i := 1) (vs := [_, _, _, _, _, _, _, _, _, _, _, _, _, _, _, _, _, _, _, _, _, _, _, _, _, _, _, _, _]) rfl rfl rfl sz106 rfl rfl rfl ?_)
    refine ow_nil (seqK_n (cw_ret (fnK_r (res1 rfl (rv_c (i := 1) (vs := [_, _, _, _, _, _, _, _, _, _, _, _, _, _, _, _, _, _, _, _, _, _, _, _, _, _, _, _, _]) rfl ag106 sz106 rfl rfl rfl)) ((HLe.refl _).trans hl116) ?_)))
    refine ⟨_, rfl, ?_⟩
    have e : readD i = ((⟨q2.1, q7.1, (⟨[], 0, []⟩ : ShopR), (⟨[], 0, 0, []⟩ : QueueR), (⟨q92.1, q97.1, decide (q102.1 = 1), q107.1, q112.1, decide (q120.1 = 1)⟩ : BindR), [], 0, 0, 0, 0, 0, (⟨0, [], [], [], [], 0, 0⟩ : Mail), []⟩ : DeedR), q120.2) := by unfold readD readK; simp only [DeedR.blank, bindRead]; (repeat first | simp only [hq5, hq10, hq95, hq100, hq105, hq110, hq118, hq123] | rw [if_pos (by omega)] | rw [if_neg (by omega)]); all_goals first | rfl | (simp [*]; done) | (simp [*]; rfl)
    rw [e]
    exact ⟨_, _, _, _, rfl, rfl, hs115, slh_nil⟩
  have p125 := df h90
  refine cw_seq (cw_region (ol rfl (lo_eql rfl rfl) (oab rfl rfl (ow_nil (seqK_n ?_)))))
  refine cw_cond rfl (fun h126 => ?_) (fun h126 => ?_)
  · have p127 := dt h126
    refine cw_region (ol rfl (lo_move (v := .pointer (some ⟨_, _, none⟩)) rfl) ?_)
    refine ow1 (op1_pm 0 rfl (mail_Read _ i_b q7.2 hML) (en_f cb109 rfl) rfl ?_)
    rintro _ H133 _ ⟨a129, c130, rfl, rfl, hs131⟩ hl132
    generalize hq134 : mailRead q7.2 = q128
    simp only [hq134] at hs131
    have hf135 := mailRead_wf q7.2
    simp only [hq134] at hf135
    refine ol rfl (lo_fieldAddr rfl fl106_11) ?_
    refine ow1 (op1_storeAp (i := 2) (vs := [_, _, _, _, _, _, _]) [_, _, _, _, _, _, _, _, _, _, _, _, _, _, _, _, _, _, _, _, _, _, _, _, _, _, _, _, _] rfl rfl rfl sz42 rfl rfl rfl rfl ?_)
    refine ow_nil (blkK_n (seqK_n (cw_seq (cw_region (ol rfl (lo_loadA (i := 2) (vs := [_, _, _, _, _, _, _, _, _, _, _, _, _, _, _, _, _, _, _, _, _, _, _, _, _, _, _, _, _]) rfl ag106 sz106 rfl rfl rfl) ?_)))))
    refine ow1 (op1_storeAll (i := 1) (vs := [_, _, _, _, _, _, _, _, _, _, _, _, _, _, _, _, _, _, _, _, _, _, _, _, _, _, _, _, _]) rfl rfl rfl sz106 rfl rfl rfl ?_)
    refine ow_nil (seqK_n (cw_ret (fnK_r (res1 rfl (rv_c (i := 1) (vs := [_, _, _, _, _, _, _, _, _, _, _, _, _, _, _, _, _, _, _, _, _, _, _, _, _, _, _, _, _]) rfl ag106 sz106 rfl rfl rfl)) ((HLe.refl _).trans hl132) ?_)))
    refine ⟨_, rfl, ?_⟩
    have e : readD i = ((⟨q2.1, q7.1, (⟨[], 0, []⟩ : ShopR), (⟨[], 0, 0, []⟩ : QueueR), (⟨[], [], false, [], [], false⟩ : BindR), [], 0, 0, 0, 0, 0, q128.1, []⟩ : DeedR), q128.2) := by unfold readD readK; simp only [DeedR.blank, bindRead]; (repeat first | simp only [hq5, hq10, hq134] | rw [if_pos (by omega)] | rw [if_neg (by omega)]); all_goals first | rfl | (simp [*]; done) | (simp [*]; rfl)
    rw [e]
    exact ⟨_, _, _, _, rfl, rfl, slh_nil, hs131⟩
  have p136 := df h126
  refine cw_seq (cw_seq (cw_region (ol rfl (lo_eql rfl rfl) (oab rfl rfl (ow_nil ?_)))))
  refine seqK_n (cw_cond rfl (fun h137 => ?_) (fun h137 => ?_))
  · have p138 := dt h137
    refine cw_skip (seqK_n (cw_cond_t rfl h137 (cw_region (ol rfl (lo_move (v := .pointer (some ⟨_, _, none⟩)) rfl) ?_))))
    refine ow1 (op1_pm 0 rfl (in_Text _ i_b q7.2 16 (by omega)) (en_f cb107 rfl) rfl ?_)
    rintro _ _ _ ⟨rfl, rfl, rfl⟩ _
    generalize hq142 : inText q7.2 16 = q139
    have hf143 := inText_len q7.2 16
    simp only [hq142] at hf143
    refine ol rfl (lo_fieldAddr rfl fl106_5) ?_
    refine ow1 (op1_store1n (i := 2) (v := str _) [_, _, _, _, _, _, _, _, _, _, _, _, _, _, _, _, _, _, _, _, _, _, _, _, _, _, _, _, _] rfl rfl rfl sz9 rfl rfl rfl ?_)
    refine ow_nil (blkK_n (seqK_n (cw_seq (cw_region (ol rfl (lo_loadA (i := 2) (vs := [_, _, _, _, _, _, _, _, _, _, _, _, _, _, _, _, _, _, _, _, _, _, _, _, _, _, _, _, _]) rfl ag106 sz106 rfl rfl rfl) ?_)))))
    refine ow1 (op1_storeAll (i := 1) (vs := [_, _, _, _, _, _, _, _, _, _, _, _, _, _, _, _, _, _, _, _, _, _, _, _, _, _, _, _, _]) rfl rfl rfl sz106 rfl rfl rfl ?_)
    refine ow_nil (seqK_n (cw_ret (fnK_r (res1 rfl (rv_c (i := 1) (vs := [_, _, _, _, _, _, _, _, _, _, _, _, _, _, _, _, _, _, _, _, _, _, _, _, _, _, _, _, _]) rfl ag106 sz106 rfl rfl rfl)) (.refl _) ?_)))
    refine ⟨_, rfl, ?_⟩
    have e : readD i = ((⟨q2.1, q7.1, (⟨[], 0, []⟩ : ShopR), (⟨[], 0, 0, []⟩ : QueueR), (⟨[], [], false, [], [], false⟩ : BindR), q139.1, 0, 0, 0, 0, 0, (⟨0, [], [], [], [], 0, 0⟩ : Mail), []⟩ : DeedR), q139.2) := by unfold readD readK; simp only [DeedR.blank, bindRead]; (repeat first | simp only [hq5, hq10, hq142] | rw [if_pos (by omega)] | rw [if_neg (by omega)]); all_goals first | rfl | (simp [*]; done) | (simp [*]; rfl)
    rw [e]
    exact ⟨_, _, _, _, rfl, rfl, slh_nil, slh_nil⟩
  have p144 := df h137
  refine cw_seq (cw_region (ol rfl (lo_eql rfl rfl) (oab rfl rfl (ow_nil (seqK_n ?_)))))
  refine cw_cond rfl (fun h145 => ?_) (fun h145 => ?_)
  · have p146 := dt h145
    refine cw_skip (seqK_n (cw_cond_t rfl h145 (cw_region (ol rfl (lo_move (v := .pointer (some ⟨_, _, none⟩)) rfl) ?_))))
    refine ow1 (op1_pm 0 rfl (in_Text _ i_b q7.2 16 (by omega)) (en_f cb107 rfl) rfl ?_)
    rintro _ _ _ ⟨rfl, rfl, rfl⟩ _
    generalize hq150 : inText q7.2 16 = q147
    have hf151 := inText_len q7.2 16
    simp only [hq150] at hf151
    refine ol rfl (lo_fieldAddr rfl fl106_5) ?_
    refine ow1 (op1_store1n (i := 2) (v := str _) [_, _, _, _, _, _, _, _, _, _, _, _, _, _, _, _, _, _, _, _, _, _, _, _, _, _, _, _, _] rfl rfl rfl sz9 rfl rfl rfl ?_)
    refine ow_nil (blkK_n (seqK_n (cw_seq (cw_region (ol rfl (lo_loadA (i := 2) (vs := [_, _, _, _, _, _, _, _, _, _, _, _, _, _, _, _, _, _, _, _, _, _, _, _, _, _, _, _, _]) rfl ag106 sz106 rfl rfl rfl) ?_)))))
    refine ow1 (op1_storeAll (i := 1) (vs := [_, _, _, _, _, _, _, _, _, _, _, _, _, _, _, _, _, _, _, _, _, _, _, _, _, _, _, _, _]) rfl rfl rfl sz106 rfl rfl rfl ?_)
    refine ow_nil (seqK_n (cw_ret (fnK_r (res1 rfl (rv_c (i := 1) (vs := [_, _, _, _, _, _, _, _, _, _, _, _, _, _, _, _, _, _, _, _, _, _, _, _, _, _, _, _, _]) rfl ag106 sz106 rfl rfl rfl)) (.refl _) ?_)))
    refine ⟨_, rfl, ?_⟩
    have e : readD i = ((⟨q2.1, q7.1, (⟨[], 0, []⟩ : ShopR), (⟨[], 0, 0, []⟩ : QueueR), (⟨[], [], false, [], [], false⟩ : BindR), q147.1, 0, 0, 0, 0, 0, (⟨0, [], [], [], [], 0, 0⟩ : Mail), []⟩ : DeedR), q147.2) := by unfold readD readK; simp only [DeedR.blank, bindRead]; (repeat first | simp only [hq5, hq10, hq150] | rw [if_pos (by omega)] | rw [if_neg (by omega)]); all_goals first | rfl | (simp [*]; done) | (simp [*]; rfl)
    rw [e]
    exact ⟨_, _, _, _, rfl, rfl, slh_nil, slh_nil⟩
  have p152 := df h145
  refine cw_region (ol rfl (lo_eql rfl rfl) (oab rfl rfl (ow_nil (seqK_n (cw_cond rfl (fun h153 => ?_) (fun h153 => ?_))))))
  · have p154 := dt h153
    refine cw_region (ol rfl (lo_move (v := .pointer (some ⟨_, _, none⟩)) rfl) ?_)
    refine ow1 (op1_pm 0 rfl (in_Text _ i_b q7.2 16 (by omega)) (en_f cb107 rfl) rfl ?_)
    rintro _ _ _ ⟨rfl, rfl, rfl⟩ _
    generalize hq158 : inText q7.2 16 = q155
    have hf159 := inText_len q7.2 16
    simp only [hq158] at hf159
    refine ol rfl (lo_fieldAddr rfl fl106_5) ?_
    refine ow1 (op1_store1n (i := 2) (v := str _) [_, _, _, _, _, _, _, _, _, _, _, _, _, _, _, _, _, _, _, _, _, _, _, _, _, _, _, _, _] rfl rfl rfl sz9 rfl rfl rfl ?_)
    refine ow_nil (blkK_n (seqK_n (cw_seq (cw_region (ol rfl (lo_loadA (i := 2) (vs := [_, _, _, _, _, _, _, _, _, _, _, _, _, _, _, _, _, _, _, _, _, _, _, _, _, _, _, _, _]) rfl ag106 sz106 rfl rfl rfl) ?_)))))
    refine ow1 (op1_storeAll (i := 1) (vs := [_, _, _, _, _, _, _, _, _, _, _, _, _, _, _, _, _, _, _, _, _, _, _, _, _, _, _, _, _]) rfl rfl rfl sz106 rfl rfl rfl ?_)
    refine ow_nil (seqK_n (cw_ret (fnK_r (res1 rfl (rv_c (i := 1) (vs := [_, _, _, _, _, _, _, _, _, _, _, _, _, _, _, _, _, _, _, _, _, _, _, _, _, _, _, _, _]) rfl ag106 sz106 rfl rfl rfl)) (.refl _) ?_)))
    refine ⟨_, rfl, ?_⟩
    have e : readD i = ((⟨q2.1, q7.1, (⟨[], 0, []⟩ : ShopR), (⟨[], 0, 0, []⟩ : QueueR), (⟨[], [], false, [], [], false⟩ : BindR), q155.1, 0, 0, 0, 0, 0, (⟨0, [], [], [], [], 0, 0⟩ : Mail), []⟩ : DeedR), q155.2) := by unfold readD readK; simp only [DeedR.blank, bindRead]; (repeat first | simp only [hq5, hq10, hq158] | rw [if_pos (by omega)] | rw [if_neg (by omega)]); all_goals first | rfl | (simp [*]; done) | (simp [*]; rfl)
    rw [e]
    exact ⟨_, _, _, _, rfl, rfl, slh_nil, slh_nil⟩
  have p160 := df h153
  refine cw_seq (cw_region (ol rfl (lo_eql rfl rfl) (oab rfl rfl (ow_nil (seqK_n ?_)))))
  refine cw_cond rfl (fun h161 => ?_) (fun h161 => ?_)
  · have p162 := dt h161
    refine cw_region (ol rfl (lo_move (v := .pointer (some ⟨_, _, none⟩)) rfl) ?_)
    refine ow1 (op1_pm 0 rfl (in_Text _ i_b q7.2 16 (by omega)) (en_f cb107 rfl) rfl ?_)
    rintro _ _ _ ⟨rfl, rfl, rfl⟩ _
    generalize hq166 : inText q7.2 16 = q163
    have hf167 := inText_len q7.2 16
    simp only [hq166] at hf167
    refine ol rfl (lo_move (v := .pointer (some ⟨_, _, none⟩)) rfl) ?_
    refine ow1 (op1_pm 0 rfl (in_Num _ i_b q163.2 8 (by omega)) (en_f cb49 rfl) rfl ?_)
    rintro _ _ _ ⟨rfl, rfl, rfl⟩ _
    generalize hq171 : inNum q163.2 8 = q168
    have hf172 := inNum_r q163.2 8
    simp only [hq171] at hf172
    refine ol rfl (lo_move (v := .pointer (some ⟨_, _, none⟩)) rfl) ?_
    refine ow1 (op1_pm 0 rfl (in_Num _ i_b q168.2 1 (by omega)) (en_f cb49 rfl) rfl ?_)
    rintro _ _ _ ⟨rfl, rfl, rfl⟩ _
    generalize hq176 : inNum q168.2 1 = q173
    have hf177 := inNum_r q168.2 1
    simp only [hq176] at hf177
    refine ol rfl (lo_conv_in rfl (by rw [Tryz.underlying39]; rfl) Tryz.underlying5 (rg_u8 (by omega))) (ol rfl (lo_fieldAddr rfl fl106_5) ?_)
    refine ow1 (op1_store1n (i := 2) (v := str _) [_, _, _, _, _, _, _, _, _, _, _, _, _, _, _, _, _, _, _, _, _, _, _, _, _, _, _, _, _] rfl rfl rfl sz9 rfl rfl rfl ?_)
    refine ol rfl (lo_fieldAddr rfl fl106_6) ?_
    refine ow1 (op1_store1n (i := 2) (v := .int _ _) [_, _, _, _, _, _, _, _, _, _, _, _, _, _, _, _, _, _, _, _, _, _, _, _, _, _, _, _, _] rfl rfl rfl sz39 rfl rfl rfl ?_)
    refine ol rfl (lo_fieldAddr rfl fl106_7) ?_
    refine ow1 (op1_store1n (i := 2) (v := .int _ _) [_, _, _, _, _, _, _, _, _, _, _, _, _, _, _, _, _, _, _, _, _, _, _, _, _, _, _, _, _] rfl rfl rfl sz5 rfl rfl rfl ?_)
    refine ow_nil (blkK_n (seqK_n (cw_seq (cw_region (ol rfl (lo_loadA (i := 2) (vs := [_, _, _, _, _, _, _, _, _, _, _, _, _, _, _, _, _, _, _, _, _, _, _, _, _, _, _, _, _]) rfl ag106 sz106 rfl rfl rfl) ?_)))))
    refine ow1 (op1_storeAll (i := 1) (vs := [_, _, _, _, _, _, _, _, _, _, _, _, _, _, _, _, _, _, _, _, _, _, _, _, _, _, _, _, _]) rfl rfl rfl sz106 rfl rfl rfl ?_)
    refine ow_nil (seqK_n (cw_ret (fnK_r (res1 rfl (rv_c (i := 1) (vs := [_, _, _, _, _, _, _, _, _, _, _, _, _, _, _, _, _, _, _, _, _, _, _, _, _, _, _, _, _]) rfl ag106 sz106 rfl rfl rfl)) (.refl _) ?_)))
    refine ⟨_, rfl, ?_⟩
    have e : readD i = ((⟨q2.1, q7.1, (⟨[], 0, []⟩ : ShopR), (⟨[], 0, 0, []⟩ : QueueR), (⟨[], [], false, [], [], false⟩ : BindR), q163.1, q168.1, q173.1, 0, 0, 0, (⟨0, [], [], [], [], 0, 0⟩ : Mail), []⟩ : DeedR), q173.2) := by unfold readD readK; simp only [DeedR.blank, bindRead]; (repeat first | simp only [hq5, hq10, hq166, hq171, hq176] | rw [if_pos (by omega)] | rw [if_neg (by omega)]); all_goals first | rfl | (simp [*]; done) | (simp [*]; rfl)
    rw [e]
    exact ⟨_, _, _, _, rfl, rfl, slh_nil, slh_nil⟩
  have p178 := df h161
  refine cw_seq (cw_region (ol rfl (lo_eql rfl rfl) (oab rfl rfl (ow_nil (seqK_n ?_)))))
  refine cw_cond rfl (fun h179 => ?_) (fun h179 => ?_)
  · have p180 := dt h179
    refine cw_region (ol rfl (lo_move (v := .pointer (some ⟨_, _, none⟩)) rfl) ?_)
    refine ow1 (op1_pm 0 rfl (in_Num _ i_b q7.2 1 (by omega)) (en_f cb49 rfl) rfl ?_)
    rintro _ _ _ ⟨rfl, rfl, rfl⟩ _
    generalize hq184 : inNum q7.2 1 = q181
    have hf185 := inNum_r q7.2 1
    simp only [hq184] at hf185
    refine ol rfl (lo_conv_in rfl (by rw [Tryz.underlying39]; rfl) Tryz.underlying5 (rg_u8 (by omega))) (ol rfl (lo_move (v := .pointer (some ⟨_, _, none⟩)) rfl) ?_)
    refine ow1 (op1_pm 0 rfl (in_Num _ i_b q181.2 8 (by omega)) (en_f cb49 rfl) rfl ?_)
    rintro _ _ _ ⟨rfl, rfl, rfl⟩ _
    generalize hq189 : inNum q181.2 8 = q186
    have hf190 := inNum_r q181.2 8
    simp only [hq189] at hf190
    refine ol rfl (lo_move (v := .pointer (some ⟨_, _, none⟩)) rfl) ?_
    refine ow1 (op1_pm 0 rfl (mail_Read _ i_b q186.2 hML) (en_f cb109 rfl) rfl ?_)
    rintro _ H196 _ ⟨a192, c193, rfl, rfl, hs194⟩ hl195
    generalize hq197 : mailRead q186.2 = q191
    simp only [hq197] at hs194
    have hf198 := mailRead_wf q186.2
    simp only [hq197] at hf198
    refine ol rfl (lo_fieldAddr rfl fl106_8) ?_
    refine ow1 (op1_store1n (i := 2) (v := .int _ _) [_, _, _, _, _, _, _, _, _, _, _, _, _, _, _, _, _, _, _, _, _, _, _, _, _, _, _, _, _] rfl rfl rfl sz5 rfl rfl rfl ?_)
    refine ol rfl (lo_fieldAddr rfl fl106_10) ?_
    refine ow1 (op1_store1n (i := 2) (v := .int _ _) [_, _, _, _, _, _, _, _, _, _, _, _, _, _, _, _, _, _, _, _, _, _, _, _, _, _, _, _, _] rfl rfl rfl sz39 rfl rfl rfl ?_)
    refine ol rfl (lo_fieldAddr rfl fl106_11) ?_
    refine ow1 (op1_storeAp (i := 2) (vs := [_, _, _, _, _, _, _]) [_, _, _, _, _, _, _, _, _, _, _, _, _, _, _, _, _, _, _, _, _, _, _, _, _, _, _, _, _] rfl rfl rfl sz42 rfl rfl rfl rfl ?_)
    refine ow_nil (blkK_n (seqK_n (cw_seq (cw_region (ol rfl (lo_loadA (i := 2) (vs := [_, _, _, _, _, _, _, _, _, _, _, _, _, _, _, _, _, _, _, _, _, _, _, _, _, _, _, _, _]) rfl ag106 sz106 rfl rfl rfl) ?_)))))
    refine ow1 (op1_storeAll (i := 1) (vs := [_, _, _, _, _, _, _, _, _, _, _, _, _, _, _, _, _, _, _, _, _, _, _, _, _, _, _, _, _]) rfl rfl rfl sz106 rfl rfl rfl ?_)
    refine ow_nil (seqK_n (cw_ret (fnK_r (res1 rfl (rv_c (i := 1) (vs := [_, _, _, _, _, _, _, _, _, _, _, _, _, _, _, _, _, _, _, _, _, _, _, _, _, _, _, _, _]) rfl ag106 sz106 rfl rfl rfl)) ((HLe.refl _).trans hl195) ?_)))
    refine ⟨_, rfl, ?_⟩
    have e : readD i = ((⟨q2.1, q7.1, (⟨[], 0, []⟩ : ShopR), (⟨[], 0, 0, []⟩ : QueueR), (⟨[], [], false, [], [], false⟩ : BindR), [], 0, 0, q181.1, 0, q186.1, q191.1, []⟩ : DeedR), q191.2) := by unfold readD readK; simp only [DeedR.blank, bindRead]; (repeat first | simp only [hq5, hq10, hq184, hq189, hq197] | rw [if_pos (by omega)] | rw [if_neg (by omega)]); all_goals first | rfl | (simp [*]; done) | (simp [*]; rfl)
    rw [e]
    exact ⟨_, _, _, _, rfl, rfl, slh_nil, hs194⟩
  have p199 := df h179
  refine cw_seq (cw_region (ol rfl (lo_eql rfl rfl) (oab rfl rfl (ow_nil (seqK_n ?_)))))
  refine cw_cond rfl (fun h200 => ?_) (fun h200 => ?_)
  · have p201 := dt h200
    refine cw_region (ol rfl (lo_move (v := .pointer (some ⟨_, _, none⟩)) rfl) ?_)
    refine ow1 (op1_pm 0 rfl (in_Num _ i_b q7.2 1 (by omega)) (en_f cb49 rfl) rfl ?_)
    rintro _ _ _ ⟨rfl, rfl, rfl⟩ _
    generalize hq205 : inNum q7.2 1 = q202
    have hf206 := inNum_r q7.2 1
    simp only [hq205] at hf206
    refine ol rfl (lo_conv_in rfl (by rw [Tryz.underlying39]; rfl) Tryz.underlying5 (rg_u8 (by omega))) (ol rfl (lo_move (v := .pointer (some ⟨_, _, none⟩)) rfl) ?_)
    refine ow1 (op1_pm 0 rfl (in_Text _ i_b q202.2 64 (by omega)) (en_f cb107 rfl) rfl ?_)
    rintro _ _ _ ⟨rfl, rfl, rfl⟩ _
    generalize hq210 : inText q202.2 64 = q207
    have hf211 := inText_len q202.2 64
    simp only [hq210] at hf211
    refine ol rfl (lo_fieldAddr rfl fl106_9) ?_
    refine ow1 (op1_store1n (i := 2) (v := .int _ _) [_, _, _, _, _, _, _, _, _, _, _, _, _, _, _, _, _, _, _, _, _, _, _, _, _, _, _, _, _] rfl rfl rfl sz5 rfl rfl rfl ?_)
    refine ol rfl (lo_fieldAddr rfl fl106_12) ?_
    refine ow1 (op1_store1n (i := 2) (v := str _) [_, _, _, _, _, _, _, _, _, _, _, _, _, _, _, _, _, _, _, _, _, _, _, _, _, _, _, _, _] rfl rfl rfl sz9 rfl rfl rfl ?_)
    refine ow_nil (blkK_n (seqK_n (cw_seq (cw_region (ol rfl (lo_loadA (i := 2) (vs := [_, _, _, _, _, _, _, _, _, _, _, _, _, _, _, _, _, _, _, _, _, _, _, _, _, _, _, _, _]) rfl ag106 sz106 rfl rfl rfl) ?_)))))
    refine ow1 (op1_storeAll (i := 1) (vs := [_, _, _, _, _, _, _, _, _, _, _, _, _, _, _, _, _, _, _, _, _, _, _, _, _, _, _, _, _]) rfl rfl rfl sz106 rfl rfl rfl ?_)
    refine ow_nil (seqK_n (cw_ret (fnK_r (res1 rfl (rv_c (i := 1) (vs := [_, _, _, _, _, _, _, _, _, _, _, _, _, _, _, _, _, _, _, _, _, _, _, _, _, _, _, _, _]) rfl ag106 sz106 rfl rfl rfl)) (.refl _) ?_)))
    refine ⟨_, rfl, ?_⟩
    have e : readD i = ((⟨q2.1, q7.1, (⟨[], 0, []⟩ : ShopR), (⟨[], 0, 0, []⟩ : QueueR), (⟨[], [], false, [], [], false⟩ : BindR), [], 0, 0, 0, q202.1, 0, (⟨0, [], [], [], [], 0, 0⟩ : Mail), q207.1⟩ : DeedR), q207.2) := by unfold readD readK; simp only [DeedR.blank, bindRead]; (repeat first | simp only [hq5, hq10, hq205, hq210] | rw [if_pos (by omega)] | rw [if_neg (by omega)]); all_goals first | rfl | (simp [*]; done) | (simp [*]; rfl)
    rw [e]
    exact ⟨_, _, _, _, rfl, rfl, slh_nil, slh_nil⟩
  have p212 := df h200
  refine cw_skip (blkK_n (seqK_n (cw_seq (cw_region (ol rfl (lo_loadA (i := 2) (vs := [_, _, _, _, _, _, _, _, _, _, _, _, _, _, _, _, _, _, _, _, _, _, _, _, _, _, _, _, _]) rfl ag106 sz106 rfl rfl rfl) ?_)))))
  refine ow1 (op1_storeAll (i := 1) (vs := [_, _, _, _, _, _, _, _, _, _, _, _, _, _, _, _, _, _, _, _, _, _, _, _, _, _, _, _, _]) rfl rfl rfl sz106 rfl rfl rfl ?_)
  refine ow_nil (seqK_n (cw_ret (fnK_r (res1 rfl (rv_c (i := 1) (vs := [_, _, _, _, _, _, _, _, _, _, _, _, _, _, _, _, _, _, _, _, _, _, _, _, _, _, _, _, _]) rfl ag106 sz106 rfl rfl rfl)) (.refl _) ?_)))
  refine ⟨_, rfl, ?_⟩
  have e : readD i = ((⟨q2.1, q7.1, (⟨[], 0, []⟩ : ShopR), (⟨[], 0, 0, []⟩ : QueueR), (⟨[], [], false, [], [], false⟩ : BindR), [], 0, 0, 0, 0, 0, (⟨0, [], [], [], [], 0, 0⟩ : Mail), []⟩ : DeedR), q7.2) := by unfold readD readK; simp only [DeedR.blank, bindRead]; (repeat first | simp only [hq5, hq10] | rw [if_pos (by omega)] | rw [if_neg (by omega)]); all_goals first | rfl | (simp [*]; done) | (simp [*]; rfl)
  rw [e]
  exact ⟨_, _, _, _, rfl, rfl, slh_nil, slh_nil⟩
end Go.SW
set_option linter.unusedVariables false
set_option maxRecDepth 100000
set_option maxHeartbeats 4000000
namespace Go.SW
open Go.Proofs
end Go.SW
set_option linter.unusedVariables false
set_option maxRecDepth 100000
set_option maxHeartbeats 4000000
namespace Go.SW
open Go.Proofs
end Go.SW
set_option linter.unusedVariables false
set_option maxRecDepth 100000
set_option maxHeartbeats 4000000
namespace Go.SW
open Go.Proofs
theorem by106 : By Tryz.prog 106 344 := by_of (by kernel_rfl)
theorem cb14 : Callable Tryz.prog 14 := callable_of Tryz.func14 (by kernel_rfl) (by kernel_rfl)
theorem cb51 : Callable Tryz.prog 51 := callable_of Tryz.func51 (by kernel_rfl) (by kernel_rfl)
theorem zx106 : ∃ z, ∀ w, (zeroValue 106).run Tryz.prog w = .ok z w := ⟨.agg #[.int .u8 0, .int .u64 0, str [], .int .u8 0, str [], str [], .int .u64 0, .int .u64 0, str [], str [], str [], .bool false, str [], .slice none 0 0, .bool false, str [], .int .u64 0, .int .u8 0, .int .u8 0, .int .u8 0, .int .u64 0, .int .u64 0, str [], str [], .slice none 0 0, str [], .int .u64 0, .int .u8 0, str []], fun w => by kernel_rfl⟩
theorem deed_Unpack (H : Hp) (text : Bs) (hML : GInt H 2) (hs : text.length ≤ 4611686018427387904) : Ph Tryz.prog 10 #[str text] H (fun v H' => ∃ (a1 : Option Addr) (c1 : Nat), v = .tuple #[.slice a1 ((unpackD text).1).length c1, .int .i64 ((unpackD text).2)] ∧ SlH deedRE 29 H' (.slice a1 ((unpackD text).1).length c1) ((unpackD text).1)) := by
  refine ph_cw Tryz.func10 rfl Tryz.ntmps10 rfl (fun N => ?_)
  refine cw_seq (cw_region (ol rfl (lo_assign (v := .slice _ _ _) rfl) (oai rfl rfl (ow_nil (seqK_n ?_)))))
  refine cw_seq (cw_region (ol rfl (lo_move (v := str _) rfl) ?_))
  refine ow1 (op1_pn 0 (octet_New _ text) (en_f cb48 rfl) rfl ?_)
  rintro _ _ b3 _ ⟨rfl, rfl, rfl⟩ _
  refine ol rfl (lo_assign (v := .pointer (some ⟨_, _, none⟩)) rfl) (ow_nil (seqK_n (cw_seq (cw_region (ol rfl (lo_assign (v := .slice _ _ _) rfl) ?_)))))
  refine ow_nil (seqK_n (cw_seq (cw_seq (cw_region (ol rfl (lo_move (v := .pointer (some ⟨_, _, none⟩)) rfl) ?_)))))
  refine ow1 (op1_pm 0 rfl (in_Num _ b3 (⟨text, 0⟩) 1 (by omega)) (en_f cb49 rfl) rfl ?_)
  rintro _ _ _ ⟨rfl, rfl, rfl⟩ _
  generalize hq7 : inNum (⟨text, 0⟩) 1 = q4
  have hf8 := inNum_r (⟨text, 0⟩) 1
  simp only [hq7] at hf8
  refine oai rfl rfl (ow_nil (seqK_n (cw_block ?_)))
  refine cw_loop6 [5, 6, 13, 14, 15, 16, 17, 18, 19, 20, 21, 22, 23, 24, 25, 26] [0, 1, 9] (fun (m : Nat) (j : In) (out : List DeedR) (v : Value) (en : Option (Nat × Obj)) (cs : List Value) G => upd (upd (G) 6 (.int .u64 (m : Int))) 5 (v)) (fun (m : Nat) (j : In) (out : List DeedR) (v : Value) (en : Option (Nat × Obj)) (cs : List Value) G => lupd (lupd (G) 0 (some (b3, bx 169 (In.cells j)))) 9 (en)) (fun (m : Nat) (j : In) (out : List DeedR) (v : Value) (en : Option (Nat × Obj)) (cs : List Value) H' => unpackGo (inNum ⟨text, 0⟩ 1).1.toNat (inNum ⟨text, 0⟩ 1).2 [] = unpackGo m j out ∧ m ≤ 255 ∧ out.length + m ≤ 255 ∧ OwnV 29 106 v en out.length cs ∧ Rl deedRE H' out cs) (fun (m : Nat) (j : In) (out : List DeedR) (v : Value) (en : Option (Nat × Obj)) (cs : List Value) => m) q4.1.toNat q4.2 [] (.slice none 0 0) none [] (upd_intro (upd_intro (mask_intro (by first | exact off_refl | (repeat (first | exact off_mask | refine off_upd rfl ?_ | refine off_mask2 rfl ?_)))) (congrArg (Value.int .u64) (by omega))) rfl) (lupd_intro (lupd_intro (lmask_intro offl_refl) rfl) rfl) ?_ ?_
  · refine ⟨by rw [hq7], by omega, by simp; omega, ownV_nil, rl_nil⟩
  intro m j out v en cs J10 JL10 H10 hp9 hl10
  obtain ⟨hk1, hk2, hk3, ho, hw⟩ := hp9
  refine cw_seq (cw_seq (cw_region (omi rfl rfl (ol rfl (lo_gtr rfl rfl) (omb rfl rfl ?_)))))
  refine ow_sp (j := 2) rfl (fun h11 => ?_) (fun h11 => ?_)
  · have p12 := dt h11
    refine ow1 (op1_g rfl h11 rfl (lo_move (v := .pointer (some ⟨_, _, none⟩)) rfl) ?_)
    refine ow1 (op1_pmg 0 rfl h11 rfl (in_Err _ b3 j) (en_f cb50 rfl) rfl ?_)
    rintro _ _ _ ⟨rfl, rfl, rfl⟩ _
    refine ow1 (op1_g rfl h11 rfl (lo_eql rfl rfl) ?_)
    refine ol rfl (lo_pick_t (v := .bool _) rfl h11 rfl) (ow_nil (seqK_n (cw_cond rfl (fun h15 => ?_) (fun h15 => ?_))))
    · have p16 := dt h15
      refine cw_skip (seqK_n (cw_seq (cw_block (cw_region (ol rfl (lo_move rfl) ?_)))))
      refine ol rfl (lo_move (v := .pointer (some ⟨_, _, none⟩)) rfl) ?_
      refine ow1 (op1_pm 0 rfl (deed_read _ b3 j (hML.mono ((HLe.refl _).trans hl10))) (en_f cb51 rfl) rfl ?_)
      rintro _ H25 _ ⟨a18, c19, a21, c22, rfl, rfl, hs20, hs23⟩ hl24
      generalize hq26 : readD j = q17
      simp only [hq26] at hs20 hs23
      have hf27 := readD_wf j
      simp only [hq26] at hf27
      refine ow1 (op1_bslice (cs := [_, _, _, _, _, _, _, _, _, _, _, _, _, _, _, _, _, _, _, _, _, _, _, _, _, _, _, _, _]) 1 rfl Tryz.underlying23 sz106 zx106 rfl ⟨rfl, rfl, trivial⟩ rfl rfl (by decide) (fun b28 => ?_))
      refine ow1 (op1_app 9 rfl rfl Tryz.underlying23 Tryz.underlying23 rfl sz106 by106 (by decide) zr106 ho (src_bx (i := 1) rfl rfl) (List.all_eq_true.1 rfl) rfl (by omega) rfl (fun v29 en30 ho31 => ?_))
      have ho32 := ownV_cast (len' := (out ++ [q17.1]).length) ho31 (by simp) rfl
      have hrl33 : Rl deedRE _ (out ++ [q17.1]) _ := rl_app (hw.mono deedRE_mono ((HLe.refl _).trans hl24)) (⟨_, _, rfl, ⟨a18, c19, a21, c22, rfl, hs20, hs23, hf27⟩, rl_nil⟩)
      refine ol rfl (lo_assign rfl) (ow_nil (blkK_n (seqK_n (cw_region (omi rfl rfl ?_)))))
      refine ol rfl (lo_sub rfl rfl (rg_u64 (by omega))) (oai rfl rfl (ow_nil ?_))
      refine next6 (m - 1) q17.2 (out ++ [q17.1]) v29 en30 (cs ++ [.int .u8 q17.1.kind, .int .u64 q17.1.tick, str q17.1.shop.name, .int .u8 q17.1.shop.sort, str q17.1.shop.to, str q17.1.queue.name, .int .u64 q17.1.queue.most, .int .u64 q17.1.queue.life, str q17.1.queue.dead, str q17.1.bind.shop, str q17.1.bind.to, .bool q17.1.bind.up, str q17.1.bind.key, (.slice a18 q17.1.bind.want.length c19), .bool q17.1.bind.all, str q17.1.name, .int .u64 q17.1.id, .int .u8 q17.1.how, .int .u8 q17.1.frm, .int .u8 q17.1.code, .int .u64 q17.1.number, .int .u64 q17.1.mail.id, str q17.1.mail.shop, str q17.1.mail.key, (.slice a21 q17.1.mail.head.length c22), str q17.1.mail.body, .int .u64 q17.1.mail.due, .int .u8 q17.1.mail.hops, str q17.1.text]) (upd_intro (upd_intro (mask_intro (by first | exact off_refl | (repeat (first | exact off_mask | refine off_upd rfl ?_ | refine off_mask2 rfl ?_)))) (congrArg (Value.int .u64) (by omega))) rfl) (lupd_intro (lupd_intro (lmask_intro (by first | exact offl_refl | (repeat (first | exact offl_mask | refine offl_upd rfl ?_ | refine offl_mask2 rfl ?_)))) rfl) rfl) (hl10.trans hl24) ?_ ?_
      · refine ⟨?_, by omega, by simp; omega, ho32, hrl33⟩
        obtain ⟨z, rfl⟩ : ∃ z, m = z + 1 := ⟨m - 1, by omega⟩
        rw [hk1]
        conv => lhs; unfold unpackGo
        rw [if_pos (by omega), hq26]
        rfl
      omega
    have p34 := df h15
    refine cw_exit (seqK_e (loopK_e (blkK_hit (seqK_n (cw_seq ?_)))))
    refine cw_seq (cw_region (ol rfl (lo_move rfl) ?_))
    obtain ⟨a35, c36, rfl⟩ := own_shape ho
    refine ow1 (op1_prl 9 rfl (fun _ hl37 hg38 => (deed_Pack _ a35 out.length c36 out (slh_ownE (E := deedRE) deedRE_wide ho (hw.mono deedRE_mono ((HLe.refl _).trans hl37)) hg38) (hML.mono (((HLe.refl _).trans hl10).trans hl37)))) (en_f cb14 rfl) rfl ?_)
    have hpr := packD_r out
    refine ol rfl (lo_move (v := .tuple #[_, _]) rfl) (ol rfl (lo_extract (v := str _) rfl rfl) (ol rfl (lo_extract (v := .int _ _) rfl rfl) (ol rfl (lo_assign (v := str _) rfl) (oai rfl rfl (ow_nil ?_)))))
    refine seqK_n (cw_seq (cw_region (ol rfl (lo_move (v := .pointer (some ⟨_, _, none⟩)) rfl) ?_)))
    refine ow1 (op1_pm 0 rfl (in_End _ b3 j) (en_f cb52 rfl) rfl ?_)
    rintro _ _ _ ⟨rfl, rfl, rfl⟩ _
    refine ol rfl (lo_neq rfl rfl) (omb rfl rfl (ow_sp (j := 3) rfl (fun h41 => ?_) (fun h41 => ?_)))
    · have h42 := not_t h41
      have p43 := df h42
      refine og rfl h41 rfl (og rfl h41 rfl (ol rfl (lo_pick_t (v := .bool _) rfl h41 rfl) (omb rfl rfl (og rfl rfl rfl (og rfl rfl rfl ?_)))))
      refine og rfl rfl rfl (ol rfl (lo_pick_t (v := .bool _) rfl rfl rfl) (ow_nil (seqK_n (cw_cond_t rfl rfl (cw_seq ?_)))))
      refine cw_region (ol rfl (lo_assign (v := .slice _ _ _) rfl) (oai rfl rfl (ow_nil (seqK_n (cw_ret ?_)))))
      refine seqK_r (fnK_r (res2 rfl (rv_t (v := .slice _ _ _) rfl) (rv_t (v := .int _ _) rfl)) ((HLe.refl _).trans hl10) ?_)
      have hR : unpackGo (inNum ⟨text, 0⟩ 1).1.toNat (inNum ⟨text, 0⟩ 1).2 [] = (out, j) := by rw [hk1]; exact unpackGo_end (by omega)
      have e : unpackD text = ([], 4) := by
        unfold unpackD
        simp only [hR]
        refine if_neg fun hh => ?_
        obtain ⟨h1, h2, h3⟩ := hh
        first | omega | (simp [*] at *; done)
      rw [e]
      exact ⟨none, 0, rfl, slh_nil⟩
    have h44 := not_f h41
    have p45 := dt h44
    refine ow1 (op1_g rfl h41 rfl (lo_move (v := .int _ _) rfl) ?_)
    refine ow1 (op1_g rfl h41 rfl (lo_neq rfl rfl) ?_)
    refine ol rfl (lo_pick_f (v := .bool _) rfl h41 rfl) (omb rfl rfl (ow_sp (j := 7) rfl (fun h46 => ?_) (fun h46 => ?_)))
    · have h47 := not_t h46
      have p48 := df h47
      refine og rfl h46 rfl (og rfl h46 rfl (og rfl h46 rfl (ol rfl (lo_pick_t (v := .bool _) rfl h46 rfl) (ow_nil (seqK_n ?_)))))
      refine cw_cond_t rfl rfl (cw_seq (cw_region (ol rfl (lo_assign (v := .slice _ _ _) rfl) (oai rfl rfl (ow_nil ?_)))))
      refine seqK_n (cw_ret (seqK_r (fnK_r (res2 rfl (rv_t (v := .slice _ _ _) rfl) (rv_t (v := .int _ _) rfl)) ((HLe.refl _).trans hl10) ?_)))
      have hR : unpackGo (inNum ⟨text, 0⟩ 1).1.toNat (inNum ⟨text, 0⟩ 1).2 [] = (out, j) := by rw [hk1]; exact unpackGo_end (by omega)
      have e : unpackD text = ([], 4) := by
        unfold unpackD
        simp only [hR]
        refine if_neg fun hh => ?_
        obtain ⟨h1, h2, h3⟩ := hh
        first | omega | (simp [*] at *; done)
      rw [e]
      exact ⟨none, 0, rfl, slh_nil⟩
    have h49 := not_f h46
    have p50 := dt h49
    refine ow1 (op1_g rfl h46 rfl (lo_move (v := str _) rfl) ?_)
    refine ow1 (op1_g rfl h46 rfl (lo_move (v := str _) rfl) ?_)
    refine ow1 (op1_g rfl h46 rfl (lo_sneq rfl rfl) ?_)
    refine ol rfl (lo_pick_f (v := .bool _) rfl h46 rfl) (ow_nil (seqK_n (cw_cond rfl (fun h51 => ?_) (fun h51 => ?_))))
    · have h52 := not_t h51
      have p53 := df h52
      refine cw_seq (cw_region (ol rfl (lo_assign (v := .slice _ _ _) rfl) (oai rfl rfl (ow_nil (seqK_n ?_)))))
      refine cw_ret (seqK_r (fnK_r (res2 rfl (rv_t (v := .slice _ _ _) rfl) (rv_t (v := .int _ _) rfl)) ((HLe.refl _).trans hl10) ?_))
      have hR : unpackGo (inNum ⟨text, 0⟩ 1).1.toNat (inNum ⟨text, 0⟩ 1).2 [] = (out, j) := by rw [hk1]; exact unpackGo_end (by omega)
      have e : unpackD text = ([], 4) := by
        unfold unpackD
        simp only [hR]
        refine if_neg fun hh => ?_
        obtain ⟨h1, h2, h3⟩ := hh
        first | omega | (simp [*] at *; done)
      rw [e]
      exact ⟨none, 0, rfl, slh_nil⟩
    have h54 := not_f h51
    have p55 := dt h54
    refine cw_skip (seqK_n (cw_seq (cw_region (ol rfl (lo_move rfl) (ol rfl (lo_assign rfl) ?_)))))
    refine oai rfl rfl (ow_nil (seqK_n (cw_giveO 9 rfl (fun _ hl56 hg57 => ?_))))
    have hs58 := slh_ownE (E := deedRE) deedRE_wide ho (hw.mono deedRE_mono ((HLe.refl _).trans hl56)) hg57
    refine cw_ret (fnK_r (res2 rfl (rv_t (v := .slice _ _ _) rfl) (rv_t (v := .int _ _) rfl)) (((HLe.refl _).trans hl10).trans hl56) ?_)
    have hR : unpackGo (inNum ⟨text, 0⟩ 1).1.toNat (inNum ⟨text, 0⟩ 1).2 [] = (out, j) := by rw [hk1]; exact unpackGo_end (by omega)
    have e : unpackD text = (out, 0) := by
      unfold unpackD
      simp only [hR]
      exact if_pos ⟨by omega, by omega, by assumption⟩
    rw [e]
    exact ⟨_, _, rfl, hs58⟩
  have p61 := df h11
  refine og rfl h11 rfl (og rfl h11 rfl (og rfl h11 rfl (ol rfl (lo_pick_f (v := .bool _) rfl h11 rfl) (ow_nil (seqK_n ?_)))))
  refine cw_cond_f rfl rfl (cw_exit (seqK_e (loopK_e (blkK_hit (seqK_n ?_)))))
  refine cw_seq (cw_seq (cw_region (ol rfl (lo_move rfl) ?_)))
  obtain ⟨a62, c63, rfl⟩ := own_shape ho
  refine ow1 (op1_prl 9 rfl (fun _ hl64 hg65 => (deed_Pack _ a62 out.length c63 out (slh_ownE (E := deedRE) deedRE_wide ho (hw.mono deedRE_mono ((HLe.refl _).trans hl64)) hg65) (hML.mono (((HLe.refl _).trans hl10).trans hl64)))) (en_f cb14 rfl) rfl ?_)
  have hpr := packD_r out
  refine ol rfl (lo_move (v := .tuple #[_, _]) rfl) (ol rfl (lo_extract (v := str _) rfl rfl) (ol rfl (lo_extract (v := .int _ _) rfl rfl) (ol rfl (lo_assign (v := str _) rfl) (oai rfl rfl (ow_nil ?_)))))
  refine seqK_n (cw_seq (cw_region (ol rfl (lo_move (v := .pointer (some ⟨_, _, none⟩)) rfl) ?_)))
  refine ow1 (op1_pm 0 rfl (in_End _ b3 j) (en_f cb52 rfl) rfl ?_)
  rintro _ _ _ ⟨rfl, rfl, rfl⟩ _
  refine ol rfl (lo_neq rfl rfl) (omb rfl rfl (ow_sp (j := 3) rfl (fun h68 => ?_) (fun h68 => ?_)))
  · have h69 := not_t h68
    have p70 := df h69
    refine og rfl h68 rfl (og rfl h68 rfl (ol rfl (lo_pick_t (v := .bool _) rfl h68 rfl) (omb rfl rfl (og rfl rfl rfl (og rfl rfl rfl ?_)))))
    refine og rfl rfl rfl (ol rfl (lo_pick_t (v := .bool _) rfl rfl rfl) (ow_nil (seqK_n (cw_cond_t rfl rfl (cw_seq ?_)))))
    refine cw_region (ol rfl (lo_assign (v := .slice _ _ _) rfl) (oai rfl rfl (ow_nil (seqK_n (cw_ret ?_)))))
    refine seqK_r (fnK_r (res2 rfl (rv_t (v := .slice _ _ _) rfl) (rv_t (v := .int _ _) rfl)) ((HLe.refl _).trans hl10) ?_)
    have hR : unpackGo (inNum ⟨text, 0⟩ 1).1.toNat (inNum ⟨text, 0⟩ 1).2 [] = (out, j) := by rw [hk1]; exact unpackGo_end (by omega)
    have e : unpackD text = ([], 4) := by
      unfold unpackD
      simp only [hR]
      refine if_neg fun hh => ?_
      obtain ⟨h1, h2, h3⟩ := hh
      first | omega | (simp [*] at *; done)
    rw [e]
    exact ⟨none, 0, rfl, slh_nil⟩
  have h71 := not_f h68
  have p72 := dt h71
  refine ow1 (op1_g rfl h68 rfl (lo_move (v := .int _ _) rfl) ?_)
  refine ow1 (op1_g rfl h68 rfl (lo_neq rfl rfl) ?_)
  refine ol rfl (lo_pick_f (v := .bool _) rfl h68 rfl) (omb rfl rfl (ow_sp (j := 7) rfl (fun h73 => ?_) (fun h73 => ?_)))
  · have h74 := not_t h73
    have p75 := df h74
    refine og rfl h73 rfl (og rfl h73 rfl (og rfl h73 rfl (ol rfl (lo_pick_t (v := .bool _) rfl h73 rfl) (ow_nil (seqK_n ?_)))))
    refine cw_cond_t rfl rfl (cw_seq (cw_region (ol rfl (lo_assign (v := .slice _ _ _) rfl) (oai rfl rfl (ow_nil ?_)))))
    refine seqK_n (cw_ret (seqK_r (fnK_r (res2 rfl (rv_t (v := .slice _ _ _) rfl) (rv_t (v := .int _ _) rfl)) ((HLe.refl _).trans hl10) ?_)))
    have hR : unpackGo (inNum ⟨text, 0⟩ 1).1.toNat (inNum ⟨text, 0⟩ 1).2 [] = (out, j) := by rw [hk1]; exact unpackGo_end (by omega)
    have e : unpackD text = ([], 4) := by
      unfold unpackD
      simp only [hR]
      refine if_neg fun hh => ?_
      obtain ⟨h1, h2, h3⟩ := hh
      first | omega | (simp [*] at *; done)
    rw [e]
    exact ⟨none, 0, rfl, slh_nil⟩
  have h76 := not_f h73
  have p77 := dt h76
  refine ow1 (op1_g rfl h73 rfl (lo_move (v := str _) rfl) ?_)
  refine ow1 (op1_g rfl h73 rfl (lo_move (v := str _) rfl) ?_)
  refine ow1 (op1_g rfl h73 rfl (lo_sneq rfl rfl) ?_)
  refine ol rfl (lo_pick_f (v := .bool _) rfl h73 rfl) (ow_nil (seqK_n (cw_cond rfl (fun h78 => ?_) (fun h78 => ?_))))
  · have h79 := not_t h78
    have p80 := df h79
    refine cw_seq (cw_region (ol rfl (lo_assign (v := .slice _ _ _) rfl) (oai rfl rfl (ow_nil (seqK_n ?_)))))
    refine cw_ret (seqK_r (fnK_r (res2 rfl (rv_t (v := .slice _ _ _) rfl) (rv_t (v := .int _ _) rfl)) ((HLe.refl _).trans hl10) ?_))
    have hR : unpackGo (inNum ⟨text, 0⟩ 1).1.toNat (inNum ⟨text, 0⟩ 1).2 [] = (out, j) := by rw [hk1]; exact unpackGo_end (by omega)
    have e : unpackD text = ([], 4) := by
      unfold unpackD
      simp only [hR]
      refine if_neg fun hh => ?_
      obtain ⟨h1, h2, h3⟩ := hh
      first | omega | (simp [*] at *; done)
    rw [e]
    exact ⟨none, 0, rfl, slh_nil⟩
  have h81 := not_f h78
  have p82 := dt h81
  refine cw_skip (seqK_n (cw_seq (cw_region (ol rfl (lo_move rfl) (ol rfl (lo_assign rfl) ?_)))))
  refine oai rfl rfl (ow_nil (seqK_n (cw_giveO 9 rfl (fun _ hl83 hg84 => ?_))))
  have hs85 := slh_ownE (E := deedRE) deedRE_wide ho (hw.mono deedRE_mono ((HLe.refl _).trans hl83)) hg84
  refine cw_ret (fnK_r (res2 rfl (rv_t (v := .slice _ _ _) rfl) (rv_t (v := .int _ _) rfl)) (((HLe.refl _).trans hl10).trans hl83) ?_)
  have hR : unpackGo (inNum ⟨text, 0⟩ 1).1.toNat (inNum ⟨text, 0⟩ 1).2 [] = (out, j) := by rw [hk1]; exact unpackGo_end (by omega)
  have e : unpackD text = (out, 0) := by
    unfold unpackD
    simp only [hR]
    exact if_pos ⟨by omega, by omega, by assumption⟩
  rw [e]
  exact ⟨_, _, rfl, hs85⟩
end Go.SW
set_option linter.unusedVariables false
set_option maxRecDepth 100000
set_option maxHeartbeats 4000000
namespace Go.SW
open Go.Proofs
theorem cb10 : Callable Tryz.prog 10 := callable_of Tryz.func10 (by kernel_rfl) (by kernel_rfl)
theorem cb12 : Callable Tryz.prog 12 := callable_of Tryz.func12 (by kernel_rfl) (by kernel_rfl)
end Go.SW
set_option linter.unusedVariables false
set_option maxRecDepth 100000
set_option maxHeartbeats 4000000
namespace Go.SW
open Go.Proofs
theorem deed_law_Short (H : Hp) (l_a : Option Addr) (l_l l_c : Nat) (l : List DeedR) (l_h : SlH deedRE 29 H (.slice l_a l_l l_c) l) (cut : Int) (cut_r : 0 ≤ cut ∧ cut ≤ 65535) (hML : GInt H 2) (hs : l.length ≤ 409120605684) : Pr Tryz.prog 4 #[.slice l_a l_l l_c, .int .u16 cut] H (.bool true) := by
  refine pr_cw Tryz.func4 rfl Tryz.ntmps4 rfl (fun N => ?_)
  have hdw := slh_dw l_h
  have hplen := packD_len hdw
  refine cw_seq (cw_region (oab rfl rfl (ow_nil (seqK_n (cw_seq ?_)))))
  refine cw_seq (cw_region ?_)
  refine ow1 (op1_pr (l22_awake _ hML) (en_f cb9 rfl) rfl ?_)
  refine ol rfl (lo_not rfl) (ow_nil (seqK_n (cw_cond_f rfl rfl (cw_skip (seqK_n ?_)))))
  refine cw_seq (cw_seq (cw_region (ol rfl (lo_move (v := .slice _ _ _) rfl) ?_)))
  refine ow1 (op1_ph (l22_All _ l_a l_l l_c l l_h (by first | omega | (simp; done) | decide)) (en_f cb12 rfl) rfl ?_)
  rintro _ H5 ⟨a1, c2, rfl, hs3⟩ hl4
  have hal5 := allD_ok l
  have hale5 := allD_le l
  refine ol rfl (lo_move (v := .tuple #[_, _]) rfl) (ol rfl (lo_extract (v := .slice _ _ _) rfl rfl) (ol rfl (lo_extract (v := .bool _) rfl rfl) (ol rfl (lo_assign (v := .slice _ _ _) rfl) (oab rfl rfl (ow_nil ?_)))))
  refine seqK_n (cw_seq (cw_region (ol rfl (lo_move (v := .slice _ _ _) rfl) (ol rfl (lo_len_slh rfl (l_h.mono ((HLe.refl _).trans hl4) (fun _ _ q => deedRE_mono _ _ _ _ ((HLe.refl _).trans hl4) q)) Tryz.underlying23) (ol rfl (lo_gtr rfl rfl) ?_)))))
  refine omb rfl rfl (ow_sp (j := 3) rfl (fun h6 => ?_) (fun h6 => ?_))
  · have p7 := dt h6
    refine og rfl h6 rfl (og rfl h6 rfl (ol rfl (lo_pick_t (v := .bool _) rfl h6 rfl) (ow_nil (seqK_n (cw_cond_t rfl rfl ?_)))))
    refine cw_seq (cw_region (oab rfl rfl (ow_nil (seqK_n (cw_ret ?_)))))
    refine seqK_r (fnK_r (res1 rfl (rv_t (v := .bool _) rfl)) ((HLe.refl _).trans hl4) ?_)
    first
      | rfl
      | (exfalso; omega)
      | (exfalso; simp at *; done)
      | (refine congrArg Value.bool ?_
         simp [packD_bad, *]; done)
      | (have hu := unpack_cut hdw (by assumption) cut_r.1
         refine congrArg Value.bool ?_
         simp [hu]; done)
      | (have hu := unpack_cut hdw (by assumption) cut_r.1
         exfalso
         simp [hu] at *; done)
  have p8 := df h6
  refine ow1 (op1_g rfl h6 rfl (lo_move (v := .bool _) rfl) ?_)
  refine ow1 (op1_g rfl h6 rfl (lo_not rfl) ?_)
  refine ol rfl (lo_pick_f (v := .bool _) rfl h6 rfl) (ow_nil (seqK_n (cw_cond rfl (fun h9 => ?_) (fun h9 => ?_))))
  · have h10 := not_t h9
    refine cw_seq (cw_region (oab rfl rfl (ow_nil (seqK_n (cw_ret ?_)))))
    refine seqK_r (fnK_r (res1 rfl (rv_t (v := .bool _) rfl)) ((HLe.refl _).trans hl4) ?_)
    first
      | rfl
      | (exfalso; omega)
      | (exfalso; simp at *; done)
      | (refine congrArg Value.bool ?_
         simp [packD_bad, *]; done)
      | (have hu := unpack_cut hdw (by assumption) cut_r.1
         refine congrArg Value.bool ?_
         simp [hu]; done)
      | (have hu := unpack_cut hdw (by assumption) cut_r.1
         exfalso
         simp [hu] at *; done)
  have h11 := not_f h9
  refine cw_skip (seqK_n (cw_seq (cw_region (ol rfl (lo_move (v := .slice _ _ _) rfl) (ow1 (op1_pr (deed_Pack _ l_a l_l l_c l (l_h.mono ((HLe.refl _).trans hl4) (fun _ _ q => deedRE_mono _ _ _ _ ((HLe.refl _).trans hl4) q)) (hML.mono ((HLe.refl _).trans hl4))) (en_f cb14 rfl) rfl ?_))))))
  have hpr := packD_r l
  refine ol rfl (lo_move (v := .tuple #[_, _]) rfl) (ol rfl (lo_extract (v := str _) rfl rfl) (ol rfl (lo_extract (v := .int _ _) rfl rfl) (ol rfl (lo_assign (v := str _) rfl) (oai rfl rfl (ow_nil ?_)))))
  refine seqK_n (cw_seq (cw_seq (cw_region (omi rfl rfl (ol rfl (lo_neq rfl rfl) ?_)))))
  refine ow_nil (seqK_n (cw_cond rfl (fun h12 => ?_) (fun h12 => ?_)))
  · have h13 := not_t h12
    have p14 := df h13
    refine cw_seq (cw_region (ol rfl (lo_move (v := str _) rfl) (ol rfl (lo_seql rfl rfl) (oab rfl rfl (ow_nil ?_)))))
    refine seqK_n (cw_ret (seqK_r (fnK_r (res1 rfl (rv_t (v := .bool _) rfl)) ((HLe.refl _).trans hl4) ?_)))
    first
      | rfl
      | (exfalso; omega)
      | (exfalso; simp at *; done)
      | (refine congrArg Value.bool ?_
         simp [packD_bad, *]; done)
      | (have hu := unpack_cut hdw (by assumption) cut_r.1
         refine congrArg Value.bool ?_
         simp [hu]; done)
      | (have hu := unpack_cut hdw (by assumption) cut_r.1
         exfalso
         simp [hu] at *; done)
  have h15 := not_f h12
  have p16 := dt h15
  have hp1 := packD_pos (l := l) p16
  have hm1 := Int.emod_nonneg cut (b := ((packD l).1.length : Int)) (by omega)
  have hm2 := Int.emod_lt_of_pos cut (b := ((packD l).1.length : Int)) (by omega)
  refine cw_skip (seqK_n (cw_seq (cw_region (ol rfl (lo_move (v := str _) rfl) (omi rfl rfl ?_)))))
  refine ol rfl (lo_conv_in rfl (by rw [Tryz.underlying34]; rfl) Tryz.underlying3 (rg_i64 (by omega))) (ol rfl (lo_move (v := str _) rfl) (ol rfl (lo_len_str rfl Tryz.underlying9) (ol rfl (lo_rem rfl rfl (by first | omega | (have := packD_pos (l := l) (by omega); omega)) (by first | omega | (have := packD_pos (l := l) (by omega); omega))) (ol rfl (lo_slice_str_hi ((cut % (((packD l).1).length : Int))).toNat rfl rfl Tryz.underlying9 (by omega) (by first | omega | (have := packD_pos (l := l) (by omega); omega))) ?_))))
  refine ow1 (op1_ph (deed_Unpack _ (((packD l).1).take ((cut % (((packD l).1).length : Int))).toNat) (hML.mono ((HLe.refl _).trans hl4)) (by first | omega | (simp <;> omega))) (en_f cb10 rfl) rfl ?_)
  rintro _ H21 ⟨a17, c18, rfl, hs19⟩ hl20
  have hul21 := unpackD_len (((packD l).1).take ((cut % (((packD l).1).length : Int))).toNat)
  refine ol rfl (lo_move (v := .tuple #[_, _]) rfl) (ol rfl (lo_extract (v := .slice _ _ _) rfl rfl) (ol rfl (lo_extract (v := .int _ _) rfl rfl) (ol rfl (lo_assign (v := .slice _ _ _) rfl) (oai rfl rfl (ow_nil ?_)))))
  refine seqK_n (cw_seq (cw_region (ol rfl (lo_move (v := .slice _ _ _) rfl) (ol rfl (lo_len_slh rfl hs19 Tryz.underlying23) (ol rfl (lo_eql rfl rfl) ?_)))))
  refine omb rfl rfl (ow_sp (j := 3) rfl (fun h22 => ?_) (fun h22 => ?_))
  · have p23 := dt h22
    refine ow1 (op1_g rfl h22 rfl (lo_move (v := .int _ _) rfl) ?_)
    refine ow1 (op1_g rfl h22 rfl (lo_eql rfl rfl) ?_)
    refine ol rfl (lo_pick_t (v := .bool _) rfl h22 rfl) (oab rfl rfl (ow_nil (seqK_n (cw_ret (fnK_r (res1 rfl (rv_t (v := .bool _) rfl)) (((HLe.refl _).trans hl4).trans hl20) ?_)))))
    first
      | rfl
      | (exfalso; omega)
      | (exfalso; simp at *; done)
      | (refine congrArg Value.bool ?_
         simp [packD_bad, *]; done)
      | (have hu := unpack_cut hdw (by assumption) cut_r.1
         refine congrArg Value.bool ?_
         simp [hu]; done)
      | (have hu := unpack_cut hdw (by assumption) cut_r.1
         exfalso
         simp [hu] at *; done)
  have p24 := df h22
  refine og rfl h22 rfl (og rfl h22 rfl (ol rfl (lo_pick_f (v := .bool _) rfl h22 rfl) (oab rfl rfl (ow_nil (seqK_n ?_)))))
  refine cw_ret (fnK_r (res1 rfl (rv_t (v := .bool _) rfl)) (((HLe.refl _).trans hl4).trans hl20) ?_)
  first
    | rfl
    | (exfalso; omega)
    | (exfalso; simp at *; done)
    | (refine congrArg Value.bool ?_
       simp [packD_bad, *]; done)
    | (have hu := unpack_cut hdw (by assumption) cut_r.1
       refine congrArg Value.bool ?_
       simp [hu]; done)
    | (have hu := unpack_cut hdw (by assumption) cut_r.1
       exfalso
       simp [hu] at *; done)
end Go.SW
namespace Go.SW
open Go.ChangeShapes Go.WideShapes Go.ChangeAt Go.RowKit
def hp (w : World) : Hp := fun b => w.heap[b]?
def rest0 (w : World) : Rest := ⟨fun _ => none, w.os, w.tape, w.output⟩
theorem mem0 (w : World) : Mem (rest0 w) (hp w) l0 w :=
  { os := rfl, tape := rfl, output := rfl, n := fun _ _ h => (by cases h), h := fun _ _ h => h, l := fun _ _ _ h => (by cases h), nh := fun _ _ h => (by cases h), nl := fun _ _ _ h => (by cases h), ll := fun _ _ _ _ _ h => (by cases h) }
theorem mem0_below {w w' : World} {L : Ls} (h : Mem (rest0 w) (hp w) L w') : Below w.heap.size w w' := by
  have hb : ∀ k, k < w.heap.size → w'.heap[k]? = w.heap[k]? := fun k hk => by
    have e : w.heap[k]? = some w.heap[k] := Array.getElem?_eq_getElem hk
    rw [e]; exact h.h k _ e
  refine ⟨h.os, h.tape, h.output, ?_, hb⟩
  by_cases z : w.heap.size = 0
  · omega
  · have := hb (w.heap.size - 1) (by omega)
    rw [Array.getElem?_eq_getElem (show w.heap.size - 1 < w.heap.size by omega)] at this
    have := (Array.getElem?_eq_some_iff.1 this).1
    omega
section
variable {Ht : Type} {enc : TypeId × Value → Ht} {P : Program} {w : World} {base fuel : Nat} {spare : Nat → Bool} {held : Bool} {cs : List Value} {x : DataW Ht × List MemPlace} {t : TypeId}
theorem rd_int {k : IntKind} (ht : P.underlying t = some (.int k)) (h : DataW.trod enc P w base spare held fuel t cs = some x) : ∃ z : Int, cs = [.int k z] ∧ k.min ≤ z ∧ z ≤ k.max := by
  obtain ⟨z, h1, _, h2⟩ := DataW.trod_int ht h
  refine ⟨z, h1, ?_⟩
  simp only [Lit.wf, Bool.and_eq_true, decide_eq_true_eq] at h2; exact h2
theorem rd_u8 (ht : P.underlying t = some (.int .u8)) (h : DataW.trod enc P w base spare held fuel t cs = some x) : ∃ z : Int, cs = [.int .u8 z] ∧ 0 ≤ z ∧ z ≤ 255 := rd_int ht h
theorem rd_u64 (ht : P.underlying t = some (.int .u64)) (h : DataW.trod enc P w base spare held fuel t cs = some x) : ∃ z : Int, cs = [.int .u64 z] ∧ 0 ≤ z ∧ z ≤ 18446744073709551615 := rd_int ht h
theorem rd_i64 (ht : P.underlying t = some (.int .i64)) (h : DataW.trod enc P w base spare held fuel t cs = some x) : ∃ z : Int, cs = [.int .i64 z] ∧ -9223372036854775808 ≤ z ∧ z ≤ 9223372036854775807 := rd_int ht h
theorem rd_bool (ht : P.underlying t = some .bool) (h : DataW.trod enc P w base spare held fuel t cs = some x) : ∃ z : Bool, cs = [.bool z] := by
  obtain ⟨z, h1, _⟩ := DataW.trod_bool ht h
  exact ⟨z, h1⟩
theorem rd_str (ht : P.underlying t = some .string) (h : DataW.trod enc P w base spare held fuel t cs = some x) : ∃ s : Bs, cs = [str s] ∧ s.length ≤ 9223372036854775807 := by
  obtain ⟨s, h1, _, h2⟩ := DataW.trod_string ht h
  refine ⟨s.data.toList, by rw [h1, str_of], ?_⟩
  have : s.data.toList.length = s.size := Array.length_toList
  rw [this]; exact h2
theorem list_of {α : Type} {Q : Nat → α → Prop} : ∀ n, (∀ i, i < n → ∃ r, Q i r) → ∃ rs : List α, rs.length = n ∧ ∀ i (h : i < rs.length), Q i rs[i]
  | 0, _ => ⟨[], rfl, fun i h => by cases h⟩
  | n + 1, hq => by
    obtain ⟨rs, hl, hr⟩ := list_of n (fun i hi => hq i (by omega))
    obtain ⟨r, hr0⟩ := hq n (by omega)
    refine ⟨rs ++ [r], by simp [hl], fun i hi => ?_⟩
    by_cases e : i < rs.length
    · rw [List.getElem_append_left e]; exact hr i e
    · have : i = rs.length := by simp at hi; omega
      subst this
      rw [List.getElem_append_right (Nat.le_refl _)]
      simp only [Nat.sub_self, List.getElem_cons_zero]
      rw [hl]; exact hr0
theorem rd_slice {α : Type} {E : Hp → α → List Value → Prop} {k : Nat} {e : TypeId} (ht : P.underlying t = some (.slice e)) (hk : P.cellsOf e = k) (h0 : 0 < k) (he : ∀ fuel cs x, DataW.trod enc P w base spare held fuel e cs = some x → ∃ r, E (hp w) r cs)
    (h : DataW.trod enc P w base spare held fuel t cs = some x) : ∃ (a : Option Addr) (c : Nat) (rs : List α), cs = [.slice a rs.length c] ∧ SlH E k (hp w) (.slice a rs.length c) rs ∧ rs.length ≤ 9223372036854775807 := by
  rcases Go.Deep.open_slice ht h with ⟨h1, _⟩ | ⟨a, len, cap, m, nf, D, Pl, h1, _, hl, hm, hmm, _, hi⟩
  · exact ⟨none, 0, [], h1, slh_nil, Nat.zero_le _⟩
  · have hs0 : 0 < len → a = ⟨a.block, a.off, none⟩ := by
      intro hl0
      obtain ⟨cs', hc, hT⟩ := hi 0 (by rw [hmm]; split <;> omega)
      rw [hk, Nat.zero_mul] at hc
      obtain ⟨_, hcl, hat⟩ := World.cells?_some hc
      have ha0 := hat 0 h0
      rw [List.getElem?_eq_getElem (by omega)] at ha0
      obtain ⟨ab, ao, asp⟩ := a
      cases asp with
      | none => rfl
      | some z =>
        exfalso
        unfold World.cell? at ha0
        simp only [Addr.add] at ha0
        split at ha0 <;> simp at ha0
    have key : ∀ i, i < len → ∃ r : α, ∃ cs', E (hp w) r cs' ∧ SlAt (hp w) (.slice (some a) len cap) k i cs' := by
      intro i hil
      have ha := hs0 (by omega)
      obtain ⟨cs', hc, hT⟩ := hi i (by rw [hmm]; split <;> omega)
      obtain ⟨r, hr⟩ := he _ _ _ hT
      rw [hk] at hc
      obtain ⟨_, hcl, hat⟩ := World.cells?_some hc
      refine ⟨r, cs', hr, ?_⟩
      generalize a.block = ab at ha
      generalize a.off = ao at ha
      subst ha
      simp only [add_none] at hat
      have ha0 := hat 0 h0
      rw [List.getElem?_eq_getElem (by omega)] at ha0
      unfold World.cell? at ha0
      simp only at ha0
      split at ha0
      · rename_i c T fr hb
        refine ⟨ab, ao, len, cap, c, T, fr, rfl, hb, hcl, fun j hj => ?_⟩
        have := hat j hj
        unfold World.cell? at this
        simp only at this
        rw [hb] at this
        simpa using this
      · cases ha0
    obtain ⟨rs, hlen, hr⟩ := list_of (Q := fun i (r : α) => ∃ cs', E (hp w) r cs' ∧ SlAt (hp w) (.slice (some a) len cap) k i cs') len key
    refine ⟨some a, cap, rs, by rw [h1, hlen], ⟨⟨some a, cap, rfl, by omega⟩, fun i hi => ?_⟩, ?_⟩
    · rw [hlen]; exact hr i hi
    · have : cap ≤ 9223372036854775807 := hm
      omega
/-- A struct's field. -/
theorem rd_fld {fs : Array Field} {xs : List (DataW Ht × List MemPlace)} {n i o k : Nat} {f : Field} {ft : TypeId} (hf : ∀ (i : Nat) (f : Field), fs[i]? = some f → DataW.trod enc P w base spare held n f.type ((cs.drop f.offset).take (P.cellsOf f.type)) = xs[i]?) (hl : xs.length = fs.size)
    (hi : fs[i]? = some f) (ho : f.offset = o) (ht : f.type = ft) (hk : P.cellsOf ft = k) : ∃ y, DataW.trod enc P w base spare held n ft ((cs.drop o).take k) = some y := by
  have h := hf i f hi
  have hlt : i < fs.size := (Array.getElem?_eq_some_iff.1 hi).1
  rw [ho, ht, hk, List.getElem?_eq_getElem (by omega)] at h
  exact ⟨_, h⟩
theorem cs_last {l : List Value} {o k : Nat} (hl : cs.length = o + k) (h : (cs.drop o).take k = l) : cs.drop o = l := by
  rw [← h, List.take_of_length_le (by simp; omega)]
theorem cs_step {l r : List Value} {o k : Nat} (h : (cs.drop o).take k = l) (hr : cs.drop (o + k) = r) : cs.drop o = l ++ r := by
  rw [← h, ← hr, ← List.drop_drop, List.take_append_drop]
end
theorem params_ok {P : Program} {ts : Array TypeId} (h : (ts.toList.all fun t => P.readableRec t && decide (t < P.types.size)) = true) : ∀ t ∈ ts.toList, P.readableRec t = true ∧ t < P.types.size := fun t ht => by
  have := List.all_eq_true.1 h t ht
  simpa using this
theorem rd_one_int {Ht : Type} {enc : TypeId × Value → Ht} {P : Program} {w : World} {r : Reach} {b0 base : Nat} {spare : Nat → Bool} {held : Bool} {t : TypeId} {k : IntKind} {v : Value} {d : DataW Ht} {p : List MemPlace} (hs : P.underlying t = some (.int k)) (hv : Value.okWide P w r b0 t v)
    (h : DataW.Trod enc P w base spare held t v d p) : ∃ z : Int, v = .int k z ∧ k.min ≤ z ∧ z ≤ k.max := by
  obtain ⟨z, rfl, _, _, hw⟩ := open_int hs hv h
  refine ⟨z, rfl, ?_⟩
  simp only [Lit.wf, Bool.and_eq_true, decide_eq_true_eq] at hw; exact hw
/-- The cells of a datum. -/
def flatD : Nat → DataW Unit → List Value
  | _, .lit (.int k n) => [.int k n]
  | _, .lit (.string s) => [.string ⟨s.toArray⟩]
  | _, .lit (.bool b) => [.bool b]
  | n + 1, .agg l => l.flatMap (flatD n)
  | _, _ => []
/-- The settled world, with data laid in its variables. -/
def layD (d : DataW Unit) : Obj → Obj
  | .cells _ t frozen => .cells (flatD 5 d).toArray t frozen
  | o => o
noncomputable def laidW (P : Program) (os : Os) (l : List (Nat × DataW Unit)) : World :=
  let w0 := World.holding P os ⟨#[], #[], []⟩
  { w0 with heap := List.foldl (fun h x => h.modify x.1 (layD x.2)) w0.heap l }
/-- Each argument reads as it did, where below the heap's old size nothing has turned. -/
theorem trodAll_stays {Ht : Type} {enc : TypeId × Value → Ht} {P : Program} (hl : laidOutB P = true) {W W' : World} (hb : Below W.heap.size W W') {sp : Nat → Bool} : ∀ {ts : List TypeId} {vs : List Value} {ds : List (DataW Ht)} {ps : List MemPlace}, (∀ t ∈ ts, P.readableRec t = true ∧ t < P.types.size) →
    DataW.TrodAll enc P W 0 (fun _ => true) true ts vs ds ps → (∀ x ∈ ps, x.block < W.heap.size) → (∀ x ∈ ps, sp x.block = true) → DataW.TrodAll enc P W' 0 sp true ts vs ds ps := by
  intro ts
  induction ts with
  | nil => intro vs ds ps _ h _ _; cases vs <;> cases ds <;> first | exact h | exact h.elim
  | cons t ts ih =>
    intro vs ds ps hr h hlt hsp
    obtain ⟨v, vs', d, ds', p, q, rfl, rfl, rfl, h1, h2⟩ := trodAll_cons h
    exact trodAll_cons_mk (WideElems.Trod_stays hl (hr t (by simp)).1 (hr t (by simp)).2 h1 (fun x hx => hb.same (hlt x (by simp [hx]))) (fun x hx => hsp x (by simp [hx]))) (ih (fun u hu => hr u (by simp [hu])) h2 (fun x hx => hlt x (by simp [hx])) (fun x hx => hsp x (by simp [hx])))
section
variable {Ht : Type} {enc : TypeId × Value → Ht} {P : Program}
/-- A row's last step where below the heap's old size nothing has turned: it hands back true, and the arguments read as they did. -/
theorem law_post {f : Func} {s : ChangeSpec} {apart fresh again : Bool} {W W' : World} {args : Array Value} {ds : List (DataW Ht)} {before : List MemPlace} {tb : TypeId} (hvars : s.vars = [])
    (hW : DataW.Whole enc P f.params.toList s.vars apart W args.toList ds [] before) (hb : Below W.heap.size W W') (hl : laidOutB P = true) (hr : ∀ t ∈ f.params.toList, P.readableRec t = true ∧ t < P.types.size)
    (hres : f.resultTypes = #[tb]) (hu : P.underlying tb = some .bool) (hfn : s.fn Ht (ds ++ []) = { results := [.lit (.bool true)], args := ds }) : s.post enc P f apart fresh false again W args (.bool true) W' := by
  have hlt : ∀ p ∈ before, p.block < W.heap.size := fun p hp => hW.lt p hp
  have hold : ∀ p ∈ before, (fun b => decide (b < W.heap.size)) p.block = true := fun p hp => by simpa using hlt p hp
  have hW0 := hW
  obtain ⟨p, q, hA, hV, rfl, hz, hn⟩ := hW0
  have hq : q = [] := by
    rw [hvars] at hV
    exact (trodVars_none hV).2
  subst hq
  rw [List.append_nil] at hlt hold hz hn hW
  have hA0 : DataW.TrodAll enc P W 0 (fun _ => true) true f.params.toList args.toList ds p := hA
  have hargs : ∀ sp : Nat → Bool, (∀ x ∈ p, sp x.block = true) → DataW.TrodAll enc P W' 0 sp true f.params.toList args.toList ds p := fun sp hs => trodAll_stays hl hb hr hA0 hlt hs
  have hvs : ∀ sp : Nat → Bool, DataW.TrodVars enc P W' sp s.vars ([] : List (DataW Ht)) [] := fun sp => by rw [hvars]; rfl
  have hR : ∀ (b : Nat) (sp : Nat → Bool) (hd : Bool), DataW.TrodAll enc P W' b sp hd f.resultTypes.toList ((Value.bool true).resultList f.resultTypes.size) [.lit (.bool true)] [] := fun b sp hd => by
    rw [hres]
    exact trodAll_mk1 (shut_bool hu true)
  have hok : ∀ (j : Nat) (t : TypeId) (r : Value), f.resultTypes[j]? = some t → ((Value.bool true).resultList f.resultTypes.size)[j]? = some r → Value.okWide P W' .any 0 t r := ok_one hres rfl (okWide_bool_mk hu true)
  refine ⟨ds, [], p, [], p, [], hW, ?_, ?_, ?_, World.keptBut_mono (fun x hx => ⟨hx, Or.inr (by simpa using hx)⟩) (hb.frame (· ∈ p)), fun _ => ?_⟩
  · rw [hfn]; exact hR _ _ _
  · rw [hfn]; exact hargs _ hold
  · rw [hfn]; exact hvs _
  · refine ⟨hok, _, _, ([] ++ p) ++ [], ⟨[] ++ p, [], trodAll_append (hargs _ (fun _ _ => rfl)) (hR _ _ _), hvs _, rfl, ?_, ?_⟩, ?_⟩
    · intro b off hp
      have hin : MemPlace.cell b off ∈ p := by simpa using hp
      rw [hb.frozen (hlt _ hin)]
      exact hz b off hin
    · intro ha
      have := hn ha
      simpa using this
    · intro x hx _
      simpa using hx
/-- A variable of type int holds an int. -/
theorem gint_of_shape {w : World} {g : Nat} {t : TypeId} {zero : Array Value} (h : w.ShapedOpen P) (hg : g < P.globals.size)
    (h0 : ((begin P (fun _ _ => 0) default).world.heap[g]?).bind Obj.row? = some (zero, t)) (hz : zero.size = 1)
    (hb : P.buildable t = true) (hc : P.cellTypes P.depth t = some [t]) (hu : P.underlying t = some (.int .i64)) : GInt (hp w) g := by
  obtain ⟨cs, hh, hs, hr⟩ := h.1 g zero t hg h0
  obtain ⟨ts, hts, _, hall⟩ := hr hb
  rw [hc] at hts
  cases hts
  have h1 : 0 < cs.size := by omega
  obtain ⟨u, hu', hok⟩ := hall 0 cs[0] (by simp [h1])
  have : u = t := by simpa using hu'.symm
  subst this
  unfold Cell.ok at hok
  rw [hu] at hok
  have hv : ∃ m, cs[0] = .int .i64 m := by
    cases hv : cs[0] <;> rw [hv] at hok <;> first | exact ⟨_, by rw [hok.1]⟩ | simp at hok
  obtain ⟨m, hm⟩ := hv
  refine ⟨m, u, (0, 0), ?_⟩
  show w.heap[g]? = _
  rw [hh]
  have e : cs = #[.int .i64 m] := by
    apply Array.ext
    · simp; omega
    · intro i hi1 hi2
      have : i = 0 := by simp at hi2; omega
      subst this
      simpa using hm
  rw [e]
end
end Go.SW
namespace Go.SW
open Go.ChangeShapes Go.WideShapes Go.ChangeAt Go.RowKit
variable {P : Program}
theorem dat_slice {Ht : Type} {enc : TypeId × Value → Ht} {w : World} {base fuel : Nat} {spare : Nat → Bool} {held : Bool} {a : Option Addr} {l c : Nat} {x : DataW Ht × List MemPlace} {t e : TypeId} (ht : P.underlying t = some (.slice e))
    (h : DataW.trod enc P w base spare held fuel t [.slice a l c] = some x) : x.1 = .nil ∧ l = 0 ∨ ∃ el sp, x.1 = .slice el sp ∧ el.length = l := by
  rcases Go.Deep.open_slice ht h with ⟨h1, h2⟩ | ⟨a', len, cap, m, nf, D, Pl, h1, _, hl, hm, hmm, hx, _⟩
  · cases h1; subst h2; exact .inl ⟨rfl, rfl⟩
  · cases h1; subst hx; exact .inr ⟨_, _, rfl, by simp⟩
theorem len_of_weights {Ht : Type} {ts : List TypeId} {ds : List (DataW Ht)} {j n B : Nat} {t e : TypeId} {d : DataW Ht} (hw : (DataW.weightsEach P ts ds).all (· ≤ reachBytes) = true) (ht : ts[j]? = some t) (hd : ds[j]? = some d) (hu : P.underlying t = some (.slice e)) (hb : P.bytesOf e = B)
    (hs : d = .nil ∧ n = 0 ∨ ∃ el sp, d = .slice el sp ∧ el.length = n) : n * B ≤ 140737488351232 := by
  rcases hs with ⟨_, rfl⟩ | ⟨el, sp, rfl, rfl⟩
  · simp
  · have := sized_slice hw ht hd hu
    rw [hb, Nat.add_mul] at this
    have hr : reachBytes = 140737488351232 := by decide
    omega
theorem rd_one_slice {w : World} {r : Reach} {b0 : Nat} {t e : TypeId} {v : Value} {a : Option Addr} {l c : Nat} (hs : P.underlying t = some (.slice e)) (hv : Value.okWide P w r b0 t v) (he : v.cells.toList = [.slice a l c]) : v = .slice a l c := by
  unfold Value.okWide at hv
  rw [hs] at hv
  simp only at hv
  unfold Cell.okWide at hv
  rw [hs] at hv
  cases v with
  | agg cs => simp [Cell.ok, hs] at hv
  | _ => exact (List.cons.inj he).1
end Go.SW
