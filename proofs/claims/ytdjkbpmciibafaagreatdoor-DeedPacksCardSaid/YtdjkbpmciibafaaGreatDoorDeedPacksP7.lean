/-
  A part of the proof of DeedPacks: The walks of this seat, printed by program: route.Book.Bind. The walks of this seat, printed by program: route.Book.Leads. The walks of this seat, printed by program: stairwelllaw14.awake, stairwelllaw14.Awake. The walks of this seat, printed by program: stairwelllaw22.awake, stairwelllaw22.Awake. The walks of this seat, printed by program: stairwelllaw22.DeedSame, stairwelllaw22.DeedBytes. The walks of this seat, printed by program: deed.Pack. The walks of this seat, printed by program: stairwellref22.Pack, stairwellref22.SameAll. The walks of this seat, printed by program: stairwelllaw22.All. The walks of this seat, printed by program: mail.Read. The walks of this seat, printed by program: stairwellref13.Read. The walks of this seat, printed by program: deed.read. The walks of this seat, printed by program: stairwellref22.bind. The walks of this seat, printed by program: stairwellref22.read. The walks of this seat, printed by program: deed.Unpack, stairwellref22.Unpack. The walks of this seat, printed by program: stairwelllaw22.DeedReads. The walks of this seat, printed by program: stairwelllaw22.DeedPacks. From the data that a row's arguments read as to the ground of the walks, and back: a world seen as one that is read alone; integers, texts, bools, structs, slices opened; the row's last step. Over any program; no condition. How long a slice that was handed over can be. Over any program; no condition.
-/
import Derived.Test.YtdjkbpmciibafaaGreatDoorProg
import Derived.KernelRfl
import Derived.Test.YtdjkbpmciibafaaGreatDoorDeedPacksP6
import Derived.Test.YtdjkbpmciibafaaGreatDoorDeedPacksP2
import Derived.Test.YtdjkbpmciibafaaGreatDoorDeedPacksP1
import Derived.ProofKit
import Derived.OpenShut
import Derived.Deep.Slices
import Derived.Carry
import Derived.Lib.LaidTab
import Derived.SizedLaws
set_option linter.unusedVariables false
set_option linter.unusedSimpArgs false
set_option linter.unusedVariables false
set_option maxRecDepth 100000
set_option maxHeartbeats 4000000
namespace Go.SW
open Go.Proofs
theorem cb249 : Callable Tryz.prog 249 := callable_of Tryz.func249 (by kernel_rfl) (by kernel_rfl)
theorem cb250 : Callable Tryz.prog 250 := callable_of Tryz.func250 (by kernel_rfl) (by kernel_rfl)
theorem cb251 : Callable Tryz.prog 251 := callable_of Tryz.func251 (by kernel_rfl) (by kernel_rfl)
theorem zx279 : ∃ z, ∀ w, (zeroValue 279).run Tryz.prog w = .ok z w := ⟨.slice none 0 0, fun w => by kernel_rfl⟩
theorem zx58 : ∃ z, ∀ w, (zeroValue 58).run Tryz.prog w = .ok z w := ⟨.agg #[str [], str [], .bool false, str [], .slice none 0 0, .bool false], fun w => by kernel_rfl⟩
theorem book_Bind (H : Hp) (b : BookR) (b_shops_a : Option Addr) (b_shops_c : Nat) (b_shops_h : SlH shopRE 3 H (.slice b_shops_a b.shops.length b_shops_c) b.shops) (b_binds_a : Option Addr) (b_binds_c : Nat) (b_binds_h : SlH bindRE 6 H (.slice b_binds_a b.binds.length b_binds_c) b.binds) (b_w : BookR.wf b) (x : BindR) (x_want_a : Option Addr) (x_want_c : Nat) (x_want_h : SlH pairE 4 H (.slice x_want_a x.want.length x_want_c) x.want) (x_w : BindR.wf x) (hML : GInt H 2) (hl : x.want.length ≤ 1000000) : Ph Tryz.prog 230 #[.agg (BookR.cells b b_shops_a b_shops_c b_binds_a b_binds_c).toArray, .agg (BindR.cells x x_want_a x_want_c).toArray] H (fun v H' => ∃ (a1 : Option Addr) (c1 : Nat) (a2 : Option Addr) (c2 : Nat), v = .tuple #[.agg (BookR.cells ((bindS b x).1) a1 c1 a2 c2).toArray, .int .i64 ((bindS b x).2)] ∧ SlH shopRE 3 H' (.slice a1 (((bindS b x).1).shops).length c1) (((bindS b x).1).shops) ∧ SlH bindRE 6 H' (.slice a2 (((bindS b x).1).binds).length c2) (((bindS b x).1).binds)) := by
  refine ph_cw Tryz.func230 rfl Tryz.ntmps230 rfl (fun N => ?_)
  have b_w' := b_w
  simp only [BookR.wf] at b_w'
  have x_w' := x_w
  simp only [BindR.wf] at x_w'
  have hss := shopOf_wf (n := x.shop) (slh_wfE b_shops_h)
  have hss2 := hss
  simp only [ShopR.wf] at hss2
  refine cw_seq (cw_region (ow1 (op1_box (cs := [_, _]) 0 rfl rfl (fun b1 => ?_))))
  refine ow1 (op1_box (cs := [_, _, _, _, _, _]) 1 rfl rfl (fun b2 => ?_))
  refine ow1 (op1_alloc 2 rfl zr281 (fun b3 => ?_))
  refine oai rfl rfl (ow_nil (seqK_n (cw_seq (cw_region (ol rfl (lo_loadA (i := 0) (vs := [_, _]) rfl ag281 sz281 rfl rfl rfl) ?_)))))
  refine ol rfl (lo_fieldAddr rfl fl58_0) (ol rfl (lo_load1 (i := 1) (v := str _) rfl ag9 rfl rfl) ?_)
  refine ow1 (op1_pr (book_Shop _ b b_shops_a b_shops_c b_shops_h b_binds_a b_binds_c b_binds_h b_w x.shop) (en_f cb246 rfl) rfl ?_)
  refine ol rfl (lo_move (v := .tuple #[_, _]) rfl) (ol rfl (lo_extract (v := .agg #[_, _, _]) rfl rfl) (ol rfl (lo_extract (v := .bool _) rfl rfl) (ow1 (op1_alloc 3 rfl zr54 (fun b4 => ?_)))))
  refine ow1 (op1_storeAll (i := 3) (vs := [_, _, _]) rfl rfl rfl sz54 rfl rfl rfl ?_)
  refine oab rfl rfl (ow_nil (seqK_n (cw_seq (cw_block (cw_seq ?_)))))
  refine cw_region (omb rfl rfl (ol rfl (lo_not rfl) (oab rfl rfl (ow_nil (seqK_n ?_)))))
  refine cw_cond rfl (fun h5 => ?_) (fun h5 => ?_)
  · have h6 := not_t h5
    refine cw_seq (cw_region (ol rfl (lo_loadA (i := 0) (vs := [_, _]) rfl ag281 sz281 rfl rfl rfl) ?_))
    refine ow1 (op1_storeAll (i := 2) (vs := [_, _]) rfl rfl rfl sz281 rfl rfl rfl ?_)
    refine oai rfl rfl (ow_nil (seqK_n (cw_ret (blkK_r (seqK_r ?_)))))
    refine fnK_r (res2 rfl (rv_c (i := 2) (vs := [_, _]) rfl ag281 sz281 rfl rfl rfl) (rv_t (v := .int _ _) rfl)) (.refl _) ?_
    have e : bindS b x = (b, 10) := by
      unfold bindS
      (repeat (first | rw [if_pos (by omega)] | rw [if_pos (by assumption)] | rw [if_pos (And.intro (by assumption) (by assumption))] | rw [if_pos (Or.inl (by assumption))] | rw [if_pos (Or.inr (by assumption))] | rw [if_neg (by omega)] | rw [if_neg (by assumption)] | rw [if_neg (not_not_intro (by assumption))] | rw [if_neg (nbt (by assumption))] | rw [if_neg (nbf (by assumption))] | rw [if_neg (nand_l (by assumption))] | rw [if_neg (nand_r (by assumption))] | rw [if_neg (nand_l (nbt (by assumption)))] | rw [if_neg (nand_r (nbt (by assumption)))] | rw [if_neg (nor_ (not_not_intro (by assumption)) (nbf (by assumption)))]))
      all_goals first | done | rfl | simp [*]
    rw [e]
    exact ⟨_, _, _, _, rfl, b_shops_h, b_binds_h⟩
  have h7 := not_f h5
  refine cw_seq (cw_region (ol rfl (lo_fieldAddr rfl fl54_1) (ol rfl (lo_load1 (i := 3) (v := .int _ _) rfl ag5 rfl rfl) (ol rfl (lo_eql rfl rfl) (oab rfl rfl ?_)))))
  refine ow_nil (seqK_n (cw_cond rfl (fun h8 => ?_) (fun h8 => ?_)))
  · have p9 := dt h8
    refine cw_seq (cw_region (ol rfl (lo_loadA (i := 0) (vs := [_, _]) rfl ag281 sz281 rfl rfl rfl) ?_))
    refine ow1 (op1_storeAll (i := 2) (vs := [_, _]) rfl rfl rfl sz281 rfl rfl rfl ?_)
    refine oai rfl rfl (ow_nil (seqK_n (cw_ret (blkK_r (seqK_r ?_)))))
    refine fnK_r (res2 rfl (rv_c (i := 2) (vs := [_, _]) rfl ag281 sz281 rfl rfl rfl) (rv_t (v := .int _ _) rfl)) (.refl _) ?_
    have e : bindS b x = (b, 8) := by
      unfold bindS
      (repeat (first | rw [if_pos (by omega)] | rw [if_pos (by assumption)] | rw [if_pos (And.intro (by assumption) (by assumption))] | rw [if_pos (Or.inl (by assumption))] | rw [if_pos (Or.inr (by assumption))] | rw [if_neg (by omega)] | rw [if_neg (by assumption)] | rw [if_neg (not_not_intro (by assumption))] | rw [if_neg (nbt (by assumption))] | rw [if_neg (nbf (by assumption))] | rw [if_neg (nand_l (by assumption))] | rw [if_neg (nand_r (by assumption))] | rw [if_neg (nand_l (nbt (by assumption)))] | rw [if_neg (nand_r (nbt (by assumption)))] | rw [if_neg (nor_ (not_not_intro (by assumption)) (nbf (by assumption)))]))
      all_goals first | done | rfl | simp [*]
    rw [e]
    exact ⟨_, _, _, _, rfl, b_shops_h, b_binds_h⟩
  have p10 := df h8
  refine cw_skip (blkK_n (seqK_n (cw_seq (cw_seq (cw_region ?_)))))
  refine ol rfl (lo_fieldAddr rfl fl58_1) (ol rfl (lo_load1 (i := 1) (v := str _) rfl ag9 rfl rfl) ?_)
  refine ow1 (op1_pr (words_Name _ x.to (by first | omega | decide | (simp; done))) (en_f cb116 rfl) rfl ?_)
  refine oai rfl rfl (ow_nil (seqK_n (cw_seq (cw_region (omi rfl rfl ?_)))))
  refine ol rfl (lo_neq rfl rfl) (ow_nil (seqK_n (cw_cond rfl (fun h11 => ?_) (fun h11 => ?_))))
  · have h12 := not_t h11
    have p13 := df h12
    refine cw_seq (cw_region (ol rfl (lo_loadA (i := 0) (vs := [_, _]) rfl ag281 sz281 rfl rfl rfl) (omi rfl rfl ?_)))
    refine ow1 (op1_storeAll (i := 2) (vs := [_, _]) rfl rfl rfl sz281 rfl rfl rfl ?_)
    refine oai rfl rfl (ow_nil (seqK_n (cw_ret (seqK_r (fnK_r (res2 rfl (rv_c (i := 2) (vs := [_, _]) rfl ag281 sz281 rfl rfl rfl) (rv_t (v := .int _ _) rfl)) (.refl _) ?_)))))
    have e : bindS b x = (b, nameE x.to) := by
      unfold bindS
      (repeat (first | rw [if_pos (by omega)] | rw [if_pos (by assumption)] | rw [if_pos (And.intro (by assumption) (by assumption))] | rw [if_pos (Or.inl (by assumption))] | rw [if_pos (Or.inr (by assumption))] | rw [if_neg (by omega)] | rw [if_neg (by assumption)] | rw [if_neg (not_not_intro (by assumption))] | rw [if_neg (nbt (by assumption))] | rw [if_neg (nbf (by assumption))] | rw [if_neg (nand_l (by assumption))] | rw [if_neg (nand_r (by assumption))] | rw [if_neg (nand_l (nbt (by assumption)))] | rw [if_neg (nand_r (nbt (by assumption)))] | rw [if_neg (nor_ (not_not_intro (by assumption)) (nbf (by assumption)))]))
      all_goals first | done | rfl | simp [*]
    rw [e]
    exact ⟨_, _, _, _, rfl, b_shops_h, b_binds_h⟩
  have h14 := not_f h11
  have p15 := dt h14
  refine cw_skip (seqK_n (cw_seq (cw_seq (cw_region (ol rfl (lo_loadA (i := 1) (vs := [_, _, _, _, _, _]) rfl ag58 sz58 rfl rfl rfl) ?_)))))
  refine ol rfl (lo_fieldAddr rfl fl54_1) (ol rfl (lo_load1 (i := 3) (v := .int _ _) rfl ag5 rfl rfl) ?_)
  refine ow1 (op1_ph (bind_rule _ x x_want_a x_want_c x_want_h x_w (((shopOf b.shops x.shop).getD ShopR.zero).sort) (by omega)) (en_f cb248 rfl) rfl ?_)
  rintro _ H20 ⟨a16, c17, rfl, hs18⟩ hl19
  refine ow1 (op1_pr (rule_Check _ (bindRule x (((shopOf b.shops x.shop).getD ShopR.zero).sort)) a16 c17 hs18 (bindRule_wf x_w (by omega)) (hML.mono ((HLe.refl _).trans hl19))) (en_f cb236 rfl) rfl ?_)
  refine oai rfl rfl (ow_nil (seqK_n (cw_block (cw_seq (cw_region ?_)))))
  refine omi rfl rfl (ol rfl (lo_neq rfl rfl) (oab rfl rfl (ow_nil (seqK_n (cw_cond rfl (fun h21 => ?_) (fun h21 => ?_))))))
  · have h22 := not_t h21
    have p23 := df h22
    refine cw_seq (cw_region (ol rfl (lo_loadA (i := 0) (vs := [_, _]) rfl ag281 sz281 rfl rfl rfl) (omi rfl rfl ?_)))
    refine ow1 (op1_storeAll (i := 2) (vs := [_, _]) rfl rfl rfl sz281 rfl rfl rfl ?_)
    refine oai rfl rfl (ow_nil (seqK_n (cw_ret (blkK_r (seqK_r ?_)))))
    refine fnK_r (res2 rfl (rv_c (i := 2) (vs := [_, _]) rfl ag281 sz281 rfl rfl rfl) (rv_t (v := .int _ _) rfl)) ((HLe.refl _).trans hl19) ?_
    have e : bindS b x = (b, ruleE (bindRule x (((shopOf b.shops x.shop).getD ShopR.zero).sort))) := by
      unfold bindS
      (repeat (first | rw [if_pos (by omega)] | rw [if_pos (by assumption)] | rw [if_pos (And.intro (by assumption) (by assumption))] | rw [if_pos (Or.inl (by assumption))] | rw [if_pos (Or.inr (by assumption))] | rw [if_neg (by omega)] | rw [if_neg (by assumption)] | rw [if_neg (not_not_intro (by assumption))] | rw [if_neg (nbt (by assumption))] | rw [if_neg (nbf (by assumption))] | rw [if_neg (nand_l (by assumption))] | rw [if_neg (nand_r (by assumption))] | rw [if_neg (nand_l (nbt (by assumption)))] | rw [if_neg (nand_r (nbt (by assumption)))] | rw [if_neg (nor_ (not_not_intro (by assumption)) (nbf (by assumption)))]))
      all_goals first | done | rfl | simp [*]
    rw [e]
    exact ⟨_, _, _, _, rfl, (b_shops_h.mono ((HLe.refl _).trans hl19) (fun _ _ h => h)), (b_binds_h.mono ((HLe.refl _).trans hl19) (fun _ _ q => bindRE_mono _ _ _ _ ((HLe.refl _).trans hl19) q))⟩
  have h24 := not_f h21
  have p25 := dt h24
  refine cw_seq (cw_region (ol rfl (lo_loadA (i := 0) (vs := [_, _]) rfl ag281 sz281 rfl rfl rfl) (ol rfl (lo_loadA (i := 1) (vs := [_, _, _, _, _, _]) rfl ag58 sz58 rfl rfl rfl) (ow1 (op1_pr (book_there _ b b_shops_a b_shops_c (b_shops_h.mono ((HLe.refl _).trans hl19) (fun _ _ h => h)) b_binds_a b_binds_c (b_binds_h.mono ((HLe.refl _).trans hl19) (fun _ _ q => bindRE_mono _ _ _ _ ((HLe.refl _).trans hl19) q)) b_w x x_want_a x_want_c (x_want_h.mono ((HLe.refl _).trans hl19) (fun _ _ h => h)) x_w) (en_f cb249 rfl) rfl ?_)))))
  have := idxP_r (fun y => decide (x = y)) b.binds
  refine ol rfl (lo_geq rfl rfl) (oab rfl rfl (ow_nil (seqK_n (cw_cond rfl (fun h26 => ?_) (fun h26 => ?_)))))
  · have p27 := dt h26
    refine cw_seq (cw_region (ol rfl (lo_loadA (i := 0) (vs := [_, _]) rfl ag281 sz281 rfl rfl rfl) ?_))
    refine ow1 (op1_storeAll (i := 2) (vs := [_, _]) rfl rfl rfl sz281 rfl rfl rfl ?_)
    refine oai rfl rfl (ow_nil (seqK_n (cw_ret (blkK_r (seqK_r ?_)))))
    refine fnK_r (res2 rfl (rv_c (i := 2) (vs := [_, _]) rfl ag281 sz281 rfl rfl rfl) (rv_t (v := .int _ _) rfl)) ((HLe.refl _).trans hl19) ?_
    have e : bindS b x = (b, 0) := by
      unfold bindS
      (repeat (first | rw [if_pos (by omega)] | rw [if_pos (by assumption)] | rw [if_pos (And.intro (by assumption) (by assumption))] | rw [if_pos (Or.inl (by assumption))] | rw [if_pos (Or.inr (by assumption))] | rw [if_neg (by omega)] | rw [if_neg (by assumption)] | rw [if_neg (not_not_intro (by assumption))] | rw [if_neg (nbt (by assumption))] | rw [if_neg (nbf (by assumption))] | rw [if_neg (nand_l (by assumption))] | rw [if_neg (nand_r (by assumption))] | rw [if_neg (nand_l (nbt (by assumption)))] | rw [if_neg (nand_r (nbt (by assumption)))] | rw [if_neg (nor_ (not_not_intro (by assumption)) (nbf (by assumption)))]))
      all_goals first | done | rfl | simp [*]
    rw [e]
    exact ⟨_, _, _, _, rfl, (b_shops_h.mono ((HLe.refl _).trans hl19) (fun _ _ h => h)), (b_binds_h.mono ((HLe.refl _).trans hl19) (fun _ _ q => bindRE_mono _ _ _ _ ((HLe.refl _).trans hl19) q))⟩
  have p28 := df h26
  refine cw_seq (cw_region (ol rfl (lo_fieldAddr rfl fl281_1) (ol rfl (lo_load1 (i := 0) (v := .slice _ _ _) rfl ag279 rfl rfl) (ol rfl (lo_len_slh rfl (b_binds_h.mono ((HLe.refl _).trans hl19) (fun _ _ q => bindRE_mono _ _ _ _ ((HLe.refl _).trans hl19) q)) Tryz.underlying279) (ol rfl (lo_geq rfl rfl) ?_)))))
  refine oab rfl rfl (ow_nil (seqK_n (cw_cond rfl (fun h29 => ?_) (fun h29 => ?_))))
  · have p30 := dt h29
    refine cw_seq (cw_region (ol rfl (lo_loadA (i := 0) (vs := [_, _]) rfl ag281 sz281 rfl rfl rfl) ?_))
    refine ow1 (op1_storeAll (i := 2) (vs := [_, _]) rfl rfl rfl sz281 rfl rfl rfl ?_)
    refine oai rfl rfl (ow_nil (seqK_n (cw_ret (blkK_r (seqK_r ?_)))))
    refine fnK_r (res2 rfl (rv_c (i := 2) (vs := [_, _]) rfl ag281 sz281 rfl rfl rfl) (rv_t (v := .int _ _) rfl)) ((HLe.refl _).trans hl19) ?_
    have e : bindS b x = (b, 12) := by
      unfold bindS
      (repeat (first | rw [if_pos (by omega)] | rw [if_pos (by assumption)] | rw [if_pos (And.intro (by assumption) (by assumption))] | rw [if_pos (Or.inl (by assumption))] | rw [if_pos (Or.inr (by assumption))] | rw [if_neg (by omega)] | rw [if_neg (by assumption)] | rw [if_neg (not_not_intro (by assumption))] | rw [if_neg (nbt (by assumption))] | rw [if_neg (nbf (by assumption))] | rw [if_neg (nand_l (by assumption))] | rw [if_neg (nand_r (by assumption))] | rw [if_neg (nand_l (nbt (by assumption)))] | rw [if_neg (nand_r (nbt (by assumption)))] | rw [if_neg (nor_ (not_not_intro (by assumption)) (nbf (by assumption)))]))
      all_goals first | done | rfl | simp [*]
    rw [e]
    exact ⟨_, _, _, _, rfl, (b_shops_h.mono ((HLe.refl _).trans hl19) (fun _ _ h => h)), (b_binds_h.mono ((HLe.refl _).trans hl19) (fun _ _ q => bindRE_mono _ _ _ _ ((HLe.refl _).trans hl19) q))⟩
  have p31 := df h29
  refine cw_skip (blkK_n (seqK_n (cw_seq (cw_anyL mixd (vw_q 0 rfl (by kernel_rfl) (by repeat (first | exact lle_l0 | exact LLe.refl _ | exact lle_none | refine lle_up ?_ rfl)) (fun _ _ hh hl => lo_fieldAddr rfl fl281_1) ?_)))))
  refine vw_q 1 rfl (by kernel_rfl) (by repeat (first | exact lle_l0 | exact LLe.refl _ | exact lle_none | refine lle_up ?_ rfl)) (fun _ _ hh hl => lo_load1 (i := 0) (v := .slice _ _ _) rfl ag279 (hl _ _ rfl) rfl) ?_
  refine vw_q 2 rfl (by kernel_rfl) (by repeat (first | exact lle_l0 | exact LLe.refl _ | exact lle_none | refine lle_up ?_ rfl)) (fun _ _ hh hl => lo_loadA (i := 1) (vs := [_, _, _, _, _, _]) rfl ag58 sz58 (hl _ _ rfl) rfl rfl) ?_
  refine vw_e 3 rfl (by kernel_rfl) (op1_ph (bind_clone _ x x_want_a x_want_c (x_want_h.mono ((HLe.refl _).trans hl19) (fun _ _ h => h)) x_w (by first | omega | (simp; done) | decide)) (en_f cb251 rfl) rfl ?_)
  rintro _ H36 ⟨a32, c33, rfl, hs34⟩ hl35
  refine ⟨⟨((HLe.refl _).trans hl35), (by repeat (first | exact lle_l0 | exact LLe.refl _ | exact lle_none | refine lle_up ?_ rfl))⟩, ?_⟩
  refine vw_e 4 rfl (by kernel_rfl) (op1_bslice (cs := [_, _, _, _, _, _]) 4 rfl Tryz.underlying279 sz58 zx58 rfl ⟨rfl, rfl, trivial⟩ rfl rfl (by decide) (fun b37 => ?_))
  refine ⟨⟨(.refl _), (by repeat (first | exact lle_l0 | exact LLe.refl _ | exact lle_none | refine lle_up ?_ rfl))⟩, ?_⟩
  refine vw_giveO 4 rfl (by repeat (first | exact lle_l0 | exact LLe.refl _ | exact lle_none | refine lle_up ?_ rfl)) (by kernel_rfl) (fun _ hl38 hg39 => ?_)
  have hs40 := slh_bxE (E := bindRE) (H := _) (xs := [x]) bindRE_wide (hg39 _ _ rfl) ⟨_, _, rfl, ⟨a32, c33, rfl, (hs34.mono ((HLe.refl _).trans hl38) (fun _ _ h => h)), x_w⟩, rl_nil⟩ rfl (Nat.le_refl _)
  refine vw_e 5 rfl (by kernel_rfl) (op1_bslice (cs := [_, _]) 4 rfl Tryz.underlying316 sz279 zx279 rfl ⟨rfl, rfl, ⟨rfl, rfl, trivial⟩⟩ rfl rfl (by decide) (fun b41 => ?_))
  refine ⟨⟨(.refl _), (by repeat (first | exact lle_l0 | exact LLe.refl _ | exact lle_none | refine lle_up ?_ rfl))⟩, ?_⟩
  refine vw_giveO 4 rfl (by repeat (first | exact lle_l0 | exact LLe.refl _ | exact lle_none | refine lle_up ?_ rfl)) (by kernel_rfl) (fun _ hl42 hg43 => ?_)
  have hs44 := slh_bxE (E := (slE bindRE 6)) (H := _) (xs := [b.binds, [x]]) slE_wide (hg43 _ _ rfl) ⟨_, _, rfl, ⟨_, _, rfl, (b_binds_h.mono (((((HLe.refl _).trans hl19).trans hl35).trans hl38).trans hl42) (fun _ _ q => bindRE_mono _ _ _ _ (((((HLe.refl _).trans hl19).trans hl35).trans hl38).trans hl42) q))⟩, ⟨_, _, rfl, ⟨_, _, rfl, (hs40.mono ((HLe.refl _).trans hl42) (fun _ _ q => bindRE_mono _ _ _ _ ((HLe.refl _).trans hl42) q))⟩, rl_nil⟩⟩ rfl (Nat.le_refl _)
  refine vw_e 6 rfl (by kernel_rfl) (op1_ph (concat_Bind _ (some ⟨b41, 0, none⟩) 2 2 [b.binds, [x]] hs44 (by first | omega | (simp; done) | (simp; omega)) (by first | omega | (simp; done) | (simp; omega))) (en_f cb250 rfl) rfl ?_)
  rintro _ H49 ⟨a45, c46, rfl, hs47⟩ hl48
  refine ⟨⟨((HLe.refl _).trans hl48), (by repeat (first | exact lle_l0 | exact LLe.refl _ | exact lle_none | refine lle_up ?_ rfl))⟩, ?_⟩
  refine vw_q 7 rfl (by kernel_rfl) (by repeat (first | exact lle_l0 | exact LLe.refl _ | exact lle_none | refine lle_up ?_ rfl)) (fun _ _ hh hl => lo_fieldAddr rfl fl281_1) ?_
  refine vw_t 8 rfl (by kernel_rfl) (by kernel_rfl) (op1_store1n (i := 0) (v := .slice _ _ _) [_, _] rfl rfl rfl sz279 rfl rfl rfl ?_)
  refine vw_done (by kernel_rfl) (seqK_n (cw_seq (cw_region (ol rfl (lo_loadA (i := 0) (vs := [_, _]) rfl ag281 sz281 rfl rfl rfl) ?_))))
  refine ow1 (op1_storeAll (i := 2) (vs := [_, _]) rfl rfl rfl sz281 rfl rfl rfl ?_)
  refine oai rfl rfl (ow_nil (seqK_n (cw_ret (fnK_r (res2 rfl (rv_c (i := 2) (vs := [_, _]) rfl ag281 sz281 rfl rfl rfl) (rv_t (v := .int _ _) rfl)) ((((((HLe.refl _).trans hl19).trans hl35).trans hl38).trans hl42).trans hl48) ?_))))
  have e : bindS b x = ((⟨b.shops, ([b.binds, [x]]).flatten⟩ : BookR), 0) := by
    unfold bindS
    (repeat (first | rw [if_pos (by omega)] | rw [if_pos (by assumption)] | rw [if_pos (And.intro (by assumption) (by assumption))] | rw [if_pos (Or.inl (by assumption))] | rw [if_pos (Or.inr (by assumption))] | rw [if_neg (by omega)] | rw [if_neg (by assumption)] | rw [if_neg (not_not_intro (by assumption))] | rw [if_neg (nbt (by assumption))] | rw [if_neg (nbf (by assumption))] | rw [if_neg (nand_l (by assumption))] | rw [if_neg (nand_r (by assumption))] | rw [if_neg (nand_l (nbt (by assumption)))] | rw [if_neg (nand_r (nbt (by assumption)))] | rw [if_neg (nor_ (not_not_intro (by assumption)) (nbf (by assumption)))]))
    all_goals first | done | rfl | simp [*]
  rw [e]
  exact ⟨_, _, _, _, rfl, (b_shops_h.mono ((((((HLe.refl _).trans hl19).trans hl35).trans hl38).trans hl42).trans hl48) (fun _ _ h => h)), hs47⟩
end Go.SW
set_option linter.unusedVariables false
set_option maxRecDepth 100000
set_option maxHeartbeats 4000000
namespace Go.SW
open Go.Proofs
theorem cb252 : Callable Tryz.prog 252 := callable_of Tryz.func252 (by kernel_rfl) (by kernel_rfl)
theorem cb264 : Callable Tryz.prog 264 := callable_of Tryz.func264 (by kernel_rfl) (by kernel_rfl)
theorem book_Leads (H : Hp) (b : BookR) (b_shops_a : Option Addr) (b_shops_c : Nat) (b_shops_h : SlH shopRE 3 H (.slice b_shops_a b.shops.length b_shops_c) b.shops) (b_binds_a : Option Addr) (b_binds_c : Nat) (b_binds_h : SlH bindRE 6 H (.slice b_binds_a b.binds.length b_binds_c) b.binds) (b_w : BookR.wf b) (shop : Bs) (key : Bs) (h_a : Option Addr) (h_l h_c : Nat) (h : List Pair) (h_h : SlH pairE 4 H (.slice h_a h_l h_c) h) (hML : GInt H 2) (hbl : b.binds.length ≤ 1000000) (hbk : ∀ y ∈ b.binds, y.key.length ≤ 1000000) (hkl : key.length ≤ 1000000) (hhl : h.length ≤ 1000000) : Ph Tryz.prog 231 #[.agg (BookR.cells b b_shops_a b_shops_c b_binds_a b_binds_c).toArray, str shop, str key, .slice h_a h_l h_c] H (fun v H' => ∃ (a1 : Option Addr) (c1 : Nat) (a2 : Option Addr) (c2 : Nat), v = .tuple #[.slice a1 ((leadS b shop key h).1).length c1, .slice a2 ((leadS b shop key h).2.1).length c2, .int .i64 ((leadS b shop key h).2.2)] ∧ SlH strE 1 H' (.slice a1 ((leadS b shop key h).1).length c1) ((leadS b shop key h).1) ∧ SlH strE 1 H' (.slice a2 ((leadS b shop key h).2.1).length c2) ((leadS b shop key h).2.1)) := by
  refine ph_cw Tryz.func231 rfl Tryz.ntmps231 rfl (fun N => ?_)
  have b_w' := b_w
  simp only [BookR.wf] at b_w'
  have hss := shopOf_wf (n := shop) (slh_wfE b_shops_h)
  have hss2 := hss
  simp only [ShopR.wf] at hss2
  refine cw_seq (cw_region (ow1 (op1_box (cs := [_, _]) 0 rfl rfl (fun b1 => ?_))))
  refine ol rfl (lo_assign (v := .slice _ _ _) rfl) (ol rfl (lo_assign (v := .slice _ _ _) rfl) (oai rfl rfl (ow_nil (seqK_n (cw_scope ?_)))))
  refine cw_seq (cw_region (ol rfl (lo_loadA (i := 0) (vs := [_, _]) rfl ag281 sz281 rfl rfl rfl) (ol rfl (lo_move (v := str _) rfl) ?_)))
  refine ow1 (op1_pr (book_Shop _ b b_shops_a b_shops_c b_shops_h b_binds_a b_binds_c b_binds_h b_w shop) (en_f cb246 rfl) rfl ?_)
  refine ol rfl (lo_move (v := .tuple #[_, _]) rfl) (ol rfl (lo_extract (v := .agg #[_, _, _]) rfl rfl) (ol rfl (lo_extract (v := .bool _) rfl rfl) (ow1 (op1_alloc 1 rfl zr54 (fun b2 => ?_)))))
  refine ow1 (op1_storeAll (i := 1) (vs := [_, _, _]) rfl rfl rfl sz54 rfl rfl rfl ?_)
  refine oab rfl rfl (ow_nil (seqK_n (cw_seq (cw_block (cw_seq ?_)))))
  refine cw_region (omb rfl rfl (ol rfl (lo_not rfl) (oab rfl rfl (ow_nil (seqK_n ?_)))))
  refine cw_cond rfl (fun h3 => ?_) (fun h3 => ?_)
  · have h4 := not_t h3
    refine cw_seq (cw_region (ol rfl (lo_assign (v := .slice _ _ _) rfl) (ol rfl (lo_assign (v := .slice _ _ _) rfl) (oai rfl rfl (ow_nil ?_)))))
    refine seqK_n (cw_ret (blkK_r (seqK_r (scK_r (fnK_r (res3 rfl (rv_t (v := .slice _ _ _) rfl) (rv_t (v := .slice _ _ _) rfl) (rv_t (v := .int _ _) rfl)) (.refl _) ?_)))))
    have e : leadS b shop key h = ([], [], 10) := by unfold leadS; rw [if_pos (by assumption)]
    rw [e]
    exact ⟨none, 0, none, 0, rfl, slh_nil, slh_nil⟩
  have h5 := not_f h3
  refine cw_seq (cw_region (ol rfl (lo_fieldAddr rfl fl54_1) (ol rfl (lo_load1 (i := 1) (v := .int _ _) rfl ag5 rfl rfl) (ol rfl (lo_eql rfl rfl) (oab rfl rfl ?_)))))
  refine ow_nil (seqK_n (cw_cond rfl (fun h6 => ?_) (fun h6 => ?_)))
  · have p7 := dt h6
    refine cw_seq (cw_anyL mixd (vw_q 0 rfl (by kernel_rfl) (by repeat (first | exact lle_l0 | exact LLe.refl _ | exact lle_none | refine lle_up ?_ rfl)) (fun _ _ hh hl => lo_fieldAddr rfl fl54_2) ?_))
    refine vw_q 1 rfl (by kernel_rfl) (by repeat (first | exact lle_l0 | exact LLe.refl _ | exact lle_none | refine lle_up ?_ rfl)) (fun _ _ hh hl => lo_load1 (i := 1) (v := str _) rfl ag9 (hl _ _ rfl) rfl) ?_
    refine vw_q 3 rfl (by kernel_rfl) (by repeat (first | exact lle_l0 | exact LLe.refl _ | exact lle_none | refine lle_up ?_ rfl)) (fun _ _ hh hl => lo_assign (v := .slice _ _ _) rfl) ?_
    refine vw_tp 2 rfl (by kernel_rfl) (by kernel_rfl) (op1_bslice (cs := [_]) 2 rfl Tryz.underlying245 sz9 zx9 rfl ⟨rfl, rfl, trivial⟩ rfl rfl (by decide) (fun b8 => ?_))
    refine ⟨(.refl _), ?_⟩
    refine vw_q 4 rfl (by kernel_rfl) (by repeat (first | exact lle_l0 | exact LLe.refl _ | exact lle_none | refine lle_up ?_ rfl)) (fun _ _ hh hl => lo_assign rfl) ?_
    refine vw_q 5 rfl (by kernel_rfl) (by repeat (first | exact lle_l0 | exact LLe.refl _ | exact lle_none | refine lle_up ?_ rfl)) (fun _ _ hh hl => lo_assign (v := .int _ _) rfl) ?_
    refine vw_done (by kernel_rfl) (seqK_n (cw_giveO 2 rfl (fun _ hl9 hg10 => ?_)))
    have hs11 := slh_bx (k := 1) (H := _) (enc := (fun s => [str s])) (wf := (fun s => s.length ≤ 9223372036854775807)) [((shopOf b.shops shop).getD ShopR.zero).to] (fun _ => rfl) (hg10 _ _ rfl) rfl rfl (Nat.le_refl _) (by first | (intro x hx; simp at hx; subst hx; first | omega | (simp; done) | (simp; omega)) | (simp; done) | (simp; omega))
    refine cw_ret (blkK_r (seqK_r (scK_r (fnK_r (res3 rfl (rv_t (v := .slice _ _ _) rfl) (rv_t (v := .slice _ _ _) rfl) (rv_t (v := .int _ _) rfl)) ((HLe.refl _).trans hl9) ?_))))
    have e : leadS b shop key h = ([], [((shopOf b.shops shop).getD ShopR.zero).to], 0) := by unfold leadS; rw [if_neg (nbf (by assumption)), if_pos (by assumption)]
    rw [e]
    exact ⟨none, 0, _, _, rfl, slh_nil, hs11⟩
  have p12 := df h6
  refine cw_skip (blkK_n (seqK_n (cw_seq (cw_region (ol rfl (lo_assign (v := .slice _ _ _) rfl) ?_)))))
  refine ol rfl (lo_assign (v := .slice _ _ _) rfl) (ow_nil (seqK_n (cw_seq (cw_label (seqK_n ?_)))))
  refine cw_seq (cw_seq (cw_region (ol rfl (lo_fieldAddr rfl fl281_1) (ol rfl (lo_load1 (i := 0) (v := .slice _ _ _) rfl ag279 rfl rfl) (ol rfl (lo_len_slh rfl b_binds_h Tryz.underlying279) ?_)))))
  refine omi rfl rfl (ow_nil (seqK_n (cw_block (cw_loop7 [13, 14, 16, 36, 37, 38, 39, 40, 41, 42, 43, 44, 45, 46, 47, 48, 49, 50, 51, 52, 53, 54, 55, 56, 57, 58, 59, 60, 61, 62, 63, 64] [2, 3, 40, 41] (fun (k : Nat) (qs : List Bs) (v1 : Value) (en1 : Option (Nat × Obj)) (ps : List Bs) (v2 : Value) (en2 : Option (Nat × Obj)) G => upd (upd (upd (G) 36 (.int .i64 (k : Int))) 13 (v1)) 14 (v2)) (fun (k : Nat) (qs : List Bs) (v1 : Value) (en1 : Option (Nat × Obj)) (ps : List Bs) (v2 : Value) (en2 : Option (Nat × Obj)) G => lupd (lupd (G) 40 (en1)) 41 (en2)) (fun (k : Nat) (qs : List Bs) (v1 : Value) (en1 : Option (Nat × Obj)) (ps : List Bs) (v2 : Value) (en2 : Option (Nat × Obj)) H' => k ≤ b.binds.length ∧ leadGo ((shopOf b.shops shop).getD ShopR.zero).sort shop key h b.binds [] [] = leadGo ((shopOf b.shops shop).getD ShopR.zero).sort shop key h (b.binds.drop k) qs ps ∧ OwnV 1 9 v1 en1 qs.length (qs.flatMap (fun s => [str s])) ∧ (∀ x ∈ qs, (fun s => s.length ≤ 9223372036854775807) x) ∧ OwnV 1 9 v2 en2 ps.length (ps.flatMap (fun s => [str s])) ∧ (∀ x ∈ ps, (fun s => s.length ≤ 9223372036854775807) x) ∧ qs.length ≤ k ∧ ps.length ≤ k) (fun (k : Nat) (qs : List Bs) (v1 : Value) (en1 : Option (Nat × Obj)) (ps : List Bs) (v2 : Value) (en2 : Option (Nat × Obj)) => b.binds.length - k) 0 [] (.slice none 0 0) none [] (.slice none 0 0) none (upd_intro (upd_intro (upd_intro (mask_intro (by first | exact off_refl | (repeat (first | exact off_mask | refine off_upd rfl ?_ | refine off_mask2 rfl ?_)))) rfl) rfl) rfl) (lupd_intro (lupd_intro (lmask_intro offl_refl) rfl) rfl) ?_ ?_))))
  · exact ⟨Nat.zero_le _, rfl, ownV_nil, wf_nil, ownV_nil, wf_nil, Nat.le_refl _, Nat.le_refl _⟩
  intro k qs v1 en1 ps v2 en2 J14 JL14 H14 hp13 hl14
  obtain ⟨hk1, hk2, ho1, hw1, ho2, hw2, hq1, hq2⟩ := hp13
  refine cw_seq (cw_region (ol rfl (lo_lss rfl rfl) (ow_nil (seqK_n (cw_seq ?_)))))
  refine cw_cond rfl (fun h15 => ?_) (fun h15 => ?_)
  · have p16 := dt h15
    refine cw_skip (seqK_n (cw_seq (cw_block (cw_seq (cw_region ?_)))))
    obtain ⟨c17, hc18⟩ := getE (xs := b.binds) (m := k) (by omega)
    obtain ⟨cs19, hE20, at21⟩ := (b_binds_h.mono ((HLe.refl _).trans hl14) (fun _ _ q => bindRE_mono _ _ _ _ ((HLe.refl _).trans hl14) q)).get hc18
    obtain ⟨a22, c23, rfl, hs24, c17_w⟩ := hE20
    have c17_w' := c17_w
    simp only [BindR.wf] at c17_w'
    have hbk0 := hbk c17 (List.mem_of_getElem? hc18)
    refine ol rfl (lo_indexAddr rfl rfl (b_binds_h.mono ((HLe.refl _).trans hl14) (fun _ _ q => bindRE_mono _ _ _ _ ((HLe.refl _).trans hl14) q)).1 at21 Tryz.underlying279 sz58 (by omega) (by omega)) (ol rfl (lo_loadEA rfl ag58 sz58 at21) (ow1 (op1_alloc 2 rfl zr58 (fun b25 => ?_))))
    refine ow1 (op1_storeAll (i := 2) (vs := [_, _, _, _, _, _]) rfl rfl rfl sz58 rfl rfl rfl ?_)
    refine ow_nil (seqK_n (cw_block (cw_seq (cw_seq (cw_region ?_)))))
    refine ol rfl (lo_fieldAddr rfl fl58_0) (ol rfl (lo_load1 (i := 2) (v := str _) rfl ag9 rfl rfl) (ol rfl (lo_move (v := str _) rfl) (ol rfl (lo_sneq rfl rfl) (oab rfl rfl (ow_nil ?_)))))
    refine seqK_n (cw_cond rfl (fun h26 => ?_) (fun h26 => ?_))
    · have h27 := not_t h26
      have p28 := df h27
      refine cw_skip (seqK_n (cw_cond_t rfl h26 (cw_exit (blkK_e rfl (blkK_hit ?_)))))
      refine seqK_n (cw_region (ol rfl (lo_add rfl rfl (rg_i64 (by omega))) (omi rfl rfl (ow_nil ?_))))
      refine next7 (k + 1) qs v1 en1 ps v2 en2 (upd_intro (upd_intro (upd_intro (mask_intro (by first | exact off_refl | (repeat (first | exact off_mask | refine off_upd rfl ?_ | refine off_mask2 rfl ?_)))) rfl) rfl) rfl) (lupd_intro (lupd_intro (lmask_intro (by first | exact offl_refl | (repeat (first | exact offl_mask | refine offl_upd rfl ?_ | refine offl_mask2 rfl ?_)))) rfl) rfl) hl14 ?_ ?_
      · refine ⟨by omega, ?_, ho1, hw1, ho2, hw2, ?_, ?_⟩
        · rw [hk2, dropE hc18]
          conv => lhs; unfold leadGo
          (repeat (first | rw [if_pos (by omega)] | rw [if_pos (by assumption)] | rw [if_pos (And.intro (by assumption) (by assumption))] | rw [if_pos (Or.inl (by assumption))] | rw [if_pos (Or.inr (by assumption))] | rw [if_neg (by omega)] | rw [if_neg (by assumption)] | rw [if_neg (not_not_intro (by assumption))] | rw [if_neg (nbt (by assumption))] | rw [if_neg (nbf (by assumption))] | rw [if_neg (nand_l (by assumption))] | rw [if_neg (nand_r (by assumption))] | rw [if_neg (nand_l (nbt (by assumption)))] | rw [if_neg (nand_r (nbt (by assumption)))] | rw [if_neg (nor_ (not_not_intro (by assumption)) (nbf (by assumption)))]))
          all_goals first | done | rfl | (unfold putS; (repeat (first | rw [if_pos (by omega)] | rw [if_pos (by assumption)] | rw [if_pos (And.intro (by assumption) (by assumption))] | rw [if_pos (Or.inl (by assumption))] | rw [if_pos (Or.inr (by assumption))] | rw [if_neg (by omega)] | rw [if_neg (by assumption)] | rw [if_neg (not_not_intro (by assumption))] | rw [if_neg (nbt (by assumption))] | rw [if_neg (nbf (by assumption))] | rw [if_neg (nand_l (by assumption))] | rw [if_neg (nand_r (by assumption))] | rw [if_neg (nand_l (nbt (by assumption)))] | rw [if_neg (nand_r (nbt (by assumption)))] | rw [if_neg (nor_ (not_not_intro (by assumption)) (nbf (by assumption)))])); first | done | rfl)
        · have := putS_len qs c17.to; simp at *; omega
        have := putS_len ps c17.to; simp at *; omega
      omega
    have h29 := not_f h26
    have p30 := dt h29
    refine cw_region (ol rfl (lo_loadA (i := 2) (vs := [_, _, _, _, _, _]) rfl ag58 sz58 rfl rfl rfl) (ol rfl (lo_fieldAddr rfl fl54_1) (ol rfl (lo_load1 (i := 1) (v := .int _ _) rfl ag5 rfl rfl) ?_)))
    refine ow1 (op1_ph (bind_rule _ c17 a22 c23 hs24 c17_w (((shopOf b.shops shop).getD ShopR.zero).sort) (by omega)) (en_f cb248 rfl) rfl ?_)
    rintro _ H35 ⟨a31, c32, rfl, hs33⟩ hl34
    refine ol rfl (lo_move (v := str _) rfl) (ol rfl (lo_move (v := .slice _ _ _) rfl) (ow1 (op1_pr (rule_Goes _ (bindRule c17 (((shopOf b.shops shop).getD ShopR.zero).sort)) a31 c32 hs33 (bindRule_wf c17_w (by omega)) key h_a h_l h_c h (h_h.mono (((HLe.refl _).trans hl14).trans hl34) (fun _ _ h => h)) (hML.mono (((HLe.refl _).trans hl14).trans hl34)) (by simp only [bindRule]; omega) (by first | omega | (simp; done) | decide) (by first | omega | (simp <;> omega))) (en_f cb237 rfl) rfl ?_)))
    refine ol rfl (lo_not rfl) (oab rfl rfl (ow_nil (seqK_n (cw_cond rfl (fun h36 => ?_) (fun h36 => ?_)))))
    · have h37 := not_t h36
      refine cw_exit (blkK_e rfl (blkK_hit (seqK_n (cw_region (ol rfl (lo_add rfl rfl (rg_i64 (by omega))) ?_)))))
      refine omi rfl rfl (ow_nil ?_)
      refine next7 (k + 1) qs v1 en1 ps v2 en2 (upd_intro (upd_intro (upd_intro (mask_intro (by first | exact off_refl | (repeat (first | exact off_mask | refine off_upd rfl ?_ | refine off_mask2 rfl ?_)))) rfl) rfl) rfl) (lupd_intro (lupd_intro (lmask_intro (by first | exact offl_refl | (repeat (first | exact offl_mask | refine offl_upd rfl ?_ | refine offl_mask2 rfl ?_)))) rfl) rfl) (hl14.trans hl34) ?_ ?_
      · refine ⟨by omega, ?_, ho1, hw1, ho2, hw2, ?_, ?_⟩
        · rw [hk2, dropE hc18]
          conv => lhs; unfold leadGo
          (repeat (first | rw [if_pos (by omega)] | rw [if_pos (by assumption)] | rw [if_pos (And.intro (by assumption) (by assumption))] | rw [if_pos (Or.inl (by assumption))] | rw [if_pos (Or.inr (by assumption))] | rw [if_neg (by omega)] | rw [if_neg (by assumption)] | rw [if_neg (not_not_intro (by assumption))] | rw [if_neg (nbt (by assumption))] | rw [if_neg (nbf (by assumption))] | rw [if_neg (nand_l (by assumption))] | rw [if_neg (nand_r (by assumption))] | rw [if_neg (nand_l (nbt (by assumption)))] | rw [if_neg (nand_r (nbt (by assumption)))] | rw [if_neg (nor_ (not_not_intro (by assumption)) (nbf (by assumption)))]))
          all_goals first | done | rfl | (unfold putS; (repeat (first | rw [if_pos (by omega)] | rw [if_pos (by assumption)] | rw [if_pos (And.intro (by assumption) (by assumption))] | rw [if_pos (Or.inl (by assumption))] | rw [if_pos (Or.inr (by assumption))] | rw [if_neg (by omega)] | rw [if_neg (by assumption)] | rw [if_neg (not_not_intro (by assumption))] | rw [if_neg (nbt (by assumption))] | rw [if_neg (nbf (by assumption))] | rw [if_neg (nand_l (by assumption))] | rw [if_neg (nand_r (by assumption))] | rw [if_neg (nand_l (nbt (by assumption)))] | rw [if_neg (nand_r (nbt (by assumption)))] | rw [if_neg (nor_ (not_not_intro (by assumption)) (nbf (by assumption)))])); first | done | rfl)
        · have := putS_len qs c17.to; simp at *; omega
        have := putS_len ps c17.to; simp at *; omega
      omega
    have h38 := not_f h36
    refine cw_seq (cw_region (ol rfl (lo_fieldAddr rfl fl58_2) (ol rfl (lo_load1 (i := 2) (v := .bool _) rfl ag4 rfl rfl) (oab rfl rfl (ow_nil ?_)))))
    refine seqK_n (cw_cond rfl (fun h39 => ?_) (fun h39 => ?_))
    · refine cw_region (ol rfl (lo_move rfl) (ol rfl (lo_fieldAddr rfl fl58_1) (ol rfl (lo_load1 (i := 2) (v := str _) rfl ag9 rfl rfl) ?_)))
      refine ow1 (op1_in (en_f cb252 rfl) Tryz.func252 rfl Tryz.ntmps252 rfl rfl ?_)
      refine cw_seq (cw_region (ol rfl (lo_assign (v := .slice _ _ _) rfl) (ow_nil (seqK_n (cw_seq ?_)))))
      refine cw_seq (cw_region (ol rfl (lo_move rfl) (ol rfl (lo_move (v := str _) rfl) ?_)))
      obtain ⟨a40, c41, rfl⟩ := own_shape ho2
      refine ow1 (op1_prl 41 rfl (fun _ hl42 hg43 => (contains_Str _ a40 ps.length c41 ps (slh_own (enc := (fun s => [str s])) (wf := (fun s => s.length ≤ 9223372036854775807)) (fun _ => rfl) ho2 hw2 hg43) c17.to (by first | omega | (simp <;> omega)))) (en_f cb264 rfl) rfl ?_)
      refine ow_nil (seqK_n (cw_cond rfl (fun h44 => ?_) (fun h44 => ?_)))
      · have p45 := dt h44
        refine cw_seq (cw_region (ol rfl (lo_move rfl) (ol rfl (lo_assign rfl) (ow_nil (seqK_n ?_)))))
        refine cw_ret (seqK_r (fnK_r (res1 rfl (rv_t rfl)) (.refl _) (ol rfl (lo_assign rfl) (ow_nil (blkK_n ?_)))))
        refine blkK_n (seqK_n (cw_region (ol rfl (lo_add rfl rfl (rg_i64 (by omega))) (omi rfl rfl (ow_nil ?_)))))
        refine next7 (k + 1) qs v1 en1 ps (.slice a40 ps.length c41) en2 (upd_intro (upd_intro (upd_intro (mask_intro (by first | exact off_refl | (repeat (first | exact off_mask | refine off_upd rfl ?_ | refine off_mask2 rfl ?_)))) rfl) rfl) rfl) (lupd_intro (lupd_intro (lmask_intro (by first | exact offl_refl | (repeat (first | exact offl_mask | refine offl_upd rfl ?_ | refine offl_mask2 rfl ?_)))) rfl) rfl) (hl14.trans hl34) ?_ ?_
        · refine ⟨by omega, ?_, ho1, hw1, ho2, hw2, ?_, ?_⟩
          · rw [hk2, dropE hc18]
            conv => lhs; unfold leadGo
            (repeat (first | rw [if_pos (by omega)] | rw [if_pos (by assumption)] | rw [if_pos (And.intro (by assumption) (by assumption))] | rw [if_pos (Or.inl (by assumption))] | rw [if_pos (Or.inr (by assumption))] | rw [if_neg (by omega)] | rw [if_neg (by assumption)] | rw [if_neg (not_not_intro (by assumption))] | rw [if_neg (nbt (by assumption))] | rw [if_neg (nbf (by assumption))] | rw [if_neg (nand_l (by assumption))] | rw [if_neg (nand_r (by assumption))] | rw [if_neg (nand_l (nbt (by assumption)))] | rw [if_neg (nand_r (nbt (by assumption)))] | rw [if_neg (nor_ (not_not_intro (by assumption)) (nbf (by assumption)))]))
            all_goals first | done | rfl | (unfold putS; (repeat (first | rw [if_pos (by omega)] | rw [if_pos (by assumption)] | rw [if_pos (And.intro (by assumption) (by assumption))] | rw [if_pos (Or.inl (by assumption))] | rw [if_pos (Or.inr (by assumption))] | rw [if_neg (by omega)] | rw [if_neg (by assumption)] | rw [if_neg (not_not_intro (by assumption))] | rw [if_neg (nbt (by assumption))] | rw [if_neg (nbf (by assumption))] | rw [if_neg (nand_l (by assumption))] | rw [if_neg (nand_r (by assumption))] | rw [if_neg (nand_l (nbt (by assumption)))] | rw [if_neg (nand_r (nbt (by assumption)))] | rw [if_neg (nor_ (not_not_intro (by assumption)) (nbf (by assumption)))])); first | done | rfl)
          · have := putS_len qs c17.to; simp at *; omega
          have := putS_len ps c17.to; simp at *; omega
        omega
      have p46 := df h44
      refine cw_skip (seqK_n (cw_seq (cw_region (ol rfl (lo_move rfl) (ol rfl (lo_move (v := str _) rfl) ?_)))))
      refine ow1 (op1_bslice (cs := [_]) 3 rfl Tryz.underlying245 sz9 zx9 rfl ⟨rfl, rfl, trivial⟩ rfl rfl (by decide) (fun b47 => ?_))
      refine ow1 (op1_app 41 rfl rfl Tryz.underlying245 Tryz.underlying245 rfl sz9 by9 (by decide) zr9 ho2 (src_bx (i := 3) rfl rfl) (List.all_eq_true.1 rfl) rfl (by omega) rfl (fun v48 en49 ho50 => ?_))
      have ho51 := own_push (enc := (fun s => [str s])) ps c17.to ho50 rfl
      refine ol rfl (lo_assign rfl) (ow_nil (seqK_n (cw_ret (fnK_r (res1 rfl (rv_t rfl)) (.refl _) (ol rfl (lo_assign rfl) ?_)))))
      refine ow_nil (blkK_n (blkK_n (seqK_n (cw_region (ol rfl (lo_add rfl rfl (rg_i64 (by omega))) ?_)))))
      refine omi rfl rfl (ow_nil ?_)
      refine next7 (k + 1) qs v1 en1 (ps ++ [c17.to]) v48 en49 (upd_intro (upd_intro (upd_intro (mask_intro (by first | exact off_refl | (repeat (first | exact off_mask | refine off_upd rfl ?_ | refine off_mask2 rfl ?_)))) rfl) rfl) rfl) (lupd_intro (lupd_intro (lmask_intro (by first | exact offl_refl | (repeat (first | exact offl_mask | refine offl_upd rfl ?_ | refine offl_mask2 rfl ?_)))) rfl) rfl) (hl14.trans hl34) ?_ ?_
      · refine ⟨by omega, ?_, ho1, hw1, ho51, (wf_push hw2 (by show List.length c17.to ≤ 9223372036854775807; first | omega | (simp; omega) | (simp; done))), ?_, ?_⟩
        · rw [hk2, dropE hc18]
          conv => lhs; unfold leadGo
          (repeat (first | rw [if_pos (by omega)] | rw [if_pos (by assumption)] | rw [if_pos (And.intro (by assumption) (by assumption))] | rw [if_pos (Or.inl (by assumption))] | rw [if_pos (Or.inr (by assumption))] | rw [if_neg (by omega)] | rw [if_neg (by assumption)] | rw [if_neg (not_not_intro (by assumption))] | rw [if_neg (nbt (by assumption))] | rw [if_neg (nbf (by assumption))] | rw [if_neg (nand_l (by assumption))] | rw [if_neg (nand_r (by assumption))] | rw [if_neg (nand_l (nbt (by assumption)))] | rw [if_neg (nand_r (nbt (by assumption)))] | rw [if_neg (nor_ (not_not_intro (by assumption)) (nbf (by assumption)))]))
          all_goals first | done | rfl | (unfold putS; (repeat (first | rw [if_pos (by omega)] | rw [if_pos (by assumption)] | rw [if_pos (And.intro (by assumption) (by assumption))] | rw [if_pos (Or.inl (by assumption))] | rw [if_pos (Or.inr (by assumption))] | rw [if_neg (by omega)] | rw [if_neg (by assumption)] | rw [if_neg (not_not_intro (by assumption))] | rw [if_neg (nbt (by assumption))] | rw [if_neg (nbf (by assumption))] | rw [if_neg (nand_l (by assumption))] | rw [if_neg (nand_r (by assumption))] | rw [if_neg (nand_l (nbt (by assumption)))] | rw [if_neg (nand_r (nbt (by assumption)))] | rw [if_neg (nor_ (not_not_intro (by assumption)) (nbf (by assumption)))])); first | done | rfl)
        · have := putS_len qs c17.to; simp at *; omega
        have := putS_len ps c17.to; simp at *; omega
      omega
    refine cw_region (ol rfl (lo_move rfl) (ol rfl (lo_fieldAddr rfl fl58_1) (ol rfl (lo_load1 (i := 2) (v := str _) rfl ag9 rfl rfl) ?_)))
    refine ow1 (op1_in (en_f cb252 rfl) Tryz.func252 rfl Tryz.ntmps252 rfl rfl ?_)
    refine cw_seq (cw_region (ol rfl (lo_assign (v := .slice _ _ _) rfl) (ow_nil (seqK_n (cw_seq ?_)))))
    refine cw_seq (cw_region (ol rfl (lo_move rfl) (ol rfl (lo_move (v := str _) rfl) ?_)))
    obtain ⟨a52, c53, rfl⟩ := own_shape ho1
    refine ow1 (op1_prl 40 rfl (fun _ hl54 hg55 => (contains_Str _ a52 qs.length c53 qs (slh_own (enc := (fun s => [str s])) (wf := (fun s => s.length ≤ 9223372036854775807)) (fun _ => rfl) ho1 hw1 hg55) c17.to (by first | omega | (simp <;> omega)))) (en_f cb264 rfl) rfl ?_)
    refine ow_nil (seqK_n (cw_cond rfl (fun h56 => ?_) (fun h56 => ?_)))
    · have p57 := dt h56
      refine cw_seq (cw_region (ol rfl (lo_move rfl) (ol rfl (lo_assign rfl) (ow_nil (seqK_n ?_)))))
      refine cw_ret (seqK_r (fnK_r (res1 rfl (rv_t rfl)) (.refl _) (ol rfl (lo_assign rfl) (ow_nil (blkK_n ?_)))))
      refine blkK_n (seqK_n (cw_region (ol rfl (lo_add rfl rfl (rg_i64 (by omega))) (omi rfl rfl (ow_nil ?_)))))
      refine next7 (k + 1) qs (.slice a52 qs.length c53) en1 ps v2 en2 (upd_intro (upd_intro (upd_intro (mask_intro (by first | exact off_refl | (repeat (first | exact off_mask | refine off_upd rfl ?_ | refine off_mask2 rfl ?_)))) rfl) rfl) rfl) (lupd_intro (lupd_intro (lmask_intro (by first | exact offl_refl | (repeat (first | exact offl_mask | refine offl_upd rfl ?_ | refine offl_mask2 rfl ?_)))) rfl) rfl) (hl14.trans hl34) ?_ ?_
      · refine ⟨by omega, ?_, ho1, hw1, ho2, hw2, ?_, ?_⟩
        · rw [hk2, dropE hc18]
          conv => lhs; unfold leadGo
          (repeat (first | rw [if_pos (by omega)] | rw [if_pos (by assumption)] | rw [if_pos (And.intro (by assumption) (by assumption))] | rw [if_pos (Or.inl (by assumption))] | rw [if_pos (Or.inr (by assumption))] | rw [if_neg (by omega)] | rw [if_neg (by assumption)] | rw [if_neg (not_not_intro (by assumption))] | rw [if_neg (nbt (by assumption))] | rw [if_neg (nbf (by assumption))] | rw [if_neg (nand_l (by assumption))] | rw [if_neg (nand_r (by assumption))] | rw [if_neg (nand_l (nbt (by assumption)))] | rw [if_neg (nand_r (nbt (by assumption)))] | rw [if_neg (nor_ (not_not_intro (by assumption)) (nbf (by assumption)))]))
          all_goals first | done | rfl | (unfold putS; (repeat (first | rw [if_pos (by omega)] | rw [if_pos (by assumption)] | rw [if_pos (And.intro (by assumption) (by assumption))] | rw [if_pos (Or.inl (by assumption))] | rw [if_pos (Or.inr (by assumption))] | rw [if_neg (by omega)] | rw [if_neg (by assumption)] | rw [if_neg (not_not_intro (by assumption))] | rw [if_neg (nbt (by assumption))] | rw [if_neg (nbf (by assumption))] | rw [if_neg (nand_l (by assumption))] | rw [if_neg (nand_r (by assumption))] | rw [if_neg (nand_l (nbt (by assumption)))] | rw [if_neg (nand_r (nbt (by assumption)))] | rw [if_neg (nor_ (not_not_intro (by assumption)) (nbf (by assumption)))])); first | done | rfl)
        · have := putS_len qs c17.to; simp at *; omega
        have := putS_len ps c17.to; simp at *; omega
      omega
    have p58 := df h56
    refine cw_skip (seqK_n (cw_seq (cw_region (ol rfl (lo_move rfl) (ol rfl (lo_move (v := str _) rfl) ?_)))))
    refine ow1 (op1_bslice (cs := [_]) 3 rfl Tryz.underlying245 sz9 zx9 rfl ⟨rfl, rfl, trivial⟩ rfl rfl (by decide) (fun b59 => ?_))
    refine ow1 (op1_app 40 rfl rfl Tryz.underlying245 Tryz.underlying245 rfl sz9 by9 (by decide) zr9 ho1 (src_bx (i := 3) rfl rfl) (List.all_eq_true.1 rfl) rfl (by omega) rfl (fun v60 en61 ho62 => ?_))
    have ho63 := own_push (enc := (fun s => [str s])) qs c17.to ho62 rfl
    refine ol rfl (lo_assign rfl) (ow_nil (seqK_n (cw_ret (fnK_r (res1 rfl (rv_t rfl)) (.refl _) (ol rfl (lo_assign rfl) ?_)))))
    refine ow_nil (blkK_n (blkK_n (seqK_n (cw_region (ol rfl (lo_add rfl rfl (rg_i64 (by omega))) ?_)))))
    refine omi rfl rfl (ow_nil ?_)
    refine next7 (k + 1) (qs ++ [c17.to]) v60 en61 ps v2 en2 (upd_intro (upd_intro (upd_intro (mask_intro (by first | exact off_refl | (repeat (first | exact off_mask | refine off_upd rfl ?_ | refine off_mask2 rfl ?_)))) rfl) rfl) rfl) (lupd_intro (lupd_intro (lmask_intro (by first | exact offl_refl | (repeat (first | exact offl_mask | refine offl_upd rfl ?_ | refine offl_mask2 rfl ?_)))) rfl) rfl) (hl14.trans hl34) ?_ ?_
    · refine ⟨by omega, ?_, ho63, (wf_push hw1 (by show List.length c17.to ≤ 9223372036854775807; first | omega | (simp; omega) | (simp; done))), ho2, hw2, ?_, ?_⟩
      · rw [hk2, dropE hc18]
        conv => lhs; unfold leadGo
        (repeat (first | rw [if_pos (by omega)] | rw [if_pos (by assumption)] | rw [if_pos (And.intro (by assumption) (by assumption))] | rw [if_pos (Or.inl (by assumption))] | rw [if_pos (Or.inr (by assumption))] | rw [if_neg (by omega)] | rw [if_neg (by assumption)] | rw [if_neg (not_not_intro (by assumption))] | rw [if_neg (nbt (by assumption))] | rw [if_neg (nbf (by assumption))] | rw [if_neg (nand_l (by assumption))] | rw [if_neg (nand_r (by assumption))] | rw [if_neg (nand_l (nbt (by assumption)))] | rw [if_neg (nand_r (nbt (by assumption)))] | rw [if_neg (nor_ (not_not_intro (by assumption)) (nbf (by assumption)))]))
        all_goals first | done | rfl | (unfold putS; (repeat (first | rw [if_pos (by omega)] | rw [if_pos (by assumption)] | rw [if_pos (And.intro (by assumption) (by assumption))] | rw [if_pos (Or.inl (by assumption))] | rw [if_pos (Or.inr (by assumption))] | rw [if_neg (by omega)] | rw [if_neg (by assumption)] | rw [if_neg (not_not_intro (by assumption))] | rw [if_neg (nbt (by assumption))] | rw [if_neg (nbf (by assumption))] | rw [if_neg (nand_l (by assumption))] | rw [if_neg (nand_r (by assumption))] | rw [if_neg (nand_l (nbt (by assumption)))] | rw [if_neg (nand_r (nbt (by assumption)))] | rw [if_neg (nor_ (not_not_intro (by assumption)) (nbf (by assumption)))])); first | done | rfl)
      · have := putS_len qs c17.to; simp at *; omega
      have := putS_len ps c17.to; simp at *; omega
    omega
  have p64 := df h15
  refine cw_exit (seqK_e (loopK_e (blkK_hit (seqK_n (cw_seq ?_)))))
  refine cw_region (ol rfl (lo_move rfl) (ol rfl (lo_move rfl) (ol rfl (lo_assign rfl) (ol rfl (lo_assign rfl) (oai rfl rfl ?_)))))
  refine ow_nil (seqK_n (cw_giveO 40 rfl (fun _ hl65 hg66 => ?_)))
  have hs67 := slh_own (enc := (fun s => [str s])) (wf := (fun s => s.length ≤ 9223372036854775807)) (fun _ => rfl) ho1 hw1 hg66
  obtain ⟨⟨a68, c69, rfl, -⟩, -⟩ := id hs67
  refine cw_giveO 41 rfl (fun _ hl70 hg71 => ?_)
  have hs72 := slh_own (enc := (fun s => [str s])) (wf := (fun s => s.length ≤ 9223372036854775807)) (fun _ => rfl) ho2 hw2 hg71
  obtain ⟨⟨a73, c74, rfl, -⟩, -⟩ := id hs72
  refine cw_ret (scK_r (fnK_r (res3 rfl (rv_t (v := .slice _ _ _) rfl) (rv_t (v := .slice _ _ _) rfl) (rv_t (v := .int _ _) rfl)) ((((HLe.refl _).trans hl14).trans hl65).trans hl70) ?_))
  have e : leadS b shop key h = (qs, ps, 0) := by
    unfold leadS
    rw [if_neg (nbf (by assumption)), if_neg (by assumption), hk2, List.drop_of_length_le (by omega)]
    rfl
  rw [e]
  exact ⟨_, _, _, _, rfl, (hs67.mono ((HLe.refl _).trans hl70) (fun _ _ h => h)), hs72⟩
end Go.SW
set_option linter.unusedVariables false
set_option maxRecDepth 100000
set_option maxHeartbeats 4000000
namespace Go.SW
open Go.Proofs
theorem bd281  (w : World) : (Instr.build 281 #[]).run Tryz.prog w = .ok (.agg #[.slice none 0 0, .slice none 0 0]) w := by kernel_rfl
theorem bd54_0s_1u8 (a1 : Bs) (a2 : Int) (w : World) : (Instr.build 54 #[(0, str a1), (1, .int .u8 a2)]).run Tryz.prog w = .ok (.agg #[str a1, .int .u8 a2, str []]) w := by kernel_rfl
theorem bd58_0s_1s (a1 : Bs) (a2 : Bs) (w : World) : (Instr.build 58 #[(0, str a1), (1, str a2)]).run Tryz.prog w = .ok (.agg #[str a1, str a2, .bool false, str [], .slice none 0 0, .bool false]) w := by kernel_rfl
theorem bd58_0s_1s_3s (a1 : Bs) (a2 : Bs) (a3 : Bs) (w : World) : (Instr.build 58 #[(0, str a1), (1, str a2), (3, str a3)]).run Tryz.prog w = .ok (.agg #[str a1, str a2, .bool false, str a3, .slice none 0 0, .bool false]) w := by kernel_rfl
theorem cb199 : Callable Tryz.prog 199 := callable_of Tryz.func199 (by kernel_rfl) (by kernel_rfl)
theorem cb229 : Callable Tryz.prog 229 := callable_of Tryz.func229 (by kernel_rfl) (by kernel_rfl)
theorem cb230 : Callable Tryz.prog 230 := callable_of Tryz.func230 (by kernel_rfl) (by kernel_rfl)
theorem cb231 : Callable Tryz.prog 231 := callable_of Tryz.func231 (by kernel_rfl) (by kernel_rfl)
theorem cb232 : Callable Tryz.prog 232 := callable_of Tryz.func232 (by kernel_rfl) (by kernel_rfl)
theorem l14_awake (H : Hp)  (hML : GInt H 2) : Pr Tryz.prog 199 #[] H (.bool true) := by
  refine pr_cw Tryz.func199 rfl Tryz.ntmps199 rfl (fun N => ?_)
  refine cw_seq (cw_region (oab rfl rfl (ow_nil (seqK_n (cw_seq ?_)))))
  refine cw_region (ol rfl (lo_build (v := .agg #[_, _]) rfl (bd281)) (ol rfl (lo_build (v := .agg #[_, _, _]) rfl (bd54_0s_1u8 _ _)) ?_))
  refine ow1 (op1_ph (book_Make _ (⟨[], []⟩ : BookR) none 0 slh_nil none 0 slh_nil (by simp only [BookR.wf]; first | omega | (simp; done) | (simp; omega)) (⟨[97], 1, []⟩ : ShopR) (by simp only [ShopR.wf]; first | omega | (simp; done) | (simp; omega))) (en_f cb229 rfl) rfl ?_)
  rintro _ H8 ⟨a1, c2, a4, c5, rfl, hs3, hs6⟩ hl7
  refine ol rfl (lo_move (v := .tuple #[_, _]) rfl) (ol rfl (lo_extract (v := .agg #[_, _]) rfl rfl) (ol rfl (lo_extract (v := .int _ _) rfl rfl) (ow1 (op1_alloc 0 rfl zr281 (fun b9 => ?_)))))
  refine ow1 (op1_storeAll (i := 0) (vs := [_, _]) rfl rfl rfl sz281 rfl rfl rfl ?_)
  refine oai rfl rfl (ow_nil (seqK_n (cw_seq (cw_region (ol rfl (lo_loadA (i := 0) (vs := [_, _]) rfl ag281 sz281 rfl rfl rfl) ?_)))))
  refine ol rfl (lo_build (v := .agg #[_, _, _, _, _, _]) rfl (bd58_0s_1s _ _)) ?_
  refine ow1 (op1_ph (book_Bind _ ((makeS (⟨[], []⟩ : BookR) (⟨[97], 1, []⟩ : ShopR)).1) a1 c2 hs3 a4 c5 hs6 (makeS_wf (by simp only [BookR.wf]; first | omega | (simp; done) | (simp; omega))) (⟨[97], [113], false, [], [], false⟩ : BindR) none 0 slh_nil (by simp only [BindR.wf]; first | omega | (simp; done) | (simp; omega)) (hML.mono ((HLe.refl _).trans hl7)) (by first | omega | (simp; done) | decide)) (en_f cb230 rfl) rfl ?_)
  rintro _ H17 ⟨a10, c11, a13, c14, rfl, hs12, hs15⟩ hl16
  refine ol rfl (lo_move (v := .tuple #[_, _]) rfl) (ol rfl (lo_extract (v := .agg #[_, _]) rfl rfl) (ol rfl (lo_extract (v := .int _ _) rfl rfl) ?_))
  refine ow1 (op1_storeAll (i := 0) (vs := [_, _]) rfl rfl rfl sz281 rfl rfl rfl ?_)
  refine ow_nil (seqK_n (cw_seq (cw_region (ol rfl (lo_loadA (i := 0) (vs := [_, _]) rfl ag281 sz281 rfl rfl rfl) (ol rfl (lo_build (v := .agg #[_, _, _, _, _, _]) rfl (bd58_0s_1s_3s _ _ _)) ?_)))))
  refine ow1 (op1_ph (book_Bind _ ((bindS ((makeS (⟨[], []⟩ : BookR) (⟨[97], 1, []⟩ : ShopR)).1) (⟨[97], [113], false, [], [], false⟩ : BindR)).1) a10 c11 hs12 a13 c14 hs15 (bindS_wf (makeS_wf (by simp only [BookR.wf]; first | omega | (simp; done) | (simp; omega)))) (⟨[97], [113], false, [120], [], false⟩ : BindR) none 0 slh_nil (by simp only [BindR.wf]; first | omega | (simp; done) | (simp; omega)) (hML.mono (((HLe.refl _).trans hl7).trans hl16)) (by first | omega | (simp; done) | decide)) (en_f cb230 rfl) rfl ?_)
  rintro _ H25 ⟨a18, c19, a21, c22, rfl, hs20, hs23⟩ hl24
  refine ol rfl (lo_move (v := .tuple #[_, _]) rfl) (ol rfl (lo_extract (v := .agg #[_, _]) rfl rfl) (ol rfl (lo_extract (v := .int _ _) rfl rfl) ?_))
  refine ow1 (op1_storeAll (i := 0) (vs := [_, _]) rfl rfl rfl sz281 rfl rfl rfl ?_)
  refine oai rfl rfl (ow_nil (seqK_n (cw_seq (cw_region (ol rfl (lo_loadA (i := 0) (vs := [_, _]) rfl ag281 sz281 rfl rfl rfl) ?_)))))
  refine ow1 (op1_ph (book_Leads _ ((bindS ((bindS ((makeS (⟨[], []⟩ : BookR) (⟨[97], 1, []⟩ : ShopR)).1) (⟨[97], [113], false, [], [], false⟩ : BindR)).1) (⟨[97], [113], false, [120], [], false⟩ : BindR)).1) a18 c19 hs20 a21 c22 hs23 (bindS_wf (bindS_wf (makeS_wf (by simp only [BookR.wf]; first | omega | (simp; done) | (simp; omega))))) [97] [] none 0 0 [] slh_nil (hML.mono ((((HLe.refl _).trans hl7).trans hl16).trans hl24)) (by first | omega | (simp; done) | decide) (by first | assumption | decide +kernel) (by first | omega | (simp; done) | decide) (by first | omega | (simp; done) | decide)) (en_f cb231 rfl) rfl ?_)
  rintro _ H33 ⟨a26, c27, a29, c30, rfl, hs28, hs31⟩ hl32
  refine ol rfl (lo_move (v := .tuple #[_, _, _]) rfl) (ol rfl (lo_extract (v := .slice _ _ _) rfl rfl) (ol rfl (lo_extract (v := .slice _ _ _) rfl rfl) (ol rfl (lo_extract (v := .int _ _) rfl rfl) (ol rfl (lo_assign (v := .slice _ _ _) rfl) (ol rfl (lo_assign (v := .slice _ _ _) rfl) ?_)))))
  refine oai rfl rfl (ow_nil (seqK_n (cw_seq (cw_region ?_))))
  refine ow1 (op1_pr (l04_Awake _ (hML.mono (((((HLe.refl _).trans hl7).trans hl16).trans hl24).trans hl32))) (en_f cb223 rfl) rfl ?_)
  refine omb rfl rfl ?_
  refine ow1 (op1_prg rfl rfl (l10_Awake _ (hML.mono (((((HLe.refl _).trans hl7).trans hl16).trans hl24).trans hl32))) (en_f cb134 rfl) rfl ?_)
  refine ol rfl (lo_pick_t (v := .bool _) rfl rfl rfl) (omb rfl rfl ?_)
  refine ow1 (op1_g rfl rfl rfl (lo_move (v := .int _ _) rfl) ?_)
  refine ow1 (op1_g rfl rfl rfl (lo_eql rfl rfl) ?_)
  refine ol rfl (lo_pick_t (v := .bool _) rfl rfl rfl) (omb rfl rfl ?_)
  refine ow1 (op1_g rfl (by decide +kernel) rfl (lo_move (v := .int _ _) rfl) ?_)
  refine ow1 (op1_g rfl (by decide +kernel) rfl (lo_eql rfl rfl) ?_)
  refine ol rfl (lo_pick_t (v := .bool _) rfl (by decide +kernel) rfl) (omb rfl rfl ?_)
  refine ow1 (op1_g rfl (by decide +kernel) rfl (lo_move (v := .slice _ _ _) rfl) ?_)
  refine ow1 (op1_gd rfl (by decide +kernel) (op1_bslice (cs := [_]) 1 rfl Tryz.underlying245 sz9 zx9 rfl ⟨rfl, rfl, trivial⟩ rfl rfl (by decide) (fun b34 => ?_)))
  refine ow_giveO 1 rfl (fun _ hl35 hg36 => ?_)
  have hs37 := slh_bx (k := 1) (H := _) (enc := (fun s => [str s])) (wf := (fun s => s.length ≤ 9223372036854775807)) [[113]] (fun _ => rfl) (hg36 _ _ rfl) rfl rfl (Nat.le_refl _) (by first | (intro x hx; simp at hx; subst hx; first | omega | (simp; done) | (simp; omega)) | (simp; done) | (simp; omega))
  refine ow1 (op1_prg rfl (by decide +kernel) (eq_Str _ a26 (((leadS ((bindS ((bindS ((makeS (⟨[], []⟩ : BookR) (⟨[97], 1, []⟩ : ShopR)).1) (⟨[97], [113], false, [], [], false⟩ : BindR)).1) (⟨[97], [113], false, [120], [], false⟩ : BindR)).1) [97] [] []).1).length) c27 ((leadS ((bindS ((bindS ((makeS (⟨[], []⟩ : BookR) (⟨[97], 1, []⟩ : ShopR)).1) (⟨[97], [113], false, [], [], false⟩ : BindR)).1) (⟨[97], [113], false, [120], [], false⟩ : BindR)).1) [97] [] []).1) (hs28.mono ((HLe.refl _).trans hl35) (fun _ _ h => h)) (some ⟨b34, 0, none⟩) 1 1 [[113]] hs37 (by decide +kernel)) (en_f cb232 rfl) rfl ?_)
  refine ol rfl (lo_pick_t (v := .bool _) rfl (by decide +kernel) rfl) (omb rfl rfl ?_)
  refine ow1 (op1_g rfl (by decide +kernel) rfl (lo_move (v := .slice _ _ _) rfl) ?_)
  refine ow1 (op1_g rfl (by decide +kernel) rfl (lo_len_slh rfl (hs31.mono ((HLe.refl _).trans hl35) (fun _ _ h => h)) Tryz.underlying245) ?_)
  refine ow1 (op1_g rfl (by decide +kernel) rfl (lo_eql rfl rfl) ?_)
  refine ol rfl (lo_pick_t (v := .bool _) rfl (by decide +kernel) rfl) (oab rfl rfl (ow_nil (seqK_n (cw_ret (fnK_r (res1 rfl (rv_t (v := .bool _) rfl)) ((((((HLe.refl _).trans hl7).trans hl16).trans hl24).trans hl32).trans hl35) ?_)))))
  exact congrArg Value.bool (by decide +kernel)
theorem l14_Awake (H : Hp)  (hML : GInt H 2) : Pr Tryz.prog 101 #[] H (.bool true) := by
  refine pr_cw Tryz.func101 rfl Tryz.ntmps101 rfl (fun N => ?_)
  refine cw_seq (cw_region (oab rfl rfl (ow_nil (seqK_n (cw_seq ?_)))))
  refine cw_region ?_
  refine ow1 (op1_pr (l14_awake _ hML) (en_f cb199 rfl) rfl ?_)
  refine oab rfl rfl (ow_nil (seqK_n (cw_ret (fnK_r (res1 rfl (rv_t (v := .bool _) rfl)) (.refl _) ?_))))
  rfl
end Go.SW
set_option linter.unusedVariables false
set_option maxRecDepth 100000
set_option maxHeartbeats 4000000
namespace Go.SW
open Go.Proofs
theorem cb100 : Callable Tryz.prog 100 := callable_of Tryz.func100 (by kernel_rfl) (by kernel_rfl)
theorem cb101 : Callable Tryz.prog 101 := callable_of Tryz.func101 (by kernel_rfl) (by kernel_rfl)
theorem cb29 : Callable Tryz.prog 29 := callable_of Tryz.func29 (by kernel_rfl) (by kernel_rfl)
theorem cb33 : Callable Tryz.prog 33 := callable_of Tryz.func33 (by kernel_rfl) (by kernel_rfl)
theorem l22_awake (H : Hp)  (hML : GInt H 2) : Pr Tryz.prog 29 #[] H (.bool true) := by
  refine pr_cw Tryz.func29 rfl Tryz.ntmps29 rfl (fun N => ?_)
  refine cw_seq (cw_region (oab rfl rfl (ow_nil (seqK_n (cw_seq ?_)))))
  refine cw_region (ol rfl (lo_build (v := .agg #[_, _, _, _, _, _, _, _, _, _, _, _, _, _, _, _, _, _, _, _, _, _, _, _, _, _, _, _, _]) rfl (bd60_0u8_1u64 _ _)) ?_)
  refine ow1 (op1_pr (deed_Bytes _ (⟨11, 1, (⟨[], 0, []⟩ : ShopR), (⟨[], 0, 0, []⟩ : QueueR), (⟨[], [], false, [], [], false⟩ : BindR), [], 0, 0, 0, 0, 0, (⟨0, [], [], [], [], 0, 0⟩ : Mail), []⟩ : DeedR) none 0 slh_nil none 0 slh_nil (by simp only [DeedR.wf, ShopR.wf, QueueR.wf, BindR.wf, Mail.wf]; first | omega | (simp; done) | (simp; omega)) hML) (en_f cb33 rfl) rfl ?_)
  have := deedBytes_len (d := (⟨11, 1, (⟨[], 0, []⟩ : ShopR), (⟨[], 0, 0, []⟩ : QueueR), (⟨[], [], false, [], [], false⟩ : BindR), [], 0, 0, 0, 0, 0, (⟨0, [], [], [], [], 0, 0⟩ : Mail), []⟩ : DeedR)) (by first | omega | decide)
  have := deedE_r (⟨11, 1, (⟨[], 0, []⟩ : ShopR), (⟨[], 0, 0, []⟩ : QueueR), (⟨[], [], false, [], [], false⟩ : BindR), [], 0, 0, 0, 0, 0, (⟨0, [], [], [], [], 0, 0⟩ : Mail), []⟩ : DeedR)
  refine ol rfl (lo_move (v := .tuple #[_, _]) rfl) (ol rfl (lo_extract (v := str _) rfl rfl) (ol rfl (lo_extract (v := .int _ _) rfl rfl) (ol rfl (lo_assign (v := str _) rfl) (oai rfl rfl (ow_nil ?_)))))
  refine seqK_n (cw_seq (cw_region ?_))
  refine ow1 (op1_pr (l13_Awake _ hML) (en_f cb100 rfl) rfl ?_)
  refine omb rfl rfl ?_
  refine ow1 (op1_prg rfl rfl (l14_Awake _ hML) (en_f cb101 rfl) rfl ?_)
  refine ol rfl (lo_pick_t (v := .bool _) rfl rfl rfl) (omb rfl rfl ?_)
  refine ow1 (op1_g rfl rfl rfl (lo_move (v := .int _ _) rfl) ?_)
  refine ow1 (op1_g rfl rfl rfl (lo_eql rfl rfl) ?_)
  refine ol rfl (lo_pick_t (v := .bool _) rfl rfl rfl) (omb rfl rfl ?_)
  refine ow1 (op1_g rfl (by decide +kernel) rfl (lo_move (v := str _) rfl) ?_)
  refine ow1 (op1_g rfl (by decide +kernel) rfl (lo_len_str rfl Tryz.underlying9) ?_)
  refine ow1 (op1_g rfl (by decide +kernel) rfl (lo_eql rfl rfl) ?_)
  refine ol rfl (lo_pick_t (v := .bool _) rfl (by decide +kernel) rfl) (oab rfl rfl (ow_nil (seqK_n (cw_ret (fnK_r (res1 rfl (rv_t (v := .bool _) rfl)) (.refl _) ?_)))))
  exact congrArg Value.bool (by decide +kernel)
end Go.SW
set_option linter.unusedVariables false
set_option maxRecDepth 100000
set_option maxHeartbeats 4000000
namespace Go.SW
open Go.Proofs
theorem cb30 : Callable Tryz.prog 30 := callable_of Tryz.func30 (by kernel_rfl) (by kernel_rfl)
theorem cb31 : Callable Tryz.prog 31 := callable_of Tryz.func31 (by kernel_rfl) (by kernel_rfl)
theorem cb32 : Callable Tryz.prog 32 := callable_of Tryz.func32 (by kernel_rfl) (by kernel_rfl)
theorem cb35 : Callable Tryz.prog 35 := callable_of Tryz.func35 (by kernel_rfl) (by kernel_rfl)
theorem cb37 : Callable Tryz.prog 37 := callable_of Tryz.func37 (by kernel_rfl) (by kernel_rfl)
end Go.SW
set_option linter.unusedVariables false
set_option maxRecDepth 100000
set_option maxHeartbeats 4000000
namespace Go.SW
open Go.Proofs
theorem cb90 : Callable Tryz.prog 90 := callable_of Tryz.func90 (by kernel_rfl) (by kernel_rfl)
theorem deed_Pack (H : Hp) (l_a : Option Addr) (l_l l_c : Nat) (l : List DeedR) (l_h : SlH deedRE 29 H (.slice l_a l_l l_c) l) (hML : GInt H 2) : Pr Tryz.prog 70 #[.slice l_a l_l l_c] H (.tuple #[str ((packD l).1), .int .i64 ((packD l).2)]) := by
  refine pr_cw Tryz.func70 rfl Tryz.ntmps70 rfl (fun N => ?_)
  refine cw_seq (cw_region (ol rfl (lo_assign (v := str _) rfl) (oai rfl rfl (ow_nil (seqK_n ?_)))))
  refine cw_seq (cw_seq (cw_region (ol rfl (lo_move (v := .slice _ _ _) rfl) (ol rfl (lo_len_slh rfl l_h Tryz.underlying76) (ol rfl (lo_gtr rfl rfl) ?_)))))
  refine ow_nil (seqK_n (cw_cond rfl (fun h1 => ?_) (fun h1 => ?_)))
  · have p2 := dt h1
    refine cw_seq (cw_region (ol rfl (lo_assign (v := str _) rfl) (oai rfl rfl (ow_nil (seqK_n ?_)))))
    refine cw_ret (seqK_r (fnK_r (res2 rfl (rv_t (v := str _) rfl) (rv_t (v := .int _ _) rfl)) (.refl _) ?_))
    unfold packD
    rw [if_pos (by omega)]
  have p3 := df h1
  refine cw_skip (seqK_n (cw_seq (cw_region (ow1 (op1_alloc 0 rfl zr158 (fun b4 => ?_))))))
  refine ow_nil (seqK_n (cw_seq (cw_region (ol rfl (lo_move (v := .slice _ _ _) rfl) (ol rfl (lo_len_slh rfl l_h Tryz.underlying76) ?_)))))
  refine ol rfl (lo_conv_in rfl (by rw [Tryz.underlying3]; rfl) Tryz.underlying5 (rg_u8 (by omega))) ?_
  refine ow1 (op1_in (en_f cb153 rfl) Tryz.func153 rfl Tryz.ntmps153 rfl rfl ?_)
  refine cw_seq (cw_region (ol rfl (lo_assign rfl) (ow_nil (seqK_n (cw_seq ?_)))))
  refine cw_region (ol rfl (lo_move (v := .pointer (some ⟨_, _, none⟩)) rfl) ?_)
  refine ow1 (copyCheck 0 rfl rfl (.inl rfl) rfl ?_)
  refine ow_nil (seqK_n (cw_seq (cw_region (ol rfl (lo_move (v := .pointer (some ⟨_, _, none⟩)) rfl) (ol rfl (lo_move (v := .pointer (some ⟨_, _, none⟩)) rfl) ?_)))))
  refine ol rfl (lo_nilCheck rfl) (ol rfl (lo_fieldAddr rfl fl158_1) (ol rfl (lo_load1 (i := 0) (v := .slice _ _ _) rfl ag156 rfl rfl) (omi rfl rfl ?_)))
  refine ow1 (op1_bslice (cs := [_]) 1 rfl Tryz.underlying156 sz5 zx5 rfl ⟨rfl, rfl, trivial⟩ rfl rfl (by decide) (fun b5 => ?_))
  refine ow1 (op1_app 2 rfl rfl Tryz.underlying156 Tryz.underlying156 rfl sz5 by5 (by decide) zr5 ownV_nil (src_bx (i := 1) rfl rfl) (List.all_eq_true.1 rfl) rfl (by omega) rfl (fun v6 en7 ho8 => ?_))
  have ho9 := byte_app (bs := []) ho8 (by first | rfl | simp) (by omega)
  refine ol rfl (lo_nilCheck rfl) (ol rfl (lo_fieldAddr rfl fl158_1) ?_)
  refine ow1 (op1_store1n (i := 0) [_, _] rfl rfl (ownV_one ho9) sz156 rfl rfl rfl ?_)
  refine ow_nil (seqK_n (cw_seq (cw_region (ol rfl (lo_assign rfl) (ow_nil ?_)))))
  refine seqK_n (cw_ret (fnK_r (res1 rfl (rv_t rfl)) (.refl _) (ow_nil (seqK_n (cw_seq ?_)))))
  refine cw_seq (cw_region (ol rfl (lo_move (v := .slice _ _ _) rfl) (ol rfl (lo_len_slh rfl l_h Tryz.underlying76) (omi rfl rfl (ow_nil ?_)))))
  refine seqK_n (cw_block ?_)
  refine cw_loop4 [2, 3, 6, 7, 8, 18, 19, 20, 21, 22, 23, 24, 25, 26, 27, 28, 29, 30, 31, 32] [0, 2, 3] (fun (k : Nat) (bs : Bs) (v : Value) (en : Option (Nat × Obj)) G => upd (G) 18 (.int .i64 (k : Int))) (fun (k : Nat) (bs : Bs) (v : Value) (en : Option (Nat × Obj)) G => lupd (lupd (G) 0 (some (b4, bx 158 [.pointer (some ⟨b4, 0, none⟩), v]))) 2 (en)) (fun (k : Nat) (bs : Bs) (v : Value) (en : Option (Nat × Obj)) H' => k ≤ l.length ∧ packD l = packGo (l.drop k) bs ∧ (1 ≤ bs.length ∧ bs.length ≤ 1 + 5000 * k) ∧ OwnV 1 5 v en bs.length (bs.map u8v) ∧ (bs.length = 0 → v = .slice none 0 0)) (fun (k : Nat) (bs : Bs) (v : Value) (en : Option (Nat × Obj)) => l.length - k) 0 ([] ++ [UInt8.ofNat ((l.length : Int)).toNat]) v6 en7 (upd_intro (mask_intro (by first | exact off_refl | (repeat (first | exact off_mask | refine off_upd rfl ?_ | refine off_mask2 rfl ?_)))) rfl) (lupd_intro (lupd_intro (lmask_intro offl_refl) rfl) rfl) ?_ ?_
  · refine ⟨Nat.zero_le _, ?_, ?_, ho9, (nz_of ho9 (by first | (simp; done) | (simp; omega)))⟩
    · unfold packD
      rw [if_neg (by omega)]
      simp [numB]
    simp
  intro k bs v en J11 JL11 H11 hp10 hl11
  obtain ⟨hk1, hk2, hk3, ho, hz⟩ := hp10
  refine cw_seq (cw_region (ol rfl (lo_lss rfl rfl) (ow_nil (seqK_n (cw_seq ?_)))))
  refine cw_cond rfl (fun h12 => ?_) (fun h12 => ?_)
  · have p13 := dt h12
    refine cw_skip (seqK_n (cw_seq (cw_block (cw_seq (cw_region ?_)))))
    obtain ⟨c14, hc15⟩ := getE (xs := l) (m := k) (by omega)
    obtain ⟨cs16, hE17, at18⟩ := (l_h.mono ((HLe.refl _).trans hl11) (fun _ _ q => deedRE_mono _ _ _ _ ((HLe.refl _).trans hl11) q)).get hc15
    obtain ⟨a19, c20, a22, c23, rfl, hs21, hs24, c14_w⟩ := hE17
    have c14_w' := c14_w
    simp only [DeedR.wf, ShopR.wf, QueueR.wf, BindR.wf, Mail.wf] at c14_w'
    refine ol rfl (lo_indexAddr rfl rfl (l_h.mono ((HLe.refl _).trans hl11) (fun _ _ q => deedRE_mono _ _ _ _ ((HLe.refl _).trans hl11) q)).1 at18 Tryz.underlying76 sz60 (by omega) (by omega)) (ol rfl (lo_loadEA rfl ag60 sz60 at18) (ow1 (op1_alloc 3 rfl zr60 (fun b25 => ?_))))
    refine ow1 (op1_storeAll (i := 3) (vs := [_, _, _, _, _, _, _, _, _, _, _, _, _, _, _, _, _, _, _, _, _, _, _, _, _, _, _, _, _]) rfl rfl rfl sz60 rfl rfl rfl ?_)
    refine ow_nil (seqK_n (cw_seq (cw_region (ol rfl (lo_loadA (i := 3) (vs := [_, _, _, _, _, _, _, _, _, _, _, _, _, _, _, _, _, _, _, _, _, _, _, _, _, _, _, _, _]) rfl ag60 sz60 rfl rfl rfl) ?_))))
    refine ow1 (op1_pr (deed_Bytes _ c14 a19 c20 hs21 a22 c23 hs24 c14_w (hML.mono ((HLe.refl _).trans hl11))) (en_f cb33 rfl) rfl ?_)
    have := deedBytes_len (d := c14) (by first | omega | decide)
    have := deedE_r c14
    refine ol rfl (lo_move (v := .tuple #[_, _]) rfl) (ol rfl (lo_extract (v := str _) rfl rfl) (ol rfl (lo_extract (v := .int _ _) rfl rfl) (ol rfl (lo_assign (v := str _) rfl) (oai rfl rfl (ow_nil ?_)))))
    refine seqK_n (cw_seq (cw_seq (cw_region (omi rfl rfl (ol rfl (lo_neq rfl rfl) ?_)))))
    refine ow_nil (seqK_n (cw_cond rfl (fun h26 => ?_) (fun h26 => ?_)))
    · have h27 := not_t h26
      have p28 := df h27
      refine cw_seq (cw_region (omi rfl rfl (ol rfl (lo_assign (v := str _) rfl) (oai rfl rfl (ow_nil ?_)))))
      refine seqK_n (cw_ret (seqK_r (blkK_r (seqK_r (loopK_r ?_)))))
      refine blkK_r (seqK_r (fnK_r (res2 rfl (rv_t (v := str _) rfl) (rv_t (v := .int _ _) rfl)) ((HLe.refl _).trans hl11) ?_))
      have e : packD l = ([], deedE c14) := by
        rw [hk2, dropE hc15]
        unfold packGo
        rw [if_pos (by omega)]
      rw [e]
    have h29 := not_f h26
    have p30 := dt h29
    refine cw_skip (seqK_n (cw_region (ol rfl (lo_move (v := str _) rfl) ?_)))
    refine ow1 (op1_in (en_f cb90 rfl) Tryz.func90 rfl Tryz.ntmps90 rfl rfl ?_)
    refine cw_seq (cw_region (oai rfl rfl (ol rfl (lo_assign rfl) (ow_nil (seqK_n ?_)))))
    refine cw_seq (cw_region (ol rfl (lo_move (v := .pointer (some ⟨_, _, none⟩)) rfl) ?_))
    refine ow1 (copyCheck 0 rfl rfl (.inr rfl) rfl ?_)
    refine ow_nil (seqK_n (cw_seq (cw_region (ol rfl (lo_move (v := .pointer (some ⟨_, _, none⟩)) rfl) (ol rfl (lo_move (v := .pointer (some ⟨_, _, none⟩)) rfl) ?_)))))
    refine ol rfl (lo_nilCheck rfl) (ol rfl (lo_fieldAddr rfl fl158_1) (ol rfl (lo_load1 (i := 0) rfl ag156 rfl rfl) (ol rfl (lo_move (v := str _) rfl) (ow1 (op1_app 2 rfl rfl Tryz.underlying156 Tryz.underlying9 rfl sz5 by5 (by decide) zr5 ho src_str one_str rfl (by omega) rfl (fun v31 en32 ho33 => ?_))))))
    have ho34 := bytes_app (bs := bs) (cs := deedBytes c14) ho33
    refine ol rfl (lo_nilCheck rfl) (ol rfl (lo_fieldAddr rfl fl158_1) ?_)
    refine ow1 (op1_store1n (i := 0) [_, _] rfl rfl (ownV_one ho34) sz156 rfl rfl rfl ?_)
    refine ow_nil (seqK_n (cw_seq (cw_region (ol rfl (lo_move (v := str _) rfl) (ol rfl (lo_len_str rfl Tryz.underlying9) ?_)))))
    refine oai rfl rfl (ol rfl (lo_assign rfl) (ow_nil (seqK_n (cw_ret (fnK_r (res2 rfl (rv_t (v := .int _ _) rfl) (rv_t rfl)) (.refl _) ?_)))))
    refine ow_nil (blkK_n (seqK_n (cw_region (ol rfl (lo_add rfl rfl (rg_i64 (by omega))) (omi rfl rfl ?_)))))
    refine ow_nil ?_
    refine next4 (k + 1) (bs ++ deedBytes c14) v31 en32 (upd_intro (mask_intro (by first | exact off_refl | (repeat (first | exact off_mask | refine off_upd rfl ?_ | refine off_mask2 rfl ?_)))) rfl) (lupd_intro (lupd_intro (lmask_intro (by first | exact offl_refl | (repeat (first | exact offl_mask | refine offl_upd rfl ?_ | refine offl_mask2 rfl ?_)))) rfl) rfl) hl11 ?_ ?_
    · have hdb := deedBytes_s (d := c14) (by omega) (by omega) (by first | assumption | exact slh_kind (by assumption)) (by first | assumption | exact slh_kind (by assumption))
      have hdl := deedBytes_len (d := c14) (by omega)
      refine ⟨by omega, ?_, ?_, ho34, (nz_of ho34 (by first | (simp; done) | (simp; omega)))⟩
      · rw [hk2, dropE hc15]
        conv => lhs; unfold packGo
        rw [if_neg (by omega), ← hdb]
      rw [List.length_append]; omega
    omega
  have p35 := df h12
  refine cw_exit (seqK_e (loopK_e (blkK_hit (seqK_n (cw_seq ?_)))))
  refine cw_region ?_
  refine ow1 (op1_in (en_f cb91 rfl) Tryz.func91 rfl Tryz.ntmps91 rfl rfl ?_)
  refine cw_seq (cw_region (ol rfl (lo_assign (v := str _) rfl) (ow_nil (seqK_n (cw_seq ?_)))))
  refine cw_anyX 2 mixd ?_
  refine vw_q 0 rfl (by kernel_rfl) (by repeat (first | exact lle_l0 | exact LLe.refl _ | exact lle_none | refine lle_up ?_ rfl)) (fun _ _ hh hl => lo_move (v := .pointer (some ⟨_, _, none⟩)) rfl) ?_
  refine vw_q 1 rfl (by kernel_rfl) (by repeat (first | exact lle_l0 | exact LLe.refl _ | exact lle_none | refine lle_up ?_ rfl)) (fun _ _ hh hl => lo_nilCheck rfl) ?_
  refine vw_q 2 rfl (by kernel_rfl) (by repeat (first | exact lle_l0 | exact LLe.refl _ | exact lle_none | refine lle_up ?_ rfl)) (fun _ _ hh hl => lo_fieldAddr rfl fl158_1) ?_
  refine vw_q 3 rfl (by kernel_rfl) (by repeat (first | exact lle_l0 | exact LLe.refl _ | exact lle_none | refine lle_up ?_ rfl)) (fun _ _ hh hl => lo_load1 (i := 0) rfl ag156 (hl _ _ rfl) rfl) ?_
  refine vw_q 4 rfl (by kernel_rfl) (by repeat (first | exact lle_l0 | exact LLe.refl _ | exact lle_none | refine lle_up ?_ rfl)) (fun _ _ hh hl => lo_usd rfl ho hz) ?_
  refine vw_q 5 rfl (by kernel_rfl) (by repeat (first | exact lle_l0 | exact LLe.refl _ | exact lle_none | refine lle_up ?_ rfl)) (fun _ _ hh hl => lo_move (v := .pointer (some ⟨_, _, none⟩)) rfl) ?_
  refine vw_q 6 rfl (by kernel_rfl) (by repeat (first | exact lle_l0 | exact LLe.refl _ | exact lle_none | refine lle_up ?_ rfl)) (fun _ _ hh hl => lo_nilCheck rfl) ?_
  refine vw_q 7 rfl (by kernel_rfl) (by repeat (first | exact lle_l0 | exact LLe.refl _ | exact lle_none | refine lle_up ?_ rfl)) (fun _ _ hh hl => lo_fieldAddr rfl fl158_1) ?_
  refine vw_q 8 rfl (by kernel_rfl) (by repeat (first | exact lle_l0 | exact LLe.refl _ | exact lle_none | refine lle_up ?_ rfl)) (fun _ _ hh hl => lo_load1 (i := 0) rfl ag156 (hl _ _ rfl) rfl) ?_
  refine vw_q 9 rfl (by kernel_rfl) (by repeat (first | exact lle_l0 | exact LLe.refl _ | exact lle_none | refine lle_up ?_ rfl)) (fun _ _ hh hl => lo_len_own rfl ho Tryz.underlying156) ?_
  refine vw_e 10 rfl (by kernel_rfl) (op1_ustr (l := bs) 2 rfl rfl Tryz.underlying250 co5 ho hz (by omega) rfl ?_)
  refine ⟨⟨(.refl _), (by repeat (first | exact lle_l0 | exact LLe.refl _ | exact lle_none | refine lle_up ?_ rfl))⟩, ?_⟩
  refine vw_q 11 rfl (by kernel_rfl) (by repeat (first | exact lle_l0 | exact LLe.refl _ | exact lle_none | refine lle_up ?_ rfl)) (fun _ _ hh hl => lo_assign (v := str _) rfl) ?_
  refine vw_done (by kernel_rfl) (seqK_n (cw_ret (fnK_r (res1 rfl (rv_t (v := str _) rfl)) (.refl _) (ol rfl (lo_assign (v := str _) rfl) (oai rfl rfl ?_)))))
  refine ow_nil (seqK_n (cw_ret (fnK_r (res2 rfl (rv_t (v := str _) rfl) (rv_t (v := .int _ _) rfl)) ((HLe.refl _).trans hl11) ?_)))
  rw [List.drop_of_length_le (by omega)] at hk2
  rw [hk2]
  rfl
end Go.SW
set_option linter.unusedVariables false
set_option maxRecDepth 100000
set_option maxHeartbeats 4000000
namespace Go.SW
open Go.Proofs
theorem r22_Pack (H : Hp) (l_a : Option Addr) (l_l l_c : Nat) (l : List DeedR) (l_h : SlH deedRE 29 H (.slice l_a l_l l_c) l) : Pr Tryz.prog 71 #[.slice l_a l_l l_c] H (.tuple #[str ((packD l).1), .int .i64 ((packD l).2)]) := by
  refine pr_cw Tryz.func71 rfl Tryz.ntmps71 rfl (fun N => ?_)
  refine cw_seq (cw_region (ol rfl (lo_assign (v := str _) rfl) (oai rfl rfl (ow_nil (seqK_n ?_)))))
  refine cw_seq (cw_seq (cw_region (ol rfl (lo_move (v := .slice _ _ _) rfl) (ol rfl (lo_len_slh rfl l_h Tryz.underlying109) (ol rfl (lo_gtr rfl rfl) ?_)))))
  refine ow_nil (seqK_n (cw_cond rfl (fun h1 => ?_) (fun h1 => ?_)))
  · have p2 := dt h1
    refine cw_seq (cw_region (ol rfl (lo_assign (v := str _) rfl) (oai rfl rfl (ow_nil (seqK_n ?_)))))
    refine cw_ret (seqK_r (fnK_r (res2 rfl (rv_t (v := str _) rfl) (rv_t (v := .int _ _) rfl)) (.refl _) ?_))
    unfold packD
    rw [if_pos (by omega)]
  have p3 := df h1
  refine cw_skip (seqK_n (cw_seq (cw_region (ol rfl (lo_move (v := .slice _ _ _) rfl) (ol rfl (lo_len_slh rfl l_h Tryz.underlying109) ?_)))))
  refine ol rfl (lo_conv_in rfl (by rw [Tryz.underlying3]; rfl) Tryz.underlying25 (rg_u64 (by omega))) ?_
  refine ow1 (op1_pr (r1_Num _ (l.length : Int) (by omega) 1 (by omega)) (en_f cb121 rfl) rfl ?_)
  have := numB_len (numK 1) ((l.length : Int)).toNat
  have := numK_le 1
  have : numK 1 = 1 := by decide
  refine ol rfl (lo_assign (v := str _) rfl) (ow_nil (seqK_n (cw_seq (cw_seq (cw_region ?_)))))
  refine ol rfl (lo_move (v := .slice _ _ _) rfl) (ol rfl (lo_len_slh rfl l_h Tryz.underlying109) (omi rfl rfl (ow_nil (seqK_n (cw_block ?_)))))
  refine cw_loop2 [2, 3, 4, 6, 7, 17, 18, 19, 20, 21, 22, 23, 24, 25, 26, 27, 28, 29, 30] [0] (fun (k : Nat) (s : Bs) G => upd (upd (G) 17 (.int .i64 (k : Int))) 4 (str s)) (fun (k : Nat) (s : Bs) G => G) (fun (k : Nat) (s : Bs) H' => k ≤ l.length ∧ packD l = packGo (l.drop k) s ∧ s.length ≤ 1 + 5000 * k) (fun (k : Nat) (s : Bs) => l.length - k) 0 (numB (numK 1) (l.length : Int).toNat) (upd_intro (upd_intro (mask_intro (by first | exact off_refl | (repeat (first | exact off_mask | refine off_upd rfl ?_ | refine off_mask2 rfl ?_)))) rfl) rfl) (lmask_intro offl_refl) ?_ ?_
  · refine ⟨Nat.zero_le _, ?_, ?_⟩
    · unfold packD
      rw [if_neg (by omega)]
      rfl
    omega
  intro k s J5 JL5 H5 hp4 hl5
  obtain ⟨hk1, hk2, hk3⟩ := hp4
  refine cw_seq (cw_region (ol rfl (lo_lss rfl rfl) (ow_nil (seqK_n (cw_seq ?_)))))
  refine cw_cond rfl (fun h6 => ?_) (fun h6 => ?_)
  · have p7 := dt h6
    refine cw_skip (seqK_n (cw_seq (cw_block (cw_seq (cw_region ?_)))))
    obtain ⟨c8, hc9⟩ := getE (xs := l) (m := k) (by omega)
    obtain ⟨cs10, hE11, at12⟩ := (l_h.mono ((HLe.refl _).trans hl5) (fun _ _ q => deedRE_mono _ _ _ _ ((HLe.refl _).trans hl5) q)).get hc9
    obtain ⟨a13, c14, a16, c17, rfl, hs15, hs18, c8_w⟩ := hE11
    have c8_w' := c8_w
    simp only [DeedR.wf, ShopR.wf, QueueR.wf, BindR.wf, Mail.wf] at c8_w'
    refine ol rfl (lo_indexAddr rfl rfl (l_h.mono ((HLe.refl _).trans hl5) (fun _ _ q => deedRE_mono _ _ _ _ ((HLe.refl _).trans hl5) q)).1 at12 Tryz.underlying109 sz66 (by omega) (by omega)) (ol rfl (lo_loadEA rfl ag66 sz66 at12) (ow1 (op1_alloc 0 rfl zr66 (fun b19 => ?_))))
    refine ow1 (op1_storeAll (i := 0) (vs := [_, _, _, _, _, _, _, _, _, _, _, _, _, _, _, _, _, _, _, _, _, _, _, _, _, _, _, _, _]) rfl rfl rfl sz66 rfl rfl rfl ?_)
    refine ow_nil (seqK_n (cw_seq (cw_region (ol rfl (lo_loadA (i := 0) (vs := [_, _, _, _, _, _, _, _, _, _, _, _, _, _, _, _, _, _, _, _, _, _, _, _, _, _, _, _, _]) rfl ag66 sz66 rfl rfl rfl) ?_))))
    refine ow1 (op1_pr (r22_Check _ c8 a13 c14 hs15 a16 c17 hs18 c8_w) (en_f cb32 rfl) rfl ?_)
    have := deedE_r c8
    refine oai rfl rfl (ow_nil (seqK_n (cw_seq (cw_seq (cw_region ?_)))))
    refine omi rfl rfl (ol rfl (lo_neq rfl rfl) (ow_nil (seqK_n (cw_cond rfl (fun h20 => ?_) (fun h20 => ?_)))))
    · have h21 := not_t h20
      have p22 := df h21
      refine cw_seq (cw_region (omi rfl rfl (ol rfl (lo_assign (v := str _) rfl) (oai rfl rfl (ow_nil ?_)))))
      refine seqK_n (cw_ret (seqK_r (blkK_r (seqK_r (loopK_r ?_)))))
      refine blkK_r (seqK_r (fnK_r (res2 rfl (rv_t (v := str _) rfl) (rv_t (v := .int _ _) rfl)) ((HLe.refl _).trans hl5) ?_))
      have e : packD l = ([], deedE c8) := by
        rw [hk2, dropE hc9]
        unfold packGo
        rw [if_pos (by omega)]
      rw [e]
    have h23 := not_f h20
    have p24 := dt h23
    refine cw_skip (seqK_n (cw_region (ol rfl (lo_move (v := str _) rfl) (ol rfl (lo_loadA (i := 0) (vs := [_, _, _, _, _, _, _, _, _, _, _, _, _, _, _, _, _, _, _, _, _, _, _, _, _, _, _, _, _]) rfl ag66 sz66 rfl rfl rfl) ?_))))
    refine ow1 (op1_pr (r22_Bytes _ c8 a13 c14 hs15 a16 c17 hs18 c8_w (by first | assumption | omega)) (en_f cb35 rfl) rfl ?_)
    have hdl24 := deedB_len (d := c8) (by omega) (by first | assumption | omega) (by first | assumption | exact slh_kind (by assumption)) (by first | assumption | exact slh_kind (by assumption))
    refine ol rfl (lo_cat rfl rfl (by first | omega | (simp <;> omega))) (ol rfl (lo_assign (v := str _) rfl) (ow_nil (blkK_n (seqK_n (cw_region ?_)))))
    refine ol rfl (lo_add rfl rfl (rg_i64 (by omega))) (omi rfl rfl (ow_nil ?_))
    refine next2 (k + 1) (s ++ (deedB c8)) (upd_intro (upd_intro (mask_intro (by first | exact off_refl | (repeat (first | exact off_mask | refine off_upd rfl ?_ | refine off_mask2 rfl ?_)))) rfl) rfl) (lmask_intro (by first | exact offl_refl | (repeat (first | exact offl_mask | refine offl_upd rfl ?_ | refine offl_mask2 rfl ?_)))) hl5 ?_ ?_
    · have hdl := deedB_len (d := c8) (by omega) (by omega) (by first | assumption | exact slh_kind (by assumption)) (by first | assumption | exact slh_kind (by assumption))
      refine ⟨by omega, ?_, ?_⟩
      · rw [hk2, dropE hc9]
        conv => lhs; unfold packGo
        rw [if_neg (by omega)]
      rw [List.length_append]; omega
    omega
  have p25 := df h6
  refine cw_exit (seqK_e (loopK_e (blkK_hit (seqK_n (cw_seq ?_)))))
  refine cw_region (ol rfl (lo_move (v := str _) rfl) (ol rfl (lo_assign (v := str _) rfl) (oai rfl rfl (ow_nil (seqK_n ?_)))))
  refine cw_ret (fnK_r (res2 rfl (rv_t (v := str _) rfl) (rv_t (v := .int _ _) rfl)) ((HLe.refl _).trans hl5) ?_)
  rw [List.drop_of_length_le (by omega)] at hk2
  rw [hk2]
  rfl
theorem r22_SameAll (H : Hp) (a_a : Option Addr) (a_l a_c : Nat) (a : List DeedR) (a_h : SlH deedRE 29 H (.slice a_a a_l a_c) a) (b_a : Option Addr) (b_l b_c : Nat) (b : List DeedR) (b_h : SlH deedRE 29 H (.slice b_a b_l b_c) b) (hal : a.length ≤ 9223372036854775807) : Pr Tryz.prog 62 #[.slice a_a a_l a_c, .slice b_a b_l b_c] H (.bool (decide (a = b))) := by
  refine pr_cw Tryz.func62 rfl Tryz.ntmps62 rfl (fun N => ?_)
  refine cw_seq (cw_region (oab rfl rfl (ow_nil (seqK_n (cw_seq ?_)))))
  refine cw_seq (cw_region (ol rfl (lo_move (v := .slice _ _ _) rfl) (ol rfl (lo_len_slh rfl a_h Tryz.underlying109) (ol rfl (lo_move (v := .slice _ _ _) rfl) (ol rfl (lo_len_slh rfl b_h Tryz.underlying109) ?_)))))
  refine ol rfl (lo_neq rfl rfl) (ow_nil (seqK_n (cw_cond rfl (fun h1 => ?_) (fun h1 => ?_))))
  · have h2 := not_t h1
    have p3 := df h2
    refine cw_seq (cw_region (oab rfl rfl (ow_nil (seqK_n (cw_ret ?_)))))
    refine seqK_r (fnK_r (res1 rfl (rv_t (v := .bool _) rfl)) (.refl _) ?_)
    exact congrArg Value.bool (eqL_len (by assumption)).symm
  have h4 := not_f h1
  have p5 := dt h4
  refine cw_skip (seqK_n (cw_seq (cw_seq (cw_region (ol rfl (lo_move (v := .slice _ _ _) rfl) ?_)))))
  refine ol rfl (lo_len_slh rfl a_h Tryz.underlying109) (omi rfl rfl (ow_nil (seqK_n (cw_block (cw_loop1 [4, 5, 13, 14, 15, 16, 17, 18, 19, 20, 21, 22, 23, 24, 25, 26] [] (fun (k : Nat) G => upd (G) 13 (.int .i64 (k : Int))) (fun (k : Nat) G => G) (fun (k : Nat) H' => k ≤ a.length ∧ decide (a = b) = decide (a.drop k = b.drop k)) (fun (k : Nat) => a.length - k) 0 (upd_intro (mask_intro (by first | exact off_refl | (repeat (first | exact off_mask | refine off_upd rfl ?_ | refine off_mask2 rfl ?_)))) rfl) (lmask_intro offl_refl) ?_ ?_)))))
  · exact ⟨Nat.zero_le _, rfl⟩
  intro k J7 JL7 H7 hp6 hl7
  obtain ⟨hk1, hk2⟩ := hp6
  refine cw_seq (cw_region (ol rfl (lo_lss rfl rfl) (ow_nil (seqK_n (cw_seq ?_)))))
  refine cw_cond rfl (fun h8 => ?_) (fun h8 => ?_)
  · have p9 := dt h8
    refine cw_skip (seqK_n (cw_seq (cw_block (cw_seq (cw_region ?_)))))
    refine omi rfl rfl (oai rfl rfl (ow_nil (seqK_n (cw_seq (cw_anyL mixd ?_)))))
    refine vw_q 0 rfl (by kernel_rfl) (by repeat (first | exact lle_l0 | exact LLe.refl _ | exact lle_none | refine lle_up ?_ rfl)) (fun _ _ hh hl => lo_move (v := .slice _ _ _) rfl) ?_
    refine vw_q 1 rfl (by kernel_rfl) (by repeat (first | exact lle_l0 | exact LLe.refl _ | exact lle_none | refine lle_up ?_ rfl)) (fun _ _ hh hl => lo_move (v := .int _ _) rfl) ?_
    obtain ⟨c10, hc11⟩ := getE (xs := a) (m := k) (by omega)
    obtain ⟨cs12, hE13, at14⟩ := (a_h.mono ((HLe.refl _).trans hl7) (fun _ _ q => deedRE_mono _ _ _ _ ((HLe.refl _).trans hl7) q)).get hc11
    obtain ⟨a15, c16, a18, c19, rfl, hs17, hs20, c10_w⟩ := hE13
    have c10_w' := c10_w
    simp only [DeedR.wf, ShopR.wf, QueueR.wf, BindR.wf, Mail.wf] at c10_w'
    refine vw_q 2 rfl (by kernel_rfl) (by repeat (first | exact lle_l0 | exact LLe.refl _ | exact lle_none | refine lle_up ?_ rfl)) (fun _ _ hh hl => lo_indexAddr rfl rfl (a_h.mono (((HLe.refl _).trans hl7).trans hh) (fun _ _ q => deedRE_mono _ _ _ _ (((HLe.refl _).trans hl7).trans hh) q)).1 (at14.mono hh) Tryz.underlying109 sz66 (by omega) (by omega)) ?_
    refine vw_q 3 rfl (by kernel_rfl) (by repeat (first | exact lle_l0 | exact LLe.refl _ | exact lle_none | refine lle_up ?_ rfl)) (fun _ _ hh hl => lo_loadEA rfl ag66 sz66 (at14.mono hh)) ?_
    refine vw_q 4 rfl (by kernel_rfl) (by repeat (first | exact lle_l0 | exact LLe.refl _ | exact lle_none | refine lle_up ?_ rfl)) (fun _ _ hh hl => lo_move (v := .slice _ _ _) rfl) ?_
    refine vw_q 5 rfl (by kernel_rfl) (by repeat (first | exact lle_l0 | exact LLe.refl _ | exact lle_none | refine lle_up ?_ rfl)) (fun _ _ hh hl => lo_move (v := .int _ _) rfl) ?_
    obtain ⟨c21, hc22⟩ := getE (xs := b) (m := k) (by omega)
    obtain ⟨cs23, hE24, at25⟩ := (b_h.mono ((HLe.refl _).trans hl7) (fun _ _ q => deedRE_mono _ _ _ _ ((HLe.refl _).trans hl7) q)).get hc22
    obtain ⟨a26, c27, a29, c30, rfl, hs28, hs31, c21_w⟩ := hE24
    have c21_w' := c21_w
    simp only [DeedR.wf, ShopR.wf, QueueR.wf, BindR.wf, Mail.wf] at c21_w'
    refine vw_q 6 rfl (by kernel_rfl) (by repeat (first | exact lle_l0 | exact LLe.refl _ | exact lle_none | refine lle_up ?_ rfl)) (fun _ _ hh hl => lo_indexAddr rfl rfl (b_h.mono (((HLe.refl _).trans hl7).trans hh) (fun _ _ q => deedRE_mono _ _ _ _ (((HLe.refl _).trans hl7).trans hh) q)).1 (at25.mono hh) Tryz.underlying109 sz66 (by omega) (by omega)) ?_
    refine vw_q 7 rfl (by kernel_rfl) (by repeat (first | exact lle_l0 | exact LLe.refl _ | exact lle_none | refine lle_up ?_ rfl)) (fun _ _ hh hl => lo_loadEA rfl ag66 sz66 (at25.mono hh)) ?_
    refine vw_qc 8 rfl (by kernel_rfl) (by repeat (first | exact lle_l0 | exact LLe.refl _ | exact lle_none | refine lle_up ?_ rfl)) (r22_Same _ c10 a15 c16 hs17 a18 c19 hs20 c10_w c21 a26 c27 hs28 a29 c30 hs31 c21_w) (en_f cb37 rfl) ?_
    refine vw_q 9 rfl (by kernel_rfl) (by repeat (first | exact lle_l0 | exact LLe.refl _ | exact lle_none | refine lle_up ?_ rfl)) (fun _ _ hh hl => lo_not rfl) ?_
    refine vw_done (by kernel_rfl) (seqK_n (cw_cond rfl (fun h32 => ?_) (fun h32 => ?_)))
    · have h33 := not_t h32
      have p34 := df h33
      refine cw_seq (cw_region (oab rfl rfl (ow_nil (seqK_n (cw_ret ?_)))))
      refine blkK_r (seqK_r (loopK_r (blkK_r (seqK_r (fnK_r (res1 rfl (rv_t (v := .bool _) rfl)) ((HLe.refl _).trans hl7) ?_)))))
      exact congrArg Value.bool (eqL_miss hk2 (dropE hc11) (dropE hc22) (by assumption)).symm
    have h35 := not_f h32
    have p36 := dt h35
    refine cw_skip (blkK_n (seqK_n (cw_region (ol rfl (lo_add rfl rfl (rg_i64 (by omega))) (omi rfl rfl ?_)))))
    refine ow_nil ?_
    refine next1 (k + 1) (upd_intro (mask_intro (by first | exact off_refl | (repeat (first | exact off_mask | refine off_upd rfl ?_ | refine off_mask2 rfl ?_)))) rfl) (lmask_intro (by first | exact offl_refl | (repeat (first | exact offl_mask | refine offl_upd rfl ?_ | refine offl_mask2 rfl ?_)))) hl7 ?_ ?_
    · exact ⟨by omega, eqL_step hk2 (dropE hc11) (dropE hc22) (by assumption)⟩
    omega
  have p37 := df h8
  refine cw_exit (seqK_e (loopK_e (blkK_hit (seqK_n (cw_seq ?_)))))
  refine cw_region (oab rfl rfl (ow_nil (seqK_n (cw_ret (fnK_r (res1 rfl (rv_t (v := .bool _) rfl)) ((HLe.refl _).trans hl7) ?_)))))
  exact congrArg Value.bool (eqL_end hk2 (by omega) (by omega)).symm
end Go.SW
set_option linter.unusedVariables false
set_option maxRecDepth 100000
set_option maxHeartbeats 4000000
namespace Go.SW
open Go.Proofs
theorem by66 : By Tryz.prog 66 344 := by_of (by kernel_rfl)
theorem zx66 : ∃ z, ∀ w, (zeroValue 66).run Tryz.prog w = .ok z w := ⟨.agg #[.int .u8 0, .int .u64 0, str [], .int .u8 0, str [], str [], .int .u64 0, .int .u64 0, str [], str [], str [], .bool false, str [], .slice none 0 0, .bool false, str [], .int .u64 0, .int .u8 0, .int .u8 0, .int .u8 0, .int .u64 0, .int .u64 0, str [], str [], .slice none 0 0, str [], .int .u64 0, .int .u8 0, str []], fun w => by kernel_rfl⟩
theorem l22_All (H : Hp) (l_a : Option Addr) (l_l l_c : Nat) (l : List DeedR) (l_h : SlH deedRE 29 H (.slice l_a l_l l_c) l) (hl : l.length ≤ 409120605684) : Ph Tryz.prog 60 #[.slice l_a l_l l_c] H (fun v H' => ∃ (a1 : Option Addr) (c1 : Nat), v = .tuple #[.slice a1 ((allD l).1).length c1, .bool ((allD l).2)] ∧ SlH deedRE 29 H' (.slice a1 ((allD l).1).length c1) ((allD l).1)) := by
  refine ph_cw Tryz.func60 rfl Tryz.ntmps60 rfl (fun N => ?_)
  refine cw_seq (cw_region (ol rfl (lo_assign (v := .slice _ _ _) rfl) (oab rfl rfl (ow_nil (seqK_n ?_)))))
  refine cw_seq (cw_region (ol rfl (lo_assign (v := .slice _ _ _) rfl) (ow_nil (seqK_n (cw_seq ?_)))))
  refine cw_seq (cw_region (ol rfl (lo_move (v := .slice _ _ _) rfl) (ol rfl (lo_len_slh rfl l_h Tryz.underlying76) (omi rfl rfl (ow_nil ?_)))))
  refine seqK_n (cw_block (cw_loop5 [2, 3, 4, 6, 9, 10, 11, 12, 13, 14, 15, 16, 17, 18, 19, 20, 21] [0, 1, 3] (fun (k : Nat) (out : List DeedR) (v : Value) (en : Option (Nat × Obj)) (cs : List Value) G => upd (upd (G) 9 (.int .i64 (k : Int))) 4 (v)) (fun (k : Nat) (out : List DeedR) (v : Value) (en : Option (Nat × Obj)) (cs : List Value) G => lupd (G) 3 (en)) (fun (k : Nat) (out : List DeedR) (v : Value) (en : Option (Nat × Obj)) (cs : List Value) H' => k ≤ l.length ∧ out = l.take k ∧ (l.take k).all lightD = true ∧ OwnV 29 66 v en out.length cs ∧ Rl deedRE H' out cs) (fun (k : Nat) (out : List DeedR) (v : Value) (en : Option (Nat × Obj)) (cs : List Value) => l.length - k) 0 [] (.slice none 0 0) none [] (upd_intro (upd_intro (mask_intro (by first | exact off_refl | (repeat (first | exact off_mask | refine off_upd rfl ?_ | refine off_mask2 rfl ?_)))) rfl) rfl) (lupd_intro (lmask_intro offl_refl) rfl) ?_ ?_))
  · exact ⟨Nat.zero_le _, rfl, rfl, ownV_nil, rl_nil⟩
  intro k out v en cs J2 JL2 H2 hp1 hl2
  obtain ⟨hk1, hk2, hk3, ho, hw⟩ := hp1
  have hol : out.length = k := by rw [hk2, List.length_take]; omega
  refine cw_seq (cw_region (ol rfl (lo_lss rfl rfl) (ow_nil (seqK_n (cw_seq ?_)))))
  refine cw_cond rfl (fun h3 => ?_) (fun h3 => ?_)
  · have p4 := dt h3
    refine cw_skip (seqK_n (cw_seq (cw_block (cw_seq (cw_region ?_)))))
    obtain ⟨c5, hc6⟩ := getE (xs := l) (m := k) (by omega)
    obtain ⟨cs7, hE8, at9⟩ := (l_h.mono ((HLe.refl _).trans hl2) (fun _ _ q => deedRE_mono _ _ _ _ ((HLe.refl _).trans hl2) q)).get hc6
    obtain ⟨a10, c11, a13, c14, rfl, hs12, hs15, c5_w⟩ := hE8
    have c5_w' := c5_w
    simp only [DeedR.wf, ShopR.wf, QueueR.wf, BindR.wf, Mail.wf] at c5_w'
    refine ol rfl (lo_indexAddr rfl rfl (l_h.mono ((HLe.refl _).trans hl2) (fun _ _ q => deedRE_mono _ _ _ _ ((HLe.refl _).trans hl2) q)).1 at9 Tryz.underlying76 sz60 (by omega) (by omega)) (ol rfl (lo_loadEA rfl ag60 sz60 at9) (ow1 (op1_alloc 0 rfl zr60 (fun b16 => ?_))))
    refine ow1 (op1_storeAll (i := 0) (vs := [_, _, _, _, _, _, _, _, _, _, _, _, _, _, _, _, _, _, _, _, _, _, _, _, _, _, _, _, _]) rfl rfl rfl sz60 rfl rfl rfl ?_)
    refine ow_nil (seqK_n (cw_seq (cw_seq (cw_region (ol rfl (lo_loadA (i := 0) (vs := [_, _, _, _, _, _, _, _, _, _, _, _, _, _, _, _, _, _, _, _, _, _, _, _, _, _, _, _, _]) rfl ag60 sz60 rfl rfl rfl) ?_)))))
    refine ow1 (op1_pr (l22_Light _ c5 a10 c11 hs12 a13 c14 hs15 c5_w) (en_f cb30 rfl) rfl ?_)
    have hld16 := lightD_len c5
    refine ol rfl (lo_not rfl) (ow_nil (seqK_n (cw_cond rfl (fun h17 => ?_) (fun h17 => ?_))))
    · have h18 := not_t h17
      refine cw_seq (cw_region (ol rfl (lo_assign (v := .slice _ _ _) rfl) (oab rfl rfl (ow_nil (seqK_n ?_)))))
      refine cw_ret (seqK_r (blkK_r (seqK_r (loopK_r (blkK_r ?_)))))
      refine seqK_r (fnK_r (res2 rfl (rv_t (v := .slice _ _ _) rfl) (rv_t (v := .bool _) rfl)) ((HLe.refl _).trans hl2) ?_)
      have e : allD l = ([], false) := by
        unfold allD
        rw [if_neg]
        rw [Bool.not_eq_true]
        exact List.all_eq_false.2 ⟨c5, List.mem_of_getElem? hc6, by simp [*]⟩
      rw [e]
      exact ⟨none, 0, rfl, slh_nil⟩
    have h19 := not_f h17
    refine cw_skip (seqK_n (cw_region (ol rfl (lo_move rfl) (ol rfl (lo_loadA (i := 0) (vs := [_, _, _, _, _, _, _, _, _, _, _, _, _, _, _, _, _, _, _, _, _, _, _, _, _, _, _, _, _]) rfl ag60 sz60 rfl rfl rfl) ?_))))
    refine ow1 (op1_ph (l22_To _ c5 a10 c11 hs12 a13 c14 hs15 c5_w (by first | omega | (have := lightD_len c5 (by assumption); omega))) (en_f cb31 rfl) rfl ?_)
    rintro _ H27 ⟨a20, c21, a23, c24, rfl, hs22, hs25⟩ hl26
    refine ow1 (op1_bslice (cs := [_, _, _, _, _, _, _, _, _, _, _, _, _, _, _, _, _, _, _, _, _, _, _, _, _, _, _, _, _]) 1 rfl Tryz.underlying109 sz66 zx66 rfl ⟨rfl, rfl, trivial⟩ rfl rfl (by decide) (fun b28 => ?_))
    refine ow1 (op1_app 3 rfl rfl Tryz.underlying109 Tryz.underlying109 rfl sz66 by66 (by decide) zr66 ho (src_bx (i := 1) rfl rfl) (List.all_eq_true.1 rfl) rfl (by omega) rfl (fun v29 en30 ho31 => ?_))
    have ho32 := ownV_cast (len' := (out ++ [c5]).length) ho31 (by simp) rfl
    have hrl33 : Rl deedRE _ (out ++ [c5]) _ := rl_app (hw.mono deedRE_mono ((HLe.refl _).trans hl26)) (⟨_, _, rfl, ⟨a20, c21, a23, c24, rfl, hs22, hs25, c5_w⟩, rl_nil⟩)
    refine ol rfl (lo_assign rfl) (ow_nil (blkK_n (seqK_n (cw_region (ol rfl (lo_add rfl rfl (rg_i64 (by omega))) ?_)))))
    refine omi rfl rfl (ow_nil ?_)
    refine next5 (k + 1) (out ++ [c5]) v29 en30 (cs ++ [.int .u8 c5.kind, .int .u64 c5.tick, str c5.shop.name, .int .u8 c5.shop.sort, str c5.shop.to, str c5.queue.name, .int .u64 c5.queue.most, .int .u64 c5.queue.life, str c5.queue.dead, str c5.bind.shop, str c5.bind.to, .bool c5.bind.up, str c5.bind.key, (.slice a20 c5.bind.want.length c21), .bool c5.bind.all, str c5.name, .int .u64 c5.id, .int .u8 c5.how, .int .u8 c5.frm, .int .u8 c5.code, .int .u64 c5.number, .int .u64 c5.mail.id, str c5.mail.shop, str c5.mail.key, (.slice a23 c5.mail.head.length c24), str c5.mail.body, .int .u64 c5.mail.due, .int .u8 c5.mail.hops, str c5.text]) (upd_intro (upd_intro (mask_intro (by first | exact off_refl | (repeat (first | exact off_mask | refine off_upd rfl ?_ | refine off_mask2 rfl ?_)))) rfl) rfl) (lupd_intro (lmask_intro (by first | exact offl_refl | (repeat (first | exact offl_mask | refine offl_upd rfl ?_ | refine offl_mask2 rfl ?_)))) rfl) (hl2.trans hl26) ?_ ?_
    · refine ⟨by omega, ?_, ?_, ho32, hrl33⟩
      · rw [takeE hc6, hk2]
      rw [takeE hc6, List.all_append, hk3]
      simp [*]
    omega
  have p34 := df h3
  refine cw_exit (seqK_e (loopK_e (blkK_hit (seqK_n (cw_seq ?_)))))
  refine cw_region (ol rfl (lo_move rfl) (ol rfl (lo_assign rfl) (oab rfl rfl (ow_nil (seqK_n ?_)))))
  refine cw_giveO 3 rfl (fun _ hl35 hg36 => ?_)
  have hs37 := slh_ownE (E := deedRE) deedRE_wide ho (hw.mono deedRE_mono ((HLe.refl _).trans hl35)) hg36
  obtain ⟨⟨a38, c39, rfl, -⟩, -⟩ := id hs37
  refine cw_ret (fnK_r (res2 rfl (rv_t (v := .slice _ _ _) rfl) (rv_t (v := .bool _) rfl)) (((HLe.refl _).trans hl2).trans hl35) ?_)
  rw [List.take_of_length_le (by omega)] at hk2 hk3
  subst hk2
  have e : allD out = (out, true) := by unfold allD; rw [if_pos hk3]
  rw [e]
  exact ⟨_, _, rfl, hs37⟩
end Go.SW
set_option linter.unusedVariables false
set_option maxRecDepth 100000
set_option maxHeartbeats 4000000
namespace Go.SW
open Go.Proofs
theorem bd28_0u64 (a1 : Int) (w : World) : (Instr.build 28 #[(0, .int .u64 a1)]).run Tryz.prog w = .ok (.agg #[.int .u64 a1, str [], str [], .slice none 0 0, str [], .int .u64 0, .int .u8 0]) w := by kernel_rfl
theorem mail_Read (H : Hp) (i_b : Nat) (i : In) (hML : GInt H 2) : Pm Tryz.prog 214 #[.pointer (some ⟨i_b, 0, none⟩)] H i_b (bx 252 (In.cells i)) (fun v H' o' => ∃ (a1 : Option Addr) (c1 : Nat), v = .agg (Mail.cells ((mailRead i).1) a1 c1).toArray ∧ o' = bx 252 (In.cells ((mailRead i).2)) ∧ SlH pairE 4 H' (.slice a1 (((mailRead i).1).head).length c1) (((mailRead i).1).head)) := by
  refine pm_cw Tryz.func214 rfl Tryz.ntmps214 rfl (fun N => ?_)
  refine cw_seq (cw_region (ow1 (op1_alloc 1 rfl zr28 (fun b1 => ?_))))
  refine ow_nil (seqK_n (cw_seq (cw_region (ol rfl (lo_move (v := .pointer (some ⟨_, _, none⟩)) rfl) ?_))))
  refine ow1 (op1_pm 0 rfl (in_Num _ i_b i 8 (by omega)) (en_f cb154 rfl) rfl ?_)
  rintro _ _ _ ⟨rfl, rfl, rfl⟩ _
  generalize hq5 : inNum i 8 = q2
  have hf6 := inNum_r i 8
  simp only [hq5] at hf6
  refine ol rfl (lo_build (v := .agg #[_, _, _, _, _, _, _]) rfl (bd28_0u64 _)) (ow1 (op1_alloc 2 rfl zr28 (fun b7 => ?_)))
  refine ow1 (op1_storeAll (i := 2) (vs := [_, _, _, _, _, _, _]) rfl rfl rfl sz28 rfl rfl rfl ?_)
  refine ow_nil (seqK_n (cw_seq (cw_region (ol rfl (lo_move (v := .pointer (some ⟨_, _, none⟩)) rfl) ?_))))
  refine ow1 (op1_pm 0 rfl (in_Text _ i_b q2.2 16 (by omega)) (en_f cb192 rfl) rfl ?_)
  rintro _ _ _ ⟨rfl, rfl, rfl⟩ _
  generalize hq11 : inText q2.2 16 = q8
  have hf12 := inText_len q2.2 16
  simp only [hq11] at hf12
  refine ol rfl (lo_fieldAddr rfl fl28_1) ?_
  refine ow1 (op1_store1n (i := 2) (v := str _) [_, _, _, _, _, _, _] rfl rfl rfl sz9 rfl rfl rfl ?_)
  refine ow_nil (seqK_n (cw_seq (cw_region (ol rfl (lo_move (v := .pointer (some ⟨_, _, none⟩)) rfl) ?_))))
  refine ow1 (op1_pm 0 rfl (in_Text _ i_b q8.2 64 (by omega)) (en_f cb192 rfl) rfl ?_)
  rintro _ _ _ ⟨rfl, rfl, rfl⟩ _
  generalize hq16 : inText q8.2 64 = q13
  have hf17 := inText_len q8.2 64
  simp only [hq16] at hf17
  refine ol rfl (lo_fieldAddr rfl fl28_2) ?_
  refine ow1 (op1_store1n (i := 2) (v := str _) [_, _, _, _, _, _, _] rfl rfl rfl sz9 rfl rfl rfl ?_)
  refine ow_nil (seqK_n (cw_seq (cw_region (ol rfl (lo_move (v := .pointer (some ⟨_, _, none⟩)) rfl) ?_))))
  refine ow1 (op1_pm 0 rfl (head_Read _ i_b q13.2) (en_f cb194 rfl) rfl ?_)
  rintro _ H23 _ ⟨a19, c20, rfl, rfl, hs21⟩ hl22
  generalize hq24 : headRead q13.2 = q18
  simp only [hq24] at hs21
  have hf25 := headRead_len q13.2
  simp only [hq24] at hf25
  refine ol rfl (lo_fieldAddr rfl fl28_3) ?_
  refine ow1 (op1_store1n (i := 2) (v := .slice _ _ _) [_, _, _, _, _, _, _] rfl rfl rfl sz26 rfl rfl rfl ?_)
  refine ow_nil (seqK_n (cw_seq (cw_region (ol rfl (lo_move (v := .pointer (some ⟨_, _, none⟩)) rfl) ?_))))
  refine ow1 (op1_pm 0 rfl (in_Text _ i_b q18.2 256 (by omega)) (en_f cb192 rfl) rfl ?_)
  rintro _ _ _ ⟨rfl, rfl, rfl⟩ _
  generalize hq29 : inText q18.2 256 = q26
  have hf30 := inText_len q18.2 256
  simp only [hq29] at hf30
  refine ol rfl (lo_fieldAddr rfl fl28_4) ?_
  refine ow1 (op1_store1n (i := 2) (v := str _) [_, _, _, _, _, _, _] rfl rfl rfl sz9 rfl rfl rfl ?_)
  refine ow_nil (seqK_n (cw_seq (cw_region (ol rfl (lo_move (v := .pointer (some ⟨_, _, none⟩)) rfl) ?_))))
  refine ow1 (op1_pm 0 rfl (in_Num _ i_b q26.2 8 (by omega)) (en_f cb154 rfl) rfl ?_)
  rintro _ _ _ ⟨rfl, rfl, rfl⟩ _
  generalize hq34 : inNum q26.2 8 = q31
  have hf35 := inNum_r q26.2 8
  simp only [hq34] at hf35
  refine ol rfl (lo_fieldAddr rfl fl28_5) ?_
  refine ow1 (op1_store1n (i := 2) (v := .int _ _) [_, _, _, _, _, _, _] rfl rfl rfl sz25 rfl rfl rfl ?_)
  refine ow_nil (seqK_n (cw_seq (cw_region (ol rfl (lo_move (v := .pointer (some ⟨_, _, none⟩)) rfl) ?_))))
  refine ow1 (op1_pm 0 rfl (in_Num _ i_b q31.2 1 (by omega)) (en_f cb154 rfl) rfl ?_)
  rintro _ _ _ ⟨rfl, rfl, rfl⟩ _
  generalize hq39 : inNum q31.2 1 = q36
  have hf40 := inNum_r q31.2 1
  simp only [hq39] at hf40
  refine ol rfl (lo_conv_in rfl (by rw [Tryz.underlying25]; rfl) Tryz.underlying5 (rg_u8 (by omega))) (ol rfl (lo_fieldAddr rfl fl28_6) ?_)
  refine ow1 (op1_store1n (i := 2) (v := .int _ _) [_, _, _, _, _, _, _] rfl rfl rfl sz5 rfl rfl rfl ?_)
  refine ow_nil (seqK_n (cw_seq (cw_seq (cw_region (ol rfl (lo_move (v := .pointer (some ⟨_, _, none⟩)) rfl) ?_)))))
  refine ow1 (op1_pm 0 rfl (in_Err _ i_b q36.2) (en_f cb155 rfl) rfl ?_)
  rintro _ _ _ ⟨rfl, rfl, rfl⟩ _
  refine ol rfl (lo_eql rfl rfl) (ow_nil (seqK_n (cw_cond rfl (fun h43 => ?_) (fun h43 => ?_))))
  · have p44 := dt h43
    refine cw_region (ol rfl (lo_move (v := .pointer (some ⟨_, _, none⟩)) rfl) (ol rfl (lo_loadA (i := 2) (vs := [_, _, _, _, _, _, _]) rfl ag28 sz28 rfl rfl rfl) ?_))
    refine ow1 (op1_pr (mail_Check _ (⟨q2.1, q8.1, q13.1, q18.1, q26.1, q31.1, q36.1⟩ : Mail) a19 c20 hs21 (by simp only [Mail.wf]; first | omega | (simp; done) | (simp; omega)) (hML.mono ((HLe.refl _).trans hl22))) (en_f cb120 rfl) rfl ?_)
    have := mailC_r (⟨q2.1, q8.1, q13.1, q18.1, q26.1, q31.1, q36.1⟩ : Mail)
    have hmo44 := fun h => mailC_ok (m := (⟨q2.1, q8.1, q13.1, q18.1, q26.1, q31.1, q36.1⟩ : Mail)) h
    refine ow1 (op1_pm 0 rfl (in_Fail _ i_b q36.2 (mailC (⟨q2.1, q8.1, q13.1, q18.1, q26.1, q31.1, q36.1⟩ : Mail)) (by omega)) (en_f cb193 rfl) rfl ?_)
    rintro _ _ _ ⟨rfl, rfl, rfl⟩ _
    generalize hq48 : inFail q36.2 (mailC (⟨q2.1, q8.1, q13.1, q18.1, q26.1, q31.1, q36.1⟩ : Mail)) = q45
    refine ow_nil (seqK_n (cw_seq (cw_seq (cw_region (ol rfl (lo_move (v := .pointer (some ⟨_, _, none⟩)) rfl) ?_)))))
    refine ow1 (op1_pm 0 rfl (in_Err _ i_b q45) (en_f cb155 rfl) rfl ?_)
    rintro _ _ _ ⟨rfl, rfl, rfl⟩ _
    refine ol rfl (lo_neq rfl rfl) (ow_nil (seqK_n (cw_cond rfl (fun h51 => ?_) (fun h51 => ?_))))
    · have h52 := not_t h51
      have p53 := df h52
      refine cw_seq (cw_region (ol rfl (lo_build (v := .agg #[_, _, _, _, _, _, _]) rfl (bd28)) ?_))
      refine ow1 (op1_storeAll (i := 1) (vs := [_, _, _, _, _, _, _]) rfl rfl rfl sz28 rfl rfl rfl ?_)
      refine ow_nil (seqK_n (cw_ret (seqK_r (fnK_r (res1 rfl (rv_c (i := 1) (vs := [_, _, _, _, _, _, _]) rfl ag28 sz28 rfl rfl rfl)) ((HLe.refl _).trans hl22) ?_))))
      refine ⟨_, rfl, ?_⟩
      have e : mailRead i = ((⟨0, [], [], [], [], 0, 0⟩ : Mail), q45) := by unfold mailRead; simp only; (repeat first | simp only [hq5, hq11, hq16, hq24, hq29, hq34, hq39, hq48] | rw [if_pos (by omega)] | rw [if_neg (by omega)]); all_goals first | rfl | (simp [*]; done) | (simp [*]; rfl)
      rw [e]
      exact ⟨_, _, rfl, rfl, slh_nil⟩
    have h54 := not_f h51
    have p55 := dt h54
    refine cw_skip (seqK_n (cw_seq (cw_region (ol rfl (lo_loadA (i := 2) (vs := [_, _, _, _, _, _, _]) rfl ag28 sz28 rfl rfl rfl) ?_))))
    refine ow1 (op1_storeAll (i := 1) (vs := [_, _, _, _, _, _, _]) rfl rfl rfl sz28 rfl rfl rfl ?_)
    refine ow_nil (seqK_n (cw_ret (fnK_r (res1 rfl (rv_c (i := 1) (vs := [_, _, _, _, _, _, _]) rfl ag28 sz28 rfl rfl rfl)) ((HLe.refl _).trans hl22) ?_)))
    refine ⟨_, rfl, ?_⟩
    have e : mailRead i = ((⟨q2.1, q8.1, q13.1, q18.1, q26.1, q31.1, q36.1⟩ : Mail), q45) := by unfold mailRead; simp only; (repeat first | simp only [hq5, hq11, hq16, hq24, hq29, hq34, hq39, hq48] | rw [if_pos (by omega)] | rw [if_neg (by omega)]); all_goals first | rfl | (simp [*]; done) | (simp [*]; rfl)
    rw [e]
    exact ⟨_, _, rfl, rfl, hs21⟩
  have p56 := df h43
  refine cw_skip (seqK_n (cw_seq (cw_seq (cw_region (ol rfl (lo_move (v := .pointer (some ⟨_, _, none⟩)) rfl) ?_)))))
  refine ow1 (op1_pm 0 rfl (in_Err _ i_b q36.2) (en_f cb155 rfl) rfl ?_)
  rintro _ _ _ ⟨rfl, rfl, rfl⟩ _
  refine ol rfl (lo_neq rfl rfl) (ow_nil (seqK_n (cw_cond_t rfl (by rw [h43] <;> rfl) (cw_seq (cw_region ?_)))))
  refine ol rfl (lo_build (v := .agg #[_, _, _, _, _, _, _]) rfl (bd28)) ?_
  refine ow1 (op1_storeAll (i := 1) (vs := [_, _, _, _, _, _, _]) rfl rfl rfl sz28 rfl rfl rfl ?_)
  refine ow_nil (seqK_n (cw_ret (seqK_r (fnK_r (res1 rfl (rv_c (i := 1) (vs := [_, _, _, _, _, _, _]) rfl ag28 sz28 rfl rfl rfl)) ((HLe.refl _).trans hl22) ?_))))
  refine ⟨_, rfl, ?_⟩
  have e : mailRead i = ((⟨0, [], [], [], [], 0, 0⟩ : Mail), q36.2) := by unfold mailRead; simp only; (repeat first | simp only [hq5, hq11, hq16, hq24, hq29, hq34, hq39] | rw [if_pos (by omega)] | rw [if_neg (by omega)]); all_goals first | rfl | (simp [*]; done) | (simp [*]; rfl)
  rw [e]
  exact ⟨_, _, rfl, rfl, slh_nil⟩
end Go.SW
set_option linter.unusedVariables false
set_option maxRecDepth 100000
set_option maxHeartbeats 4000000
namespace Go.SW
open Go.Proofs
end Go.SW
set_option linter.unusedVariables false
set_option maxRecDepth 100000
set_option maxHeartbeats 4000000
namespace Go.SW
open Go.Proofs
theorem bd56_0s_1u64_2u64 (a1 : Bs) (a2 : Int) (a3 : Int) (w : World) : (Instr.build 56 #[(0, str a1), (1, .int .u64 a2), (2, .int .u64 a3)]).run Tryz.prog w = .ok (.agg #[str a1, .int .u64 a2, .int .u64 a3, str []]) w := by kernel_rfl
theorem bd58_0s_1s_2b (a1 : Bs) (a2 : Bs) (a3 : Bool) (w : World) : (Instr.build 58 #[(0, str a1), (1, str a2), (2, .bool a3)]).run Tryz.prog w = .ok (.agg #[str a1, str a2, .bool a3, str [], .slice none 0 0, .bool false]) w := by kernel_rfl
theorem cb214 : Callable Tryz.prog 214 := callable_of Tryz.func214 (by kernel_rfl) (by kernel_rfl)
theorem deed_read (H : Hp) (i_b : Nat) (i : In) (hML : GInt H 2) : Pm Tryz.prog 156 #[.pointer (some ⟨i_b, 0, none⟩)] H i_b (bx 252 (In.cells i)) (fun v H' o' => ∃ (a1 : Option Addr) (c1 : Nat) (a2 : Option Addr) (c2 : Nat), v = .agg (DeedR.cells ((readD i).1) a1 c1 a2 c2).toArray ∧ o' = bx 252 (In.cells ((readD i).2)) ∧ SlH pairE 4 H' (.slice a1 (((readD i).1).bind.want).length c1) (((readD i).1).bind.want) ∧ SlH pairE 4 H' (.slice a2 (((readD i).1).mail.head).length c2) (((readD i).1).mail.head)) := by
  refine pm_cw Tryz.func156 rfl Tryz.ntmps156 rfl (fun N => ?_)
  refine cw_seq (cw_region (ow1 (op1_alloc 1 rfl zr60 (fun b1 => ?_))))
  refine ow_nil (seqK_n (cw_seq (cw_region (ol rfl (lo_move (v := .pointer (some ⟨_, _, none⟩)) rfl) ?_))))
  refine ow1 (op1_pm 0 rfl (in_Num _ i_b i 1 (by omega)) (en_f cb154 rfl) rfl ?_)
  rintro _ _ _ ⟨rfl, rfl, rfl⟩ _
  generalize hq5 : inNum i 1 = q2
  have hf6 := inNum_r i 1
  simp only [hq5] at hf6
  refine ol rfl (lo_conv_in rfl (by rw [Tryz.underlying25]; rfl) Tryz.underlying5 (rg_u8 (by omega))) (ol rfl (lo_move (v := .pointer (some ⟨_, _, none⟩)) rfl) ?_)
  refine ow1 (op1_pm 0 rfl (in_Num _ i_b q2.2 8 (by omega)) (en_f cb154 rfl) rfl ?_)
  rintro _ _ _ ⟨rfl, rfl, rfl⟩ _
  generalize hq10 : inNum q2.2 8 = q7
  have hf11 := inNum_r q2.2 8
  simp only [hq10] at hf11
  refine ol rfl (lo_build (v := .agg #[_, _, _, _, _, _, _, _, _, _, _, _, _, _, _, _, _, _, _, _, _, _, _, _, _, _, _, _, _]) rfl (bd60_0u8_1u64 _ _)) (ow1 (op1_alloc 2 rfl zr60 (fun b12 => ?_)))
  refine ow1 (op1_storeAll (i := 2) (vs := [_, _, _, _, _, _, _, _, _, _, _, _, _, _, _, _, _, _, _, _, _, _, _, _, _, _, _, _, _]) rfl rfl rfl sz60 rfl rfl rfl ?_)
  refine ow_nil (seqK_n (cw_seq (cw_seq (cw_region (ol rfl (lo_fieldAddr rfl fl60_0) ?_)))))
  refine ol rfl (lo_load1 (i := 2) (v := .int _ _) rfl ag5 rfl rfl) (ow_nil (seqK_n (cw_block (cw_seq (cw_region ?_)))))
  refine ol rfl (lo_eql rfl rfl) (oab rfl rfl (ow_nil (seqK_n (cw_cond rfl (fun h13 => ?_) (fun h13 => ?_)))))
  · have p14 := dt h13
    refine cw_seq (cw_region (ol rfl (lo_move (v := .pointer (some ⟨_, _, none⟩)) rfl) ?_))
    refine ow1 (op1_pm 0 rfl (in_Text _ i_b q7.2 16 (by omega)) (en_f cb192 rfl) rfl ?_)
    rintro _ _ _ ⟨rfl, rfl, rfl⟩ _
    generalize hq18 : inText q7.2 16 = q15
    have hf19 := inText_len q7.2 16
    simp only [hq18] at hf19
    refine ol rfl (lo_move (v := .pointer (some ⟨_, _, none⟩)) rfl) ?_
    refine ow1 (op1_pm 0 rfl (in_Num _ i_b q15.2 1 (by omega)) (en_f cb154 rfl) rfl ?_)
    rintro _ _ _ ⟨rfl, rfl, rfl⟩ _
    generalize hq23 : inNum q15.2 1 = q20
    have hf24 := inNum_r q15.2 1
    simp only [hq23] at hf24
    refine ol rfl (lo_conv_in rfl (by rw [Tryz.underlying25]; rfl) Tryz.underlying5 (rg_u8 (by omega))) (ol rfl (lo_build (v := .agg #[_, _, _]) rfl (bd54_0s_1u8 _ _)) (ol rfl (lo_fieldAddr rfl fl60_2) ?_))
    refine ow1 (op1_storeAp (i := 2) (vs := [_, _, _]) [_, _, _, _, _, _, _, _, _, _, _, _, _, _, _, _, _, _, _, _, _, _, _, _, _, _, _, _, _] rfl rfl rfl sz54 rfl rfl rfl rfl ?_)
    refine ow_nil (seqK_n (cw_region (ol rfl (lo_move (v := .pointer (some ⟨_, _, none⟩)) rfl) ?_)))
    refine ow1 (op1_pm 0 rfl (in_Text _ i_b q20.2 16 (by omega)) (en_f cb192 rfl) rfl ?_)
    rintro _ _ _ ⟨rfl, rfl, rfl⟩ _
    generalize hq28 : inText q20.2 16 = q25
    have hf29 := inText_len q20.2 16
    simp only [hq28] at hf29
    refine ol rfl (lo_fieldAddr rfl fl60_2) (ol rfl (lo_fieldAddr rfl fl54_2) ?_)
    refine ow1 (op1_store1n (i := 2) (v := str _) [_, _, _, _, _, _, _, _, _, _, _, _, _, _, _, _, _, _, _, _, _, _, _, _, _, _, _, _, _] rfl rfl rfl sz9 rfl rfl rfl ?_)
    refine ow_nil (blkK_n (seqK_n (cw_seq (cw_region (ol rfl (lo_loadA (i := 2) (vs := [_, _, _, _, _, _, _, _, _, _, _, _, _, _, _, _, _, _, _, _, _, _, _, _, _, _, _, _, _]) rfl ag60 sz60 rfl rfl rfl) ?_)))))
    refine ow1 (op1_storeAll (i := 1) (vs := [_, _, _, _, _, _, _, _, _, _, _, _, _, _, _, _, _, _, _, _, _, _, _, _, _, _, _, _, _]) rfl rfl rfl sz60 rfl rfl rfl ?_)
    refine ow_nil (seqK_n (cw_ret (fnK_r (res1 rfl (rv_c (i := 1) (vs := [_, _, _, _, _, _, _, _, _, _, _, _, _, _, _, _, _, _, _, _, _, _, _, _, _, _, _, _, _]) rfl ag60 sz60 rfl rfl rfl)) (.refl _) ?_)))
    refine ⟨_, rfl, ?_⟩
    have e : readD i = ((⟨q2.1, q7.1, (⟨q15.1, q20.1, q25.1⟩ : ShopR), (⟨[], 0, 0, []⟩ : QueueR), (⟨[], [], false, [], [], false⟩ : BindR), [], 0, 0, 0, 0, 0, (⟨0, [], [], [], [], 0, 0⟩ : Mail), []⟩ : DeedR), q25.2) := by unfold readD readK; simp only [DeedR.blank, bindRead]; (repeat first | simp only [hq5, hq10, hq18, hq23, hq28] | rw [if_pos (by omega)] | rw [if_neg (by omega)]); all_goals first | rfl | (simp [*]; done) | (simp [*]; rfl)
    rw [e]
    exact ⟨_, _, _, _, rfl, rfl, slh_nil, slh_nil⟩
  have p30 := df h13
  refine cw_seq (cw_region (ol rfl (lo_eql rfl rfl) (oab rfl rfl (ow_nil (seqK_n ?_)))))
  refine cw_cond rfl (fun h31 => ?_) (fun h31 => ?_)
  · have p32 := dt h31
    refine cw_seq (cw_region (ol rfl (lo_move (v := .pointer (some ⟨_, _, none⟩)) rfl) ?_))
    refine ow1 (op1_pm 0 rfl (in_Text _ i_b q7.2 16 (by omega)) (en_f cb192 rfl) rfl ?_)
    rintro _ _ _ ⟨rfl, rfl, rfl⟩ _
    generalize hq36 : inText q7.2 16 = q33
    have hf37 := inText_len q7.2 16
    simp only [hq36] at hf37
    refine ol rfl (lo_move (v := .pointer (some ⟨_, _, none⟩)) rfl) ?_
    refine ow1 (op1_pm 0 rfl (in_Num _ i_b q33.2 8 (by omega)) (en_f cb154 rfl) rfl ?_)
    rintro _ _ _ ⟨rfl, rfl, rfl⟩ _
    generalize hq41 : inNum q33.2 8 = q38
    have hf42 := inNum_r q33.2 8
    simp only [hq41] at hf42
    refine ol rfl (lo_move (v := .pointer (some ⟨_, _, none⟩)) rfl) ?_
    refine ow1 (op1_pm 0 rfl (in_Num _ i_b q38.2 8 (by omega)) (en_f cb154 rfl) rfl ?_)
    rintro _ _ _ ⟨rfl, rfl, rfl⟩ _
    generalize hq46 : inNum q38.2 8 = q43
    have hf47 := inNum_r q38.2 8
    simp only [hq46] at hf47
    refine ol rfl (lo_build (v := .agg #[_, _, _, _]) rfl (bd56_0s_1u64_2u64 _ _ _)) (ol rfl (lo_fieldAddr rfl fl60_3) ?_)
    refine ow1 (op1_storeAp (i := 2) (vs := [_, _, _, _]) [_, _, _, _, _, _, _, _, _, _, _, _, _, _, _, _, _, _, _, _, _, _, _, _, _, _, _, _, _] rfl rfl rfl sz56 rfl rfl rfl rfl ?_)
    refine ow_nil (seqK_n (cw_region (ol rfl (lo_move (v := .pointer (some ⟨_, _, none⟩)) rfl) ?_)))
    refine ow1 (op1_pm 0 rfl (in_Text _ i_b q43.2 16 (by omega)) (en_f cb192 rfl) rfl ?_)
    rintro _ _ _ ⟨rfl, rfl, rfl⟩ _
    generalize hq51 : inText q43.2 16 = q48
    have hf52 := inText_len q43.2 16
    simp only [hq51] at hf52
    refine ol rfl (lo_fieldAddr rfl fl60_3) (ol rfl (lo_fieldAddr rfl fl56_3) ?_)
    refine ow1 (op1_store1n (i := 2) (v := str _) [_, _, _, _, _, _, _, _, _, _, _, _, _, _, _, _, _, _, _, _, _, _, _, _, _, _, _, _, _] rfl rfl rfl sz9 rfl rfl rfl ?_)
    refine ow_nil (blkK_n (seqK_n (cw_seq (cw_region (ol rfl (lo_loadA (i := 2) (vs := [_, _, _, _, _, _, _, _, _, _, _, _, _, _, _, _, _, _, _, _, _, _, _, _, _, _, _, _, _]) rfl ag60 sz60 rfl rfl rfl) ?_)))))
    refine ow1 (op1_storeAll (i := 1) (vs := [_, _, _, _, _, _, _, _, _, _, _, _, _, _, _, _, _, _, _, _, _, _, _, _, _, _, _, _, _]) rfl rfl rfl sz60 rfl rfl rfl ?_)
    refine ow_nil (seqK_n (cw_ret (fnK_r (res1 rfl (rv_c (i := 1) (vs := [_, _, _, _, _, _, _, _, _, _, _, _, _, _, _, _, _, _, _, _, _, _, _, _, _, _, _, _, _]) rfl ag60 sz60 rfl rfl rfl)) (.refl _) ?_)))
    refine ⟨_, rfl, ?_⟩
    have e : readD i = ((⟨q2.1, q7.1, (⟨[], 0, []⟩ : ShopR), (⟨q33.1, q38.1, q43.1, q48.1⟩ : QueueR), (⟨[], [], false, [], [], false⟩ : BindR), [], 0, 0, 0, 0, 0, (⟨0, [], [], [], [], 0, 0⟩ : Mail), []⟩ : DeedR), q48.2) := by unfold readD readK; simp only [DeedR.blank, bindRead]; (repeat first | simp only [hq5, hq10, hq36, hq41, hq46, hq51] | rw [if_pos (by omega)] | rw [if_neg (by omega)]); all_goals first | rfl | (simp [*]; done) | (simp [*]; rfl)
    rw [e]
    exact ⟨_, _, _, _, rfl, rfl, slh_nil, slh_nil⟩
  have p53 := df h31
  refine cw_seq (cw_seq (cw_region (ol rfl (lo_eql rfl rfl) (oab rfl rfl (ow_nil ?_)))))
  refine seqK_n (cw_cond rfl (fun h54 => ?_) (fun h54 => ?_))
  · have p55 := dt h54
    refine cw_skip (seqK_n (cw_cond_t rfl h54 (cw_seq (cw_region (ol rfl (lo_move (v := .pointer (some ⟨_, _, none⟩)) rfl) ?_)))))
    refine ow1 (op1_pm 0 rfl (in_Text _ i_b q7.2 16 (by omega)) (en_f cb192 rfl) rfl ?_)
    rintro _ _ _ ⟨rfl, rfl, rfl⟩ _
    generalize hq59 : inText q7.2 16 = q56
    have hf60 := inText_len q7.2 16
    simp only [hq59] at hf60
    refine ol rfl (lo_move (v := .pointer (some ⟨_, _, none⟩)) rfl) ?_
    refine ow1 (op1_pm 0 rfl (in_Text _ i_b q56.2 16 (by omega)) (en_f cb192 rfl) rfl ?_)
    rintro _ _ _ ⟨rfl, rfl, rfl⟩ _
    generalize hq64 : inText q56.2 16 = q61
    have hf65 := inText_len q56.2 16
    simp only [hq64] at hf65
    refine ol rfl (lo_move (v := .pointer (some ⟨_, _, none⟩)) rfl) ?_
    refine ow1 (op1_pm 0 rfl (in_Num _ i_b q61.2 1 (by omega)) (en_f cb154 rfl) rfl ?_)
    rintro _ _ _ ⟨rfl, rfl, rfl⟩ _
    generalize hq69 : inNum q61.2 1 = q66
    have hf70 := inNum_r q61.2 1
    simp only [hq69] at hf70
    refine ol rfl (lo_eql rfl rfl) (ol rfl (lo_build (v := .agg #[_, _, _, _, _, _]) rfl (bd58_0s_1s_2b _ _ _)) (ol rfl (lo_fieldAddr rfl fl60_4) ?_))
    refine ow1 (op1_storeAp (i := 2) (vs := [_, _, _, _, _, _]) [_, _, _, _, _, _, _, _, _, _, _, _, _, _, _, _, _, _, _, _, _, _, _, _, _, _, _, _, _] rfl rfl rfl sz58 rfl rfl rfl rfl ?_)
    refine ow_nil (seqK_n (cw_seq (cw_region (ol rfl (lo_move (v := .pointer (some ⟨_, _, none⟩)) rfl) ?_))))
    refine ow1 (op1_pm 0 rfl (in_Text _ i_b q66.2 64 (by omega)) (en_f cb192 rfl) rfl ?_)
    rintro _ _ _ ⟨rfl, rfl, rfl⟩ _
    generalize hq74 : inText q66.2 64 = q71
    have hf75 := inText_len q66.2 64
    simp only [hq74] at hf75
    refine ol rfl (lo_fieldAddr rfl fl60_4) (ol rfl (lo_fieldAddr rfl fl58_3) ?_)
    refine ow1 (op1_store1n (i := 2) (v := str _) [_, _, _, _, _, _, _, _, _, _, _, _, _, _, _, _, _, _, _, _, _, _, _, _, _, _, _, _, _] rfl rfl rfl sz9 rfl rfl rfl ?_)
    refine ow_nil (seqK_n (cw_seq (cw_region (ol rfl (lo_move (v := .pointer (some ⟨_, _, none⟩)) rfl) ?_))))
    refine ow1 (op1_pm 0 rfl (head_Read _ i_b q71.2) (en_f cb194 rfl) rfl ?_)
    rintro _ H81 _ ⟨a77, c78, rfl, rfl, hs79⟩ hl80
    generalize hq82 : headRead q71.2 = q76
    simp only [hq82] at hs79
    have hf83 := headRead_len q71.2
    simp only [hq82] at hf83
    refine ol rfl (lo_fieldAddr rfl fl60_4) (ol rfl (lo_fieldAddr rfl fl58_4) ?_)
    refine ow1 (op1_store1n (i := 2) (v := .slice _ _ _) [_, _, _, _, _, _, _, _, _, _, _, _, _, _, _, _, _, _, _, _, _, _, _, _, _, _, _, _, _] rfl rfl rfl sz26 rfl rfl rfl ?_)
    refine ow_nil (seqK_n (cw_region (ol rfl (lo_move (v := .pointer (some ⟨_, _, none⟩)) rfl) ?_)))
    refine ow1 (op1_pm 0 rfl (in_Num _ i_b q76.2 1 (by omega)) (en_f cb154 rfl) rfl ?_)
    rintro _ _ _ ⟨rfl, rfl, rfl⟩ _
    generalize hq87 : inNum q76.2 1 = q84
    have hf88 := inNum_r q76.2 1
    simp only [hq87] at hf88
    refine ol rfl (lo_eql rfl rfl) (ol rfl (lo_fieldAddr rfl fl60_4) (ol rfl (lo_fieldAddr rfl fl58_5) ?_))
    refine ow1 (op1_store1n (i := 2) (v := .bool _) [_, _, _, _, _, _, _, _, _, _, _, _, _, _, _, _, _, _, _, _, _, _, _, _, _, _, _, _, _] rfl rfl rfl sz4 rfl rfl rfl ?_)
    refine ow_nil (blkK_n (seqK_n (cw_seq (cw_region (ol rfl (lo_loadA (i := 2) (vs := [_, _, _, _, _, _, _, _, _, _, _, _, _, _, _, _, _, _, _, _, _, _, _, _, _, _, _, _, _]) rfl ag60 sz60 rfl rfl rfl) ?_)))))
    refine ow1 (op1_storeAll (i := 1) (vs := [_, _, _, _, _, _, _, _, _, _, _, _, _, _, _, _, _, _, _, _, _, _, _, _, _, _, _, _, _]) rfl rfl rfl sz60 rfl rfl rfl ?_)
    refine ow_nil (seqK_n (cw_ret (fnK_r (res1 rfl (rv_c (i := 1) (vs := [_, _, _, _, _, _, _, _, _, _, _, _, _, _, _, _, _, _, _, _, _, _, _, _, _, _, _, _, _]) rfl ag60 sz60 rfl rfl rfl)) ((HLe.refl _).trans hl80) ?_)))
    refine ⟨_, rfl, ?_⟩
    have e : readD i = ((⟨q2.1, q7.1, (⟨[], 0, []⟩ : ShopR), (⟨[], 0, 0, []⟩ : QueueR), (⟨q56.1, q61.1, decide (q66.1 = 1), q71.1, q76.1, decide (q84.1 = 1)⟩ : BindR), [], 0, 0, 0, 0, 0, (⟨0, [], [], [], [], 0, 0⟩ : Mail), []⟩ : DeedR), q84.2) := by unfold readD readK; simp only [DeedR.blank, bindRead]; (repeat first | simp only [hq5, hq10, hq59, hq64, hq69, hq74, hq82, hq87] | rw [if_pos (by omega)] | rw [if_neg (by omega)]); all_goals first | rfl | (simp [*]; done) | (simp [*]; rfl)
    rw [e]
    exact ⟨_, _, _, _, rfl, rfl, hs79, slh_nil⟩
  have p89 := df h54
  refine cw_region (ol rfl (lo_eql rfl rfl) (oab rfl rfl (ow_nil (seqK_n (cw_cond rfl (fun h90 => ?_) (fun h90 => ?_))))))
  · have p91 := dt h90
    refine cw_seq (cw_region (ol rfl (lo_move (v := .pointer (some ⟨_, _, none⟩)) rfl) ?_))
    refine ow1 (op1_pm 0 rfl (in_Text _ i_b q7.2 16 (by omega)) (en_f cb192 rfl) rfl ?_)
    rintro _ _ _ ⟨rfl, rfl, rfl⟩ _
    generalize hq95 : inText q7.2 16 = q92
    have hf96 := inText_len q7.2 16
    simp only [hq95] at hf96
    refine ol rfl (lo_move (v := .pointer (some ⟨_, _, none⟩)) rfl) ?_
    refine ow1 (op1_pm 0 rfl (in_Text _ i_b q92.2 16 (by omega)) (en_f cb192 rfl) rfl ?_)
    rintro _ _ _ ⟨rfl, rfl, rfl⟩ _
    generalize hq100 : inText q92.2 16 = q97
    have hf101 := inText_len q92.2 16
    simp only [hq100] at hf101
    refine ol rfl (lo_move (v := .pointer (some ⟨_, _, none⟩)) rfl) ?_
    refine ow1 (op1_pm 0 rfl (in_Num _ i_b q97.2 1 (by omega)) (en_f cb154 rfl) rfl ?_)
    rintro _ _ _ ⟨rfl, rfl, rfl⟩ _
    generalize hq105 : inNum q97.2 1 = q102
    have hf106 := inNum_r q97.2 1
    simp only [hq105] at hf106
    refine ol rfl (lo_eql rfl rfl) (ol rfl (lo_build (v := .agg #[_, _, _, _, _, _]) rfl (bd58_0s_1s_2b _ _ _)) (ol rfl (lo_fieldAddr rfl fl60_4) ?_))
    refine ow1 (op1_storeAp (i := 2) (vs := [_, _, _, _, _, _]) [_, _, _, _, _, _, _, _, _, _, _, _, _, _, _, _, _, _, _, _, _, _, _, _, _, _, _, _, _] rfl rfl rfl sz58 rfl rfl rfl rfl ?_)
    refine ow_nil (seqK_n (cw_seq (cw_region (ol rfl (lo_move (v := .pointer (some ⟨_, _, none⟩)) rfl) ?_))))
    refine ow1 (op1_pm 0 rfl (in_Text _ i_b q102.2 64 (by omega)) (en_f cb192 rfl) rfl ?_)
    rintro _ _ _ ⟨rfl, rfl, rfl⟩ _
    generalize hq110 : inText q102.2 64 = q107
    have hf111 := inText_len q102.2 64
    simp only [hq110] at hf111
    refine ol rfl (lo_fieldAddr rfl fl60_4) (ol rfl (lo_fieldAddr rfl fl58_3) ?_)
    refine ow1 (op1_store1n (i := 2) (v := str _) [_, _, _, _, _, _, _, _, _, _, _, _, _, _, _, _, _, _, _, _, _, _, _, _, _, _, _, _, _] rfl rfl rfl sz9 rfl rfl rfl ?_)
    refine ow_nil (seqK_n (cw_seq (cw_region (ol rfl (lo_move (v := .pointer (some ⟨_, _, none⟩)) rfl) ?_))))
    refine ow1 (op1_pm 0 rfl (head_Read _ i_b q107.2) (en_f cb194 rfl) rfl ?_)
    rintro _ H117 _ ⟨a113, c114, rfl, rfl, hs115⟩ hl116
    generalize hq118 : headRead q107.2 = q112
    simp only [hq118] at hs115
    have hf119 := headRead_len q107.2
    simp only [hq118] at hf119
    refine ol rfl (lo_fieldAddr rfl fl60_4) (ol rfl (lo_fieldAddr rfl fl58_4) ?_)
    refine ow1 (op1_store1n (i := 2) (v := .slice _ _ _) [_, _, _, _, _, _, _, _, _, _, _, _, _, _, _, _, _, _, _, _, _, _, _, _, _, _, _, _, _] rfl rfl rfl sz26 rfl rfl rfl ?_)
    refine ow_nil (seqK_n (cw_region (ol rfl (lo_move (v := .pointer (some ⟨_, _, none⟩)) rfl) ?_)))
    refine ow1 (op1_pm 0 rfl (in_Num _ i_b q112.2 1 (by omega)) (en_f cb154 rfl) rfl ?_)
    rintro _ _ _ ⟨rfl, rfl, rfl⟩ _
    generalize hq123 : inNum q112.2 1 = q120
    have hf124 := inNum_r q112.2 1
    simp only [hq123] at hf124
    refine ol rfl (lo_eql rfl rfl) (ol rfl (lo_fieldAddr rfl fl60_4) (ol rfl (lo_fieldAddr rfl fl58_5) ?_))
    refine ow1 (op1_store1n (i := 2) (v := .bool _) [_, _, _, _, _, _, _, _, _, _, _, _, _, _, _, _, _, _, _, _, _, _, _, _, _, _, _, _, _] rfl rfl rfl sz4 rfl rfl rfl ?_)
    refine ow_nil (blkK_n (seqK_n (cw_seq (cw_region (ol rfl (lo_loadA (i := 2) (vs := [_, _, _, _, _, _, _, _, _, _, _, _, _, _, _, _, _, _, _, _, _, _, _, _, _, _, _, _, _]) rfl ag60 sz60 rfl rfl rfl) ?_)))))
    refine ow1 (op1_storeAll (i := 1) (vs := [_, _, _, _, _, _, _, _, _, _, _, _, _, _, _, _, _, _, _, _, _, _, _, _, _, _, _, _, _]) rfl rfl rfl sz60 rfl rfl rfl ?_)
    refine ow_nil (seqK_n (cw_ret (fnK_r (res1 rfl (rv_c (i := 1) (vs := [_, _, _, _, _, _, _, _, _, _, _, _, _, _, _, _, _, _, _, _, _, _, _, _, _, _, _, _, _]) rfl ag60 sz60 rfl rfl rfl)) ((HLe.refl _).trans hl116) ?_)))
    refine ⟨_, rfl, ?_⟩
    have e : readD i = ((⟨q2.1, q7.1, (⟨[], 0, []⟩ : ShopR), (⟨[], 0, 0, []⟩ : QueueR), (⟨q92.1, q97.1, decide (q102.1 = 1), q107.1, q112.1, decide (q120.1 = 1)⟩ : BindR), [], 0, 0, 0, 0, 0, (⟨0, [], [], [], [], 0, 0⟩ : Mail), []⟩ : DeedR), q120.2) := by unfold readD readK; simp only [DeedR.blank, bindRead]; (repeat first | simp only [hq5, hq10, hq95, hq100, hq105, hq110, hq118, hq123] | rw [if_pos (by omega)] | rw [if_neg (by omega)]); all_goals first | rfl | (simp [*]; done) | (simp [*]; rfl)
    rw [e]
    exact ⟨_, _, _, _, rfl, rfl, hs115, slh_nil⟩
  have p125 := df h90
  refine cw_seq (cw_region (ol rfl (lo_eql rfl rfl) (oab rfl rfl (ow_nil (seqK_n ?_)))))
  refine cw_cond rfl (fun h126 => ?_) (fun h126 => ?_)
  · have p127 := dt h126
    refine cw_region (ol rfl (lo_move (v := .pointer (some ⟨_, _, none⟩)) rfl) ?_)
    refine ow1 (op1_pm 0 rfl (mail_Read _ i_b q7.2 hML) (en_f cb214 rfl) rfl ?_)
    rintro _ H133 _ ⟨a129, c130, rfl, rfl, hs131⟩ hl132
    generalize hq134 : mailRead q7.2 = q128
    simp only [hq134] at hs131
    have hf135 := mailRead_wf q7.2
    simp only [hq134] at hf135
    refine ol rfl (lo_fieldAddr rfl fl60_11) ?_
    refine ow1 (op1_storeAp (i := 2) (vs := [_, _, _, _, _, _, _]) [_, _, _, _, _, _, _, _, _, _, _, _, _, _, _, _, _, _, _, _, _, _, _, _, _, _, _, _, _] rfl rfl rfl sz28 rfl rfl rfl rfl ?_)
    refine ow_nil (blkK_n (seqK_n (cw_seq (cw_region (ol rfl (lo_loadA (i := 2) (vs := [_, _, _, _, _, _, _, _, _, _, _, _, _, _, _, _, _, _, _, _, _, _, _, _, _, _, _, _, _]) rfl ag60 sz60 rfl rfl rfl) ?_)))))
    refine ow1 (op1_storeAll (i := 1) (vs := [_, _, _, _, _, _, _, _, _, _, _, _, _, _, _, _, _, _, _, _, _, _, _, _, _, _, _, _, _]) rfl rfl rfl sz60 rfl rfl rfl ?_)
    refine ow_nil (seqK_n (cw_ret (fnK_r (res1 rfl (rv_c (i := 1) (vs := [_, _, _, _, _, _, _, _, _, _, _, _, _, _, _, _, _, _, _, _, _, _, _, _, _, _, _, _, _]) rfl ag60 sz60 rfl rfl rfl)) ((HLe.refl _).trans hl132) ?_)))
    refine ⟨_, rfl, ?_⟩
    have e : readD i = ((⟨q2.1, q7.1, (⟨[], 0, []⟩ : ShopR), (⟨[], 0, 0, []⟩ : QueueR), (⟨[], [], false, [], [], false⟩ : BindR), [], 0, 0, 0, 0, 0, q128.1, []⟩ : DeedR), q128.2) := by unfold readD readK; simp only [DeedR.blank, bindRead]; (repeat first | simp only [hq5, hq10, hq134] | rw [if_pos (by omega)] | rw [if_neg (by omega)]); all_goals first | rfl | (simp [*]; done) | (simp [*]; rfl)
    rw [e]
    exact ⟨_, _, _, _, rfl, rfl, slh_nil, hs131⟩
  have p136 := df h126
  refine cw_seq (cw_seq (cw_region (ol rfl (lo_eql rfl rfl) (oab rfl rfl (ow_nil ?_)))))
  refine seqK_n (cw_cond rfl (fun h137 => ?_) (fun h137 => ?_))
  · have p138 := dt h137
    refine cw_skip (seqK_n (cw_cond_t rfl h137 (cw_region (ol rfl (lo_move (v := .pointer (some ⟨_, _, none⟩)) rfl) ?_))))
    refine ow1 (op1_pm 0 rfl (in_Text _ i_b q7.2 16 (by omega)) (en_f cb192 rfl) rfl ?_)
    rintro _ _ _ ⟨rfl, rfl, rfl⟩ _
    generalize hq142 : inText q7.2 16 = q139
    have hf143 := inText_len q7.2 16
    simp only [hq142] at hf143
    refine ol rfl (lo_fieldAddr rfl fl60_5) ?_
    refine ow1 (op1_store1n (i := 2) (v := str _) [_, _, _, _, _, _, _, _, _, _, _, _, _, _, _, _, _, _, _, _, _, _, _, _, _, _, _, _, _] rfl rfl rfl sz9 rfl rfl rfl ?_)
    refine ow_nil (blkK_n (seqK_n (cw_seq (cw_region (ol rfl (lo_loadA (i := 2) (vs := [_, _, _, _, _, _, _, _, _, _, _, _, _, _, _, _, _, _, _, _, _, _, _, _, _, _, _, _, _]) rfl ag60 sz60 rfl rfl rfl) ?_)))))
    refine ow1 (op1_storeAll (i := 1) (vs := [_, _, _, _, _, _, _, _, _, _, _, _, _, _, _, _, _, _, _, _, _, _, _, _, _, _, _, _, _]) rfl rfl rfl sz60 rfl rfl rfl ?_)
    refine ow_nil (seqK_n (cw_ret (fnK_r (res1 rfl (rv_c (i := 1) (vs := [_, _, _, _, _, _, _, _, _, _, _, _, _, _, _, _, _, _, _, _, _, _, _, _, _, _, _, _, _]) rfl ag60 sz60 rfl rfl rfl)) (.refl _) ?_)))
    refine ⟨_, rfl, ?_⟩
    have e : readD i = ((⟨q2.1, q7.1, (⟨[], 0, []⟩ : ShopR), (⟨[], 0, 0, []⟩ : QueueR), (⟨[], [], false, [], [], false⟩ : BindR), q139.1, 0, 0, 0, 0, 0, (⟨0, [], [], [], [], 0, 0⟩ : Mail), []⟩ : DeedR), q139.2) := by unfold readD readK; simp only [DeedR.blank, bindRead]; (repeat first | simp only [hq5, hq10, hq142] | rw [if_pos (by omega)] | rw [if_neg (by omega)]); all_goals first | rfl | (simp [*]; done) | (simp [*]; rfl)
    rw [e]
    exact ⟨_, _, _, _, rfl, rfl, slh_nil, slh_nil⟩
  have p144 := df h137
  refine cw_seq (cw_region (ol rfl (lo_eql rfl rfl) (oab rfl rfl (ow_nil (seqK_n ?_)))))
  refine cw_cond rfl (fun h145 => ?_) (fun h145 => ?_)
  · have p146 := dt h145
    refine cw_skip (seqK_n (cw_cond_t rfl h145 (cw_region (ol rfl (lo_move (v := .pointer (some ⟨_, _, none⟩)) rfl) ?_))))
    refine ow1 (op1_pm 0 rfl (in_Text _ i_b q7.2 16 (by omega)) (en_f cb192 rfl) rfl ?_)
    rintro _ _ _ ⟨rfl, rfl, rfl⟩ _
    generalize hq150 : inText q7.2 16 = q147
    have hf151 := inText_len q7.2 16
    simp only [hq150] at hf151
    refine ol rfl (lo_fieldAddr rfl fl60_5) ?_
    refine ow1 (op1_store1n (i := 2) (v := str _) [_, _, _, _, _, _, _, _, _, _, _, _, _, _, _, _, _, _, _, _, _, _, _, _, _, _, _, _, _] rfl rfl rfl sz9 rfl rfl rfl ?_)
    refine ow_nil (blkK_n (seqK_n (cw_seq (cw_region (ol rfl (lo_loadA (i := 2) (vs := [_, _, _, _, _, _, _, _, _, _, _, _, _, _, _, _, _, _, _, _, _, _, _, _, _, _, _, _, _]) rfl ag60 sz60 rfl rfl rfl) ?_)))))
    refine ow1 (op1_storeAll (i := 1) (vs := [_, _, _, _, _, _, _, _, _, _, _, _, _, _, _, _, _, _, _, _, _, _, _, _, _, _, _, _, _]) rfl rfl rfl sz60 rfl rfl rfl ?_)
    refine ow_nil (seqK_n (cw_ret (fnK_r (res1 rfl (rv_c (i := 1) (vs := [_, _, _, _, _, _, _, _, _, _, _, _, _, _, _, _, _, _, _, _, _, _, _, _, _, _, _, _, _]) rfl ag60 sz60 rfl rfl rfl)) (.refl _) ?_)))
    refine ⟨_, rfl, ?_⟩
    have e : readD i = ((⟨q2.1, q7.1, (⟨[], 0, []⟩ : ShopR), (⟨[], 0, 0, []⟩ : QueueR), (⟨[], [], false, [], [], false⟩ : BindR), q147.1, 0, 0, 0, 0, 0, (⟨0, [], [], [], [], 0, 0⟩ : Mail), []⟩ : DeedR), q147.2) := by unfold readD readK; simp only [DeedR.blank, bindRead]; (repeat first | simp only [hq5, hq10, hq150] | rw [if_pos (by omega)] | rw [if_neg (by omega)]); all_goals first | rfl | (simp [*]; done) | (simp [*]; rfl)
    rw [e]
    exact ⟨_, _, _, _, rfl, rfl, slh_nil, slh_nil⟩
  have p152 := df h145
  refine cw_region (ol rfl (lo_eql rfl rfl) (oab rfl rfl (ow_nil (seqK_n (cw_cond rfl (fun h153 => ?_) (fun h153 => ?_))))))
  · have p154 := dt h153
    refine cw_region (ol rfl (lo_move (v := .pointer (some ⟨_, _, none⟩)) rfl) ?_)
    refine ow1 (op1_pm 0 rfl (in_Text _ i_b q7.2 16 (by omega)) (en_f cb192 rfl) rfl ?_)
    rintro _ _ _ ⟨rfl, rfl, rfl⟩ _
    generalize hq158 : inText q7.2 16 = q155
    have hf159 := inText_len q7.2 16
    simp only [hq158] at hf159
    refine ol rfl (lo_fieldAddr rfl fl60_5) ?_
    refine ow1 (op1_store1n (i := 2) (v := str _) [_, _, _, _, _, _, _, _, _, _, _, _, _, _, _, _, _, _, _, _, _, _, _, _, _, _, _, _, _] rfl rfl rfl sz9 rfl rfl rfl ?_)
    refine ow_nil (blkK_n (seqK_n (cw_seq (cw_region (ol rfl (lo_loadA (i := 2) (vs := [_, _, _, _, _, _, _, _, _, _, _, _, _, _, _, _, _, _, _, _, _, _, _, _, _, _, _, _, _]) rfl ag60 sz60 rfl rfl rfl) ?_)))))
    refine ow1 (op1_storeAll (i := 1) (vs := [_, _, _, _, _, _, _, _, _, _, _, _, _, _, _, _, _, _, _, _, _, _, _, _, _, _, _, _, _]) rfl rfl rfl sz60 rfl rfl rfl ?_)
    refine ow_nil (seqK_n (cw_ret (fnK_r (res1 rfl (rv_c (i := 1) (vs := [_, _, _, _, _, _, _, _, _, _, _, _, _, _, _, _, _, _, _, _, _, _, _, _, _, _, _, _, _]) rfl ag60 sz60 rfl rfl rfl)) (.refl _) ?_)))
    refine ⟨_, rfl, ?_⟩
    have e : readD i = ((⟨q2.1, q7.1, (⟨[], 0, []⟩ : ShopR), (⟨[], 0, 0, []⟩ : QueueR), (⟨[], [], false, [], [], false⟩ : BindR), q155.1, 0, 0, 0, 0, 0, (⟨0, [], [], [], [], 0, 0⟩ : Mail), []⟩ : DeedR), q155.2) := by unfold readD readK; simp only [DeedR.blank, bindRead]; (repeat first | simp only [hq5, hq10, hq158] | rw [if_pos (by omega)] | rw [if_neg (by omega)]); all_goals first | rfl | (simp [*]; done) | (simp [*]; rfl)
    rw [e]
    exact ⟨_, _, _, _, rfl, rfl, slh_nil, slh_nil⟩
  have p160 := df h153
  refine cw_seq (cw_region (ol rfl (lo_eql rfl rfl) (oab rfl rfl (ow_nil (seqK_n ?_)))))
  refine cw_cond rfl (fun h161 => ?_) (fun h161 => ?_)
  · have p162 := dt h161
    refine cw_region (ol rfl (lo_move (v := .pointer (some ⟨_, _, none⟩)) rfl) ?_)
    refine ow1 (op1_pm 0 rfl (in_Text _ i_b q7.2 16 (by omega)) (en_f cb192 rfl) rfl ?_)
    rintro _ _ _ ⟨rfl, rfl, rfl⟩ _
    generalize hq166 : inText q7.2 16 = q163
    have hf167 := inText_len q7.2 16
    simp only [hq166] at hf167
    refine ol rfl (lo_move (v := .pointer (some ⟨_, _, none⟩)) rfl) ?_
    refine ow1 (op1_pm 0 rfl (in_Num _ i_b q163.2 8 (by omega)) (en_f cb154 rfl) rfl ?_)
    rintro _ _ _ ⟨rfl, rfl, rfl⟩ _
    generalize hq171 : inNum q163.2 8 = q168
    have hf172 := inNum_r q163.2 8
    simp only [hq171] at hf172
    refine ol rfl (lo_move (v := .pointer (some ⟨_, _, none⟩)) rfl) ?_
    refine ow1 (op1_pm 0 rfl (in_Num _ i_b q168.2 1 (by omega)) (en_f cb154 rfl) rfl ?_)
    rintro _ _ _ ⟨rfl, rfl, rfl⟩ _
    generalize hq176 : inNum q168.2 1 = q173
    have hf177 := inNum_r q168.2 1
    simp only [hq176] at hf177
    refine ol rfl (lo_conv_in rfl (by rw [Tryz.underlying25]; rfl) Tryz.underlying5 (rg_u8 (by omega))) (ol rfl (lo_fieldAddr rfl fl60_5) ?_)
    refine ow1 (op1_store1n (i := 2) (v := str _) [_, _, _, _, _, _, _, _, _, _, _, _, _, _, _, _, _, _, _, _, _, _, _, _, _, _, _, _, _] rfl rfl rfl sz9 rfl rfl rfl ?_)
    refine ol rfl (lo_fieldAddr rfl fl60_6) ?_
    refine ow1 (op1_store1n (i := 2) (v := .int _ _) [_, _, _, _, _, _, _, _, _, _, _, _, _, _, _, _, _, _, _, _, _, _, _, _, _, _, _, _, _] rfl rfl rfl sz25 rfl rfl rfl ?_)
    refine ol rfl (lo_fieldAddr rfl fl60_7) ?_
    refine ow1 (op1_store1n (i := 2) (v := .int _ _) [_, _, _, _, _, _, _, _, _, _, _, _, _, _, _, _, _, _, _, _, _, _, _, _, _, _, _, _, _] rfl rfl rfl sz5 rfl rfl rfl ?_)
    refine ow_nil (blkK_n (seqK_n (cw_seq (cw_region (ol rfl (lo_loadA (i := 2) (vs := [_, _, _, _, _, _, _, _, _, _, _, _, _, _, _, _, _, _, _, _, _, _, _, _, _, _, _, _, _]) rfl ag60 sz60 rfl rfl rfl) ?_)))))
    refine ow1 (op1_storeAll (i := 1) (vs := [_, _, _, _, _, _, _, _, _, _, _, _, _, _, _, _, _, _, _, _, _, _, _, _, _, _, _, _, _]) rfl rfl rfl sz60 rfl rfl rfl ?_)
    refine ow_nil (seqK_n (cw_ret (fnK_r (res1 rfl (rv_c (i := 1) (vs := [_, _, _, _, _, _, _, _, _, _, _, _, _, _, _, _, _, _, _, _, _, _, _, _, _, _, _, _, _]) rfl ag60 sz60 rfl rfl rfl)) (.refl _) ?_)))
    refine ⟨_, rfl, ?_⟩
    have e : readD i = ((⟨q2.1, q7.1, (⟨[], 0, []⟩ : ShopR), (⟨[], 0, 0, []⟩ : QueueR), (⟨[], [], false, [], [], false⟩ : BindR), q163.1, q168.1, q173.1, 0, 0, 0, (⟨0, [], [], [], [], 0, 0⟩ : Mail), []⟩ : DeedR), q173.2) := by unfold readD readK; simp only [DeedR.blank, bindRead]; (repeat first | simp only [hq5, hq10, hq166, hq171, hq176] | rw [if_pos (by omega)] | rw [if_neg (by omega)]); all_goals first | rfl | (simp [*]; done) | (simp [*]; rfl)
    rw [e]
    exact ⟨_, _, _, _, rfl, rfl, slh_nil, slh_nil⟩
  have p178 := df h161
  refine cw_seq (cw_region (ol rfl (lo_eql rfl rfl) (oab rfl rfl (ow_nil (seqK_n ?_)))))
  refine cw_cond rfl (fun h179 => ?_) (fun h179 => ?_)
  · have p180 := dt h179
    refine cw_region (ol rfl (lo_move (v := .pointer (some ⟨_, _, none⟩)) rfl) ?_)
    refine ow1 (op1_pm 0 rfl (in_Num _ i_b q7.2 1 (by omega)) (en_f cb154 rfl) rfl ?_)
    rintro _ _ _ ⟨rfl, rfl, rfl⟩ _
    generalize hq184 : inNum q7.2 1 = q181
    have hf185 := inNum_r q7.2 1
    simp only [hq184] at hf185
    refine ol rfl (lo_conv_in rfl (by rw [Tryz.underlying25]; rfl) Tryz.underlying5 (rg_u8 (by omega))) (ol rfl (lo_move (v := .pointer (some ⟨_, _, none⟩)) rfl) ?_)
    refine ow1 (op1_pm 0 rfl (in_Num _ i_b q181.2 8 (by omega)) (en_f cb154 rfl) rfl ?_)
    rintro _ _ _ ⟨rfl, rfl, rfl⟩ _
    generalize hq189 : inNum q181.2 8 = q186
    have hf190 := inNum_r q181.2 8
    simp only [hq189] at hf190
    refine ol rfl (lo_move (v := .pointer (some ⟨_, _, none⟩)) rfl) ?_
    refine ow1 (op1_pm 0 rfl (mail_Read _ i_b q186.2 hML) (en_f cb214 rfl) rfl ?_)
    rintro _ H196 _ ⟨a192, c193, rfl, rfl, hs194⟩ hl195
    generalize hq197 : mailRead q186.2 = q191
    simp only [hq197] at hs194
    have hf198 := mailRead_wf q186.2
    simp only [hq197] at hf198
    refine ol rfl (lo_fieldAddr rfl fl60_8) ?_
    refine ow1 (op1_store1n (i := 2) (v := .int _ _) [_, _, _, _, _, _, _, _, _, _, _, _, _, _, _, _, _, _, _, _, _, _, _, _, _, _, _, _, _] rfl rfl rfl sz5 rfl rfl rfl ?_)
    refine ol rfl (lo_fieldAddr rfl fl60_10) ?_
    refine ow1 (op1_store1n (i := 2) (v := .int _ _) [_, _, _, _, _, _, _, _, _, _, _, _, _, _, _, _, _, _, _, _, _, _, _, _, _, _, _, _, _] rfl rfl rfl sz25 rfl rfl rfl ?_)
    refine ol rfl (lo_fieldAddr rfl fl60_11) ?_
    refine ow1 (op1_storeAp (i := 2) (vs := [_, _, _, _, _, _, _]) [_, _, _, _, _, _, _, _, _, _, _, _, _, _, _, _, _, _, _, _, _, _, _, _, _, _, _, _, _] rfl rfl rfl sz28 rfl rfl rfl rfl ?_)
    refine ow_nil (blkK_n (seqK_n (cw_seq (cw_region (ol rfl (lo_loadA (i := 2) (vs := [_, _, _, _, _, _, _, _, _, _, _, _, _, _, _, _, _, _, _, _, _, _, _, _, _, _, _, _, _]) rfl ag60 sz60 rfl rfl rfl) ?_)))))
    refine ow1 (op1_storeAll (i := 1) (vs := [_, _, _, _, _, _, _, _, _, _, _, _, _, _, _, _, _, _, _, _, _, _, _, _, _, _, _, _, _]) rfl rfl rfl sz60 rfl rfl rfl ?_)
    refine ow_nil (seqK_n (cw_ret (fnK_r (res1 rfl (rv_c (i := 1) (vs := [_, _, _, _, _, _, _, _, _, _, _, _, _, _, _, _, _, _, _, _, _, _, _, _, _, _, _, _, _]) rfl ag60 sz60 rfl rfl rfl)) ((HLe.refl _).trans hl195) ?_)))
    refine ⟨_, rfl, ?_⟩
    have e : readD i = ((⟨q2.1, q7.1, (⟨[], 0, []⟩ : ShopR), (⟨[], 0, 0, []⟩ : QueueR), (⟨[], [], false, [], [], false⟩ : BindR), [], 0, 0, q181.1, 0, q186.1, q191.1, []⟩ : DeedR), q191.2) := by unfold readD readK; simp only [DeedR.blank, bindRead]; (repeat first | simp only [hq5, hq10, hq184, hq189, hq197] | rw [if_pos (by omega)] | rw [if_neg (by omega)]); all_goals first | rfl | (simp [*]; done) | (simp [*]; rfl)
    rw [e]
    exact ⟨_, _, _, _, rfl, rfl, slh_nil, hs194⟩
  have p199 := df h179
  refine cw_seq (cw_region (ol rfl (lo_eql rfl rfl) (oab rfl rfl (ow_nil (seqK_n ?_)))))
  refine cw_cond rfl (fun h200 => ?_) (fun h200 => ?_)
  · have p201 := dt h200
    refine cw_region (ol rfl (lo_move (v := .pointer (some ⟨_, _, none⟩)) rfl) ?_)
    refine ow1 (op1_pm 0 rfl (in_Num _ i_b q7.2 1 (by omega)) (en_f cb154 rfl) rfl ?_)
    rintro _ _ _ ⟨rfl, rfl, rfl⟩ _
    generalize hq205 : inNum q7.2 1 = q202
    have hf206 := inNum_r q7.2 1
    simp only [hq205] at hf206
    refine ol rfl (lo_conv_in rfl (by rw [Tryz.underlying25]; rfl) Tryz.underlying5 (rg_u8 (by omega))) (ol rfl (lo_move (v := .pointer (some ⟨_, _, none⟩)) rfl) ?_)
    refine ow1 (op1_pm 0 rfl (in_Text _ i_b q202.2 64 (by omega)) (en_f cb192 rfl) rfl ?_)
    rintro _ _ _ ⟨rfl, rfl, rfl⟩ _
    generalize hq210 : inText q202.2 64 = q207
    have hf211 := inText_len q202.2 64
    simp only [hq210] at hf211
    refine ol rfl (lo_fieldAddr rfl fl60_9) ?_
    refine ow1 (op1_store1n (i := 2) (v := .int _ _) [_, _, _, _, _, _, _, _, _, _, _, _, _, _, _, _, _, _, _, _, _, _, _, _, _, _, _, _, _] rfl rfl rfl sz5 rfl rfl rfl ?_)
    refine ol rfl (lo_fieldAddr rfl fl60_12) ?_
    refine ow1 (op1_store1n (i := 2) (v := str _) [_, _, _, _, _, _, _, _, _, _, _, _, _, _, _, _, _, _, _, _, _, _, _, _, _, _, _, _, _] rfl rfl rfl sz9 rfl rfl rfl ?_)
    refine ow_nil (blkK_n (seqK_n (cw_seq (cw_region (ol rfl (lo_loadA (i := 2) (vs := [_, _, _, _, _, _, _, _, _, _, _, _, _, _, _, _, _, _, _, _, _, _, _, _, _, _, _, _, _]) rfl ag60 sz60 rfl rfl rfl) ?_)))))
    refine ow1 (op1_storeAll (i := 1) (vs := [_, _, _, _, _, _, _, _, _, _, _, _, _, _, _, _, _, _, _, _, _, _, _, _, _, _, _, _, _]) rfl rfl rfl sz60 rfl rfl rfl ?_)
    refine ow_nil (seqK_n (cw_ret (fnK_r (res1 rfl (rv_c (i := 1) (vs := [_, _, _, _, _, _, _, _, _, _, _, _, _, _, _, _, _, _, _, _, _, _, _, _, _, _, _, _, _]) rfl ag60 sz60 rfl rfl rfl)) (.refl _) ?_)))
    refine ⟨_, rfl, ?_⟩
    have e : readD i = ((⟨q2.1, q7.1, (⟨[], 0, []⟩ : ShopR), (⟨[], 0, 0, []⟩ : QueueR), (⟨[], [], false, [], [], false⟩ : BindR), [], 0, 0, 0, q202.1, 0, (⟨0, [], [], [], [], 0, 0⟩ : Mail), q207.1⟩ : DeedR), q207.2) := by unfold readD readK; simp only [DeedR.blank, bindRead]; (repeat first | simp only [hq5, hq10, hq205, hq210] | rw [if_pos (by omega)] | rw [if_neg (by omega)]); all_goals first | rfl | (simp [*]; done) | (simp [*]; rfl)
    rw [e]
    exact ⟨_, _, _, _, rfl, rfl, slh_nil, slh_nil⟩
  have p212 := df h200
  refine cw_skip (blkK_n (seqK_n (cw_seq (cw_region (ol rfl (lo_loadA (i := 2) (vs := [_, _, _, _, _, _, _, _, _, _, _, _, _, _, _, _, _, _, _, _, _, _, _, _, _, _, _, _, _]) rfl ag60 sz60 rfl rfl rfl) ?_)))))
  refine ow1 (op1_storeAll (i := 1) (vs := [_, _, _, _, _, _, _, _, _, _, _, _, _, _, _, _, _, _, _, _, _, _, _, _, _, _, _, _, _]) rfl rfl rfl sz60 rfl rfl rfl ?_)
  refine ow_nil (seqK_n (cw_ret (fnK_r (res1 rfl (rv_c (i := 1) (vs := [_, _, _, _, _, _, _, _, _, _, _, _, _, _, _, _, _, _, _, _, _, _, _, _, _, _, _, _, _]) rfl ag60 sz60 rfl rfl rfl)) (.refl _) ?_)))
  refine ⟨_, rfl, ?_⟩
  have e : readD i = ((⟨q2.1, q7.1, (⟨[], 0, []⟩ : ShopR), (⟨[], 0, 0, []⟩ : QueueR), (⟨[], [], false, [], [], false⟩ : BindR), [], 0, 0, 0, 0, 0, (⟨0, [], [], [], [], 0, 0⟩ : Mail), []⟩ : DeedR), q7.2) := by unfold readD readK; simp only [DeedR.blank, bindRead]; (repeat first | simp only [hq5, hq10] | rw [if_pos (by omega)] | rw [if_neg (by omega)]); all_goals first | rfl | (simp [*]; done) | (simp [*]; rfl)
  rw [e]
  exact ⟨_, _, _, _, rfl, rfl, slh_nil, slh_nil⟩
end Go.SW
set_option linter.unusedVariables false
set_option maxRecDepth 100000
set_option maxHeartbeats 4000000
namespace Go.SW
open Go.Proofs
end Go.SW
set_option linter.unusedVariables false
set_option maxRecDepth 100000
set_option maxHeartbeats 4000000
namespace Go.SW
open Go.Proofs
end Go.SW
set_option linter.unusedVariables false
set_option maxRecDepth 100000
set_option maxHeartbeats 4000000
namespace Go.SW
open Go.Proofs
theorem cb156 : Callable Tryz.prog 156 := callable_of Tryz.func156 (by kernel_rfl) (by kernel_rfl)
theorem cb70 : Callable Tryz.prog 70 := callable_of Tryz.func70 (by kernel_rfl) (by kernel_rfl)
theorem cb71 : Callable Tryz.prog 71 := callable_of Tryz.func71 (by kernel_rfl) (by kernel_rfl)
theorem zx60 : ∃ z, ∀ w, (zeroValue 60).run Tryz.prog w = .ok z w := ⟨.agg #[.int .u8 0, .int .u64 0, str [], .int .u8 0, str [], str [], .int .u64 0, .int .u64 0, str [], str [], str [], .bool false, str [], .slice none 0 0, .bool false, str [], .int .u64 0, .int .u8 0, .int .u8 0, .int .u8 0, .int .u64 0, .int .u64 0, str [], str [], .slice none 0 0, str [], .int .u64 0, .int .u8 0, str []], fun w => by kernel_rfl⟩
theorem deed_Unpack (H : Hp) (text : Bs) (hML : GInt H 2) (hs : text.length ≤ 4611686018427387904) : Ph Tryz.prog 72 #[str text] H (fun v H' => ∃ (a1 : Option Addr) (c1 : Nat), v = .tuple #[.slice a1 ((unpackD text).1).length c1, .int .i64 ((unpackD text).2)] ∧ SlH deedRE 29 H' (.slice a1 ((unpackD text).1).length c1) ((unpackD text).1)) := by
  refine ph_cw Tryz.func72 rfl Tryz.ntmps72 rfl (fun N => ?_)
  refine cw_seq (cw_region (ol rfl (lo_assign (v := .slice _ _ _) rfl) (oai rfl rfl (ow_nil (seqK_n ?_)))))
  refine cw_seq (cw_region (ol rfl (lo_move (v := str _) rfl) ?_))
  refine ow1 (op1_pn 0 (octet_New _ text) (en_f cb95 rfl) rfl ?_)
  rintro _ _ b3 _ ⟨rfl, rfl, rfl⟩ _
  refine ol rfl (lo_assign (v := .pointer (some ⟨_, _, none⟩)) rfl) (ow_nil (seqK_n (cw_seq (cw_region (ol rfl (lo_assign (v := .slice _ _ _) rfl) ?_)))))
  refine ow_nil (seqK_n (cw_seq (cw_seq (cw_region (ol rfl (lo_move (v := .pointer (some ⟨_, _, none⟩)) rfl) ?_)))))
  refine ow1 (op1_pm 0 rfl (in_Num _ b3 (⟨text, 0⟩) 1 (by omega)) (en_f cb154 rfl) rfl ?_)
  rintro _ _ _ ⟨rfl, rfl, rfl⟩ _
  generalize hq7 : inNum (⟨text, 0⟩) 1 = q4
  have hf8 := inNum_r (⟨text, 0⟩) 1
  simp only [hq7] at hf8
  refine oai rfl rfl (ow_nil (seqK_n (cw_block ?_)))
  refine cw_loop6 [5, 6, 13, 14, 15, 16, 17, 18, 19, 20, 21, 22, 23, 24, 25, 26] [0, 1, 9] (fun (m : Nat) (j : In) (out : List DeedR) (v : Value) (en : Option (Nat × Obj)) (cs : List Value) G => upd (upd (G) 6 (.int .u64 (m : Int))) 5 (v)) (fun (m : Nat) (j : In) (out : List DeedR) (v : Value) (en : Option (Nat × Obj)) (cs : List Value) G => lupd (lupd (G) 0 (some (b3, bx 252 (In.cells j)))) 9 (en)) (fun (m : Nat) (j : In) (out : List DeedR) (v : Value) (en : Option (Nat × Obj)) (cs : List Value) H' => unpackGo (inNum ⟨text, 0⟩ 1).1.toNat (inNum ⟨text, 0⟩ 1).2 [] = unpackGo m j out ∧ m ≤ 255 ∧ out.length + m ≤ 255 ∧ OwnV 29 60 v en out.length cs ∧ Rl deedRE H' out cs) (fun (m : Nat) (j : In) (out : List DeedR) (v : Value) (en : Option (Nat × Obj)) (cs : List Value) => m) q4.1.toNat q4.2 [] (.slice none 0 0) none [] (upd_intro (upd_intro (mask_intro (by first | exact off_refl | (repeat (first | exact off_mask | refine off_upd rfl ?_ | refine off_mask2 rfl ?_)))) (congrArg (Value.int .u64) (by omega))) rfl) (lupd_intro (lupd_intro (lmask_intro offl_refl) rfl) rfl) ?_ ?_
  · refine ⟨by rw [hq7], by omega, by simp; omega, ownV_nil, rl_nil⟩
  intro m j out v en cs J10 JL10 H10 hp9 hl10
  obtain ⟨hk1, hk2, hk3, ho, hw⟩ := hp9
  refine cw_seq (cw_seq (cw_region (omi rfl rfl (ol rfl (lo_gtr rfl rfl) (omb rfl rfl ?_)))))
  refine ow_sp (j := 2) rfl (fun h11 => ?_) (fun h11 => ?_)
  · have p12 := dt h11
    refine ow1 (op1_g rfl h11 rfl (lo_move (v := .pointer (some ⟨_, _, none⟩)) rfl) ?_)
    refine ow1 (op1_pmg 0 rfl h11 rfl (in_Err _ b3 j) (en_f cb155 rfl) rfl ?_)
    rintro _ _ _ ⟨rfl, rfl, rfl⟩ _
    refine ow1 (op1_g rfl h11 rfl (lo_eql rfl rfl) ?_)
    refine ol rfl (lo_pick_t (v := .bool _) rfl h11 rfl) (ow_nil (seqK_n (cw_cond rfl (fun h15 => ?_) (fun h15 => ?_))))
    · have p16 := dt h15
      refine cw_skip (seqK_n (cw_seq (cw_block (cw_region (ol rfl (lo_move rfl) ?_)))))
      refine ol rfl (lo_move (v := .pointer (some ⟨_, _, none⟩)) rfl) ?_
      refine ow1 (op1_pm 0 rfl (deed_read _ b3 j (hML.mono ((HLe.refl _).trans hl10))) (en_f cb156 rfl) rfl ?_)
      rintro _ H25 _ ⟨a18, c19, a21, c22, rfl, rfl, hs20, hs23⟩ hl24
      generalize hq26 : readD j = q17
      simp only [hq26] at hs20 hs23
      have hf27 := readD_wf j
      simp only [hq26] at hf27
      refine ow1 (op1_bslice (cs := [_, _, _, _, _, _, _, _, _, _, _, _, _, _, _, _, _, _, _, _, _, _, _, _, _, _, _, _, _]) 1 rfl Tryz.underlying76 sz60 zx60 rfl ⟨rfl, rfl, trivial⟩ rfl rfl (by decide) (fun b28 => ?_))
      refine ow1 (op1_app 9 rfl rfl Tryz.underlying76 Tryz.underlying76 rfl sz60 by60 (by decide) zr60 ho (src_bx (i := 1) rfl rfl) (List.all_eq_true.1 rfl) rfl (by omega) rfl (fun v29 en30 ho31 => ?_))
      have ho32 := ownV_cast (len' := (out ++ [q17.1]).length) ho31 (by simp) rfl
      have hrl33 : Rl deedRE _ (out ++ [q17.1]) _ := rl_app (hw.mono deedRE_mono ((HLe.refl _).trans hl24)) (⟨_, _, rfl, ⟨a18, c19, a21, c22, rfl, hs20, hs23, hf27⟩, rl_nil⟩)
      refine ol rfl (lo_assign rfl) (ow_nil (blkK_n (seqK_n (cw_region (omi rfl rfl ?_)))))
      refine ol rfl (lo_sub rfl rfl (rg_u64 (by omega))) (oai rfl rfl (ow_nil ?_))
      refine next6 (m - 1) q17.2 (out ++ [q17.1]) v29 en30 (cs ++ [.int .u8 q17.1.kind, .int .u64 q17.1.tick, str q17.1.shop.name, .int .u8 q17.1.shop.sort, str q17.1.shop.to, str q17.1.queue.name, .int .u64 q17.1.queue.most, .int .u64 q17.1.queue.life, str q17.1.queue.dead, str q17.1.bind.shop, str q17.1.bind.to, .bool q17.1.bind.up, str q17.1.bind.key, (.slice a18 q17.1.bind.want.length c19), .bool q17.1.bind.all, str q17.1.name, .int .u64 q17.1.id, .int .u8 q17.1.how, .int .u8 q17.1.frm, .int .u8 q17.1.code, .int .u64 q17.1.number, .int .u64 q17.1.mail.id, str q17.1.mail.shop, str q17.1.mail.key, (.slice a21 q17.1.mail.head.length c22), str q17.1.mail.body, .int .u64 q17.1.mail.due, .int .u8 q17.1.mail.hops, str q17.1.text]) (upd_intro (upd_intro (mask_intro (by first | exact off_refl | (repeat (first | exact off_mask | refine off_upd rfl ?_ | refine off_mask2 rfl ?_)))) (congrArg (Value.int .u64) (by omega))) rfl) (lupd_intro (lupd_intro (lmask_intro (by first | exact offl_refl | (repeat (first | exact offl_mask | refine offl_upd rfl ?_ | refine offl_mask2 rfl ?_)))) rfl) rfl) (hl10.trans hl24) ?_ ?_
      · refine ⟨?_, by omega, by simp; omega, ho32, hrl33⟩
        obtain ⟨z, rfl⟩ : ∃ z, m = z + 1 := ⟨m - 1, by omega⟩
        rw [hk1]
        conv => lhs; unfold unpackGo
        rw [if_pos (by omega), hq26]
        rfl
      omega
    have p34 := df h15
    refine cw_exit (seqK_e (loopK_e (blkK_hit (seqK_n (cw_seq ?_)))))
    refine cw_seq (cw_region (ol rfl (lo_move rfl) ?_))
    obtain ⟨a35, c36, rfl⟩ := own_shape ho
    refine ow1 (op1_prl 9 rfl (fun _ hl37 hg38 => (deed_Pack _ a35 out.length c36 out (slh_ownE (E := deedRE) deedRE_wide ho (hw.mono deedRE_mono ((HLe.refl _).trans hl37)) hg38) (hML.mono (((HLe.refl _).trans hl10).trans hl37)))) (en_f cb70 rfl) rfl ?_)
    have hpr := packD_r out
    refine ol rfl (lo_move (v := .tuple #[_, _]) rfl) (ol rfl (lo_extract (v := str _) rfl rfl) (ol rfl (lo_extract (v := .int _ _) rfl rfl) (ol rfl (lo_assign (v := str _) rfl) (oai rfl rfl (ow_nil ?_)))))
    refine seqK_n (cw_seq (cw_region (ol rfl (lo_move (v := .pointer (some ⟨_, _, none⟩)) rfl) ?_)))
    refine ow1 (op1_pm 0 rfl (in_End _ b3 j) (en_f cb97 rfl) rfl ?_)
    rintro _ _ _ ⟨rfl, rfl, rfl⟩ _
    refine ol rfl (lo_neq rfl rfl) (omb rfl rfl (ow_sp (j := 3) rfl (fun h41 => ?_) (fun h41 => ?_)))
    · have h42 := not_t h41
      have p43 := df h42
      refine og rfl h41 rfl (og rfl h41 rfl (ol rfl (lo_pick_t (v := .bool _) rfl h41 rfl) (omb rfl rfl (og rfl rfl rfl (og rfl rfl rfl ?_)))))
      refine og rfl rfl rfl (ol rfl (lo_pick_t (v := .bool _) rfl rfl rfl) (ow_nil (seqK_n (cw_cond_t rfl rfl (cw_seq ?_)))))
      refine cw_region (ol rfl (lo_assign (v := .slice _ _ _) rfl) (oai rfl rfl (ow_nil (seqK_n (cw_ret ?_)))))
      refine seqK_r (fnK_r (res2 rfl (rv_t (v := .slice _ _ _) rfl) (rv_t (v := .int _ _) rfl)) ((HLe.refl _).trans hl10) ?_)
      have hR : unpackGo (inNum ⟨text, 0⟩ 1).1.toNat (inNum ⟨text, 0⟩ 1).2 [] = (out, j) := by rw [hk1]; exact unpackGo_end (by omega)
      have e : unpackD text = ([], 4) := by
        unfold unpackD
        simp only [hR]
        refine if_neg fun hh => ?_
        obtain ⟨h1, h2, h3⟩ := hh
        first | omega | (simp [*] at *; done)
      rw [e]
      exact ⟨none, 0, rfl, slh_nil⟩
    have h44 := not_f h41
    have p45 := dt h44
    refine ow1 (op1_g rfl h41 rfl (lo_move (v := .int _ _) rfl) ?_)
    refine ow1 (op1_g rfl h41 rfl (lo_neq rfl rfl) ?_)
    refine ol rfl (lo_pick_f (v := .bool _) rfl h41 rfl) (omb rfl rfl (ow_sp (j := 7) rfl (fun h46 => ?_) (fun h46 => ?_)))
    · have h47 := not_t h46
      have p48 := df h47
      refine og rfl h46 rfl (og rfl h46 rfl (og rfl h46 rfl (ol rfl (lo_pick_t (v := .bool _) rfl h46 rfl) (ow_nil (seqK_n ?_)))))
      refine cw_cond_t rfl rfl (cw_seq (cw_region (ol rfl (lo_assign (v := .slice _ _ _) rfl) (oai rfl rfl (ow_nil ?_)))))
      refine seqK_n (cw_ret (seqK_r (fnK_r (res2 rfl (rv_t (v := .slice _ _ _) rfl) (rv_t (v := .int _ _) rfl)) ((HLe.refl _).trans hl10) ?_)))
      have hR : unpackGo (inNum ⟨text, 0⟩ 1).1.toNat (inNum ⟨text, 0⟩ 1).2 [] = (out, j) := by rw [hk1]; exact unpackGo_end (by omega)
      have e : unpackD text = ([], 4) := by
        unfold unpackD
        simp only [hR]
        refine if_neg fun hh => ?_
        obtain ⟨h1, h2, h3⟩ := hh
        first | omega | (simp [*] at *; done)
      rw [e]
      exact ⟨none, 0, rfl, slh_nil⟩
    have h49 := not_f h46
    have p50 := dt h49
    refine ow1 (op1_g rfl h46 rfl (lo_move (v := str _) rfl) ?_)
    refine ow1 (op1_g rfl h46 rfl (lo_move (v := str _) rfl) ?_)
    refine ow1 (op1_g rfl h46 rfl (lo_sneq rfl rfl) ?_)
    refine ol rfl (lo_pick_f (v := .bool _) rfl h46 rfl) (ow_nil (seqK_n (cw_cond rfl (fun h51 => ?_) (fun h51 => ?_))))
    · have h52 := not_t h51
      have p53 := df h52
      refine cw_seq (cw_region (ol rfl (lo_assign (v := .slice _ _ _) rfl) (oai rfl rfl (ow_nil (seqK_n ?_)))))
      refine cw_ret (seqK_r (fnK_r (res2 rfl (rv_t (v := .slice _ _ _) rfl) (rv_t (v := .int _ _) rfl)) ((HLe.refl _).trans hl10) ?_))
      have hR : unpackGo (inNum ⟨text, 0⟩ 1).1.toNat (inNum ⟨text, 0⟩ 1).2 [] = (out, j) := by rw [hk1]; exact unpackGo_end (by omega)
      have e : unpackD text = ([], 4) := by
        unfold unpackD
        simp only [hR]
        refine if_neg fun hh => ?_
        obtain ⟨h1, h2, h3⟩ := hh
        first | omega | (simp [*] at *; done)
      rw [e]
      exact ⟨none, 0, rfl, slh_nil⟩
    have h54 := not_f h51
    have p55 := dt h54
    refine cw_skip (seqK_n (cw_seq (cw_region (ol rfl (lo_move rfl) (ol rfl (lo_assign rfl) ?_)))))
    refine oai rfl rfl (ow_nil (seqK_n (cw_giveO 9 rfl (fun _ hl56 hg57 => ?_))))
    have hs58 := slh_ownE (E := deedRE) deedRE_wide ho (hw.mono deedRE_mono ((HLe.refl _).trans hl56)) hg57
    refine cw_ret (fnK_r (res2 rfl (rv_t (v := .slice _ _ _) rfl) (rv_t (v := .int _ _) rfl)) (((HLe.refl _).trans hl10).trans hl56) ?_)
    have hR : unpackGo (inNum ⟨text, 0⟩ 1).1.toNat (inNum ⟨text, 0⟩ 1).2 [] = (out, j) := by rw [hk1]; exact unpackGo_end (by omega)
    have e : unpackD text = (out, 0) := by
      unfold unpackD
      simp only [hR]
      exact if_pos ⟨by omega, by omega, by assumption⟩
    rw [e]
    exact ⟨_, _, rfl, hs58⟩
  have p61 := df h11
  refine og rfl h11 rfl (og rfl h11 rfl (og rfl h11 rfl (ol rfl (lo_pick_f (v := .bool _) rfl h11 rfl) (ow_nil (seqK_n ?_)))))
  refine cw_cond_f rfl rfl (cw_exit (seqK_e (loopK_e (blkK_hit (seqK_n ?_)))))
  refine cw_seq (cw_seq (cw_region (ol rfl (lo_move rfl) ?_)))
  obtain ⟨a62, c63, rfl⟩ := own_shape ho
  refine ow1 (op1_prl 9 rfl (fun _ hl64 hg65 => (deed_Pack _ a62 out.length c63 out (slh_ownE (E := deedRE) deedRE_wide ho (hw.mono deedRE_mono ((HLe.refl _).trans hl64)) hg65) (hML.mono (((HLe.refl _).trans hl10).trans hl64)))) (en_f cb70 rfl) rfl ?_)
  have hpr := packD_r out
  refine ol rfl (lo_move (v := .tuple #[_, _]) rfl) (ol rfl (lo_extract (v := str _) rfl rfl) (ol rfl (lo_extract (v := .int _ _) rfl rfl) (ol rfl (lo_assign (v := str _) rfl) (oai rfl rfl (ow_nil ?_)))))
  refine seqK_n (cw_seq (cw_region (ol rfl (lo_move (v := .pointer (some ⟨_, _, none⟩)) rfl) ?_)))
  refine ow1 (op1_pm 0 rfl (in_End _ b3 j) (en_f cb97 rfl) rfl ?_)
  rintro _ _ _ ⟨rfl, rfl, rfl⟩ _
  refine ol rfl (lo_neq rfl rfl) (omb rfl rfl (ow_sp (j := 3) rfl (fun h68 => ?_) (fun h68 => ?_)))
  · have h69 := not_t h68
    have p70 := df h69
    refine og rfl h68 rfl (og rfl h68 rfl (ol rfl (lo_pick_t (v := .bool _) rfl h68 rfl) (omb rfl rfl (og rfl rfl rfl (og rfl rfl rfl ?_)))))
    refine og rfl rfl rfl (ol rfl (lo_pick_t (v := .bool _) rfl rfl rfl) (ow_nil (seqK_n (cw_cond_t rfl rfl (cw_seq ?_)))))
    refine cw_region (ol rfl (lo_assign (v := .slice _ _ _) rfl) (oai rfl rfl (ow_nil (seqK_n (cw_ret ?_)))))
    refine seqK_r (fnK_r (res2 rfl (rv_t (v := .slice _ _ _) rfl) (rv_t (v := .int _ _) rfl)) ((HLe.refl _).trans hl10) ?_)
    have hR : unpackGo (inNum ⟨text, 0⟩ 1).1.toNat (inNum ⟨text, 0⟩ 1).2 [] = (out, j) := by rw [hk1]; exact unpackGo_end (by omega)
    have e : unpackD text = ([], 4) := by
      unfold unpackD
      simp only [hR]
      refine if_neg fun hh => ?_
      obtain ⟨h1, h2, h3⟩ := hh
      first | omega | (simp [*] at *; done)
    rw [e]
    exact ⟨none, 0, rfl, slh_nil⟩
  have h71 := not_f h68
  have p72 := dt h71
  refine ow1 (op1_g rfl h68 rfl (lo_move (v := .int _ _) rfl) ?_)
  refine ow1 (op1_g rfl h68 rfl (lo_neq rfl rfl) ?_)
  refine ol rfl (lo_pick_f (v := .bool _) rfl h68 rfl) (omb rfl rfl (ow_sp (j := 7) rfl (fun h73 => ?_) (fun h73 => ?_)))
  · have h74 := not_t h73
    have p75 := df h74
    refine og rfl h73 rfl (og rfl h73 rfl (og rfl h73 rfl (ol rfl (lo_pick_t (v := .bool _) rfl h73 rfl) (ow_nil (seqK_n ?_)))))
    refine cw_cond_t rfl rfl (cw_seq (cw_region (ol rfl (lo_assign (v := .slice _ _ _) rfl) (oai rfl rfl (ow_nil ?_)))))
    refine seqK_n (cw_ret (seqK_r (fnK_r (res2 rfl (rv_t (v := .slice _ _ _) rfl) (rv_t (v := .int _ _) rfl)) ((HLe.refl _).trans hl10) ?_)))
    have hR : unpackGo (inNum ⟨text, 0⟩ 1).1.toNat (inNum ⟨text, 0⟩ 1).2 [] = (out, j) := by rw [hk1]; exact unpackGo_end (by omega)
    have e : unpackD text = ([], 4) := by
      unfold unpackD
      simp only [hR]
      refine if_neg fun hh => ?_
      obtain ⟨h1, h2, h3⟩ := hh
      first | omega | (simp [*] at *; done)
    rw [e]
    exact ⟨none, 0, rfl, slh_nil⟩
  have h76 := not_f h73
  have p77 := dt h76
  refine ow1 (op1_g rfl h73 rfl (lo_move (v := str _) rfl) ?_)
  refine ow1 (op1_g rfl h73 rfl (lo_move (v := str _) rfl) ?_)
  refine ow1 (op1_g rfl h73 rfl (lo_sneq rfl rfl) ?_)
  refine ol rfl (lo_pick_f (v := .bool _) rfl h73 rfl) (ow_nil (seqK_n (cw_cond rfl (fun h78 => ?_) (fun h78 => ?_))))
  · have h79 := not_t h78
    have p80 := df h79
    refine cw_seq (cw_region (ol rfl (lo_assign (v := .slice _ _ _) rfl) (oai rfl rfl (ow_nil (seqK_n ?_)))))
    refine cw_ret (seqK_r (fnK_r (res2 rfl (rv_t (v := .slice _ _ _) rfl) (rv_t (v := .int _ _) rfl)) ((HLe.refl _).trans hl10) ?_))
    have hR : unpackGo (inNum ⟨text, 0⟩ 1).1.toNat (inNum ⟨text, 0⟩ 1).2 [] = (out, j) := by rw [hk1]; exact unpackGo_end (by omega)
    have e : unpackD text = ([], 4) := by
      unfold unpackD
      simp only [hR]
      refine if_neg fun hh => ?_
      obtain ⟨h1, h2, h3⟩ := hh
      first | omega | (simp [*] at *; done)
    rw [e]
    exact ⟨none, 0, rfl, slh_nil⟩
  have h81 := not_f h78
  have p82 := dt h81
  refine cw_skip (seqK_n (cw_seq (cw_region (ol rfl (lo_move rfl) (ol rfl (lo_assign rfl) ?_)))))
  refine oai rfl rfl (ow_nil (seqK_n (cw_giveO 9 rfl (fun _ hl83 hg84 => ?_))))
  have hs85 := slh_ownE (E := deedRE) deedRE_wide ho (hw.mono deedRE_mono ((HLe.refl _).trans hl83)) hg84
  refine cw_ret (fnK_r (res2 rfl (rv_t (v := .slice _ _ _) rfl) (rv_t (v := .int _ _) rfl)) (((HLe.refl _).trans hl10).trans hl83) ?_)
  have hR : unpackGo (inNum ⟨text, 0⟩ 1).1.toNat (inNum ⟨text, 0⟩ 1).2 [] = (out, j) := by rw [hk1]; exact unpackGo_end (by omega)
  have e : unpackD text = (out, 0) := by
    unfold unpackD
    simp only [hR]
    exact if_pos ⟨by omega, by omega, by assumption⟩
  rw [e]
  exact ⟨_, _, rfl, hs85⟩
end Go.SW
set_option linter.unusedVariables false
set_option maxRecDepth 100000
set_option maxHeartbeats 4000000
namespace Go.SW
open Go.Proofs
theorem cb60 : Callable Tryz.prog 60 := callable_of Tryz.func60 (by kernel_rfl) (by kernel_rfl)
theorem cb62 : Callable Tryz.prog 62 := callable_of Tryz.func62 (by kernel_rfl) (by kernel_rfl)
theorem cb72 : Callable Tryz.prog 72 := callable_of Tryz.func72 (by kernel_rfl) (by kernel_rfl)
end Go.SW
set_option linter.unusedVariables false
set_option maxRecDepth 100000
set_option maxHeartbeats 4000000
namespace Go.SW
open Go.Proofs
theorem deed_law_Packs (H : Hp) (l_a : Option Addr) (l_l l_c : Nat) (l : List DeedR) (l_h : SlH deedRE 29 H (.slice l_a l_l l_c) l) (hML : GInt H 2) (hs : l.length ≤ 409120605684) : Pr Tryz.prog 12 #[.slice l_a l_l l_c] H (.bool true) := by
  refine pr_cw Tryz.func12 rfl Tryz.ntmps12 rfl (fun N => ?_)
  have hdw := slh_dw l_h
  have hplen := packD_len hdw
  refine cw_seq (cw_region (oab rfl rfl (ow_nil (seqK_n (cw_seq ?_)))))
  refine cw_seq (cw_region ?_)
  refine ow1 (op1_pr (l22_awake _ hML) (en_f cb29 rfl) rfl ?_)
  refine ol rfl (lo_not rfl) (ow_nil (seqK_n (cw_cond_f rfl rfl (cw_skip (seqK_n ?_)))))
  refine cw_seq (cw_region (ol rfl (lo_move (v := .slice _ _ _) rfl) ?_))
  refine ow1 (op1_ph (l22_All _ l_a l_l l_c l l_h (by first | omega | (simp; done) | decide)) (en_f cb60 rfl) rfl ?_)
  rintro _ H5 ⟨a1, c2, rfl, hs3⟩ hl4
  have hal5 := allD_ok l
  have hale5 := allD_le l
  refine ol rfl (lo_move (v := .tuple #[_, _]) rfl) (ol rfl (lo_extract (v := .slice _ _ _) rfl rfl) (ol rfl (lo_extract (v := .bool _) rfl rfl) (ol rfl (lo_assign (v := .slice _ _ _) rfl) (oab rfl rfl (ow_nil ?_)))))
  refine seqK_n (cw_seq (cw_seq (cw_region (ol rfl (lo_move (v := .slice _ _ _) rfl) (ol rfl (lo_len_slh rfl (l_h.mono ((HLe.refl _).trans hl4) (fun _ _ q => deedRE_mono _ _ _ _ ((HLe.refl _).trans hl4) q)) Tryz.underlying76) ?_)))))
  refine ol rfl (lo_gtr rfl rfl) (omb rfl rfl (ow_sp (j := 3) rfl (fun h6 => ?_) (fun h6 => ?_)))
  · have p7 := dt h6
    refine og rfl h6 rfl (og rfl h6 rfl (ol rfl (lo_pick_t (v := .bool _) rfl h6 rfl) (ow_nil (seqK_n (cw_cond_t rfl rfl ?_)))))
    refine cw_seq (cw_region (oab rfl rfl (ow_nil (seqK_n (cw_ret ?_)))))
    refine seqK_r (fnK_r (res1 rfl (rv_t (v := .bool _) rfl)) ((HLe.refl _).trans hl4) ?_)
    first
      | rfl
      | (exfalso; omega)
      | (exfalso; simp at *; done)
      | (have hz : allD l = (l, true) := by first | assumption | (apply_assumption; assumption)
         exfalso; simp [hz] at *; done)
      | (have hz : allD l = (l, true) := by first | assumption | (apply_assumption; assumption)
         refine congrArg Value.bool ?_
         have hu := unpack_pack hdw (by omega)
         simp [hz, hu]; done)
      | (have hz : allD l = (l, true) := by first | assumption | (apply_assumption; assumption)
         have hu := unpack_pack hdw (by omega)
         exfalso; simp [hz, hu] at *; done)
  have p8 := df h6
  refine ow1 (op1_g rfl h6 rfl (lo_move (v := .bool _) rfl) ?_)
  refine ow1 (op1_g rfl h6 rfl (lo_not rfl) ?_)
  refine ol rfl (lo_pick_f (v := .bool _) rfl h6 rfl) (ow_nil (seqK_n (cw_cond rfl (fun h9 => ?_) (fun h9 => ?_))))
  · have h10 := not_t h9
    refine cw_seq (cw_region (oab rfl rfl (ow_nil (seqK_n (cw_ret ?_)))))
    refine seqK_r (fnK_r (res1 rfl (rv_t (v := .bool _) rfl)) ((HLe.refl _).trans hl4) ?_)
    first
      | rfl
      | (exfalso; omega)
      | (exfalso; simp at *; done)
      | (have hz : allD l = (l, true) := by first | assumption | (apply_assumption; assumption)
         exfalso; simp [hz] at *; done)
      | (have hz : allD l = (l, true) := by first | assumption | (apply_assumption; assumption)
         refine congrArg Value.bool ?_
         have hu := unpack_pack hdw (by omega)
         simp [hz, hu]; done)
      | (have hz : allD l = (l, true) := by first | assumption | (apply_assumption; assumption)
         have hu := unpack_pack hdw (by omega)
         exfalso; simp [hz, hu] at *; done)
  have h11 := not_f h9
  refine cw_skip (seqK_n (cw_seq (cw_region (ol rfl (lo_move (v := .slice _ _ _) rfl) (ow1 (op1_pr (deed_Pack _ l_a l_l l_c l (l_h.mono ((HLe.refl _).trans hl4) (fun _ _ q => deedRE_mono _ _ _ _ ((HLe.refl _).trans hl4) q)) (hML.mono ((HLe.refl _).trans hl4))) (en_f cb70 rfl) rfl ?_))))))
  have hpr := packD_r l
  refine ol rfl (lo_move (v := .tuple #[_, _]) rfl) (ol rfl (lo_extract (v := str _) rfl rfl) (ol rfl (lo_extract (v := .int _ _) rfl rfl) (ol rfl (lo_assign (v := str _) rfl) (oai rfl rfl (ow_nil ?_)))))
  refine seqK_n (cw_seq (cw_region (ol rfl (lo_move (v := .slice _ _ _) rfl) ?_)))
  refine ow1 (op1_pr (r22_Pack _ a1 (((allD l).1).length) c2 ((allD l).1) hs3) (en_f cb71 rfl) rfl ?_)
  have hpr := packD_r ((allD l).1)
  refine ol rfl (lo_move (v := .tuple #[_, _]) rfl) (ol rfl (lo_extract (v := str _) rfl rfl) (ol rfl (lo_extract (v := .int _ _) rfl rfl) (ol rfl (lo_assign (v := str _) rfl) (oai rfl rfl (ow_nil ?_)))))
  refine seqK_n (cw_seq (cw_seq (cw_region (ol rfl (lo_move (v := str _) rfl) (ol rfl (lo_move (v := str _) rfl) ?_)))))
  refine ol rfl (lo_sneq rfl rfl) (omb rfl rfl (ow_sp (j := 3) rfl (fun h12 => ?_) (fun h12 => ?_)))
  · have h13 := not_t h12
    have p14 := df h13
    refine og rfl h12 rfl (og rfl h12 rfl (og rfl h12 rfl (ol rfl (lo_pick_t (v := .bool _) rfl h12 rfl) (ow_nil (seqK_n ?_)))))
    refine cw_cond_t rfl rfl (cw_seq (cw_region (oab rfl rfl (ow_nil (seqK_n ?_)))))
    refine cw_ret (seqK_r (fnK_r (res1 rfl (rv_t (v := .bool _) rfl)) ((HLe.refl _).trans hl4) ?_))
    first
      | rfl
      | (exfalso; omega)
      | (exfalso; simp at *; done)
      | (have hz : allD l = (l, true) := by first | assumption | (apply_assumption; assumption)
         exfalso; simp [hz] at *; done)
      | (have hz : allD l = (l, true) := by first | assumption | (apply_assumption; assumption)
         refine congrArg Value.bool ?_
         have hu := unpack_pack hdw (by omega)
         simp [hz, hu]; done)
      | (have hz : allD l = (l, true) := by first | assumption | (apply_assumption; assumption)
         have hu := unpack_pack hdw (by omega)
         exfalso; simp [hz, hu] at *; done)
  have h15 := not_f h12
  have p16 := dt h15
  refine ow1 (op1_g rfl h12 rfl (lo_move (v := .int _ _) rfl) ?_)
  refine ow1 (op1_g rfl h12 rfl (lo_move (v := .int _ _) rfl) ?_)
  refine ow1 (op1_g rfl h12 rfl (lo_neq rfl rfl) ?_)
  refine ol rfl (lo_pick_f (v := .bool _) rfl h12 rfl) (ow_nil (seqK_n (cw_cond rfl (fun h17 => ?_) (fun h17 => ?_))))
  · have h18 := not_t h17
    have p19 := df h18
    refine cw_seq (cw_region (oab rfl rfl (ow_nil (seqK_n (cw_ret ?_)))))
    refine seqK_r (fnK_r (res1 rfl (rv_t (v := .bool _) rfl)) ((HLe.refl _).trans hl4) ?_)
    first
      | rfl
      | (exfalso; omega)
      | (exfalso; simp at *; done)
      | (have hz : allD l = (l, true) := by first | assumption | (apply_assumption; assumption)
         exfalso; simp [hz] at *; done)
      | (have hz : allD l = (l, true) := by first | assumption | (apply_assumption; assumption)
         refine congrArg Value.bool ?_
         have hu := unpack_pack hdw (by omega)
         simp [hz, hu]; done)
      | (have hz : allD l = (l, true) := by first | assumption | (apply_assumption; assumption)
         have hu := unpack_pack hdw (by omega)
         exfalso; simp [hz, hu] at *; done)
  have h20 := not_f h17
  have p21 := dt h20
  refine cw_skip (seqK_n (cw_seq (cw_seq (cw_region (omi rfl rfl ?_)))))
  refine ol rfl (lo_neq rfl rfl) (ow_nil (seqK_n (cw_cond rfl (fun h22 => ?_) (fun h22 => ?_))))
  · have h23 := not_t h22
    have p24 := df h23
    refine cw_seq (cw_region (oab rfl rfl (ow_nil (seqK_n (cw_ret ?_)))))
    refine seqK_r (fnK_r (res1 rfl (rv_t (v := .bool _) rfl)) ((HLe.refl _).trans hl4) ?_)
    first
      | rfl
      | (exfalso; omega)
      | (exfalso; simp at *; done)
      | (have hz : allD l = (l, true) := by first | assumption | (apply_assumption; assumption)
         exfalso; simp [hz] at *; done)
      | (have hz : allD l = (l, true) := by first | assumption | (apply_assumption; assumption)
         refine congrArg Value.bool ?_
         have hu := unpack_pack hdw (by omega)
         simp [hz, hu]; done)
      | (have hz : allD l = (l, true) := by first | assumption | (apply_assumption; assumption)
         have hu := unpack_pack hdw (by omega)
         exfalso; simp [hz, hu] at *; done)
  have h25 := not_f h22
  have p26 := dt h25
  refine cw_skip (seqK_n (cw_seq (cw_region (ol rfl (lo_move (v := str _) rfl) ?_))))
  refine ow1 (op1_ph (deed_Unpack _ ((packD l).1) (hML.mono ((HLe.refl _).trans hl4)) (by first | omega | (simp <;> omega))) (en_f cb72 rfl) rfl ?_)
  rintro _ H31 ⟨a27, c28, rfl, hs29⟩ hl30
  have hul31 := unpackD_len ((packD l).1)
  refine ol rfl (lo_move (v := .tuple #[_, _]) rfl) (ol rfl (lo_extract (v := .slice _ _ _) rfl rfl) (ol rfl (lo_extract (v := .int _ _) rfl rfl) (ol rfl (lo_assign (v := .slice _ _ _) rfl) (oai rfl rfl (ow_nil ?_)))))
  refine seqK_n (cw_seq (cw_region (ol rfl (lo_move (v := .slice _ _ _) rfl) ?_)))
  refine ow1 (op1_ph (l22_All _ a27 (((unpackD ((packD l).1)).1).length) c28 ((unpackD ((packD l).1)).1) hs29 (by first | omega | (simp; done) | decide)) (en_f cb60 rfl) rfl ?_)
  rintro _ H36 ⟨a32, c33, rfl, hs34⟩ hl35
  have hal36 := allD_ok ((unpackD ((packD l).1)).1)
  have hale36 := allD_le ((unpackD ((packD l).1)).1)
  refine ol rfl (lo_move (v := .tuple #[_, _]) rfl) (ol rfl (lo_extract (v := .slice _ _ _) rfl rfl) (ol rfl (lo_extract (v := .bool _) rfl rfl) (ol rfl (lo_assign (v := .slice _ _ _) rfl) (oab rfl rfl (ow_nil ?_)))))
  refine seqK_n (cw_seq (cw_region (omi rfl rfl (ol rfl (lo_eql rfl rfl) (omb rfl rfl ?_)))))
  refine ow_sp (j := 2) rfl (fun h37 => ?_) (fun h37 => ?_)
  · have p38 := dt h37
    refine ow1 (op1_g rfl h37 rfl (lo_move (v := .slice _ _ _) rfl) ?_)
    refine ow1 (op1_g rfl h37 rfl (lo_move (v := .slice _ _ _) rfl) ?_)
    refine ow1 (op1_prg rfl h37 (r22_SameAll _ a32 (((allD ((unpackD ((packD l).1)).1)).1).length) c33 ((allD ((unpackD ((packD l).1)).1)).1) hs34 a1 (((allD l).1).length) c2 ((allD l).1) (hs3.mono (((HLe.refl _).trans hl30).trans hl35) (fun _ _ q => deedRE_mono _ _ _ _ (((HLe.refl _).trans hl30).trans hl35) q)) (by first | omega | (simp <;> omega))) (en_f cb62 rfl) rfl ?_)
    refine ol rfl (lo_pick_t (v := .bool _) rfl h37 rfl) (oab rfl rfl (ow_nil (seqK_n (cw_ret (fnK_r (res1 rfl (rv_t (v := .bool _) rfl)) ((((HLe.refl _).trans hl4).trans hl30).trans hl35) ?_)))))
    first
      | rfl
      | (exfalso; omega)
      | (exfalso; simp at *; done)
      | (have hz : allD l = (l, true) := by first | assumption | (apply_assumption; assumption)
         exfalso; simp [hz] at *; done)
      | (have hz : allD l = (l, true) := by first | assumption | (apply_assumption; assumption)
         refine congrArg Value.bool ?_
         have hu := unpack_pack hdw (by omega)
         simp [hz, hu]; done)
      | (have hz : allD l = (l, true) := by first | assumption | (apply_assumption; assumption)
         have hu := unpack_pack hdw (by omega)
         exfalso; simp [hz, hu] at *; done)
  have p39 := df h37
  refine og rfl h37 rfl (og rfl h37 rfl (og rfl h37 rfl (ol rfl (lo_pick_f (v := .bool _) rfl h37 rfl) (oab rfl rfl (ow_nil ?_)))))
  refine seqK_n (cw_ret (fnK_r (res1 rfl (rv_t (v := .bool _) rfl)) ((((HLe.refl _).trans hl4).trans hl30).trans hl35) ?_))
  first
    | rfl
    | (exfalso; omega)
    | (exfalso; simp at *; done)
    | (have hz : allD l = (l, true) := by first | assumption | (apply_assumption; assumption)
       exfalso; simp [hz] at *; done)
    | (have hz : allD l = (l, true) := by first | assumption | (apply_assumption; assumption)
       refine congrArg Value.bool ?_
       have hu := unpack_pack hdw (by omega)
       simp [hz, hu]; done)
    | (have hz : allD l = (l, true) := by first | assumption | (apply_assumption; assumption)
       have hu := unpack_pack hdw (by omega)
       exfalso; simp [hz, hu] at *; done)
end Go.SW
namespace Go.SW
open Go.ChangeShapes Go.WideShapes Go.ChangeAt Go.RowKit
def hp (w : World) : Hp := fun b => w.heap[b]?
def rest0 (w : World) : Rest := ⟨fun _ => none, w.os, w.tape, w.output⟩
theorem mem0 (w : World) : Mem (rest0 w) (hp w) l0 w :=
  { os := rfl, tape := rfl, output := rfl, n := fun _ _ h => (by cases h), h := fun _ _ h => h, l := fun _ _ _ h => (by cases h), nh := fun _ _ h => (by cases h), nl := fun _ _ _ h => (by cases h), ll := fun _ _ _ _ _ h => (by cases h) }
theorem mem0_below {w w' : World} {L : Ls} (h : Mem (rest0 w) (hp w) L w') : Below w.heap.size w w' := by
  have hb : ∀ k, k < w.heap.size → w'.heap[k]? = w.heap[k]? := fun k hk => by
    have e : w.heap[k]? = some w.heap[k] := Array.getElem?_eq_getElem hk
    rw [e]; exact h.h k _ e
  refine ⟨h.os, h.tape, h.output, ?_, hb⟩
  by_cases z : w.heap.size = 0
  · omega
  · have := hb (w.heap.size - 1) (by omega)
    rw [Array.getElem?_eq_getElem (show w.heap.size - 1 < w.heap.size by omega)] at this
    have := (Array.getElem?_eq_some_iff.1 this).1
    omega
section
variable {Ht : Type} {enc : TypeId × Value → Ht} {P : Program} {w : World} {base fuel : Nat} {spare : Nat → Bool} {held : Bool} {cs : List Value} {x : DataW Ht × List MemPlace} {t : TypeId}
theorem rd_int {k : IntKind} (ht : P.underlying t = some (.int k)) (h : DataW.trod enc P w base spare held fuel t cs = some x) : ∃ z : Int, cs = [.int k z] ∧ k.min ≤ z ∧ z ≤ k.max := by
  obtain ⟨z, h1, _, h2⟩ := DataW.trod_int ht h
  refine ⟨z, h1, ?_⟩
  simp only [Lit.wf, Bool.and_eq_true, decide_eq_true_eq] at h2; exact h2
theorem rd_u8 (ht : P.underlying t = some (.int .u8)) (h : DataW.trod enc P w base spare held fuel t cs = some x) : ∃ z : Int, cs = [.int .u8 z] ∧ 0 ≤ z ∧ z ≤ 255 := rd_int ht h
theorem rd_u64 (ht : P.underlying t = some (.int .u64)) (h : DataW.trod enc P w base spare held fuel t cs = some x) : ∃ z : Int, cs = [.int .u64 z] ∧ 0 ≤ z ∧ z ≤ 18446744073709551615 := rd_int ht h
theorem rd_i64 (ht : P.underlying t = some (.int .i64)) (h : DataW.trod enc P w base spare held fuel t cs = some x) : ∃ z : Int, cs = [.int .i64 z] ∧ -9223372036854775808 ≤ z ∧ z ≤ 9223372036854775807 := rd_int ht h
theorem rd_bool (ht : P.underlying t = some .bool) (h : DataW.trod enc P w base spare held fuel t cs = some x) : ∃ z : Bool, cs = [.bool z] := by
  obtain ⟨z, h1, _⟩ := DataW.trod_bool ht h
  exact ⟨z, h1⟩
theorem rd_str (ht : P.underlying t = some .string) (h : DataW.trod enc P w base spare held fuel t cs = some x) : ∃ s : Bs, cs = [str s] ∧ s.length ≤ 9223372036854775807 := by
  obtain ⟨s, h1, _, h2⟩ := DataW.trod_string ht h
  refine ⟨s.data.toList, by rw [h1, str_of], ?_⟩
  have : s.data.toList.length = s.size := Array.length_toList
  rw [this]; exact h2
theorem list_of {α : Type} {Q : Nat → α → Prop} : ∀ n, (∀ i, i < n → ∃ r, Q i r) → ∃ rs : List α, rs.length = n ∧ ∀ i (h : i < rs.length), Q i rs[i]
  | 0, _ => ⟨[], rfl, fun i h => by cases h⟩
  | n + 1, hq => by
    obtain ⟨rs, hl, hr⟩ := list_of n (fun i hi => hq i (by omega))
    obtain ⟨r, hr0⟩ := hq n (by omega)
    refine ⟨rs ++ [r], by simp [hl], fun i hi => ?_⟩
    by_cases e : i < rs.length
    · rw [List.getElem_append_left e]; exact hr i e
    · have : i = rs.length := by simp at hi; omega
      subst this
      rw [List.getElem_append_right (Nat.le_refl _)]
      simp only [Nat.sub_self, List.getElem_cons_zero]
      rw [hl]; exact hr0
theorem rd_slice {α : Type} {E : Hp → α → List Value → Prop} {k : Nat} {e : TypeId} (ht : P.underlying t = some (.slice e)) (hk : P.cellsOf e = k) (h0 : 0 < k) (he : ∀ fuel cs x, DataW.trod enc P w base spare held fuel e cs = some x → ∃ r, E (hp w) r cs)
    (h : DataW.trod enc P w base spare held fuel t cs = some x) : ∃ (a : Option Addr) (c : Nat) (rs : List α), cs = [.slice a rs.length c] ∧ SlH E k (hp w) (.slice a rs.length c) rs ∧ rs.length ≤ 9223372036854775807 := by
  rcases Go.Deep.open_slice ht h with ⟨h1, _⟩ | ⟨a, len, cap, m, nf, D, Pl, h1, _, hl, hm, hmm, _, hi⟩
  · exact ⟨none, 0, [], h1, slh_nil, Nat.zero_le _⟩
  · have hs0 : 0 < len → a = ⟨a.block, a.off, none⟩ := by
      intro hl0
      obtain ⟨cs', hc, hT⟩ := hi 0 (by rw [hmm]; split <;> omega)
      rw [hk, Nat.zero_mul] at hc
      obtain ⟨_, hcl, hat⟩ := World.cells?_some hc
      have ha0 := hat 0 h0
      rw [List.getElem?_eq_getElem (by omega)] at ha0
      obtain ⟨ab, ao, asp⟩ := a
      cases asp with
      | none => rfl
      | some z =>
        exfalso
        unfold World.cell? at ha0
        simp only [Addr.add] at ha0
        split at ha0 <;> simp at ha0
    have key : ∀ i, i < len → ∃ r : α, ∃ cs', E (hp w) r cs' ∧ SlAt (hp w) (.slice (some a) len cap) k i cs' := by
      intro i hil
      have ha := hs0 (by omega)
      obtain ⟨cs', hc, hT⟩ := hi i (by rw [hmm]; split <;> omega)
      obtain ⟨r, hr⟩ := he _ _ _ hT
      rw [hk] at hc
      obtain ⟨_, hcl, hat⟩ := World.cells?_some hc
      refine ⟨r, cs', hr, ?_⟩
      generalize a.block = ab at ha
      generalize a.off = ao at ha
      subst ha
      simp only [add_none] at hat
      have ha0 := hat 0 h0
      rw [List.getElem?_eq_getElem (by omega)] at ha0
      unfold World.cell? at ha0
      simp only at ha0
      split at ha0
      · rename_i c T fr hb
        refine ⟨ab, ao, len, cap, c, T, fr, rfl, hb, hcl, fun j hj => ?_⟩
        have := hat j hj
        unfold World.cell? at this
        simp only at this
        rw [hb] at this
        simpa using this
      · cases ha0
    obtain ⟨rs, hlen, hr⟩ := list_of (Q := fun i (r : α) => ∃ cs', E (hp w) r cs' ∧ SlAt (hp w) (.slice (some a) len cap) k i cs') len key
    refine ⟨some a, cap, rs, by rw [h1, hlen], ⟨⟨some a, cap, rfl, by omega⟩, fun i hi => ?_⟩, ?_⟩
    · rw [hlen]; exact hr i hi
    · have : cap ≤ 9223372036854775807 := hm
      omega
/-- A struct's field. -/
theorem rd_fld {fs : Array Field} {xs : List (DataW Ht × List MemPlace)} {n i o k : Nat} {f : Field} {ft : TypeId} (hf : ∀ (i : Nat) (f : Field), fs[i]? = some f → DataW.trod enc P w base spare held n f.type ((cs.drop f.offset).take (P.cellsOf f.type)) = xs[i]?) (hl : xs.length = fs.size)
    (hi : fs[i]? = some f) (ho : f.offset = o) (ht : f.type = ft) (hk : P.cellsOf ft = k) : ∃ y, DataW.trod enc P w base spare held n ft ((cs.drop o).take k) = some y := by
  have h := hf i f hi
  have hlt : i < fs.size := (Array.getElem?_eq_some_iff.1 hi).1
  rw [ho, ht, hk, List.getElem?_eq_getElem (by omega)] at h
  exact ⟨_, h⟩
theorem cs_last {l : List Value} {o k : Nat} (hl : cs.length = o + k) (h : (cs.drop o).take k = l) : cs.drop o = l := by
  rw [← h, List.take_of_length_le (by simp; omega)]
theorem cs_step {l r : List Value} {o k : Nat} (h : (cs.drop o).take k = l) (hr : cs.drop (o + k) = r) : cs.drop o = l ++ r := by
  rw [← h, ← hr, ← List.drop_drop, List.take_append_drop]
end
theorem params_ok {P : Program} {ts : Array TypeId} (h : (ts.toList.all fun t => P.readableRec t && decide (t < P.types.size)) = true) : ∀ t ∈ ts.toList, P.readableRec t = true ∧ t < P.types.size := fun t ht => by
  have := List.all_eq_true.1 h t ht
  simpa using this
/-- The cells of a datum. -/
def flatD : Nat → DataW Unit → List Value
  | _, .lit (.int k n) => [.int k n]
  | _, .lit (.string s) => [.string ⟨s.toArray⟩]
  | _, .lit (.bool b) => [.bool b]
  | n + 1, .agg l => l.flatMap (flatD n)
  | _, _ => []
/-- The settled world, with data laid in its variables. -/
def layD (d : DataW Unit) : Obj → Obj
  | .cells _ t frozen => .cells (flatD 5 d).toArray t frozen
  | o => o
noncomputable def laidW (P : Program) (os : Os) (l : List (Nat × DataW Unit)) : World :=
  let w0 := World.holding P os ⟨#[], #[], []⟩
  { w0 with heap := List.foldl (fun h x => h.modify x.1 (layD x.2)) w0.heap l }
/-- Each argument reads as it did, where below the heap's old size nothing has turned. -/
theorem trodAll_stays {Ht : Type} {enc : TypeId × Value → Ht} {P : Program} (hl : laidOutB P = true) {W W' : World} (hb : Below W.heap.size W W') {sp : Nat → Bool} : ∀ {ts : List TypeId} {vs : List Value} {ds : List (DataW Ht)} {ps : List MemPlace}, (∀ t ∈ ts, P.readableRec t = true ∧ t < P.types.size) →
    DataW.TrodAll enc P W 0 (fun _ => true) true ts vs ds ps → (∀ x ∈ ps, x.block < W.heap.size) → (∀ x ∈ ps, sp x.block = true) → DataW.TrodAll enc P W' 0 sp true ts vs ds ps := by
  intro ts
  induction ts with
  | nil => intro vs ds ps _ h _ _; cases vs <;> cases ds <;> first | exact h | exact h.elim
  | cons t ts ih =>
    intro vs ds ps hr h hlt hsp
    obtain ⟨v, vs', d, ds', p, q, rfl, rfl, rfl, h1, h2⟩ := trodAll_cons h
    exact trodAll_cons_mk (WideElems.Trod_stays hl (hr t (by simp)).1 (hr t (by simp)).2 h1 (fun x hx => hb.same (hlt x (by simp [hx]))) (fun x hx => hsp x (by simp [hx]))) (ih (fun u hu => hr u (by simp [hu])) h2 (fun x hx => hlt x (by simp [hx])) (fun x hx => hsp x (by simp [hx])))
section
variable {Ht : Type} {enc : TypeId × Value → Ht} {P : Program}
/-- A row's last step where below the heap's old size nothing has turned: it hands back true, and the arguments read as they did. -/
theorem law_post {f : Func} {s : ChangeSpec} {apart fresh again : Bool} {W W' : World} {args : Array Value} {ds : List (DataW Ht)} {before : List MemPlace} {tb : TypeId} (hvars : s.vars = [])
    (hW : DataW.Whole enc P f.params.toList s.vars apart W args.toList ds [] before) (hb : Below W.heap.size W W') (hl : laidOutB P = true) (hr : ∀ t ∈ f.params.toList, P.readableRec t = true ∧ t < P.types.size)
    (hres : f.resultTypes = #[tb]) (hu : P.underlying tb = some .bool) (hfn : s.fn Ht (ds ++ []) = { results := [.lit (.bool true)], args := ds }) : s.post enc P f apart fresh false again W args (.bool true) W' := by
  have hlt : ∀ p ∈ before, p.block < W.heap.size := fun p hp => hW.lt p hp
  have hold : ∀ p ∈ before, (fun b => decide (b < W.heap.size)) p.block = true := fun p hp => by simpa using hlt p hp
  have hW0 := hW
  obtain ⟨p, q, hA, hV, rfl, hz, hn⟩ := hW0
  have hq : q = [] := by
    rw [hvars] at hV
    exact (trodVars_none hV).2
  subst hq
  rw [List.append_nil] at hlt hold hz hn hW
  have hA0 : DataW.TrodAll enc P W 0 (fun _ => true) true f.params.toList args.toList ds p := hA
  have hargs : ∀ sp : Nat → Bool, (∀ x ∈ p, sp x.block = true) → DataW.TrodAll enc P W' 0 sp true f.params.toList args.toList ds p := fun sp hs => trodAll_stays hl hb hr hA0 hlt hs
  have hvs : ∀ sp : Nat → Bool, DataW.TrodVars enc P W' sp s.vars ([] : List (DataW Ht)) [] := fun sp => by rw [hvars]; rfl
  have hR : ∀ (b : Nat) (sp : Nat → Bool) (hd : Bool), DataW.TrodAll enc P W' b sp hd f.resultTypes.toList ((Value.bool true).resultList f.resultTypes.size) [.lit (.bool true)] [] := fun b sp hd => by
    rw [hres]
    exact trodAll_mk1 (shut_bool hu true)
  have hok : ∀ (j : Nat) (t : TypeId) (r : Value), f.resultTypes[j]? = some t → ((Value.bool true).resultList f.resultTypes.size)[j]? = some r → Value.okWide P W' .any 0 t r := ok_one hres rfl (okWide_bool_mk hu true)
  refine ⟨ds, [], p, [], p, [], hW, ?_, ?_, ?_, World.keptBut_mono (fun x hx => ⟨hx, Or.inr (by simpa using hx)⟩) (hb.frame (· ∈ p)), fun _ => ?_⟩
  · rw [hfn]; exact hR _ _ _
  · rw [hfn]; exact hargs _ hold
  · rw [hfn]; exact hvs _
  · refine ⟨hok, _, _, ([] ++ p) ++ [], ⟨[] ++ p, [], trodAll_append (hargs _ (fun _ _ => rfl)) (hR _ _ _), hvs _, rfl, ?_, ?_⟩, ?_⟩
    · intro b off hp
      have hin : MemPlace.cell b off ∈ p := by simpa using hp
      rw [hb.frozen (hlt _ hin)]
      exact hz b off hin
    · intro ha
      have := hn ha
      simpa using this
    · intro x hx _
      simpa using hx
/-- A variable of type int holds an int. -/
theorem gint_of_shape {w : World} {g : Nat} {t : TypeId} {zero : Array Value} (h : w.ShapedOpen P) (hg : g < P.globals.size)
    (h0 : ((begin P (fun _ _ => 0) default).world.heap[g]?).bind Obj.row? = some (zero, t)) (hz : zero.size = 1)
    (hb : P.buildable t = true) (hc : P.cellTypes P.depth t = some [t]) (hu : P.underlying t = some (.int .i64)) : GInt (hp w) g := by
  obtain ⟨cs, hh, hs, hr⟩ := h.1 g zero t hg h0
  obtain ⟨ts, hts, _, hall⟩ := hr hb
  rw [hc] at hts
  cases hts
  have h1 : 0 < cs.size := by omega
  obtain ⟨u, hu', hok⟩ := hall 0 cs[0] (by simp [h1])
  have : u = t := by simpa using hu'.symm
  subst this
  unfold Cell.ok at hok
  rw [hu] at hok
  have hv : ∃ m, cs[0] = .int .i64 m := by
    cases hv : cs[0] <;> rw [hv] at hok <;> first | exact ⟨_, by rw [hok.1]⟩ | simp at hok
  obtain ⟨m, hm⟩ := hv
  refine ⟨m, u, (0, 0), ?_⟩
  show w.heap[g]? = _
  rw [hh]
  have e : cs = #[.int .i64 m] := by
    apply Array.ext
    · simp; omega
    · intro i hi1 hi2
      have : i = 0 := by simp at hi2; omega
      subst this
      simpa using hm
  rw [e]
end
end Go.SW
namespace Go.SW
open Go.ChangeShapes Go.WideShapes Go.ChangeAt Go.RowKit
variable {P : Program}
theorem dat_slice {Ht : Type} {enc : TypeId × Value → Ht} {w : World} {base fuel : Nat} {spare : Nat → Bool} {held : Bool} {a : Option Addr} {l c : Nat} {x : DataW Ht × List MemPlace} {t e : TypeId} (ht : P.underlying t = some (.slice e))
    (h : DataW.trod enc P w base spare held fuel t [.slice a l c] = some x) : x.1 = .nil ∧ l = 0 ∨ ∃ el sp, x.1 = .slice el sp ∧ el.length = l := by
  rcases Go.Deep.open_slice ht h with ⟨h1, h2⟩ | ⟨a', len, cap, m, nf, D, Pl, h1, _, hl, hm, hmm, hx, _⟩
  · cases h1; subst h2; exact .inl ⟨rfl, rfl⟩
  · cases h1; subst hx; exact .inr ⟨_, _, rfl, by simp⟩
theorem len_of_weights {Ht : Type} {ts : List TypeId} {ds : List (DataW Ht)} {j n B : Nat} {t e : TypeId} {d : DataW Ht} (hw : (DataW.weightsEach P ts ds).all (· ≤ reachBytes) = true) (ht : ts[j]? = some t) (hd : ds[j]? = some d) (hu : P.underlying t = some (.slice e)) (hb : P.bytesOf e = B)
    (hs : d = .nil ∧ n = 0 ∨ ∃ el sp, d = .slice el sp ∧ el.length = n) : n * B ≤ 140737488351232 := by
  rcases hs with ⟨_, rfl⟩ | ⟨el, sp, rfl, rfl⟩
  · simp
  · have := sized_slice hw ht hd hu
    rw [hb, Nat.add_mul] at this
    have hr : reachBytes = 140737488351232 := by decide
    omega
theorem rd_one_slice {w : World} {r : Reach} {b0 : Nat} {t e : TypeId} {v : Value} {a : Option Addr} {l c : Nat} (hs : P.underlying t = some (.slice e)) (hv : Value.okWide P w r b0 t v) (he : v.cells.toList = [.slice a l c]) : v = .slice a l c := by
  unfold Value.okWide at hv
  rw [hs] at hv
  simp only at hv
  unfold Cell.okWide at hv
  rw [hs] at hv
  cases v with
  | agg cs => simp [Cell.ok, hs] at hv
  | _ => exact (List.cons.inj he).1
end Go.SW
