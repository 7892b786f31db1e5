/-
  A part of the proof of DeedBytes: The walks of this seat, printed by program: route.Book.Make. The walks of this seat, printed by program: route.Bind.rule, route.Bind.same, route.Bind.clone, route.Book.there. The walks of this seat, printed by program: route.Book.Bind. The walks of this seat, printed by program: route.Book.Leads. The walks of this seat, printed by program: stairwelllaw14.awake, stairwelllaw14.Awake. The walks of this seat, printed by program: stairwelllaw22.awake, stairwelllaw22.Awake. The walks of this seat, printed by program: stairwelllaw22.DeedSame, stairwelllaw22.DeedBytes. From the data that a row's arguments read as to the ground of the walks, and back: a world seen as one that is read alone; integers, texts, bools, structs, slices opened; the row's last step. Over any program; no condition. How long a slice that was handed over can be. Over any program; no condition.
-/
import Derived.Test.YtdjkbpmciibafaaGreatDoorProg
import Derived.KernelRfl
import Derived.Test.YtdjkbpmciibafaaGreatDoorDeedBytesP6
import Derived.Test.YtdjkbpmciibafaaGreatDoorDeedBytesP1
import Derived.ProofKit
import Derived.OpenShut
import Derived.Deep.Slices
import Derived.Carry
import Derived.Lib.LaidTab
import Derived.SizedLaws
set_option linter.unusedVariables false
set_option linter.unusedSimpArgs false
set_option linter.unusedVariables false
set_option maxRecDepth 100000
set_option maxHeartbeats 4000000
namespace Go.SW
open Go.Proofs
theorem ag281 : Ag Tryz.prog 281 true := fun w => by kernel_rfl
theorem cb245 : Callable Tryz.prog 245 := callable_of Tryz.func245 (by kernel_rfl) (by kernel_rfl)
theorem cb246 : Callable Tryz.prog 246 := callable_of Tryz.func246 (by kernel_rfl) (by kernel_rfl)
theorem cb247 : Callable Tryz.prog 247 := callable_of Tryz.func247 (by kernel_rfl) (by kernel_rfl)
theorem sz281 : Sz Tryz.prog 281 2 := fun w => by kernel_rfl
theorem zr281 : Zr Tryz.prog 281 [.slice none 0 0, .slice none 0 0] := fun w => ⟨.agg #[.slice none 0 0, .slice none 0 0], by kernel_rfl, rfl⟩
theorem zx278 : ∃ z, ∀ w, (zeroValue 278).run Tryz.prog w = .ok z w := ⟨.slice none 0 0, fun w => by kernel_rfl⟩
theorem zx54 : ∃ z, ∀ w, (zeroValue 54).run Tryz.prog w = .ok z w := ⟨.agg #[str [], .int .u8 0, str []], fun w => by kernel_rfl⟩
theorem book_Make (H : Hp) (b : BookR) (b_shops_a : Option Addr) (b_shops_c : Nat) (b_shops_h : SlH shopRE 3 H (.slice b_shops_a b.shops.length b_shops_c) b.shops) (b_binds_a : Option Addr) (b_binds_c : Nat) (b_binds_h : SlH bindRE 6 H (.slice b_binds_a b.binds.length b_binds_c) b.binds) (b_w : BookR.wf b) (x : ShopR) (x_w : ShopR.wf x) : Ph Tryz.prog 229 #[.agg (BookR.cells b b_shops_a b_shops_c b_binds_a b_binds_c).toArray, .agg (ShopR.cells x).toArray] H (fun v H' => ∃ (a1 : Option Addr) (c1 : Nat) (a2 : Option Addr) (c2 : Nat), v = .tuple #[.agg (BookR.cells ((makeS b x).1) a1 c1 a2 c2).toArray, .int .i64 ((makeS b x).2)] ∧ SlH shopRE 3 H' (.slice a1 (((makeS b x).1).shops).length c1) (((makeS b x).1).shops) ∧ SlH bindRE 6 H' (.slice a2 (((makeS b x).1).binds).length c2) (((makeS b x).1).binds)) := by
  refine ph_cw Tryz.func229 rfl Tryz.ntmps229 rfl (fun N => ?_)
  have b_w' := b_w
  simp only [BookR.wf] at b_w'
  have x_w' := x_w
  simp only [ShopR.wf] at x_w'
  refine cw_seq ?_
  refine cw_region ?_
  refine ow1 (op1_box (cs := [_, _]) 0 rfl rfl (fun b1 => ?_))
  refine ow1 (op1_box (cs := [_, _, _]) 1 rfl rfl (fun b2 => ?_))
  refine ow1 (op1_alloc 2 rfl zr281 (fun b3 => ?_))
  refine ol rfl (lo_assign (v := .int _ _) rfl) ?_
  refine ow_nil ?_
  refine seqK_n ?_
  refine cw_seq ?_
  refine cw_seq ?_
  refine cw_region ?_
  refine ol rfl (lo_loadA (i := 1) (vs := [_, _, _]) rfl ag54 sz54 rfl rfl rfl) ?_
  refine ow1 (op1_pr (shop_check _ x x_w) (en_f cb245 rfl) rfl ?_)
  have := shopE_r x
  refine ol rfl (lo_assign (v := .int _ _) rfl) ?_
  refine ow_nil ?_
  refine seqK_n ?_
  refine cw_seq ?_
  refine cw_region ?_
  refine ol rfl (lo_move (v := .int _ _) rfl) ?_
  refine ol rfl (lo_neq rfl rfl) ?_
  refine ow_nil ?_
  refine seqK_n ?_
  refine cw_cond rfl (fun h4 => ?_) (fun h4 => ?_)
  · have h5 := not_t h4
    have p6 := df h5
    refine cw_seq ?_
    refine cw_region ?_
    refine ol rfl (lo_loadA (i := 0) (vs := [_, _]) rfl ag281 sz281 rfl rfl rfl) ?_
    refine ol rfl (lo_move (v := .int _ _) rfl) ?_
    refine ow1 (op1_storeAll (i := 2) (vs := [_, _]) rfl rfl rfl sz281 rfl rfl rfl ?_)
    refine ol rfl (lo_assign (v := .int _ _) rfl) ?_
    refine ow_nil ?_
    refine seqK_n ?_
    refine cw_ret ?_
    refine seqK_r ?_
    refine fnK_r (res2 rfl (rv_c (i := 2) (vs := [_, _]) rfl ag281 sz281 rfl rfl rfl) (rv_t (v := .int _ _) rfl)) (.refl _) ?_
    have e : makeS b x = (b, shopE x) := by
      unfold makeS
      (repeat (first | rw [if_pos (by omega)] | rw [if_pos (by assumption)] | rw [if_pos (And.intro (by assumption) (by assumption))] | rw [if_pos (Or.inl (by assumption))] | rw [if_pos (Or.inr (by assumption))] | rw [if_neg (by omega)] | rw [if_neg (by assumption)] | rw [if_neg (not_not_intro (by assumption))] | rw [if_neg (nbt (by assumption))] | rw [if_neg (nbf (by assumption))] | rw [if_neg (nand_l (by assumption))] | rw [if_neg (nand_r (by assumption))] | rw [if_neg (nand_l (nbt (by assumption)))] | rw [if_neg (nand_r (nbt (by assumption)))] | rw [if_neg (nor_ (not_not_intro (by assumption)) (nbf (by assumption)))]))
      all_goals first | done | rfl
    rw [e]
    exact ⟨_, _, _, _, rfl, b_shops_h, b_binds_h⟩
  have h7 := not_f h4
  have p8 := dt h7
  refine cw_skip ?_
  refine seqK_n ?_
  refine cw_seq ?_
  refine cw_region ?_
  refine ol rfl (lo_loadA (i := 0) (vs := [_, _]) rfl ag281 sz281 rfl rfl rfl) ?_
  refine ol rfl (lo_fieldAddr rfl fl54_0) ?_
  refine ol rfl (lo_load1 (i := 1) (v := str _) rfl ag9 rfl rfl) ?_
  refine ow1 (op1_pr (book_Shop _ b b_shops_a b_shops_c b_shops_h b_binds_a b_binds_c b_binds_h b_w x.name) (en_f cb246 rfl) rfl ?_)
  refine ol rfl (lo_move (v := .tuple #[_, _]) rfl) ?_
  refine ol rfl (lo_extract (v := .agg #[_, _, _]) rfl rfl) ?_
  refine ol rfl (lo_extract (v := .bool _) rfl rfl) ?_
  refine ow1 (op1_alloc 3 rfl zr54 (fun b9 => ?_))
  refine ow1 (op1_storeAll (i := 3) (vs := [_, _, _]) rfl rfl rfl sz54 rfl rfl rfl ?_)
  refine ol rfl (lo_assign (v := .bool _) rfl) ?_
  refine ow_nil ?_
  refine seqK_n ?_
  refine cw_seq ?_
  refine cw_block ?_
  refine cw_seq ?_
  refine cw_region ?_
  refine ol rfl (lo_move (v := .bool _) rfl) ?_
  refine ol rfl (lo_move (v := .bool _) rfl) ?_
  refine ow_sp (j := 1) rfl (fun h10 => ?_) (fun h10 => ?_)
  · refine ow1 (op1_g rfl h10 rfl (lo_loadA (i := 1) (vs := [_, _, _]) rfl ag54 sz54 rfl rfl rfl) ?_)
    refine ow1 (op1_g rfl h10 rfl (lo_loadA (i := 3) (vs := [_, _, _]) rfl ag54 sz54 rfl rfl rfl) ?_)
    refine ow1 (op1_g rfl h10 rfl (lo_aeql (u := (ShopR.cells x).toArray) (v := (ShopR.cells ((shopOf b.shops x.name).getD ShopR.zero)).toArray) rfl rfl eqg54 (eqr54 _ _ 9998)) ?_)
    refine ol rfl (lo_pick_t (v := .bool _) rfl h10 rfl) ?_
    refine ol rfl (lo_assign (v := .bool _) rfl) ?_
    refine ow_nil ?_
    refine seqK_n ?_
    refine cw_cond rfl (fun h11 => ?_) (fun h11 => ?_)
    · have p12 := dt h11
      refine cw_seq ?_
      refine cw_region ?_
      refine ol rfl (lo_loadA (i := 0) (vs := [_, _]) rfl ag281 sz281 rfl rfl rfl) ?_
      refine ow1 (op1_storeAll (i := 2) (vs := [_, _]) rfl rfl rfl sz281 rfl rfl rfl ?_)
      refine ol rfl (lo_assign (v := .int _ _) rfl) ?_
      refine ow_nil ?_
      refine seqK_n ?_
      refine cw_ret ?_
      refine blkK_r ?_
      refine seqK_r ?_
      refine fnK_r (res2 rfl (rv_c (i := 2) (vs := [_, _]) rfl ag281 sz281 rfl rfl rfl) (rv_t (v := .int _ _) rfl)) (.refl _) ?_
      have e : makeS b x = (b, 0) := by
        unfold makeS
        (repeat (first | rw [if_pos (by omega)] | rw [if_pos (by assumption)] | rw [if_pos (And.intro (by assumption) (by assumption))] | rw [if_pos (Or.inl (by assumption))] | rw [if_pos (Or.inr (by assumption))] | rw [if_neg (by omega)] | rw [if_neg (by assumption)] | rw [if_neg (not_not_intro (by assumption))] | rw [if_neg (nbt (by assumption))] | rw [if_neg (nbf (by assumption))] | rw [if_neg (nand_l (by assumption))] | rw [if_neg (nand_r (by assumption))] | rw [if_neg (nand_l (nbt (by assumption)))] | rw [if_neg (nand_r (nbt (by assumption)))] | rw [if_neg (nor_ (not_not_intro (by assumption)) (nbf (by assumption)))]))
        all_goals first | done | rfl
      rw [e]
      exact ⟨_, _, _, _, rfl, b_shops_h, b_binds_h⟩
    have p13 := df h11
    refine cw_seq ?_
    refine cw_region ?_
    refine ol rfl (lo_move (v := .bool _) rfl) ?_
    refine ol rfl (lo_assign (v := .bool _) rfl) ?_
    refine ow_nil ?_
    refine seqK_n ?_
    refine cw_cond_t rfl h10 ?_
    refine cw_seq ?_
    refine cw_region ?_
    refine ol rfl (lo_loadA (i := 0) (vs := [_, _]) rfl ag281 sz281 rfl rfl rfl) ?_
    refine ow1 (op1_storeAll (i := 2) (vs := [_, _]) rfl rfl rfl sz281 rfl rfl rfl ?_)
    refine ol rfl (lo_assign (v := .int _ _) rfl) ?_
    refine ow_nil ?_
    refine seqK_n ?_
    refine cw_ret ?_
    refine blkK_r ?_
    refine seqK_r ?_
    refine fnK_r (res2 rfl (rv_c (i := 2) (vs := [_, _]) rfl ag281 sz281 rfl rfl rfl) (rv_t (v := .int _ _) rfl)) (.refl _) ?_
    have e : makeS b x = (b, 9) := by
      unfold makeS
      (repeat (first | rw [if_pos (by omega)] | rw [if_pos (by assumption)] | rw [if_pos (And.intro (by assumption) (by assumption))] | rw [if_pos (Or.inl (by assumption))] | rw [if_pos (Or.inr (by assumption))] | rw [if_neg (by omega)] | rw [if_neg (by assumption)] | rw [if_neg (not_not_intro (by assumption))] | rw [if_neg (nbt (by assumption))] | rw [if_neg (nbf (by assumption))] | rw [if_neg (nand_l (by assumption))] | rw [if_neg (nand_r (by assumption))] | rw [if_neg (nand_l (nbt (by assumption)))] | rw [if_neg (nand_r (nbt (by assumption)))] | rw [if_neg (nor_ (not_not_intro (by assumption)) (nbf (by assumption)))]))
      all_goals first | done | rfl
    rw [e]
    exact ⟨_, _, _, _, rfl, b_shops_h, b_binds_h⟩
  refine ow1 (op1_gs rfl h10 rfl ?_)
  refine ow1 (op1_gs rfl h10 rfl ?_)
  refine ow1 (op1_gs rfl h10 rfl ?_)
  refine ol rfl (lo_pick_f (v := .bool _) rfl h10 rfl) ?_
  refine ol rfl (lo_assign (v := .bool _) rfl) ?_
  refine ow_nil ?_
  refine seqK_n ?_
  refine cw_cond_f rfl rfl ?_
  refine cw_seq ?_
  refine cw_region ?_
  refine ol rfl (lo_move (v := .bool _) rfl) ?_
  refine ol rfl (lo_assign (v := .bool _) rfl) ?_
  refine ow_nil ?_
  refine seqK_n ?_
  refine cw_cond_f rfl h10 ?_
  refine cw_seq ?_
  refine cw_region ?_
  refine ol rfl (lo_fieldAddr rfl fl281_0) ?_
  refine ol rfl (lo_load1 (i := 0) (v := .slice _ _ _) rfl ag278 rfl rfl) ?_
  refine ol rfl (lo_len_slh rfl b_shops_h Tryz.underlying278) ?_
  refine ol rfl (lo_geq rfl rfl) ?_
  refine ol rfl (lo_assign (v := .bool _) rfl) ?_
  refine ow_nil ?_
  refine seqK_n ?_
  refine cw_cond rfl (fun h14 => ?_) (fun h14 => ?_)
  · have p15 := dt h14
    refine cw_seq ?_
    refine cw_region ?_
    refine ol rfl (lo_loadA (i := 0) (vs := [_, _]) rfl ag281 sz281 rfl rfl rfl) ?_
    refine ow1 (op1_storeAll (i := 2) (vs := [_, _]) rfl rfl rfl sz281 rfl rfl rfl ?_)
    refine ol rfl (lo_assign (v := .int _ _) rfl) ?_
    refine ow_nil ?_
    refine seqK_n ?_
    refine cw_ret ?_
    refine blkK_r ?_
    refine seqK_r ?_
    refine fnK_r (res2 rfl (rv_c (i := 2) (vs := [_, _]) rfl ag281 sz281 rfl rfl rfl) (rv_t (v := .int _ _) rfl)) (.refl _) ?_
    have e : makeS b x = (b, 12) := by
      unfold makeS
      (repeat (first | rw [if_pos (by omega)] | rw [if_pos (by assumption)] | rw [if_pos (And.intro (by assumption) (by assumption))] | rw [if_pos (Or.inl (by assumption))] | rw [if_pos (Or.inr (by assumption))] | rw [if_neg (by omega)] | rw [if_neg (by assumption)] | rw [if_neg (not_not_intro (by assumption))] | rw [if_neg (nbt (by assumption))] | rw [if_neg (nbf (by assumption))] | rw [if_neg (nand_l (by assumption))] | rw [if_neg (nand_r (by assumption))] | rw [if_neg (nand_l (nbt (by assumption)))] | rw [if_neg (nand_r (nbt (by assumption)))] | rw [if_neg (nor_ (not_not_intro (by assumption)) (nbf (by assumption)))]))
      all_goals first | done | rfl
    rw [e]
    exact ⟨_, _, _, _, rfl, b_shops_h, b_binds_h⟩
  have p16 := df h14
  refine cw_skip ?_
  refine blkK_n ?_
  refine seqK_n ?_
  refine cw_seq ?_
  refine cw_region ?_
  refine ol rfl (lo_fieldAddr rfl fl281_0) ?_
  refine ol rfl (lo_load1 (i := 0) (v := .slice _ _ _) rfl ag278 rfl rfl) ?_
  refine ol rfl (lo_loadA (i := 1) (vs := [_, _, _]) rfl ag54 sz54 rfl rfl rfl) ?_
  refine ow1 (op1_bslice (cs := [_, _, _]) 4 rfl Tryz.underlying278 sz54 zx54 rfl ⟨rfl, rfl, trivial⟩ rfl rfl (by decide) (fun b17 => ?_))
  refine ow_giveO 4 rfl (fun _ hl18 hg19 => ?_)
  have hs20 := slh_bx (k := 3) (H := _) (enc := ShopR.cells) (wf := ShopR.wf) [x] (fun _ => rfl) (hg19 _ _ rfl) rfl rfl (Nat.le_refl _) (by first | (intro x hx; simp at hx; subst hx; first | omega | (simp; done) | (simp; omega)) | (simp; done) | (simp; omega))
  refine ow1 (op1_bslice (cs := [_, _]) 4 rfl Tryz.underlying312 sz278 zx278 rfl ⟨rfl, rfl, ⟨rfl, rfl, trivial⟩⟩ rfl rfl (by decide) (fun b21 => ?_))
  refine ow_giveO 4 rfl (fun _ hl22 hg23 => ?_)
  have hs24 := slh_bxE (E := (slE shopRE 3)) (H := _) (xs := [b.shops, [x]]) slE_wide (hg23 _ _ rfl) ⟨_, _, rfl, ⟨_, _, rfl, (b_shops_h.mono (((HLe.refl _).trans hl18).trans hl22) (fun _ _ h => h))⟩, ⟨_, _, rfl, ⟨_, _, rfl, (hs20.mono ((HLe.refl _).trans hl22) (fun _ _ h => h))⟩, rl_nil⟩⟩ rfl (Nat.le_refl _)
  refine ow1 (op1_ph (concat_Shop _ (some ⟨b21, 0, none⟩) 2 2 [b.shops, [x]] hs24 (by first | omega | (simp; done) | (simp; omega)) (by first | omega | (simp; done) | (simp; omega))) (en_f cb247 rfl) rfl ?_)
  rintro _ H29 ⟨a25, c26, rfl, hs27⟩ hl28
  refine ol rfl (lo_fieldAddr rfl fl281_0) ?_
  refine ow1 (op1_store1n (i := 0) (v := .slice _ _ _) [_, _] rfl rfl rfl sz278 rfl rfl rfl ?_)
  refine ow_nil ?_
  refine seqK_n ?_
  refine cw_seq ?_
  refine cw_region ?_
  refine ol rfl (lo_loadA (i := 0) (vs := [_, _]) rfl ag281 sz281 rfl rfl rfl) ?_
  refine ow1 (op1_storeAll (i := 2) (vs := [_, _]) rfl rfl rfl sz281 rfl rfl rfl ?_)
  refine ol rfl (lo_assign (v := .int _ _) rfl) ?_
  refine ow_nil ?_
  refine seqK_n ?_
  refine cw_ret ?_
  refine fnK_r (res2 rfl (rv_c (i := 2) (vs := [_, _]) rfl ag281 sz281 rfl rfl rfl) (rv_t (v := .int _ _) rfl)) ((((HLe.refl _).trans hl18).trans hl22).trans hl28) ?_
  have e : makeS b x = ((⟨([b.shops, [x]]).flatten, b.binds⟩ : BookR), 0) := by
    unfold makeS
    (repeat (first | rw [if_pos (by omega)] | rw [if_pos (by assumption)] | rw [if_pos (And.intro (by assumption) (by assumption))] | rw [if_pos (Or.inl (by assumption))] | rw [if_pos (Or.inr (by assumption))] | rw [if_neg (by omega)] | rw [if_neg (by assumption)] | rw [if_neg (not_not_intro (by assumption))] | rw [if_neg (nbt (by assumption))] | rw [if_neg (nbf (by assumption))] | rw [if_neg (nand_l (by assumption))] | rw [if_neg (nand_r (by assumption))] | rw [if_neg (nand_l (nbt (by assumption)))] | rw [if_neg (nand_r (nbt (by assumption)))] | rw [if_neg (nor_ (not_not_intro (by assumption)) (nbf (by assumption)))]))
    all_goals first | done | rfl
  rw [e]
  exact ⟨_, _, _, _, rfl, hs27, (b_binds_h.mono ((((HLe.refl _).trans hl18).trans hl22).trans hl28) (fun _ _ q => bindRE_mono _ _ _ _ ((((HLe.refl _).trans hl18).trans hl22).trans hl28) q))⟩
end Go.SW
set_option linter.unusedVariables false
set_option maxRecDepth 100000
set_option maxHeartbeats 4000000
namespace Go.SW
open Go.Proofs
theorem bd292_0u8_1s_2l_3b (a1 : Int) (a2 : Bs) (a3 : Option Addr) (a3l a3c : Nat) (a4 : Bool) (w : World) : (Instr.build 292 #[(0, .int .u8 a1), (1, str a2), (2, .slice a3 a3l a3c), (3, .bool a4)]).run Tryz.prog w = .ok (.agg #[.int .u8 a1, str a2, .slice a3 a3l a3c, .bool a4]) w := by kernel_rfl
theorem cb211 : Callable Tryz.prog 211 := callable_of Tryz.func211 (by kernel_rfl) (by kernel_rfl)
theorem cb248 : Callable Tryz.prog 248 := callable_of Tryz.func248 (by kernel_rfl) (by kernel_rfl)
theorem cb261 : Callable Tryz.prog 261 := callable_of Tryz.func261 (by kernel_rfl) (by kernel_rfl)
theorem cb262 : Callable Tryz.prog 262 := callable_of Tryz.func262 (by kernel_rfl) (by kernel_rfl)
theorem cb270 : Callable Tryz.prog 270 := callable_of Tryz.func270 (by kernel_rfl) (by kernel_rfl)
theorem fl281_1 : Fld Tryz.prog 281 1 1 := fun b o w => by kernel_rfl
theorem bind_rule (H : Hp) (x : BindR) (x_want_a : Option Addr) (x_want_c : Nat) (x_want_h : SlH pairE 4 H (.slice x_want_a x.want.length x_want_c) x.want) (x_w : BindR.wf x) (sort : Int) (sort_r : 0 ≤ sort ∧ sort ≤ 255) : Ph Tryz.prog 248 #[.agg (BindR.cells x x_want_a x_want_c).toArray, .int .u8 sort] H (fun v H' => ∃ (a1 : Option Addr) (c1 : Nat), v = .agg (Rule.cells (bindRule x sort) a1 c1).toArray ∧ SlH pairE 4 H' (.slice a1 ((bindRule x sort).want).length c1) ((bindRule x sort).want)) := by
  refine ph_cw Tryz.func248 rfl Tryz.ntmps248 rfl (fun N => ?_)
  have x_w' := x_w
  simp only [BindR.wf] at x_w'
  refine cw_seq ?_
  refine cw_region ?_
  refine ow1 (op1_box (cs := [_, _, _, _, _, _]) 0 rfl rfl (fun b1 => ?_))
  refine ow1 (op1_alloc 1 rfl zr292 (fun b2 => ?_))
  refine ow_nil ?_
  refine seqK_n ?_
  refine cw_seq ?_
  refine cw_region ?_
  refine ol rfl (lo_move (v := .int _ _) rfl) ?_
  refine ol rfl (lo_fieldAddr rfl fl58_3) ?_
  refine ol rfl (lo_load1 (i := 0) (v := str _) rfl ag9 rfl rfl) ?_
  refine ol rfl (lo_fieldAddr rfl fl58_4) ?_
  refine ol rfl (lo_load1 (i := 0) (v := .slice _ _ _) rfl ag26 rfl rfl) ?_
  refine ol rfl (lo_fieldAddr rfl fl58_5) ?_
  refine ol rfl (lo_load1 (i := 0) (v := .bool _) rfl ag4 rfl rfl) ?_
  refine ol rfl (lo_build (v := .agg #[_, _, _, _]) rfl (bd292_0u8_1s_2l_3b _ _ _ _ _ _)) ?_
  refine ow1 (op1_storeAll (i := 1) (vs := [_, _, _, _]) rfl rfl rfl sz292 rfl rfl rfl ?_)
  refine ow_nil ?_
  refine seqK_n ?_
  refine cw_ret ?_
  refine fnK_r (res1 rfl (rv_c (i := 1) (vs := [_, _, _, _]) rfl ag292 sz292 rfl rfl rfl)) (.refl _) ?_
  exact ⟨_, _, rfl, x_want_h⟩
theorem bind_same (H : Hp) (x : BindR) (x_want_a : Option Addr) (x_want_c : Nat) (x_want_h : SlH pairE 4 H (.slice x_want_a x.want.length x_want_c) x.want) (x_w : BindR.wf x) (y : BindR) (y_want_a : Option Addr) (y_want_c : Nat) (y_want_h : SlH pairE 4 H (.slice y_want_a y.want.length y_want_c) y.want) (y_w : BindR.wf y) : Pr Tryz.prog 262 #[.agg (BindR.cells x x_want_a x_want_c).toArray, .agg (BindR.cells y y_want_a y_want_c).toArray] H (.bool (decide (x = y))) := by
  refine pr_cw Tryz.func262 rfl Tryz.ntmps262 rfl (fun N => ?_)
  have x_w' := x_w
  simp only [BindR.wf] at x_w'
  have y_w' := y_w
  simp only [BindR.wf] at y_w'
  refine cw_seq ?_
  refine cw_region ?_
  refine ow1 (op1_box (cs := [_, _, _, _, _, _]) 0 rfl rfl (fun b1 => ?_))
  refine ow1 (op1_box (cs := [_, _, _, _, _, _]) 1 rfl rfl (fun b2 => ?_))
  refine ol rfl (lo_assign (v := .bool _) rfl) ?_
  refine ow_nil ?_
  refine seqK_n ?_
  refine cw_seq ?_
  refine cw_anyL mixd ?_
  refine vw_q 0 rfl (by kernel_rfl) (by repeat (first | exact lle_l0 | exact LLe.refl _ | exact lle_none | refine lle_up ?_ rfl)) (fun _ _ hh hl => lo_fieldAddr rfl fl58_0) ?_
  refine vw_q 1 rfl (by kernel_rfl) (by repeat (first | exact lle_l0 | exact LLe.refl _ | exact lle_none | refine lle_up ?_ rfl)) (fun _ _ hh hl => lo_load1 (i := 0) (v := str _) rfl ag9 (hl _ _ rfl) rfl) ?_
  refine vw_q 2 rfl (by kernel_rfl) (by repeat (first | exact lle_l0 | exact LLe.refl _ | exact lle_none | refine lle_up ?_ rfl)) (fun _ _ hh hl => lo_fieldAddr rfl fl58_0) ?_
  refine vw_q 3 rfl (by kernel_rfl) (by repeat (first | exact lle_l0 | exact LLe.refl _ | exact lle_none | refine lle_up ?_ rfl)) (fun _ _ hh hl => lo_load1 (i := 1) (v := str _) rfl ag9 (hl _ _ rfl) rfl) ?_
  refine vw_q 4 rfl (by kernel_rfl) (by repeat (first | exact lle_l0 | exact LLe.refl _ | exact lle_none | refine lle_up ?_ rfl)) (fun _ _ hh hl => lo_seql rfl rfl) ?_
  refine vw_q 5 rfl (by kernel_rfl) (by repeat (first | exact lle_l0 | exact LLe.refl _ | exact lle_none | refine lle_up ?_ rfl)) (fun _ _ hh hl => lo_move (v := .bool _) rfl) ?_
  refine vw_sp (j := 5) rfl (fun h3 => ?_) (fun h3 => ?_)
  · have p4 := dt h3
    refine vw_qg 6 rfl (by kernel_rfl) (by repeat (first | exact lle_l0 | exact LLe.refl _ | exact lle_none | refine lle_up ?_ rfl)) rfl h3 (fun _ _ hh hl => lo_fieldAddr rfl fl58_1) ?_
    refine vw_qg 7 rfl (by kernel_rfl) (by repeat (first | exact lle_l0 | exact LLe.refl _ | exact lle_none | refine lle_up ?_ rfl)) rfl h3 (fun _ _ hh hl => lo_load1 (i := 0) (v := str _) rfl ag9 (hl _ _ rfl) rfl) ?_
    refine vw_qg 8 rfl (by kernel_rfl) (by repeat (first | exact lle_l0 | exact LLe.refl _ | exact lle_none | refine lle_up ?_ rfl)) rfl h3 (fun _ _ hh hl => lo_fieldAddr rfl fl58_1) ?_
    refine vw_qg 9 rfl (by kernel_rfl) (by repeat (first | exact lle_l0 | exact LLe.refl _ | exact lle_none | refine lle_up ?_ rfl)) rfl h3 (fun _ _ hh hl => lo_load1 (i := 1) (v := str _) rfl ag9 (hl _ _ rfl) rfl) ?_
    refine vw_qg 10 rfl (by kernel_rfl) (by repeat (first | exact lle_l0 | exact LLe.refl _ | exact lle_none | refine lle_up ?_ rfl)) rfl h3 (fun _ _ hh hl => lo_seql rfl rfl) ?_
    refine vw_q 11 rfl (by kernel_rfl) (by repeat (first | exact lle_l0 | exact LLe.refl _ | exact lle_none | refine lle_up ?_ rfl)) (fun _ _ hh hl => lo_pick_t (v := .bool _) rfl h3 rfl) ?_
    refine vw_q 12 rfl (by kernel_rfl) (by repeat (first | exact lle_l0 | exact LLe.refl _ | exact lle_none | refine lle_up ?_ rfl)) (fun _ _ hh hl => lo_move (v := .bool _) rfl) ?_
    refine vw_sp (j := 12) rfl (fun h5 => ?_) (fun h5 => ?_)
    · have p6 := dt h5
      refine vw_qg 13 rfl (by kernel_rfl) (by repeat (first | exact lle_l0 | exact LLe.refl _ | exact lle_none | refine lle_up ?_ rfl)) rfl h5 (fun _ _ hh hl => lo_fieldAddr rfl fl58_2) ?_
      refine vw_qg 14 rfl (by kernel_rfl) (by repeat (first | exact lle_l0 | exact LLe.refl _ | exact lle_none | refine lle_up ?_ rfl)) rfl h5 (fun _ _ hh hl => lo_load1 (i := 0) (v := .bool _) rfl ag4 (hl _ _ rfl) rfl) ?_
      refine vw_qg 15 rfl (by kernel_rfl) (by repeat (first | exact lle_l0 | exact LLe.refl _ | exact lle_none | refine lle_up ?_ rfl)) rfl h5 (fun _ _ hh hl => lo_fieldAddr rfl fl58_2) ?_
      refine vw_qg 16 rfl (by kernel_rfl) (by repeat (first | exact lle_l0 | exact LLe.refl _ | exact lle_none | refine lle_up ?_ rfl)) rfl h5 (fun _ _ hh hl => lo_load1 (i := 1) (v := .bool _) rfl ag4 (hl _ _ rfl) rfl) ?_
      refine vw_qg 17 rfl (by kernel_rfl) (by repeat (first | exact lle_l0 | exact LLe.refl _ | exact lle_none | refine lle_up ?_ rfl)) rfl h5 (fun _ _ hh hl => lo_beql rfl rfl Tryz.underlying4) ?_
      refine vw_q 18 rfl (by kernel_rfl) (by repeat (first | exact lle_l0 | exact LLe.refl _ | exact lle_none | refine lle_up ?_ rfl)) (fun _ _ hh hl => lo_pick_t (v := .bool _) rfl h5 rfl) ?_
      refine vw_q 19 rfl (by kernel_rfl) (by repeat (first | exact lle_l0 | exact LLe.refl _ | exact lle_none | refine lle_up ?_ rfl)) (fun _ _ hh hl => lo_move (v := .bool _) rfl) ?_
      refine vw_sp (j := 19) rfl (fun h7 => ?_) (fun h7 => ?_)
      · have p8 := beqT h7
        refine vw_qg 20 rfl (by kernel_rfl) (by repeat (first | exact lle_l0 | exact LLe.refl _ | exact lle_none | refine lle_up ?_ rfl)) rfl h7 (fun _ _ hh hl => lo_loadA (i := 0) (vs := [_, _, _, _, _, _]) rfl ag58 sz58 (hl _ _ rfl) rfl rfl) ?_
        refine vw_qg 22 rfl (by kernel_rfl) (by repeat (first | exact lle_l0 | exact LLe.refl _ | exact lle_none | refine lle_up ?_ rfl)) rfl h7 (fun _ _ hh hl => lo_loadA (i := 1) (vs := [_, _, _, _, _, _]) rfl ag58 sz58 (hl _ _ rfl) rfl rfl) ?_
        refine vw_e 21 rfl (by kernel_rfl) (op1_phg rfl h7 (bind_rule _ x x_want_a x_want_c x_want_h x_w 0 (by omega)) (en_f cb248 rfl) rfl ?_)
        rintro _ H13 ⟨a9, c10, rfl, hs11⟩ hl12
        refine ⟨⟨((HLe.refl _).trans hl12), (by repeat (first | exact lle_l0 | exact LLe.refl _ | exact lle_none | refine lle_up ?_ rfl))⟩, ?_⟩
        refine vw_e 23 rfl (by kernel_rfl) (op1_phg rfl h7 (bind_rule _ y y_want_a y_want_c (y_want_h.mono ((HLe.refl _).trans hl12) (fun _ _ h => h)) y_w 0 (by omega)) (en_f cb248 rfl) rfl ?_)
        rintro _ H18 ⟨a14, c15, rfl, hs16⟩ hl17
        refine ⟨⟨((HLe.refl _).trans hl17), (by repeat (first | exact lle_l0 | exact LLe.refl _ | exact lle_none | refine lle_up ?_ rfl))⟩, ?_⟩
        refine vw_qgc 24 rfl (by kernel_rfl) (by repeat (first | exact lle_l0 | exact LLe.refl _ | exact lle_none | refine lle_up ?_ rfl)) rfl h7 (match_Same _ (bindRule x 0) a9 c10 (hs11.mono ((HLe.refl _).trans hl17) (fun _ _ h => h)) (bindRule_wf x_w (by omega)) (bindRule y 0) a14 c15 hs16 (bindRule_wf y_w (by omega))) (en_f cb270 rfl) ?_
        refine vw_q 25 rfl (by kernel_rfl) (by repeat (first | exact lle_l0 | exact LLe.refl _ | exact lle_none | refine lle_up ?_ rfl)) (fun _ _ hh hl => lo_pick_t (v := .bool _) rfl h7 rfl) ?_
        refine vw_q 26 rfl (by kernel_rfl) (by repeat (first | exact lle_l0 | exact LLe.refl _ | exact lle_none | refine lle_up ?_ rfl)) (fun _ _ hh hl => lo_assign (v := .bool _) rfl) ?_
        refine vw_done (by kernel_rfl) ?_
        refine seqK_n ?_
        refine cw_ret ?_
        refine fnK_r (res1 rfl (rv_t (v := .bool _) rfl)) (((HLe.refl _).trans hl12).trans hl17) ?_
        first | (simp [BindR.eq_iff, bindRule, *]; done) | (simp [BindR.eq_iff, bindRule, *]; cases x.all <;> cases y.all <;> rfl)
      have p19 := beqF h7
      refine vw_qgs 20 rfl (by kernel_rfl) (by repeat (first | exact lle_l0 | exact LLe.refl _ | exact lle_none | refine lle_up ?_ rfl)) rfl h7 ?_
      refine vw_qgs 21 rfl (by kernel_rfl) (by repeat (first | exact lle_l0 | exact LLe.refl _ | exact lle_none | refine lle_up ?_ rfl)) rfl h7 ?_
      refine vw_qgs 22 rfl (by kernel_rfl) (by repeat (first | exact lle_l0 | exact LLe.refl _ | exact lle_none | refine lle_up ?_ rfl)) rfl h7 ?_
      refine vw_qgs 23 rfl (by kernel_rfl) (by repeat (first | exact lle_l0 | exact LLe.refl _ | exact lle_none | refine lle_up ?_ rfl)) rfl h7 ?_
      refine vw_qgs 24 rfl (by kernel_rfl) (by repeat (first | exact lle_l0 | exact LLe.refl _ | exact lle_none | refine lle_up ?_ rfl)) rfl h7 ?_
      refine vw_q 25 rfl (by kernel_rfl) (by repeat (first | exact lle_l0 | exact LLe.refl _ | exact lle_none | refine lle_up ?_ rfl)) (fun _ _ hh hl => lo_pick_f (v := .bool _) rfl h7 rfl) ?_
      refine vw_q 26 rfl (by kernel_rfl) (by repeat (first | exact lle_l0 | exact LLe.refl _ | exact lle_none | refine lle_up ?_ rfl)) (fun _ _ hh hl => lo_assign (v := .bool _) rfl) ?_
      refine vw_done (by kernel_rfl) ?_
      refine seqK_n ?_
      refine cw_ret ?_
      refine fnK_r (res1 rfl (rv_t (v := .bool _) rfl)) (.refl _) ?_
      first | (simp [BindR.eq_iff, bindRule, *]; done) | (simp [BindR.eq_iff, bindRule, *]; cases x.all <;> cases y.all <;> rfl)
    have p20 := df h5
    refine vw_qgs 13 rfl (by kernel_rfl) (by repeat (first | exact lle_l0 | exact LLe.refl _ | exact lle_none | refine lle_up ?_ rfl)) rfl h5 ?_
    refine vw_qgs 14 rfl (by kernel_rfl) (by repeat (first | exact lle_l0 | exact LLe.refl _ | exact lle_none | refine lle_up ?_ rfl)) rfl h5 ?_
    refine vw_qgs 15 rfl (by kernel_rfl) (by repeat (first | exact lle_l0 | exact LLe.refl _ | exact lle_none | refine lle_up ?_ rfl)) rfl h5 ?_
    refine vw_qgs 16 rfl (by kernel_rfl) (by repeat (first | exact lle_l0 | exact LLe.refl _ | exact lle_none | refine lle_up ?_ rfl)) rfl h5 ?_
    refine vw_qgs 17 rfl (by kernel_rfl) (by repeat (first | exact lle_l0 | exact LLe.refl _ | exact lle_none | refine lle_up ?_ rfl)) rfl h5 ?_
    refine vw_q 18 rfl (by kernel_rfl) (by repeat (first | exact lle_l0 | exact LLe.refl _ | exact lle_none | refine lle_up ?_ rfl)) (fun _ _ hh hl => lo_pick_f (v := .bool _) rfl h5 rfl) ?_
    refine vw_q 19 rfl (by kernel_rfl) (by repeat (first | exact lle_l0 | exact LLe.refl _ | exact lle_none | refine lle_up ?_ rfl)) (fun _ _ hh hl => lo_move (v := .bool _) rfl) ?_
    refine vw_qgs 20 rfl (by kernel_rfl) (by repeat (first | exact lle_l0 | exact LLe.refl _ | exact lle_none | refine lle_up ?_ rfl)) rfl rfl ?_
    refine vw_qgs 21 rfl (by kernel_rfl) (by repeat (first | exact lle_l0 | exact LLe.refl _ | exact lle_none | refine lle_up ?_ rfl)) rfl rfl ?_
    refine vw_qgs 22 rfl (by kernel_rfl) (by repeat (first | exact lle_l0 | exact LLe.refl _ | exact lle_none | refine lle_up ?_ rfl)) rfl rfl ?_
    refine vw_qgs 23 rfl (by kernel_rfl) (by repeat (first | exact lle_l0 | exact LLe.refl _ | exact lle_none | refine lle_up ?_ rfl)) rfl rfl ?_
    refine vw_qgs 24 rfl (by kernel_rfl) (by repeat (first | exact lle_l0 | exact LLe.refl _ | exact lle_none | refine lle_up ?_ rfl)) rfl rfl ?_
    refine vw_q 25 rfl (by kernel_rfl) (by repeat (first | exact lle_l0 | exact LLe.refl _ | exact lle_none | refine lle_up ?_ rfl)) (fun _ _ hh hl => lo_pick_f (v := .bool _) rfl rfl rfl) ?_
    refine vw_q 26 rfl (by kernel_rfl) (by repeat (first | exact lle_l0 | exact LLe.refl _ | exact lle_none | refine lle_up ?_ rfl)) (fun _ _ hh hl => lo_assign (v := .bool _) rfl) ?_
    refine vw_done (by kernel_rfl) ?_
    refine seqK_n ?_
    refine cw_ret ?_
    refine fnK_r (res1 rfl (rv_t (v := .bool _) rfl)) (.refl _) ?_
    first | (simp [BindR.eq_iff, bindRule, *]; done) | (simp [BindR.eq_iff, bindRule, *]; cases x.all <;> cases y.all <;> rfl)
  have p21 := df h3
  refine vw_qgs 6 rfl (by kernel_rfl) (by repeat (first | exact lle_l0 | exact LLe.refl _ | exact lle_none | refine lle_up ?_ rfl)) rfl h3 ?_
  refine vw_qgs 7 rfl (by kernel_rfl) (by repeat (first | exact lle_l0 | exact LLe.refl _ | exact lle_none | refine lle_up ?_ rfl)) rfl h3 ?_
  refine vw_qgs 8 rfl (by kernel_rfl) (by repeat (first | exact lle_l0 | exact LLe.refl _ | exact lle_none | refine lle_up ?_ rfl)) rfl h3 ?_
  refine vw_qgs 9 rfl (by kernel_rfl) (by repeat (first | exact lle_l0 | exact LLe.refl _ | exact lle_none | refine lle_up ?_ rfl)) rfl h3 ?_
  refine vw_qgs 10 rfl (by kernel_rfl) (by repeat (first | exact lle_l0 | exact LLe.refl _ | exact lle_none | refine lle_up ?_ rfl)) rfl h3 ?_
  refine vw_q 11 rfl (by kernel_rfl) (by repeat (first | exact lle_l0 | exact LLe.refl _ | exact lle_none | refine lle_up ?_ rfl)) (fun _ _ hh hl => lo_pick_f (v := .bool _) rfl h3 rfl) ?_
  refine vw_q 12 rfl (by kernel_rfl) (by repeat (first | exact lle_l0 | exact LLe.refl _ | exact lle_none | refine lle_up ?_ rfl)) (fun _ _ hh hl => lo_move (v := .bool _) rfl) ?_
  refine vw_qgs 13 rfl (by kernel_rfl) (by repeat (first | exact lle_l0 | exact LLe.refl _ | exact lle_none | refine lle_up ?_ rfl)) rfl rfl ?_
  refine vw_qgs 14 rfl (by kernel_rfl) (by repeat (first | exact lle_l0 | exact LLe.refl _ | exact lle_none | refine lle_up ?_ rfl)) rfl rfl ?_
  refine vw_qgs 15 rfl (by kernel_rfl) (by repeat (first | exact lle_l0 | exact LLe.refl _ | exact lle_none | refine lle_up ?_ rfl)) rfl rfl ?_
  refine vw_qgs 16 rfl (by kernel_rfl) (by repeat (first | exact lle_l0 | exact LLe.refl _ | exact lle_none | refine lle_up ?_ rfl)) rfl rfl ?_
  refine vw_qgs 17 rfl (by kernel_rfl) (by repeat (first | exact lle_l0 | exact LLe.refl _ | exact lle_none | refine lle_up ?_ rfl)) rfl rfl ?_
  refine vw_q 18 rfl (by kernel_rfl) (by repeat (first | exact lle_l0 | exact LLe.refl _ | exact lle_none | refine lle_up ?_ rfl)) (fun _ _ hh hl => lo_pick_f (v := .bool _) rfl rfl rfl) ?_
  refine vw_q 19 rfl (by kernel_rfl) (by repeat (first | exact lle_l0 | exact LLe.refl _ | exact lle_none | refine lle_up ?_ rfl)) (fun _ _ hh hl => lo_move (v := .bool _) rfl) ?_
  refine vw_qgs 20 rfl (by kernel_rfl) (by repeat (first | exact lle_l0 | exact LLe.refl _ | exact lle_none | refine lle_up ?_ rfl)) rfl rfl ?_
  refine vw_qgs 21 rfl (by kernel_rfl) (by repeat (first | exact lle_l0 | exact LLe.refl _ | exact lle_none | refine lle_up ?_ rfl)) rfl rfl ?_
  refine vw_qgs 22 rfl (by kernel_rfl) (by repeat (first | exact lle_l0 | exact LLe.refl _ | exact lle_none | refine lle_up ?_ rfl)) rfl rfl ?_
  refine vw_qgs 23 rfl (by kernel_rfl) (by repeat (first | exact lle_l0 | exact LLe.refl _ | exact lle_none | refine lle_up ?_ rfl)) rfl rfl ?_
  refine vw_qgs 24 rfl (by kernel_rfl) (by repeat (first | exact lle_l0 | exact LLe.refl _ | exact lle_none | refine lle_up ?_ rfl)) rfl rfl ?_
  refine vw_q 25 rfl (by kernel_rfl) (by repeat (first | exact lle_l0 | exact LLe.refl _ | exact lle_none | refine lle_up ?_ rfl)) (fun _ _ hh hl => lo_pick_f (v := .bool _) rfl rfl rfl) ?_
  refine vw_q 26 rfl (by kernel_rfl) (by repeat (first | exact lle_l0 | exact LLe.refl _ | exact lle_none | refine lle_up ?_ rfl)) (fun _ _ hh hl => lo_assign (v := .bool _) rfl) ?_
  refine vw_done (by kernel_rfl) ?_
  refine seqK_n ?_
  refine cw_ret ?_
  refine fnK_r (res1 rfl (rv_t (v := .bool _) rfl)) (.refl _) ?_
  first | (simp [BindR.eq_iff, bindRule, *]; done) | (simp [BindR.eq_iff, bindRule, *]; cases x.all <;> cases y.all <;> rfl)
theorem bind_clone (H : Hp) (x : BindR) (x_want_a : Option Addr) (x_want_c : Nat) (x_want_h : SlH pairE 4 H (.slice x_want_a x.want.length x_want_c) x.want) (x_w : BindR.wf x) (hl : x.want.length ≤ 1000000) : Ph Tryz.prog 251 #[.agg (BindR.cells x x_want_a x_want_c).toArray] H (fun v H' => ∃ (a1 : Option Addr) (c1 : Nat), v = .agg (BindR.cells x a1 c1).toArray ∧ SlH pairE 4 H' (.slice a1 x.want.length c1) x.want) := by
  refine ph_cw Tryz.func251 rfl Tryz.ntmps251 rfl (fun N => ?_)
  have x_w' := x_w
  simp only [BindR.wf] at x_w'
  refine cw_seq ?_
  refine cw_region ?_
  refine ow1 (op1_box (cs := [_, _, _, _, _, _]) 0 rfl rfl (fun b1 => ?_))
  refine ow1 (op1_alloc 1 rfl zr58 (fun b2 => ?_))
  refine ow_nil ?_
  refine seqK_n ?_
  refine cw_seq ?_
  refine cw_region ?_
  refine ol rfl (lo_fieldAddr rfl fl58_4) ?_
  refine ol rfl (lo_load1 (i := 0) (v := .slice _ _ _) rfl ag26 rfl rfl) ?_
  refine ow1 (op1_ph (clone_Pair _ x_want_a x.want.length x_want_c x.want x_want_h (by first | omega | (simp; done) | (simp; omega))) (en_f cb211 rfl) rfl ?_)
  rintro _ H7 ⟨a3, c4, rfl, hs5⟩ hl6
  refine ol rfl (lo_fieldAddr rfl fl58_4) ?_
  refine ow1 (op1_store1n (i := 0) (v := .slice _ _ _) [_, _, _, _, _, _] rfl rfl rfl sz26 rfl rfl rfl ?_)
  refine ow_nil ?_
  refine seqK_n ?_
  refine cw_seq ?_
  refine cw_region ?_
  refine ol rfl (lo_loadA (i := 0) (vs := [_, _, _, _, _, _]) rfl ag58 sz58 rfl rfl rfl) ?_
  refine ow1 (op1_storeAll (i := 1) (vs := [_, _, _, _, _, _]) rfl rfl rfl sz58 rfl rfl rfl ?_)
  refine ow_nil ?_
  refine seqK_n ?_
  refine cw_ret ?_
  refine fnK_r (res1 rfl (rv_c (i := 1) (vs := [_, _, _, _, _, _]) rfl ag58 sz58 rfl rfl rfl)) ((HLe.refl _).trans hl6) ?_
  exact ⟨_, _, rfl, hs5⟩
theorem book_there (H : Hp) (b : BookR) (b_shops_a : Option Addr) (b_shops_c : Nat) (b_shops_h : SlH shopRE 3 H (.slice b_shops_a b.shops.length b_shops_c) b.shops) (b_binds_a : Option Addr) (b_binds_c : Nat) (b_binds_h : SlH bindRE 6 H (.slice b_binds_a b.binds.length b_binds_c) b.binds) (b_w : BookR.wf b) (x : BindR) (x_want_a : Option Addr) (x_want_c : Nat) (x_want_h : SlH pairE 4 H (.slice x_want_a x.want.length x_want_c) x.want) (x_w : BindR.wf x) : Pr Tryz.prog 249 #[.agg (BookR.cells b b_shops_a b_shops_c b_binds_a b_binds_c).toArray, .agg (BindR.cells x x_want_a x_want_c).toArray] H (.int .i64 (idxP (fun y => decide (x = y)) b.binds)) := by
  refine pr_cw Tryz.func249 rfl Tryz.ntmps249 rfl (fun N => ?_)
  have b_w' := b_w
  simp only [BookR.wf] at b_w'
  have x_w' := x_w
  simp only [BindR.wf] at x_w'
  refine cw_seq ?_
  refine cw_region ?_
  refine ow1 (op1_box (cs := [_, _]) 0 rfl rfl (fun b1 => ?_))
  refine ow1 (op1_box (cs := [_, _, _, _, _, _]) 1 rfl rfl (fun b2 => ?_))
  refine ol rfl (lo_assign (v := .int _ _) rfl) ?_
  refine ow_nil ?_
  refine seqK_n ?_
  refine cw_seq ?_
  refine cw_region ?_
  refine ol rfl (lo_fieldAddr rfl fl281_1) ?_
  refine ol rfl (lo_load1 (i := 0) (v := .slice _ _ _) rfl ag279 rfl rfl) ?_
  refine ol rfl (lo_loadA (i := 1) (vs := [_, _, _, _, _, _]) rfl ag58 sz58 rfl rfl rfl) ?_
  refine ol rfl (lo_makeFuncB (fs := [_]) (cap := []) rfl rfl) ?_
  refine ow1 (op1_in (en_f cb261 rfl) Tryz.func261 rfl Tryz.ntmps261 rfl rfl ?_)
  refine cw_seq ?_
  refine cw_region ?_
  refine ol rfl (lo_assign (v := .int _ _) rfl) ?_
  refine ow_nil ?_
  refine seqK_n ?_
  refine cw_seq ?_
  refine cw_seq ?_
  refine cw_region ?_
  refine ol rfl (lo_move (v := .slice _ _ _) rfl) ?_
  refine ol rfl (lo_len_slh rfl b_binds_h Tryz.underlying279) ?_
  refine ol rfl (lo_move (v := .int _ _) rfl) ?_
  refine ow_nil ?_
  refine seqK_n ?_
  refine cw_block ?_
  refine cw_loop1 [4, 5, 8, 9, 10, 11, 12, 13, 14, 15, 16, 17, 18] [] (fun (k : Nat) G => upd (G) 8 (.int .i64 (k : Int))) (fun (k : Nat) G => G) (fun (k : Nat) H' => k ≤ b.binds.length ∧ idxP (fun y => decide (x = y)) b.binds = idxF (fun y => decide (x = y)) k (b.binds.drop k)) (fun (k : Nat) => b.binds.length - k) 0 (upd_intro (mask_intro (by first | exact off_refl | (repeat (first | exact off_mask | refine off_upd rfl ?_ | refine off_mask2 rfl ?_)))) rfl) (lmask_intro offl_refl) ?_ ?_
  · exact ⟨Nat.zero_le _, rfl⟩
  intro k J4 JL4 H4 hp3 hl4
  obtain ⟨hik1, hik2⟩ := hp3
  refine cw_seq ?_
  refine cw_region ?_
  refine ol rfl (lo_lss rfl rfl) ?_
  refine ow_nil ?_
  refine seqK_n ?_
  refine cw_seq ?_
  refine cw_cond rfl (fun h5 => ?_) (fun h5 => ?_)
  · have p6 := dt h5
    refine cw_skip ?_
    refine seqK_n ?_
    refine cw_seq ?_
    refine cw_block ?_
    refine cw_seq ?_
    refine cw_region ?_
    refine ol rfl (lo_move (v := .int _ _) rfl) ?_
    refine ol rfl (lo_assign (v := .int _ _) rfl) ?_
    refine ow_nil ?_
    refine seqK_n ?_
    refine cw_seq ?_
    refine cw_region ?_
    refine ol rfl (lo_move rfl) ?_
    refine ol rfl (lo_move (v := .slice _ _ _) rfl) ?_
    refine ol rfl (lo_move (v := .int _ _) rfl) ?_
    obtain ⟨c7, hc8⟩ := getE (xs := b.binds) (m := k) (by omega)
    obtain ⟨cs9, hE10, at11⟩ := (b_binds_h.mono ((HLe.refl _).trans hl4) (fun _ _ q => bindRE_mono _ _ _ _ ((HLe.refl _).trans hl4) q)).get hc8
    obtain ⟨a12, c13, rfl, hs14, c7_w⟩ := hE10
    have c7_w' := c7_w
    simp only [BindR.wf] at c7_w'
    refine ol rfl (lo_indexAddr rfl rfl (b_binds_h.mono ((HLe.refl _).trans hl4) (fun _ _ q => bindRE_mono _ _ _ _ ((HLe.refl _).trans hl4) q)).1 at11 Tryz.underlying279 sz58 (by omega) (by omega)) ?_
    refine ol rfl (lo_loadEA rfl ag58 sz58 at11) ?_
    refine ow1 (op1_pr (bind_same _ x x_want_a x_want_c (x_want_h.mono ((HLe.refl _).trans hl4) (fun _ _ h => h)) x_w c7 a12 c13 hs14 c7_w) (en_b rfl cb262 rfl) rfl ?_)
    refine ow_nil ?_
    refine seqK_n ?_
    refine cw_cond rfl (fun h15 => ?_) (fun h15 => ?_)
    · have p16 := dt h15
      refine cw_seq ?_
      refine cw_region ?_
      refine ol rfl (lo_move (v := .int _ _) rfl) ?_
      refine ol rfl (lo_assign (v := .int _ _) rfl) ?_
      refine ow_nil ?_
      refine seqK_n ?_
      refine cw_ret ?_
      refine blkK_r ?_
      refine seqK_r ?_
      refine loopK_r ?_
      refine blkK_r ?_
      refine seqK_r ?_
      refine fnK_r (res1 rfl (rv_t (v := .int _ _) rfl)) ((HLe.refl _).trans hl4) ?_
      refine ol rfl (lo_assign (v := .int _ _) rfl) ?_
      refine ow_nil ?_
      refine seqK_n ?_
      refine cw_ret ?_
      refine fnK_r (res1 rfl (rv_t (v := .int _ _) rfl)) ((HLe.refl _).trans hl4) ?_
      exact congrArg (Value.int .i64) (idx_hit hik2 (dropE hc8) (by first | assumption | (simp [*]; done))).symm
    have p17 := df h15
    refine cw_skip ?_
    refine blkK_n ?_
    refine seqK_n ?_
    refine cw_region ?_
    refine ol rfl (lo_add rfl rfl (rg_i64 (by omega))) ?_
    refine ol rfl (lo_move (v := .int _ _) rfl) ?_
    refine ow_nil ?_
    refine next1 (k + 1) (upd_intro (mask_intro (by first | exact off_refl | (repeat (first | exact off_mask | refine off_upd rfl ?_ | refine off_mask2 rfl ?_)))) rfl) (lmask_intro (by first | exact offl_refl | (repeat (first | exact offl_mask | refine offl_upd rfl ?_ | refine offl_mask2 rfl ?_)))) hl4 ?_ ?_
    · exact ⟨by omega, idx_miss hik2 (dropE hc8) (by first | assumption | (simp [*]; done))⟩
    omega
  have p18 := df h5
  refine cw_exit ?_
  refine seqK_e ?_
  refine loopK_e ?_
  refine blkK_hit ?_
  refine seqK_n ?_
  refine cw_seq ?_
  refine cw_region ?_
  refine ol rfl (lo_assign (v := .int _ _) rfl) ?_
  refine ow_nil ?_
  refine seqK_n ?_
  refine cw_ret ?_
  refine fnK_r (res1 rfl (rv_t (v := .int _ _) rfl)) ((HLe.refl _).trans hl4) ?_
  refine ol rfl (lo_assign (v := .int _ _) rfl) ?_
  refine ow_nil ?_
  refine seqK_n ?_
  refine cw_ret ?_
  refine fnK_r (res1 rfl (rv_t (v := .int _ _) rfl)) ((HLe.refl _).trans hl4) ?_
  exact congrArg (Value.int .i64) (idx_end hik2 (by omega)).symm
end Go.SW
set_option linter.unusedVariables false
set_option maxRecDepth 100000
set_option maxHeartbeats 4000000
namespace Go.SW
open Go.Proofs
theorem cb249 : Callable Tryz.prog 249 := callable_of Tryz.func249 (by kernel_rfl) (by kernel_rfl)
theorem cb250 : Callable Tryz.prog 250 := callable_of Tryz.func250 (by kernel_rfl) (by kernel_rfl)
theorem cb251 : Callable Tryz.prog 251 := callable_of Tryz.func251 (by kernel_rfl) (by kernel_rfl)
theorem zx279 : ∃ z, ∀ w, (zeroValue 279).run Tryz.prog w = .ok z w := ⟨.slice none 0 0, fun w => by kernel_rfl⟩
theorem zx58 : ∃ z, ∀ w, (zeroValue 58).run Tryz.prog w = .ok z w := ⟨.agg #[str [], str [], .bool false, str [], .slice none 0 0, .bool false], fun w => by kernel_rfl⟩
theorem book_Bind (H : Hp) (b : BookR) (b_shops_a : Option Addr) (b_shops_c : Nat) (b_shops_h : SlH shopRE 3 H (.slice b_shops_a b.shops.length b_shops_c) b.shops) (b_binds_a : Option Addr) (b_binds_c : Nat) (b_binds_h : SlH bindRE 6 H (.slice b_binds_a b.binds.length b_binds_c) b.binds) (b_w : BookR.wf b) (x : BindR) (x_want_a : Option Addr) (x_want_c : Nat) (x_want_h : SlH pairE 4 H (.slice x_want_a x.want.length x_want_c) x.want) (x_w : BindR.wf x) (hML : GInt H 2) (hl : x.want.length ≤ 1000000) : Ph Tryz.prog 230 #[.agg (BookR.cells b b_shops_a b_shops_c b_binds_a b_binds_c).toArray, .agg (BindR.cells x x_want_a x_want_c).toArray] H (fun v H' => ∃ (a1 : Option Addr) (c1 : Nat) (a2 : Option Addr) (c2 : Nat), v = .tuple #[.agg (BookR.cells ((bindS b x).1) a1 c1 a2 c2).toArray, .int .i64 ((bindS b x).2)] ∧ SlH shopRE 3 H' (.slice a1 (((bindS b x).1).shops).length c1) (((bindS b x).1).shops) ∧ SlH bindRE 6 H' (.slice a2 (((bindS b x).1).binds).length c2) (((bindS b x).1).binds)) := by
  refine ph_cw Tryz.func230 rfl Tryz.ntmps230 rfl (fun N => ?_)
  have b_w' := b_w
  simp only [BookR.wf] at b_w'
  have x_w' := x_w
  simp only [BindR.wf] at x_w'
  have hss := shopOf_wf (n := x.shop) (slh_wfE b_shops_h)
  have hss2 := hss
  simp only [ShopR.wf] at hss2
  refine cw_seq ?_
  refine cw_region ?_
  refine ow1 (op1_box (cs := [_, _]) 0 rfl rfl (fun b1 => ?_))
  refine ow1 (op1_box (cs := [_, _, _, _, _, _]) 1 rfl rfl (fun b2 => ?_))
  refine ow1 (op1_alloc 2 rfl zr281 (fun b3 => ?_))
  refine ol rfl (lo_assign (v := .int _ _) rfl) ?_
  refine ow_nil ?_
  refine seqK_n ?_
  refine cw_seq ?_
  refine cw_region ?_
  refine ol rfl (lo_loadA (i := 0) (vs := [_, _]) rfl ag281 sz281 rfl rfl rfl) ?_
  refine ol rfl (lo_fieldAddr rfl fl58_0) ?_
  refine ol rfl (lo_load1 (i := 1) (v := str _) rfl ag9 rfl rfl) ?_
  refine ow1 (op1_pr (book_Shop _ b b_shops_a b_shops_c b_shops_h b_binds_a b_binds_c b_binds_h b_w x.shop) (en_f cb246 rfl) rfl ?_)
  refine ol rfl (lo_move (v := .tuple #[_, _]) rfl) ?_
  refine ol rfl (lo_extract (v := .agg #[_, _, _]) rfl rfl) ?_
  refine ol rfl (lo_extract (v := .bool _) rfl rfl) ?_
  refine ow1 (op1_alloc 3 rfl zr54 (fun b4 => ?_))
  refine ow1 (op1_storeAll (i := 3) (vs := [_, _, _]) rfl rfl rfl sz54 rfl rfl rfl ?_)
  refine ol rfl (lo_assign (v := .bool _) rfl) ?_
  refine ow_nil ?_
  refine seqK_n ?_
  refine cw_seq ?_
  refine cw_block ?_
  refine cw_seq ?_
  refine cw_region ?_
  refine ol rfl (lo_move (v := .bool _) rfl) ?_
  refine ol rfl (lo_not rfl) ?_
  refine ol rfl (lo_assign (v := .bool _) rfl) ?_
  refine ow_nil ?_
  refine seqK_n ?_
  refine cw_cond rfl (fun h5 => ?_) (fun h5 => ?_)
  · have h6 := not_t h5
    refine cw_seq ?_
    refine cw_region ?_
    refine ol rfl (lo_loadA (i := 0) (vs := [_, _]) rfl ag281 sz281 rfl rfl rfl) ?_
    refine ow1 (op1_storeAll (i := 2) (vs := [_, _]) rfl rfl rfl sz281 rfl rfl rfl ?_)
    refine ol rfl (lo_assign (v := .int _ _) rfl) ?_
    refine ow_nil ?_
    refine seqK_n ?_
    refine cw_ret ?_
    refine blkK_r ?_
    refine seqK_r ?_
    refine fnK_r (res2 rfl (rv_c (i := 2) (vs := [_, _]) rfl ag281 sz281 rfl rfl rfl) (rv_t (v := .int _ _) rfl)) (.refl _) ?_
    have e : bindS b x = (b, 10) := by
      unfold bindS
      (repeat (first | rw [if_pos (by omega)] | rw [if_pos (by assumption)] | rw [if_pos (And.intro (by assumption) (by assumption))] | rw [if_pos (Or.inl (by assumption))] | rw [if_pos (Or.inr (by assumption))] | rw [if_neg (by omega)] | rw [if_neg (by assumption)] | rw [if_neg (not_not_intro (by assumption))] | rw [if_neg (nbt (by assumption))] | rw [if_neg (nbf (by assumption))] | rw [if_neg (nand_l (by assumption))] | rw [if_neg (nand_r (by assumption))] | rw [if_neg (nand_l (nbt (by assumption)))] | rw [if_neg (nand_r (nbt (by assumption)))] | rw [if_neg (nor_ (not_not_intro (by assumption)) (nbf (by assumption)))]))
      all_goals first | done | rfl | simp [*]
    rw [e]
    exact ⟨_, _, _, _, rfl, b_shops_h, b_binds_h⟩
  have h7 := not_f h5
  refine cw_seq ?_
  refine cw_region ?_
  refine ol rfl (lo_fieldAddr rfl fl54_1) ?_
  refine ol rfl (lo_load1 (i := 3) (v := .int _ _) rfl ag5 rfl rfl) ?_
  refine ol rfl (lo_eql rfl rfl) ?_
  refine ol rfl (lo_assign (v := .bool _) rfl) ?_
  refine ow_nil ?_
  refine seqK_n ?_
  refine cw_cond rfl (fun h8 => ?_) (fun h8 => ?_)
  · have p9 := dt h8
    refine cw_seq ?_
    refine cw_region ?_
    refine ol rfl (lo_loadA (i := 0) (vs := [_, _]) rfl ag281 sz281 rfl rfl rfl) ?_
    refine ow1 (op1_storeAll (i := 2) (vs := [_, _]) rfl rfl rfl sz281 rfl rfl rfl ?_)
    refine ol rfl (lo_assign (v := .int _ _) rfl) ?_
    refine ow_nil ?_
    refine seqK_n ?_
    refine cw_ret ?_
    refine blkK_r ?_
    refine seqK_r ?_
    refine fnK_r (res2 rfl (rv_c (i := 2) (vs := [_, _]) rfl ag281 sz281 rfl rfl rfl) (rv_t (v := .int _ _) rfl)) (.refl _) ?_
    have e : bindS b x = (b, 8) := by
      unfold bindS
      (repeat (first | rw [if_pos (by omega)] | rw [if_pos (by assumption)] | rw [if_pos (And.intro (by assumption) (by assumption))] | rw [if_pos (Or.inl (by assumption))] | rw [if_pos (Or.inr (by assumption))] | rw [if_neg (by omega)] | rw [if_neg (by assumption)] | rw [if_neg (not_not_intro (by assumption))] | rw [if_neg (nbt (by assumption))] | rw [if_neg (nbf (by assumption))] | rw [if_neg (nand_l (by assumption))] | rw [if_neg (nand_r (by assumption))] | rw [if_neg (nand_l (nbt (by assumption)))] | rw [if_neg (nand_r (nbt (by assumption)))] | rw [if_neg (nor_ (not_not_intro (by assumption)) (nbf (by assumption)))]))
      all_goals first | done | rfl | simp [*]
    rw [e]
    exact ⟨_, _, _, _, rfl, b_shops_h, b_binds_h⟩
  have p10 := df h8
  refine cw_skip ?_
  refine blkK_n ?_
  refine seqK_n ?_
  refine cw_seq ?_
  refine cw_seq ?_
  refine cw_region ?_
  refine ol rfl (lo_fieldAddr rfl fl58_1) ?_
  refine ol rfl (lo_load1 (i := 1) (v := str _) rfl ag9 rfl rfl) ?_
  refine ow1 (op1_pr (words_Name _ x.to (by first | omega | decide | (simp; done))) (en_f cb116 rfl) rfl ?_)
  refine ol rfl (lo_assign (v := .int _ _) rfl) ?_
  refine ow_nil ?_
  refine seqK_n ?_
  refine cw_seq ?_
  refine cw_region ?_
  refine ol rfl (lo_move (v := .int _ _) rfl) ?_
  refine ol rfl (lo_neq rfl rfl) ?_
  refine ow_nil ?_
  refine seqK_n ?_
  refine cw_cond rfl (fun h11 => ?_) (fun h11 => ?_)
  · have h12 := not_t h11
    have p13 := df h12
    refine cw_seq ?_
    refine cw_region ?_
    refine ol rfl (lo_loadA (i := 0) (vs := [_, _]) rfl ag281 sz281 rfl rfl rfl) ?_
    refine ol rfl (lo_move (v := .int _ _) rfl) ?_
    refine ow1 (op1_storeAll (i := 2) (vs := [_, _]) rfl rfl rfl sz281 rfl rfl rfl ?_)
    refine ol rfl (lo_assign (v := .int _ _) rfl) ?_
    refine ow_nil ?_
    refine seqK_n ?_
    refine cw_ret ?_
    refine seqK_r ?_
    refine fnK_r (res2 rfl (rv_c (i := 2) (vs := [_, _]) rfl ag281 sz281 rfl rfl rfl) (rv_t (v := .int _ _) rfl)) (.refl _) ?_
    have e : bindS b x = (b, nameE x.to) := by
      unfold bindS
      (repeat (first | rw [if_pos (by omega)] | rw [if_pos (by assumption)] | rw [if_pos (And.intro (by assumption) (by assumption))] | rw [if_pos (Or.inl (by assumption))] | rw [if_pos (Or.inr (by assumption))] | rw [if_neg (by omega)] | rw [if_neg (by assumption)] | rw [if_neg (not_not_intro (by assumption))] | rw [if_neg (nbt (by assumption))] | rw [if_neg (nbf (by assumption))] | rw [if_neg (nand_l (by assumption))] | rw [if_neg (nand_r (by assumption))] | rw [if_neg (nand_l (nbt (by assumption)))] | rw [if_neg (nand_r (nbt (by assumption)))] | rw [if_neg (nor_ (not_not_intro (by assumption)) (nbf (by assumption)))]))
      all_goals first | done | rfl | simp [*]
    rw [e]
    exact ⟨_, _, _, _, rfl, b_shops_h, b_binds_h⟩
  have h14 := not_f h11
  have p15 := dt h14
  refine cw_skip ?_
  refine seqK_n ?_
  refine cw_seq ?_
  refine cw_seq ?_
  refine cw_region ?_
  refine ol rfl (lo_loadA (i := 1) (vs := [_, _, _, _, _, _]) rfl ag58 sz58 rfl rfl rfl) ?_
  refine ol rfl (lo_fieldAddr rfl fl54_1) ?_
  refine ol rfl (lo_load1 (i := 3) (v := .int _ _) rfl ag5 rfl rfl) ?_
  refine ow1 (op1_ph (bind_rule _ x x_want_a x_want_c x_want_h x_w (((shopOf b.shops x.shop).getD ShopR.zero).sort) (by omega)) (en_f cb248 rfl) rfl ?_)
  rintro _ H20 ⟨a16, c17, rfl, hs18⟩ hl19
  refine ow1 (op1_pr (rule_Check _ (bindRule x (((shopOf b.shops x.shop).getD ShopR.zero).sort)) a16 c17 hs18 (bindRule_wf x_w (by omega)) (hML.mono ((HLe.refl _).trans hl19))) (en_f cb236 rfl) rfl ?_)
  refine ol rfl (lo_assign (v := .int _ _) rfl) ?_
  refine ow_nil ?_
  refine seqK_n ?_
  refine cw_block ?_
  refine cw_seq ?_
  refine cw_region ?_
  refine ol rfl (lo_move (v := .int _ _) rfl) ?_
  refine ol rfl (lo_neq rfl rfl) ?_
  refine ol rfl (lo_assign (v := .bool _) rfl) ?_
  refine ow_nil ?_
  refine seqK_n ?_
  refine cw_cond rfl (fun h21 => ?_) (fun h21 => ?_)
  · have h22 := not_t h21
    have p23 := df h22
    refine cw_seq ?_
    refine cw_region ?_
    refine ol rfl (lo_loadA (i := 0) (vs := [_, _]) rfl ag281 sz281 rfl rfl rfl) ?_
    refine ol rfl (lo_move (v := .int _ _) rfl) ?_
    refine ow1 (op1_storeAll (i := 2) (vs := [_, _]) rfl rfl rfl sz281 rfl rfl rfl ?_)
    refine ol rfl (lo_assign (v := .int _ _) rfl) ?_
    refine ow_nil ?_
    refine seqK_n ?_
    refine cw_ret ?_
    refine blkK_r ?_
    refine seqK_r ?_
    refine fnK_r (res2 rfl (rv_c (i := 2) (vs := [_, _]) rfl ag281 sz281 rfl rfl rfl) (rv_t (v := .int _ _) rfl)) ((HLe.refl _).trans hl19) ?_
    have e : bindS b x = (b, ruleE (bindRule x (((shopOf b.shops x.shop).getD ShopR.zero).sort))) := by
      unfold bindS
      (repeat (first | rw [if_pos (by omega)] | rw [if_pos (by assumption)] | rw [if_pos (And.intro (by assumption) (by assumption))] | rw [if_pos (Or.inl (by assumption))] | rw [if_pos (Or.inr (by assumption))] | rw [if_neg (by omega)] | rw [if_neg (by assumption)] | rw [if_neg (not_not_intro (by assumption))] | rw [if_neg (nbt (by assumption))] | rw [if_neg (nbf (by assumption))] | rw [if_neg (nand_l (by assumption))] | rw [if_neg (nand_r (by assumption))] | rw [if_neg (nand_l (nbt (by assumption)))] | rw [if_neg (nand_r (nbt (by assumption)))] | rw [if_neg (nor_ (not_not_intro (by assumption)) (nbf (by assumption)))]))
      all_goals first | done | rfl | simp [*]
    rw [e]
    exact ⟨_, _, _, _, rfl, (b_shops_h.mono ((HLe.refl _).trans hl19) (fun _ _ h => h)), (b_binds_h.mono ((HLe.refl _).trans hl19) (fun _ _ q => bindRE_mono _ _ _ _ ((HLe.refl _).trans hl19) q))⟩
  have h24 := not_f h21
  have p25 := dt h24
  refine cw_seq ?_
  refine cw_region ?_
  refine ol rfl (lo_loadA (i := 0) (vs := [_, _]) rfl ag281 sz281 rfl rfl rfl) ?_
  refine ol rfl (lo_loadA (i := 1) (vs := [_, _, _, _, _, _]) rfl ag58 sz58 rfl rfl rfl) ?_
  refine ow1 (op1_pr (book_there _ b b_shops_a b_shops_c (b_shops_h.mono ((HLe.refl _).trans hl19) (fun _ _ h => h)) b_binds_a b_binds_c (b_binds_h.mono ((HLe.refl _).trans hl19) (fun _ _ q => bindRE_mono _ _ _ _ ((HLe.refl _).trans hl19) q)) b_w x x_want_a x_want_c (x_want_h.mono ((HLe.refl _).trans hl19) (fun _ _ h => h)) x_w) (en_f cb249 rfl) rfl ?_)
  have := idxP_r (fun y => decide (x = y)) b.binds
  refine ol rfl (lo_geq rfl rfl) ?_
  refine ol rfl (lo_assign (v := .bool _) rfl) ?_
  refine ow_nil ?_
  refine seqK_n ?_
  refine cw_cond rfl (fun h26 => ?_) (fun h26 => ?_)
  · have p27 := dt h26
    refine cw_seq ?_
    refine cw_region ?_
    refine ol rfl (lo_loadA (i := 0) (vs := [_, _]) rfl ag281 sz281 rfl rfl rfl) ?_
    refine ow1 (op1_storeAll (i := 2) (vs := [_, _]) rfl rfl rfl sz281 rfl rfl rfl ?_)
    refine ol rfl (lo_assign (v := .int _ _) rfl) ?_
    refine ow_nil ?_
    refine seqK_n ?_
    refine cw_ret ?_
    refine blkK_r ?_
    refine seqK_r ?_
    refine fnK_r (res2 rfl (rv_c (i := 2) (vs := [_, _]) rfl ag281 sz281 rfl rfl rfl) (rv_t (v := .int _ _) rfl)) ((HLe.refl _).trans hl19) ?_
    have e : bindS b x = (b, 0) := by
      unfold bindS
      (repeat (first | rw [if_pos (by omega)] | rw [if_pos (by assumption)] | rw [if_pos (And.intro (by assumption) (by assumption))] | rw [if_pos (Or.inl (by assumption))] | rw [if_pos (Or.inr (by assumption))] | rw [if_neg (by omega)] | rw [if_neg (by assumption)] | rw [if_neg (not_not_intro (by assumption))] | rw [if_neg (nbt (by assumption))] | rw [if_neg (nbf (by assumption))] | rw [if_neg (nand_l (by assumption))] | rw [if_neg (nand_r (by assumption))] | rw [if_neg (nand_l (nbt (by assumption)))] | rw [if_neg (nand_r (nbt (by assumption)))] | rw [if_neg (nor_ (not_not_intro (by assumption)) (nbf (by assumption)))]))
      all_goals first | done | rfl | simp [*]
    rw [e]
    exact ⟨_, _, _, _, rfl, (b_shops_h.mono ((HLe.refl _).trans hl19) (fun _ _ h => h)), (b_binds_h.mono ((HLe.refl _).trans hl19) (fun _ _ q => bindRE_mono _ _ _ _ ((HLe.refl _).trans hl19) q))⟩
  have p28 := df h26
  refine cw_seq ?_
  refine cw_region ?_
  refine ol rfl (lo_fieldAddr rfl fl281_1) ?_
  refine ol rfl (lo_load1 (i := 0) (v := .slice _ _ _) rfl ag279 rfl rfl) ?_
  refine ol rfl (lo_len_slh rfl (b_binds_h.mono ((HLe.refl _).trans hl19) (fun _ _ q => bindRE_mono _ _ _ _ ((HLe.refl _).trans hl19) q)) Tryz.underlying279) ?_
  refine ol rfl (lo_geq rfl rfl) ?_
  refine ol rfl (lo_assign (v := .bool _) rfl) ?_
  refine ow_nil ?_
  refine seqK_n ?_
  refine cw_cond rfl (fun h29 => ?_) (fun h29 => ?_)
  · have p30 := dt h29
    refine cw_seq ?_
    refine cw_region ?_
    refine ol rfl (lo_loadA (i := 0) (vs := [_, _]) rfl ag281 sz281 rfl rfl rfl) ?_
    refine ow1 (op1_storeAll (i := 2) (vs := [_, _]) rfl rfl rfl sz281 rfl rfl rfl ?_)
    refine ol rfl (lo_assign (v := .int _ _) rfl) ?_
    refine ow_nil ?_
    refine seqK_n ?_
    refine cw_ret ?_
    refine blkK_r ?_
    refine seqK_r ?_
    refine fnK_r (res2 rfl (rv_c (i := 2) (vs := [_, _]) rfl ag281 sz281 rfl rfl rfl) (rv_t (v := .int _ _) rfl)) ((HLe.refl _).trans hl19) ?_
    have e : bindS b x = (b, 12) := by
      unfold bindS
      (repeat (first | rw [if_pos (by omega)] | rw [if_pos (by assumption)] | rw [if_pos (And.intro (by assumption) (by assumption))] | rw [if_pos (Or.inl (by assumption))] | rw [if_pos (Or.inr (by assumption))] | rw [if_neg (by omega)] | rw [if_neg (by assumption)] | rw [if_neg (not_not_intro (by assumption))] | rw [if_neg (nbt (by assumption))] | rw [if_neg (nbf (by assumption))] | rw [if_neg (nand_l (by assumption))] | rw [if_neg (nand_r (by assumption))] | rw [if_neg (nand_l (nbt (by assumption)))] | rw [if_neg (nand_r (nbt (by assumption)))] | rw [if_neg (nor_ (not_not_intro (by assumption)) (nbf (by assumption)))]))
      all_goals first | done | rfl | simp [*]
    rw [e]
    exact ⟨_, _, _, _, rfl, (b_shops_h.mono ((HLe.refl _).trans hl19) (fun _ _ h => h)), (b_binds_h.mono ((HLe.refl _).trans hl19) (fun _ _ q => bindRE_mono _ _ _ _ ((HLe.refl _).trans hl19) q))⟩
  have p31 := df h29
  refine cw_skip ?_
  refine blkK_n ?_
  refine seqK_n ?_
  refine cw_seq ?_
  refine cw_anyL mixd ?_
  refine vw_q 0 rfl (by kernel_rfl) (by repeat (first | exact lle_l0 | exact LLe.refl _ | exact lle_none | refine lle_up ?_ rfl)) (fun _ _ hh hl => lo_fieldAddr rfl fl281_1) ?_
  refine vw_q 1 rfl (by kernel_rfl) (by repeat (first | exact lle_l0 | exact LLe.refl _ | exact lle_none | refine lle_up ?_ rfl)) (fun _ _ hh hl => lo_load1 (i := 0) (v := .slice _ _ _) rfl ag279 (hl _ _ rfl) rfl) ?_
  refine vw_q 2 rfl (by kernel_rfl) (by repeat (first | exact lle_l0 | exact LLe.refl _ | exact lle_none | refine lle_up ?_ rfl)) (fun _ _ hh hl => lo_loadA (i := 1) (vs := [_, _, _, _, _, _]) rfl ag58 sz58 (hl _ _ rfl) rfl rfl) ?_
  refine vw_e 3 rfl (by kernel_rfl) (op1_ph (bind_clone _ x x_want_a x_want_c (x_want_h.mono ((HLe.refl _).trans hl19) (fun _ _ h => h)) x_w (by first | omega | (simp; done) | decide)) (en_f cb251 rfl) rfl ?_)
  rintro _ H36 ⟨a32, c33, rfl, hs34⟩ hl35
  refine ⟨⟨((HLe.refl _).trans hl35), (by repeat (first | exact lle_l0 | exact LLe.refl _ | exact lle_none | refine lle_up ?_ rfl))⟩, ?_⟩
  refine vw_e 4 rfl (by kernel_rfl) (op1_bslice (cs := [_, _, _, _, _, _]) 4 rfl Tryz.underlying279 sz58 zx58 rfl ⟨rfl, rfl, trivial⟩ rfl rfl (by decide) (fun b37 => ?_))
  refine ⟨⟨(.refl _), (by repeat (first | exact lle_l0 | exact LLe.refl _ | exact lle_none | refine lle_up ?_ rfl))⟩, ?_⟩
  refine vw_giveO 4 rfl (by repeat (first | exact lle_l0 | exact LLe.refl _ | exact lle_none | refine lle_up ?_ rfl)) (by kernel_rfl) (fun _ hl38 hg39 => ?_)
  have hs40 := slh_bxE (E := bindRE) (H := _) (xs := [x]) bindRE_wide (hg39 _ _ rfl) ⟨_, _, rfl, ⟨a32, c33, rfl, (hs34.mono ((HLe.refl _).trans hl38) (fun _ _ h => h)), x_w⟩, rl_nil⟩ rfl (Nat.le_refl _)
  refine vw_e 5 rfl (by kernel_rfl) (op1_bslice (cs := [_, _]) 4 rfl Tryz.underlying316 sz279 zx279 rfl ⟨rfl, rfl, ⟨rfl, rfl, trivial⟩⟩ rfl rfl (by decide) (fun b41 => ?_))
  refine ⟨⟨(.refl _), (by repeat (first | exact lle_l0 | exact LLe.refl _ | exact lle_none | refine lle_up ?_ rfl))⟩, ?_⟩
  refine vw_giveO 4 rfl (by repeat (first | exact lle_l0 | exact LLe.refl _ | exact lle_none | refine lle_up ?_ rfl)) (by kernel_rfl) (fun _ hl42 hg43 => ?_)
  have hs44 := slh_bxE (E := (slE bindRE 6)) (H := _) (xs := [b.binds, [x]]) slE_wide (hg43 _ _ rfl) ⟨_, _, rfl, ⟨_, _, rfl, (b_binds_h.mono (((((HLe.refl _).trans hl19).trans hl35).trans hl38).trans hl42) (fun _ _ q => bindRE_mono _ _ _ _ (((((HLe.refl _).trans hl19).trans hl35).trans hl38).trans hl42) q))⟩, ⟨_, _, rfl, ⟨_, _, rfl, (hs40.mono ((HLe.refl _).trans hl42) (fun _ _ q => bindRE_mono _ _ _ _ ((HLe.refl _).trans hl42) q))⟩, rl_nil⟩⟩ rfl (Nat.le_refl _)
  refine vw_e 6 rfl (by kernel_rfl) (op1_ph (concat_Bind _ (some ⟨b41, 0, none⟩) 2 2 [b.binds, [x]] hs44 (by first | omega | (simp; done) | (simp; omega)) (by first | omega | (simp; done) | (simp; omega))) (en_f cb250 rfl) rfl ?_)
  rintro _ H49 ⟨a45, c46, rfl, hs47⟩ hl48
  refine ⟨⟨((HLe.refl _).trans hl48), (by repeat (first | exact lle_l0 | exact LLe.refl _ | exact lle_none | refine lle_up ?_ rfl))⟩, ?_⟩
  refine vw_q 7 rfl (by kernel_rfl) (by repeat (first | exact lle_l0 | exact LLe.refl _ | exact lle_none | refine lle_up ?_ rfl)) (fun _ _ hh hl => lo_fieldAddr rfl fl281_1) ?_
  refine vw_t 8 rfl (by kernel_rfl) (by kernel_rfl) (op1_store1n (i := 0) (v := .slice _ _ _) [_, _] rfl rfl rfl sz279 rfl rfl rfl ?_)
  refine vw_done (by kernel_rfl) ?_
  refine seqK_n ?_
  refine cw_seq ?_
  refine cw_region ?_
  refine ol rfl (lo_loadA (i := 0) (vs := [_, _]) rfl ag281 sz281 rfl rfl rfl) ?_
  refine ow1 (op1_storeAll (i := 2) (vs := [_, _]) rfl rfl rfl sz281 rfl rfl rfl ?_)
  refine ol rfl (lo_assign (v := .int _ _) rfl) ?_
  refine ow_nil ?_
  refine seqK_n ?_
  refine cw_ret ?_
  refine fnK_r (res2 rfl (rv_c (i := 2) (vs := [_, _]) rfl ag281 sz281 rfl rfl rfl) (rv_t (v := .int _ _) rfl)) ((((((HLe.refl _).trans hl19).trans hl35).trans hl38).trans hl42).trans hl48) ?_
  have e : bindS b x = ((⟨b.shops, ([b.binds, [x]]).flatten⟩ : BookR), 0) := by
    unfold bindS
    (repeat (first | rw [if_pos (by omega)] | rw [if_pos (by assumption)] | rw [if_pos (And.intro (by assumption) (by assumption))] | rw [if_pos (Or.inl (by assumption))] | rw [if_pos (Or.inr (by assumption))] | rw [if_neg (by omega)] | rw [if_neg (by assumption)] | rw [if_neg (not_not_intro (by assumption))] | rw [if_neg (nbt (by assumption))] | rw [if_neg (nbf (by assumption))] | rw [if_neg (nand_l (by assumption))] | rw [if_neg (nand_r (by assumption))] | rw [if_neg (nand_l (nbt (by assumption)))] | rw [if_neg (nand_r (nbt (by assumption)))] | rw [if_neg (nor_ (not_not_intro (by assumption)) (nbf (by assumption)))]))
    all_goals first | done | rfl | simp [*]
  rw [e]
  exact ⟨_, _, _, _, rfl, (b_shops_h.mono ((((((HLe.refl _).trans hl19).trans hl35).trans hl38).trans hl42).trans hl48) (fun _ _ h => h)), hs47⟩
end Go.SW
set_option linter.unusedVariables false
set_option maxRecDepth 100000
set_option maxHeartbeats 4000000
namespace Go.SW
open Go.Proofs
theorem cb252 : Callable Tryz.prog 252 := callable_of Tryz.func252 (by kernel_rfl) (by kernel_rfl)
theorem cb264 : Callable Tryz.prog 264 := callable_of Tryz.func264 (by kernel_rfl) (by kernel_rfl)
theorem book_Leads (H : Hp) (b : BookR) (b_shops_a : Option Addr) (b_shops_c : Nat) (b_shops_h : SlH shopRE 3 H (.slice b_shops_a b.shops.length b_shops_c) b.shops) (b_binds_a : Option Addr) (b_binds_c : Nat) (b_binds_h : SlH bindRE 6 H (.slice b_binds_a b.binds.length b_binds_c) b.binds) (b_w : BookR.wf b) (shop : Bs) (key : Bs) (h_a : Option Addr) (h_l h_c : Nat) (h : List Pair) (h_h : SlH pairE 4 H (.slice h_a h_l h_c) h) (hML : GInt H 2) (hbl : b.binds.length ≤ 1000000) (hbk : ∀ y ∈ b.binds, y.key.length ≤ 1000000) (hkl : key.length ≤ 1000000) (hhl : h.length ≤ 1000000) : Ph Tryz.prog 231 #[.agg (BookR.cells b b_shops_a b_shops_c b_binds_a b_binds_c).toArray, str shop, str key, .slice h_a h_l h_c] H (fun v H' => ∃ (a1 : Option Addr) (c1 : Nat) (a2 : Option Addr) (c2 : Nat), v = .tuple #[.slice a1 ((leadS b shop key h).1).length c1, .slice a2 ((leadS b shop key h).2.1).length c2, .int .i64 ((leadS b shop key h).2.2)] ∧ SlH strE 1 H' (.slice a1 ((leadS b shop key h).1).length c1) ((leadS b shop key h).1) ∧ SlH strE 1 H' (.slice a2 ((leadS b shop key h).2.1).length c2) ((leadS b shop key h).2.1)) := by
  refine ph_cw Tryz.func231 rfl Tryz.ntmps231 rfl (fun N => ?_)
  have b_w' := b_w
  simp only [BookR.wf] at b_w'
  have hss := shopOf_wf (n := shop) (slh_wfE b_shops_h)
  have hss2 := hss
  simp only [ShopR.wf] at hss2
  refine cw_seq ?_
  refine cw_region ?_
  refine ow1 (op1_box (cs := [_, _]) 0 rfl rfl (fun b1 => ?_))
  refine ol rfl (lo_assign (v := .slice _ _ _) rfl) ?_
  refine ol rfl (lo_assign (v := .slice _ _ _) rfl) ?_
  refine ol rfl (lo_assign (v := .int _ _) rfl) ?_
  refine ow_nil ?_
  refine seqK_n ?_
  refine cw_scope ?_
  refine cw_seq ?_
  refine cw_region ?_
  refine ol rfl (lo_loadA (i := 0) (vs := [_, _]) rfl ag281 sz281 rfl rfl rfl) ?_
  refine ol rfl (lo_move (v := str _) rfl) ?_
  refine ow1 (op1_pr (book_Shop _ b b_shops_a b_shops_c b_shops_h b_binds_a b_binds_c b_binds_h b_w shop) (en_f cb246 rfl) rfl ?_)
  refine ol rfl (lo_move (v := .tuple #[_, _]) rfl) ?_
  refine ol rfl (lo_extract (v := .agg #[_, _, _]) rfl rfl) ?_
  refine ol rfl (lo_extract (v := .bool _) rfl rfl) ?_
  refine ow1 (op1_alloc 1 rfl zr54 (fun b2 => ?_))
  refine ow1 (op1_storeAll (i := 1) (vs := [_, _, _]) rfl rfl rfl sz54 rfl rfl rfl ?_)
  refine ol rfl (lo_assign (v := .bool _) rfl) ?_
  refine ow_nil ?_
  refine seqK_n ?_
  refine cw_seq ?_
  refine cw_block ?_
  refine cw_seq ?_
  refine cw_region ?_
  refine ol rfl (lo_move (v := .bool _) rfl) ?_
  refine ol rfl (lo_not rfl) ?_
  refine ol rfl (lo_assign (v := .bool _) rfl) ?_
  refine ow_nil ?_
  refine seqK_n ?_
  refine cw_cond rfl (fun h3 => ?_) (fun h3 => ?_)
  · have h4 := not_t h3
    refine cw_seq ?_
    refine cw_region ?_
    refine ol rfl (lo_assign (v := .slice _ _ _) rfl) ?_
    refine ol rfl (lo_assign (v := .slice _ _ _) rfl) ?_
    refine ol rfl (lo_assign (v := .int _ _) rfl) ?_
    refine ow_nil ?_
    refine seqK_n ?_
    refine cw_ret ?_
    refine blkK_r ?_
    refine seqK_r ?_
    refine scK_r ?_
    refine fnK_r (res3 rfl (rv_t (v := .slice _ _ _) rfl) (rv_t (v := .slice _ _ _) rfl) (rv_t (v := .int _ _) rfl)) (.refl _) ?_
    have e : leadS b shop key h = ([], [], 10) := by unfold leadS; rw [if_pos (by assumption)]
    rw [e]
    exact ⟨none, 0, none, 0, rfl, slh_nil, slh_nil⟩
  have h5 := not_f h3
  refine cw_seq ?_
  refine cw_region ?_
  refine ol rfl (lo_fieldAddr rfl fl54_1) ?_
  refine ol rfl (lo_load1 (i := 1) (v := .int _ _) rfl ag5 rfl rfl) ?_
  refine ol rfl (lo_eql rfl rfl) ?_
  refine ol rfl (lo_assign (v := .bool _) rfl) ?_
  refine ow_nil ?_
  refine seqK_n ?_
  refine cw_cond rfl (fun h6 => ?_) (fun h6 => ?_)
  · have p7 := dt h6
    refine cw_seq ?_
    refine cw_anyL mixd ?_
    refine vw_q 0 rfl (by kernel_rfl) (by repeat (first | exact lle_l0 | exact LLe.refl _ | exact lle_none | refine lle_up ?_ rfl)) (fun _ _ hh hl => lo_fieldAddr rfl fl54_2) ?_
    refine vw_q 1 rfl (by kernel_rfl) (by repeat (first | exact lle_l0 | exact LLe.refl _ | exact lle_none | refine lle_up ?_ rfl)) (fun _ _ hh hl => lo_load1 (i := 1) (v := str _) rfl ag9 (hl _ _ rfl) rfl) ?_
    refine vw_q 3 rfl (by kernel_rfl) (by repeat (first | exact lle_l0 | exact LLe.refl _ | exact lle_none | refine lle_up ?_ rfl)) (fun _ _ hh hl => lo_assign (v := .slice _ _ _) rfl) ?_
    refine vw_tp 2 rfl (by kernel_rfl) (by kernel_rfl) (op1_bslice (cs := [_]) 2 rfl Tryz.underlying245 sz9 zx9 rfl ⟨rfl, rfl, trivial⟩ rfl rfl (by decide) (fun b8 => ?_))
    refine ⟨(.refl _), ?_⟩
    refine vw_q 4 rfl (by kernel_rfl) (by repeat (first | exact lle_l0 | exact LLe.refl _ | exact lle_none | refine lle_up ?_ rfl)) (fun _ _ hh hl => lo_assign rfl) ?_
    refine vw_q 5 rfl (by kernel_rfl) (by repeat (first | exact lle_l0 | exact LLe.refl _ | exact lle_none | refine lle_up ?_ rfl)) (fun _ _ hh hl => lo_assign (v := .int _ _) rfl) ?_
    refine vw_done (by kernel_rfl) ?_
    refine seqK_n ?_
    refine cw_giveO 2 rfl (fun _ hl9 hg10 => ?_)
    have hs11 := slh_bx (k := 1) (H := _) (enc := (fun s => [str s])) (wf := (fun s => s.length ≤ 9223372036854775807)) [((shopOf b.shops shop).getD ShopR.zero).to] (fun _ => rfl) (hg10 _ _ rfl) rfl rfl (Nat.le_refl _) (by first | (intro x hx; simp at hx; subst hx; first | omega | (simp; done) | (simp; omega)) | (simp; done) | (simp; omega))
    refine cw_ret ?_
    refine blkK_r ?_
    refine seqK_r ?_
    refine scK_r ?_
    refine fnK_r (res3 rfl (rv_t (v := .slice _ _ _) rfl) (rv_t (v := .slice _ _ _) rfl) (rv_t (v := .int _ _) rfl)) ((HLe.refl _).trans hl9) ?_
    have e : leadS b shop key h = ([], [((shopOf b.shops shop).getD ShopR.zero).to], 0) := by unfold leadS; rw [if_neg (nbf (by assumption)), if_pos (by assumption)]
    rw [e]
    exact ⟨none, 0, _, _, rfl, slh_nil, hs11⟩
  have p12 := df h6
  refine cw_skip ?_
  refine blkK_n ?_
  refine seqK_n ?_
  refine cw_seq ?_
  refine cw_region ?_
  refine ol rfl (lo_assign (v := .slice _ _ _) rfl) ?_
  refine ol rfl (lo_assign (v := .slice _ _ _) rfl) ?_
  refine ow_nil ?_
  refine seqK_n ?_
  refine cw_seq ?_
  refine cw_label ?_
  refine seqK_n ?_
  refine cw_seq ?_
  refine cw_seq ?_
  refine cw_region ?_
  refine ol rfl (lo_fieldAddr rfl fl281_1) ?_
  refine ol rfl (lo_load1 (i := 0) (v := .slice _ _ _) rfl ag279 rfl rfl) ?_
  refine ol rfl (lo_len_slh rfl b_binds_h Tryz.underlying279) ?_
  refine ol rfl (lo_move (v := .int _ _) rfl) ?_
  refine ow_nil ?_
  refine seqK_n ?_
  refine cw_block ?_
  refine cw_loop7 [13, 14, 16, 36, 37, 38, 39, 40, 41, 42, 43, 44, 45, 46, 47, 48, 49, 50, 51, 52, 53, 54, 55, 56, 57, 58, 59, 60, 61, 62, 63, 64] [2, 3, 40, 41] (fun (k : Nat) (qs : List Bs) (v1 : Value) (en1 : Option (Nat × Obj)) (ps : List Bs) (v2 : Value) (en2 : Option (Nat × Obj)) G => upd (upd (upd (G) 36 (.int .i64 (k : Int))) 13 (v1)) 14 (v2)) (fun (k : Nat) (qs : List Bs) (v1 : Value) (en1 : Option (Nat × Obj)) (ps : List Bs) (v2 : Value) (en2 : Option (Nat × Obj)) G => lupd (lupd (G) 40 (en1)) 41 (en2)) (fun (k : Nat) (qs : List Bs) (v1 : Value) (en1 : Option (Nat × Obj)) (ps : List Bs) (v2 : Value) (en2 : Option (Nat × Obj)) H' => k ≤ b.binds.length ∧ leadGo ((shopOf b.shops shop).getD ShopR.zero).sort shop key h b.binds [] [] = leadGo ((shopOf b.shops shop).getD ShopR.zero).sort shop key h (b.binds.drop k) qs ps ∧ OwnV 1 9 v1 en1 qs.length (qs.flatMap (fun s => [str s])) ∧ (∀ x ∈ qs, (fun s => s.length ≤ 9223372036854775807) x) ∧ OwnV 1 9 v2 en2 ps.length (ps.flatMap (fun s => [str s])) ∧ (∀ x ∈ ps, (fun s => s.length ≤ 9223372036854775807) x) ∧ qs.length ≤ k ∧ ps.length ≤ k) (fun (k : Nat) (qs : List Bs) (v1 : Value) (en1 : Option (Nat × Obj)) (ps : List Bs) (v2 : Value) (en2 : Option (Nat × Obj)) => b.binds.length - k) 0 [] (.slice none 0 0) none [] (.slice none 0 0) none (upd_intro (upd_intro (upd_intro (mask_intro (by first | exact off_refl | (repeat (first | exact off_mask | refine off_upd rfl ?_ | refine off_mask2 rfl ?_)))) rfl) rfl) rfl) (lupd_intro (lupd_intro (lmask_intro offl_refl) rfl) rfl) ?_ ?_
  · exact ⟨Nat.zero_le _, rfl, ownV_nil, wf_nil, ownV_nil, wf_nil, Nat.le_refl _, Nat.le_refl _⟩
  intro k qs v1 en1 ps v2 en2 J14 JL14 H14 hp13 hl14
  obtain ⟨hk1, hk2, ho1, hw1, ho2, hw2, hq1, hq2⟩ := hp13
  refine cw_seq ?_
  refine cw_region ?_
  refine ol rfl (lo_lss rfl rfl) ?_
  refine ow_nil ?_
  refine seqK_n ?_
  refine cw_seq ?_
  refine cw_cond rfl (fun h15 => ?_) (fun h15 => ?_)
  · have p16 := dt h15
    refine cw_skip ?_
    refine seqK_n ?_
    refine cw_seq ?_
    refine cw_block ?_
    refine cw_seq ?_
    refine cw_region ?_
    obtain ⟨c17, hc18⟩ := getE (xs := b.binds) (m := k) (by omega)
    obtain ⟨cs19, hE20, at21⟩ := (b_binds_h.mono ((HLe.refl _).trans hl14) (fun _ _ q => bindRE_mono _ _ _ _ ((HLe.refl _).trans hl14) q)).get hc18
    obtain ⟨a22, c23, rfl, hs24, c17_w⟩ := hE20
    have c17_w' := c17_w
    simp only [BindR.wf] at c17_w'
    have hbk0 := hbk c17 (List.mem_of_getElem? hc18)
    refine ol rfl (lo_indexAddr rfl rfl (b_binds_h.mono ((HLe.refl _).trans hl14) (fun _ _ q => bindRE_mono _ _ _ _ ((HLe.refl _).trans hl14) q)).1 at21 Tryz.underlying279 sz58 (by omega) (by omega)) ?_
    refine ol rfl (lo_loadEA rfl ag58 sz58 at21) ?_
    refine ow1 (op1_alloc 2 rfl zr58 (fun b25 => ?_))
    refine ow1 (op1_storeAll (i := 2) (vs := [_, _, _, _, _, _]) rfl rfl rfl sz58 rfl rfl rfl ?_)
    refine ow_nil ?_
    refine seqK_n ?_
    refine cw_block ?_
    refine cw_seq ?_
    refine cw_seq ?_
    refine cw_region ?_
    refine ol rfl (lo_fieldAddr rfl fl58_0) ?_
    refine ol rfl (lo_load1 (i := 2) (v := str _) rfl ag9 rfl rfl) ?_
    refine ol rfl (lo_move (v := str _) rfl) ?_
    refine ol rfl (lo_sneq rfl rfl) ?_
    refine ol rfl (lo_assign (v := .bool _) rfl) ?_
    refine ow_nil ?_
    refine seqK_n ?_
    refine cw_cond rfl (fun h26 => ?_) (fun h26 => ?_)
    · have h27 := not_t h26
      have p28 := df h27
      refine cw_skip ?_
      refine seqK_n ?_
      refine cw_cond_t rfl h26 ?_
      refine cw_exit ?_
      refine blkK_e rfl ?_
      refine blkK_hit ?_
      refine seqK_n ?_
      refine cw_region ?_
      refine ol rfl (lo_add rfl rfl (rg_i64 (by omega))) ?_
      refine ol rfl (lo_move (v := .int _ _) rfl) ?_
      refine ow_nil ?_
      refine next7 (k + 1) qs v1 en1 ps v2 en2 (upd_intro (upd_intro (upd_intro (mask_intro (by first | exact off_refl | (repeat (first | exact off_mask | refine off_upd rfl ?_ | refine off_mask2 rfl ?_)))) rfl) rfl) rfl) (lupd_intro (lupd_intro (lmask_intro (by first | exact offl_refl | (repeat (first | exact offl_mask | refine offl_upd rfl ?_ | refine offl_mask2 rfl ?_)))) rfl) rfl) hl14 ?_ ?_
      · refine ⟨by omega, ?_, ho1, hw1, ho2, hw2, ?_, ?_⟩
        · rw [hk2, dropE hc18]
          conv => lhs; unfold leadGo
          (repeat (first | rw [if_pos (by omega)] | rw [if_pos (by assumption)] | rw [if_pos (And.intro (by assumption) (by assumption))] | rw [if_pos (Or.inl (by assumption))] | rw [if_pos (Or.inr (by assumption))] | rw [if_neg (by omega)] | rw [if_neg (by assumption)] | rw [if_neg (not_not_intro (by assumption))] | rw [if_neg (nbt (by assumption))] | rw [if_neg (nbf (by assumption))] | rw [if_neg (nand_l (by assumption))] | rw [if_neg (nand_r (by assumption))] | rw [if_neg (nand_l (nbt (by assumption)))] | rw [if_neg (nand_r (nbt (by assumption)))] | rw [if_neg (nor_ (not_not_intro (by assumption)) (nbf (by assumption)))]))
          all_goals first | done | rfl | (unfold putS; (repeat (first | rw [if_pos (by omega)] | rw [if_pos (by assumption)] | rw [if_pos (And.intro (by assumption) (by assumption))] | rw [if_pos (Or.inl (by assumption))] | rw [if_pos (Or.inr (by assumption))] | rw [if_neg (by omega)] | rw [if_neg (by assumption)] | rw [if_neg (not_not_intro (by assumption))] | rw [if_neg (nbt (by assumption))] | rw [if_neg (nbf (by assumption))] | rw [if_neg (nand_l (by assumption))] | rw [if_neg (nand_r (by assumption))] | rw [if_neg (nand_l (nbt (by assumption)))] | rw [if_neg (nand_r (nbt (by assumption)))] | rw [if_neg (nor_ (not_not_intro (by assumption)) (nbf (by assumption)))])); first | done | rfl)
        · have := putS_len qs c17.to; simp at *; omega
        have := putS_len ps c17.to; simp at *; omega
      omega
    have h29 := not_f h26
    have p30 := dt h29
    refine cw_region ?_
    refine ol rfl (lo_loadA (i := 2) (vs := [_, _, _, _, _, _]) rfl ag58 sz58 rfl rfl rfl) ?_
    refine ol rfl (lo_fieldAddr rfl fl54_1) ?_
    refine ol rfl (lo_load1 (i := 1) (v := .int _ _) rfl ag5 rfl rfl) ?_
    refine ow1 (op1_ph (bind_rule _ c17 a22 c23 hs24 c17_w (((shopOf b.shops shop).getD ShopR.zero).sort) (by omega)) (en_f cb248 rfl) rfl ?_)
    rintro _ H35 ⟨a31, c32, rfl, hs33⟩ hl34
    refine ol rfl (lo_move (v := str _) rfl) ?_
    refine ol rfl (lo_move (v := .slice _ _ _) rfl) ?_
    refine ow1 (op1_pr (rule_Goes _ (bindRule c17 (((shopOf b.shops shop).getD ShopR.zero).sort)) a31 c32 hs33 (bindRule_wf c17_w (by omega)) key h_a h_l h_c h (h_h.mono (((HLe.refl _).trans hl14).trans hl34) (fun _ _ h => h)) (hML.mono (((HLe.refl _).trans hl14).trans hl34)) (by simp only [bindRule]; omega) (by first | omega | (simp; done) | decide) (by first | omega | (simp <;> omega))) (en_f cb237 rfl) rfl ?_)
    refine ol rfl (lo_not rfl) ?_
    refine ol rfl (lo_assign (v := .bool _) rfl) ?_
    refine ow_nil ?_
    refine seqK_n ?_
    refine cw_cond rfl (fun h36 => ?_) (fun h36 => ?_)
    · have h37 := not_t h36
      refine cw_exit ?_
      refine blkK_e rfl ?_
      refine blkK_hit ?_
      refine seqK_n ?_
      refine cw_region ?_
      refine ol rfl (lo_add rfl rfl (rg_i64 (by omega))) ?_
      refine ol rfl (lo_move (v := .int _ _) rfl) ?_
      refine ow_nil ?_
      refine next7 (k + 1) qs v1 en1 ps v2 en2 (upd_intro (upd_intro (upd_intro (mask_intro (by first | exact off_refl | (repeat (first | exact off_mask | refine off_upd rfl ?_ | refine off_mask2 rfl ?_)))) rfl) rfl) rfl) (lupd_intro (lupd_intro (lmask_intro (by first | exact offl_refl | (repeat (first | exact offl_mask | refine offl_upd rfl ?_ | refine offl_mask2 rfl ?_)))) rfl) rfl) (hl14.trans hl34) ?_ ?_
      · refine ⟨by omega, ?_, ho1, hw1, ho2, hw2, ?_, ?_⟩
        · rw [hk2, dropE hc18]
          conv => lhs; unfold leadGo
          (repeat (first | rw [if_pos (by omega)] | rw [if_pos (by assumption)] | rw [if_pos (And.intro (by assumption) (by assumption))] | rw [if_pos (Or.inl (by assumption))] | rw [if_pos (Or.inr (by assumption))] | rw [if_neg (by omega)] | rw [if_neg (by assumption)] | rw [if_neg (not_not_intro (by assumption))] | rw [if_neg (nbt (by assumption))] | rw [if_neg (nbf (by assumption))] | rw [if_neg (nand_l (by assumption))] | rw [if_neg (nand_r (by assumption))] | rw [if_neg (nand_l (nbt (by assumption)))] | rw [if_neg (nand_r (nbt (by assumption)))] | rw [if_neg (nor_ (not_not_intro (by assumption)) (nbf (by assumption)))]))
          all_goals first | done | rfl | (unfold putS; (repeat (first | rw [if_pos (by omega)] | rw [if_pos (by assumption)] | rw [if_pos (And.intro (by assumption) (by assumption))] | rw [if_pos (Or.inl (by assumption))] | rw [if_pos (Or.inr (by assumption))] | rw [if_neg (by omega)] | rw [if_neg (by assumption)] | rw [if_neg (not_not_intro (by assumption))] | rw [if_neg (nbt (by assumption))] | rw [if_neg (nbf (by assumption))] | rw [if_neg (nand_l (by assumption))] | rw [if_neg (nand_r (by assumption))] | rw [if_neg (nand_l (nbt (by assumption)))] | rw [if_neg (nand_r (nbt (by assumption)))] | rw [if_neg (nor_ (not_not_intro (by assumption)) (nbf (by assumption)))])); first | done | rfl)
        · have := putS_len qs c17.to; simp at *; omega
        have := putS_len ps c17.to; simp at *; omega
      omega
    have h38 := not_f h36
    refine cw_seq ?_
    refine cw_region ?_
    refine ol rfl (lo_fieldAddr rfl fl58_2) ?_
    refine ol rfl (lo_load1 (i := 2) (v := .bool _) rfl ag4 rfl rfl) ?_
    refine ol rfl (lo_assign (v := .bool _) rfl) ?_
    refine ow_nil ?_
    refine seqK_n ?_
    refine cw_cond rfl (fun h39 => ?_) (fun h39 => ?_)
    · refine cw_region ?_
      refine ol rfl (lo_move rfl) ?_
      refine ol rfl (lo_fieldAddr rfl fl58_1) ?_
      refine ol rfl (lo_load1 (i := 2) (v := str _) rfl ag9 rfl rfl) ?_
      refine ow1 (op1_in (en_f cb252 rfl) Tryz.func252 rfl Tryz.ntmps252 rfl rfl ?_)
      refine cw_seq ?_
      refine cw_region ?_
      refine ol rfl (lo_assign (v := .slice _ _ _) rfl) ?_
      refine ow_nil ?_
      refine seqK_n ?_
      refine cw_seq ?_
      refine cw_seq ?_
      refine cw_region ?_
      refine ol rfl (lo_move rfl) ?_
      refine ol rfl (lo_move (v := str _) rfl) ?_
      obtain ⟨a40, c41, rfl⟩ := own_shape ho2
      refine ow1 (op1_prl 41 rfl (fun _ hl42 hg43 => (contains_Str _ a40 ps.length c41 ps (slh_own (enc := (fun s => [str s])) (wf := (fun s => s.length ≤ 9223372036854775807)) (fun _ => rfl) ho2 hw2 hg43) c17.to (by first | omega | (simp <;> omega)))) (en_f cb264 rfl) rfl ?_)
      refine ow_nil ?_
      refine seqK_n ?_
      refine cw_cond rfl (fun h44 => ?_) (fun h44 => ?_)
      · have p45 := dt h44
        refine cw_seq ?_
        refine cw_region ?_
        refine ol rfl (lo_move rfl) ?_
        refine ol rfl (lo_assign rfl) ?_
        refine ow_nil ?_
        refine seqK_n ?_
        refine cw_ret ?_
        refine seqK_r ?_
        refine fnK_r (res1 rfl (rv_t rfl)) (.refl _) ?_
        refine ol rfl (lo_assign rfl) ?_
        refine ow_nil ?_
        refine blkK_n ?_
        refine blkK_n ?_
        refine seqK_n ?_
        refine cw_region ?_
        refine ol rfl (lo_add rfl rfl (rg_i64 (by omega))) ?_
        refine ol rfl (lo_move (v := .int _ _) rfl) ?_
        refine ow_nil ?_
        refine next7 (k + 1) qs v1 en1 ps (.slice a40 ps.length c41) en2 (upd_intro (upd_intro (upd_intro (mask_intro (by first | exact off_refl | (repeat (first | exact off_mask | refine off_upd rfl ?_ | refine off_mask2 rfl ?_)))) rfl) rfl) rfl) (lupd_intro (lupd_intro (lmask_intro (by first | exact offl_refl | (repeat (first | exact offl_mask | refine offl_upd rfl ?_ | refine offl_mask2 rfl ?_)))) rfl) rfl) (hl14.trans hl34) ?_ ?_
        · refine ⟨by omega, ?_, ho1, hw1, ho2, hw2, ?_, ?_⟩
          · rw [hk2, dropE hc18]
            conv => lhs; unfold leadGo
            (repeat (first | rw [if_pos (by omega)] | rw [if_pos (by assumption)] | rw [if_pos (And.intro (by assumption) (by assumption))] | rw [if_pos (Or.inl (by assumption))] | rw [if_pos (Or.inr (by assumption))] | rw [if_neg (by omega)] | rw [if_neg (by assumption)] | rw [if_neg (not_not_intro (by assumption))] | rw [if_neg (nbt (by assumption))] | rw [if_neg (nbf (by assumption))] | rw [if_neg (nand_l (by assumption))] | rw [if_neg (nand_r (by assumption))] | rw [if_neg (nand_l (nbt (by assumption)))] | rw [if_neg (nand_r (nbt (by assumption)))] | rw [if_neg (nor_ (not_not_intro (by assumption)) (nbf (by assumption)))]))
            all_goals first | done | rfl | (unfold putS; (repeat (first | rw [if_pos (by omega)] | rw [if_pos (by assumption)] | rw [if_pos (And.intro (by assumption) (by assumption))] | rw [if_pos (Or.inl (by assumption))] | rw [if_pos (Or.inr (by assumption))] | rw [if_neg (by omega)] | rw [if_neg (by assumption)] | rw [if_neg (not_not_intro (by assumption))] | rw [if_neg (nbt (by assumption))] | rw [if_neg (nbf (by assumption))] | rw [if_neg (nand_l (by assumption))] | rw [if_neg (nand_r (by assumption))] | rw [if_neg (nand_l (nbt (by assumption)))] | rw [if_neg (nand_r (nbt (by assumption)))] | rw [if_neg (nor_ (not_not_intro (by assumption)) (nbf (by assumption)))])); first | done | rfl)
          · have := putS_len qs c17.to; simp at *; omega
          have := putS_len ps c17.to; simp at *; omega
        omega
      have p46 := df h44
      refine cw_skip ?_
      refine seqK_n ?_
      refine cw_seq ?_
      refine cw_region ?_
      refine ol rfl (lo_move rfl) ?_
      refine ol rfl (lo_move (v := str _) rfl) ?_
      refine ow1 (op1_bslice (cs := [_]) 3 rfl Tryz.underlying245 sz9 zx9 rfl ⟨rfl, rfl, trivial⟩ rfl rfl (by decide) (fun b47 => ?_))
      refine ow1 (op1_app 41 rfl rfl Tryz.underlying245 Tryz.underlying245 rfl sz9 by9 (by decide) zr9 ho2 (src_bx (i := 3) rfl rfl) (List.all_eq_true.1 rfl) rfl (by omega) rfl (fun v48 en49 ho50 => ?_))
      have ho51 := own_push (enc := (fun s => [str s])) ps c17.to ho50 rfl
      refine ol rfl (lo_assign rfl) ?_
      refine ow_nil ?_
      refine seqK_n ?_
      refine cw_ret ?_
      refine fnK_r (res1 rfl (rv_t rfl)) (.refl _) ?_
      refine ol rfl (lo_assign rfl) ?_
      refine ow_nil ?_
      refine blkK_n ?_
      refine blkK_n ?_
      refine seqK_n ?_
      refine cw_region ?_
      refine ol rfl (lo_add rfl rfl (rg_i64 (by omega))) ?_
      refine ol rfl (lo_move (v := .int _ _) rfl) ?_
      refine ow_nil ?_
      refine next7 (k + 1) qs v1 en1 (ps ++ [c17.to]) v48 en49 (upd_intro (upd_intro (upd_intro (mask_intro (by first | exact off_refl | (repeat (first | exact off_mask | refine off_upd rfl ?_ | refine off_mask2 rfl ?_)))) rfl) rfl) rfl) (lupd_intro (lupd_intro (lmask_intro (by first | exact offl_refl | (repeat (first | exact offl_mask | refine offl_upd rfl ?_ | refine offl_mask2 rfl ?_)))) rfl) rfl) (hl14.trans hl34) ?_ ?_
      · refine ⟨by omega, ?_, ho1, hw1, ho51, (wf_push hw2 (by show List.length c17.to ≤ 9223372036854775807; first | omega | (simp; omega) | (simp; done))), ?_, ?_⟩
        · rw [hk2, dropE hc18]
          conv => lhs; unfold leadGo
          (repeat (first | rw [if_pos (by omega)] | rw [if_pos (by assumption)] | rw [if_pos (And.intro (by assumption) (by assumption))] | rw [if_pos (Or.inl (by assumption))] | rw [if_pos (Or.inr (by assumption))] | rw [if_neg (by omega)] | rw [if_neg (by assumption)] | rw [if_neg (not_not_intro (by assumption))] | rw [if_neg (nbt (by assumption))] | rw [if_neg (nbf (by assumption))] | rw [if_neg (nand_l (by assumption))] | rw [if_neg (nand_r (by assumption))] | rw [if_neg (nand_l (nbt (by assumption)))] | rw [if_neg (nand_r (nbt (by assumption)))] | rw [if_neg (nor_ (not_not_intro (by assumption)) (nbf (by assumption)))]))
          all_goals first | done | rfl | (unfold putS; (repeat (first | rw [if_pos (by omega)] | rw [if_pos (by assumption)] | rw [if_pos (And.intro (by assumption) (by assumption))] | rw [if_pos (Or.inl (by assumption))] | rw [if_pos (Or.inr (by assumption))] | rw [if_neg (by omega)] | rw [if_neg (by assumption)] | rw [if_neg (not_not_intro (by assumption))] | rw [if_neg (nbt (by assumption))] | rw [if_neg (nbf (by assumption))] | rw [if_neg (nand_l (by assumption))] | rw [if_neg (nand_r (by assumption))] | rw [if_neg (nand_l (nbt (by assumption)))] | rw [if_neg (nand_r (nbt (by assumption)))] | rw [if_neg (nor_ (not_not_intro (by assumption)) (nbf (by assumption)))])); first | done | rfl)
        · have := putS_len qs c17.to; simp at *; omega
        have := putS_len ps c17.to; simp at *; omega
      omega
    refine cw_region ?_
    refine ol rfl (lo_move rfl) ?_
    refine ol rfl (lo_fieldAddr rfl fl58_1) ?_
    refine ol rfl (lo_load1 (i := 2) (v := str _) rfl ag9 rfl rfl) ?_
    refine ow1 (op1_in (en_f cb252 rfl) Tryz.func252 rfl Tryz.ntmps252 rfl rfl ?_)
    refine cw_seq ?_
    refine cw_region ?_
    refine ol rfl (lo_assign (v := .slice _ _ _) rfl) ?_
    refine ow_nil ?_
    refine seqK_n ?_
    refine cw_seq ?_
    refine cw_seq ?_
    refine cw_region ?_
    refine ol rfl (lo_move rfl) ?_
    refine ol rfl (lo_move (v := str _) rfl) ?_
    obtain ⟨a52, c53, rfl⟩ := own_shape ho1
    refine ow1 (op1_prl 40 rfl (fun _ hl54 hg55 => (contains_Str _ a52 qs.length c53 qs (slh_own (enc := (fun s => [str s])) (wf := (fun s => s.length ≤ 9223372036854775807)) (fun _ => rfl) ho1 hw1 hg55) c17.to (by first | omega | (simp <;> omega)))) (en_f cb264 rfl) rfl ?_)
    refine ow_nil ?_
    refine seqK_n ?_
    refine cw_cond rfl (fun h56 => ?_) (fun h56 => ?_)
    · have p57 := dt h56
      refine cw_seq ?_
      refine cw_region ?_
      refine ol rfl (lo_move rfl) ?_
      refine ol rfl (lo_assign rfl) ?_
      refine ow_nil ?_
      refine seqK_n ?_
      refine cw_ret ?_
      refine seqK_r ?_
      refine fnK_r (res1 rfl (rv_t rfl)) (.refl _) ?_
      refine ol rfl (lo_assign rfl) ?_
      refine ow_nil ?_
      refine blkK_n ?_
      refine blkK_n ?_
      refine seqK_n ?_
      refine cw_region ?_
      refine ol rfl (lo_add rfl rfl (rg_i64 (by omega))) ?_
      refine ol rfl (lo_move (v := .int _ _) rfl) ?_
      refine ow_nil ?_
      refine next7 (k + 1) qs (.slice a52 qs.length c53) en1 ps v2 en2 (upd_intro (upd_intro (upd_intro (mask_intro (by first | exact off_refl | (repeat (first | exact off_mask | refine off_upd rfl ?_ | refine off_mask2 rfl ?_)))) rfl) rfl) rfl) (lupd_intro (lupd_intro (lmask_intro (by first | exact offl_refl | (repeat (first | exact offl_mask | refine offl_upd rfl ?_ | refine offl_mask2 rfl ?_)))) rfl) rfl) (hl14.trans hl34) ?_ ?_
      · refine ⟨by omega, ?_, ho1, hw1, ho2, hw2, ?_, ?_⟩
        · rw [hk2, dropE hc18]
          conv => lhs; unfold leadGo
          (repeat (first | rw [if_pos (by omega)] | rw [if_pos (by assumption)] | rw [if_pos (And.intro (by assumption) (by assumption))] | rw [if_pos (Or.inl (by assumption))] | rw [if_pos (Or.inr (by assumption))] | rw [if_neg (by omega)] | rw [if_neg (by assumption)] | rw [if_neg (not_not_intro (by assumption))] | rw [if_neg (nbt (by assumption))] | rw [if_neg (nbf (by assumption))] | rw [if_neg (nand_l (by assumption))] | rw [if_neg (nand_r (by assumption))] | rw [if_neg (nand_l (nbt (by assumption)))] | rw [if_neg (nand_r (nbt (by assumption)))] | rw [if_neg (nor_ (not_not_intro (by assumption)) (nbf (by assumption)))]))
          all_goals first | done | rfl | (unfold putS; (repeat (first | rw [if_pos (by omega)] | rw [if_pos (by assumption)] | rw [if_pos (And.intro (by assumption) (by assumption))] | rw [if_pos (Or.inl (by assumption))] | rw [if_pos (Or.inr (by assumption))] | rw [if_neg (by omega)] | rw [if_neg (by assumption)] | rw [if_neg (not_not_intro (by assumption))] | rw [if_neg (nbt (by assumption))] | rw [if_neg (nbf (by assumption))] | rw [if_neg (nand_l (by assumption))] | rw [if_neg (nand_r (by assumption))] | rw [if_neg (nand_l (nbt (by assumption)))] | rw [if_neg (nand_r (nbt (by assumption)))] | rw [if_neg (nor_ (not_not_intro (by assumption)) (nbf (by assumption)))])); first | done | rfl)
        · have := putS_len qs c17.to; simp at *; omega
        have := putS_len ps c17.to; simp at *; omega
      omega
    have p58 := df h56
    refine cw_skip ?_
    refine seqK_n ?_
    refine cw_seq ?_
    refine cw_region ?_
    refine ol rfl (lo_move rfl) ?_
    refine ol rfl (lo_move (v := str _) rfl) ?_
    refine ow1 (op1_bslice (cs := [_]) 3 rfl Tryz.underlying245 sz9 zx9 rfl ⟨rfl, rfl, trivial⟩ rfl rfl (by decide) (fun b59 => ?_))
    refine ow1 (op1_app 40 rfl rfl Tryz.underlying245 Tryz.underlying245 rfl sz9 by9 (by decide) zr9 ho1 (src_bx (i := 3) rfl rfl) (List.all_eq_true.1 rfl) rfl (by omega) rfl (fun v60 en61 ho62 => ?_))
    have ho63 := own_push (enc := (fun s => [str s])) qs c17.to ho62 rfl
    refine ol rfl (lo_assign rfl) ?_
    refine ow_nil ?_
    refine seqK_n ?_
    refine cw_ret ?_
    refine fnK_r (res1 rfl (rv_t rfl)) (.refl _) ?_
    refine ol rfl (lo_assign rfl) ?_
    refine ow_nil ?_
    refine blkK_n ?_
    refine blkK_n ?_
    refine seqK_n ?_
    refine cw_region ?_
    refine ol rfl (lo_add rfl rfl (rg_i64 (by omega))) ?_
    refine ol rfl (lo_move (v := .int _ _) rfl) ?_
    refine ow_nil ?_
    refine next7 (k + 1) (qs ++ [c17.to]) v60 en61 ps v2 en2 (upd_intro (upd_intro (upd_intro (mask_intro (by first | exact off_refl | (repeat (first | exact off_mask | refine off_upd rfl ?_ | refine off_mask2 rfl ?_)))) rfl) rfl) rfl) (lupd_intro (lupd_intro (lmask_intro (by first | exact offl_refl | (repeat (first | exact offl_mask | refine offl_upd rfl ?_ | refine offl_mask2 rfl ?_)))) rfl) rfl) (hl14.trans hl34) ?_ ?_
    · refine ⟨by omega, ?_, ho63, (wf_push hw1 (by show List.length c17.to ≤ 9223372036854775807; first | omega | (simp; omega) | (simp; done))), ho2, hw2, ?_, ?_⟩
      · rw [hk2, dropE hc18]
        conv => lhs; unfold leadGo
        (repeat (first | rw [if_pos (by omega)] | rw [if_pos (by assumption)] | rw [if_pos (And.intro (by assumption) (by assumption))] | rw [if_pos (Or.inl (by assumption))] | rw [if_pos (Or.inr (by assumption))] | rw [if_neg (by omega)] | rw [if_neg (by assumption)] | rw [if_neg (not_not_intro (by assumption))] | rw [if_neg (nbt (by assumption))] | rw [if_neg (nbf (by assumption))] | rw [if_neg (nand_l (by assumption))] | rw [if_neg (nand_r (by assumption))] | rw [if_neg (nand_l (nbt (by assumption)))] | rw [if_neg (nand_r (nbt (by assumption)))] | rw [if_neg (nor_ (not_not_intro (by assumption)) (nbf (by assumption)))]))
        all_goals first | done | rfl | (unfold putS; (repeat (first | rw [if_pos (by omega)] | rw [if_pos (by assumption)] | rw [if_pos (And.intro (by assumption) (by assumption))] | rw [if_pos (Or.inl (by assumption))] | rw [if_pos (Or.inr (by assumption))] | rw [if_neg (by omega)] | rw [if_neg (by assumption)] | rw [if_neg (not_not_intro (by assumption))] | rw [if_neg (nbt (by assumption))] | rw [if_neg (nbf (by assumption))] | rw [if_neg (nand_l (by assumption))] | rw [if_neg (nand_r (by assumption))] | rw [if_neg (nand_l (nbt (by assumption)))] | rw [if_neg (nand_r (nbt (by assumption)))] | rw [if_neg (nor_ (not_not_intro (by assumption)) (nbf (by assumption)))])); first | done | rfl)
      · have := putS_len qs c17.to; simp at *; omega
      have := putS_len ps c17.to; simp at *; omega
    omega
  have p64 := df h15
  refine cw_exit ?_
  refine seqK_e ?_
  refine loopK_e ?_
  refine blkK_hit ?_
  refine seqK_n ?_
  refine cw_seq ?_
  refine cw_region ?_
  refine ol rfl (lo_move rfl) ?_
  refine ol rfl (lo_move rfl) ?_
  refine ol rfl (lo_assign rfl) ?_
  refine ol rfl (lo_assign rfl) ?_
  refine ol rfl (lo_assign (v := .int _ _) rfl) ?_
  refine ow_nil ?_
  refine seqK_n ?_
  refine cw_giveO 40 rfl (fun _ hl65 hg66 => ?_)
  have hs67 := slh_own (enc := (fun s => [str s])) (wf := (fun s => s.length ≤ 9223372036854775807)) (fun _ => rfl) ho1 hw1 hg66
  obtain ⟨⟨a68, c69, rfl, -⟩, -⟩ := id hs67
  refine cw_giveO 41 rfl (fun _ hl70 hg71 => ?_)
  have hs72 := slh_own (enc := (fun s => [str s])) (wf := (fun s => s.length ≤ 9223372036854775807)) (fun _ => rfl) ho2 hw2 hg71
  obtain ⟨⟨a73, c74, rfl, -⟩, -⟩ := id hs72
  refine cw_ret ?_
  refine scK_r ?_
  refine fnK_r (res3 rfl (rv_t (v := .slice _ _ _) rfl) (rv_t (v := .slice _ _ _) rfl) (rv_t (v := .int _ _) rfl)) ((((HLe.refl _).trans hl14).trans hl65).trans hl70) ?_
  have e : leadS b shop key h = (qs, ps, 0) := by
    unfold leadS
    rw [if_neg (nbf (by assumption)), if_neg (by assumption), hk2, List.drop_of_length_le (by omega)]
    rfl
  rw [e]
  exact ⟨_, _, _, _, rfl, (hs67.mono ((HLe.refl _).trans hl70) (fun _ _ h => h)), hs72⟩
end Go.SW
set_option linter.unusedVariables false
set_option maxRecDepth 100000
set_option maxHeartbeats 4000000
namespace Go.SW
open Go.Proofs
theorem bd281  (w : World) : (Instr.build 281 #[]).run Tryz.prog w = .ok (.agg #[.slice none 0 0, .slice none 0 0]) w := by kernel_rfl
theorem bd54_0s_1u8 (a1 : Bs) (a2 : Int) (w : World) : (Instr.build 54 #[(0, str a1), (1, .int .u8 a2)]).run Tryz.prog w = .ok (.agg #[str a1, .int .u8 a2, str []]) w := by kernel_rfl
theorem bd58_0s_1s (a1 : Bs) (a2 : Bs) (w : World) : (Instr.build 58 #[(0, str a1), (1, str a2)]).run Tryz.prog w = .ok (.agg #[str a1, str a2, .bool false, str [], .slice none 0 0, .bool false]) w := by kernel_rfl
theorem bd58_0s_1s_3s (a1 : Bs) (a2 : Bs) (a3 : Bs) (w : World) : (Instr.build 58 #[(0, str a1), (1, str a2), (3, str a3)]).run Tryz.prog w = .ok (.agg #[str a1, str a2, .bool false, str a3, .slice none 0 0, .bool false]) w := by kernel_rfl
theorem cb199 : Callable Tryz.prog 199 := callable_of Tryz.func199 (by kernel_rfl) (by kernel_rfl)
theorem cb229 : Callable Tryz.prog 229 := callable_of Tryz.func229 (by kernel_rfl) (by kernel_rfl)
theorem cb230 : Callable Tryz.prog 230 := callable_of Tryz.func230 (by kernel_rfl) (by kernel_rfl)
theorem cb231 : Callable Tryz.prog 231 := callable_of Tryz.func231 (by kernel_rfl) (by kernel_rfl)
theorem cb232 : Callable Tryz.prog 232 := callable_of Tryz.func232 (by kernel_rfl) (by kernel_rfl)
theorem l14_awake (H : Hp)  (hML : GInt H 2) : Pr Tryz.prog 199 #[] H (.bool true) := by
  refine pr_cw Tryz.func199 rfl Tryz.ntmps199 rfl (fun N => ?_)
  refine cw_seq ?_
  refine cw_region ?_
  refine ol rfl (lo_assign (v := .bool _) rfl) ?_
  refine ow_nil ?_
  refine seqK_n ?_
  refine cw_seq ?_
  refine cw_region ?_
  refine ol rfl (lo_build (v := .agg #[_, _]) rfl (bd281)) ?_
  refine ol rfl (lo_build (v := .agg #[_, _, _]) rfl (bd54_0s_1u8 _ _)) ?_
  refine ow1 (op1_ph (book_Make _ (⟨[], []⟩ : BookR) none 0 slh_nil none 0 slh_nil (by simp only [BookR.wf]; first | omega | (simp; done) | (simp; omega)) (⟨[97], 1, []⟩ : ShopR) (by simp only [ShopR.wf]; first | omega | (simp; done) | (simp; omega))) (en_f cb229 rfl) rfl ?_)
  rintro _ H8 ⟨a1, c2, a4, c5, rfl, hs3, hs6⟩ hl7
  refine ol rfl (lo_move (v := .tuple #[_, _]) rfl) ?_
  refine ol rfl (lo_extract (v := .agg #[_, _]) rfl rfl) ?_
  refine ol rfl (lo_extract (v := .int _ _) rfl rfl) ?_
  refine ow1 (op1_alloc 0 rfl zr281 (fun b9 => ?_))
  refine ow1 (op1_storeAll (i := 0) (vs := [_, _]) rfl rfl rfl sz281 rfl rfl rfl ?_)
  refine ol rfl (lo_assign (v := .int _ _) rfl) ?_
  refine ow_nil ?_
  refine seqK_n ?_
  refine cw_seq ?_
  refine cw_region ?_
  refine ol rfl (lo_loadA (i := 0) (vs := [_, _]) rfl ag281 sz281 rfl rfl rfl) ?_
  refine ol rfl (lo_build (v := .agg #[_, _, _, _, _, _]) rfl (bd58_0s_1s _ _)) ?_
  refine ow1 (op1_ph (book_Bind _ ((makeS (⟨[], []⟩ : BookR) (⟨[97], 1, []⟩ : ShopR)).1) a1 c2 hs3 a4 c5 hs6 (makeS_wf (by simp only [BookR.wf]; first | omega | (simp; done) | (simp; omega))) (⟨[97], [113], false, [], [], false⟩ : BindR) none 0 slh_nil (by simp only [BindR.wf]; first | omega | (simp; done) | (simp; omega)) (hML.mono ((HLe.refl _).trans hl7)) (by first | omega | (simp; done) | decide)) (en_f cb230 rfl) rfl ?_)
  rintro _ H17 ⟨a10, c11, a13, c14, rfl, hs12, hs15⟩ hl16
  refine ol rfl (lo_move (v := .tuple #[_, _]) rfl) ?_
  refine ol rfl (lo_extract (v := .agg #[_, _]) rfl rfl) ?_
  refine ol rfl (lo_extract (v := .int _ _) rfl rfl) ?_
  refine ow1 (op1_storeAll (i := 0) (vs := [_, _]) rfl rfl rfl sz281 rfl rfl rfl ?_)
  refine ow_nil ?_
  refine seqK_n ?_
  refine cw_seq ?_
  refine cw_region ?_
  refine ol rfl (lo_loadA (i := 0) (vs := [_, _]) rfl ag281 sz281 rfl rfl rfl) ?_
  refine ol rfl (lo_build (v := .agg #[_, _, _, _, _, _]) rfl (bd58_0s_1s_3s _ _ _)) ?_
  refine ow1 (op1_ph (book_Bind _ ((bindS ((makeS (⟨[], []⟩ : BookR) (⟨[97], 1, []⟩ : ShopR)).1) (⟨[97], [113], false, [], [], false⟩ : BindR)).1) a10 c11 hs12 a13 c14 hs15 (bindS_wf (makeS_wf (by simp only [BookR.wf]; first | omega | (simp; done) | (simp; omega)))) (⟨[97], [113], false, [120], [], false⟩ : BindR) none 0 slh_nil (by simp only [BindR.wf]; first | omega | (simp; done) | (simp; omega)) (hML.mono (((HLe.refl _).trans hl7).trans hl16)) (by first | omega | (simp; done) | decide)) (en_f cb230 rfl) rfl ?_)
  rintro _ H25 ⟨a18, c19, a21, c22, rfl, hs20, hs23⟩ hl24
  refine ol rfl (lo_move (v := .tuple #[_, _]) rfl) ?_
  refine ol rfl (lo_extract (v := .agg #[_, _]) rfl rfl) ?_
  refine ol rfl (lo_extract (v := .int _ _) rfl rfl) ?_
  refine ow1 (op1_storeAll (i := 0) (vs := [_, _]) rfl rfl rfl sz281 rfl rfl rfl ?_)
  refine ol rfl (lo_assign (v := .int _ _) rfl) ?_
  refine ow_nil ?_
  refine seqK_n ?_
  refine cw_seq ?_
  refine cw_region ?_
  refine ol rfl (lo_loadA (i := 0) (vs := [_, _]) rfl ag281 sz281 rfl rfl rfl) ?_
  refine ow1 (op1_ph (book_Leads _ ((bindS ((bindS ((makeS (⟨[], []⟩ : BookR) (⟨[97], 1, []⟩ : ShopR)).1) (⟨[97], [113], false, [], [], false⟩ : BindR)).1) (⟨[97], [113], false, [120], [], false⟩ : BindR)).1) a18 c19 hs20 a21 c22 hs23 (bindS_wf (bindS_wf (makeS_wf (by simp only [BookR.wf]; first | omega | (simp; done) | (simp; omega))))) [97] [] none 0 0 [] slh_nil (hML.mono ((((HLe.refl _).trans hl7).trans hl16).trans hl24)) (by first | omega | (simp; done) | decide) (by first | assumption | decide +kernel) (by first | omega | (simp; done) | decide) (by first | omega | (simp; done) | decide)) (en_f cb231 rfl) rfl ?_)
  rintro _ H33 ⟨a26, c27, a29, c30, rfl, hs28, hs31⟩ hl32
  refine ol rfl (lo_move (v := .tuple #[_, _, _]) rfl) ?_
  refine ol rfl (lo_extract (v := .slice _ _ _) rfl rfl) ?_
  refine ol rfl (lo_extract (v := .slice _ _ _) rfl rfl) ?_
  refine ol rfl (lo_extract (v := .int _ _) rfl rfl) ?_
  refine ol rfl (lo_assign (v := .slice _ _ _) rfl) ?_
  refine ol rfl (lo_assign (v := .slice _ _ _) rfl) ?_
  refine ol rfl (lo_assign (v := .int _ _) rfl) ?_
  refine ow_nil ?_
  refine seqK_n ?_
  refine cw_seq ?_
  refine cw_region ?_
  refine ow1 (op1_pr (l04_Awake _ (hML.mono (((((HLe.refl _).trans hl7).trans hl16).trans hl24).trans hl32))) (en_f cb223 rfl) rfl ?_)
  refine ol rfl (lo_move (v := .bool _) rfl) ?_
  refine ow1 (op1_prg rfl rfl (l10_Awake _ (hML.mono (((((HLe.refl _).trans hl7).trans hl16).trans hl24).trans hl32))) (en_f cb134 rfl) rfl ?_)
  refine ol rfl (lo_pick_t (v := .bool _) rfl rfl rfl) ?_
  refine ol rfl (lo_move (v := .bool _) rfl) ?_
  refine ow1 (op1_g rfl rfl rfl (lo_move (v := .int _ _) rfl) ?_)
  refine ow1 (op1_g rfl rfl rfl (lo_eql rfl rfl) ?_)
  refine ol rfl (lo_pick_t (v := .bool _) rfl rfl rfl) ?_
  refine ol rfl (lo_move (v := .bool _) rfl) ?_
  refine ow1 (op1_g rfl (by decide +kernel) rfl (lo_move (v := .int _ _) rfl) ?_)
  refine ow1 (op1_g rfl (by decide +kernel) rfl (lo_eql rfl rfl) ?_)
  refine ol rfl (lo_pick_t (v := .bool _) rfl (by decide +kernel) rfl) ?_
  refine ol rfl (lo_move (v := .bool _) rfl) ?_
  refine ow1 (op1_g rfl (by decide +kernel) rfl (lo_move (v := .slice _ _ _) rfl) ?_)
  refine ow1 (op1_gd rfl (by decide +kernel) (op1_bslice (cs := [_]) 1 rfl Tryz.underlying245 sz9 zx9 rfl ⟨rfl, rfl, trivial⟩ rfl rfl (by decide) (fun b34 => ?_)))
  refine ow_giveO 1 rfl (fun _ hl35 hg36 => ?_)
  have hs37 := slh_bx (k := 1) (H := _) (enc := (fun s => [str s])) (wf := (fun s => s.length ≤ 9223372036854775807)) [[113]] (fun _ => rfl) (hg36 _ _ rfl) rfl rfl (Nat.le_refl _) (by first | (intro x hx; simp at hx; subst hx; first | omega | (simp; done) | (simp; omega)) | (simp; done) | (simp; omega))
  refine ow1 (op1_prg rfl (by decide +kernel) (eq_Str _ a26 (((leadS ((bindS ((bindS ((makeS (⟨[], []⟩ : BookR) (⟨[97], 1, []⟩ : ShopR)).1) (⟨[97], [113], false, [], [], false⟩ : BindR)).1) (⟨[97], [113], false, [120], [], false⟩ : BindR)).1) [97] [] []).1).length) c27 ((leadS ((bindS ((bindS ((makeS (⟨[], []⟩ : BookR) (⟨[97], 1, []⟩ : ShopR)).1) (⟨[97], [113], false, [], [], false⟩ : BindR)).1) (⟨[97], [113], false, [120], [], false⟩ : BindR)).1) [97] [] []).1) (hs28.mono ((HLe.refl _).trans hl35) (fun _ _ h => h)) (some ⟨b34, 0, none⟩) 1 1 [[113]] hs37 (by decide +kernel)) (en_f cb232 rfl) rfl ?_)
  refine ol rfl (lo_pick_t (v := .bool _) rfl (by decide +kernel) rfl) ?_
  refine ol rfl (lo_move (v := .bool _) rfl) ?_
  refine ow1 (op1_g rfl (by decide +kernel) rfl (lo_move (v := .slice _ _ _) rfl) ?_)
  refine ow1 (op1_g rfl (by decide +kernel) rfl (lo_len_slh rfl (hs31.mono ((HLe.refl _).trans hl35) (fun _ _ h => h)) Tryz.underlying245) ?_)
  refine ow1 (op1_g rfl (by decide +kernel) rfl (lo_eql rfl rfl) ?_)
  refine ol rfl (lo_pick_t (v := .bool _) rfl (by decide +kernel) rfl) ?_
  refine ol rfl (lo_assign (v := .bool _) rfl) ?_
  refine ow_nil ?_
  refine seqK_n ?_
  refine cw_ret ?_
  refine fnK_r (res1 rfl (rv_t (v := .bool _) rfl)) ((((((HLe.refl _).trans hl7).trans hl16).trans hl24).trans hl32).trans hl35) ?_
  exact congrArg Value.bool (by decide +kernel)
theorem l14_Awake (H : Hp)  (hML : GInt H 2) : Pr Tryz.prog 101 #[] H (.bool true) := by
  refine pr_cw Tryz.func101 rfl Tryz.ntmps101 rfl (fun N => ?_)
  refine cw_seq ?_
  refine cw_region ?_
  refine ol rfl (lo_assign (v := .bool _) rfl) ?_
  refine ow_nil ?_
  refine seqK_n ?_
  refine cw_seq ?_
  refine cw_region ?_
  refine ow1 (op1_pr (l14_awake _ hML) (en_f cb199 rfl) rfl ?_)
  refine ol rfl (lo_assign (v := .bool _) rfl) ?_
  refine ow_nil ?_
  refine seqK_n ?_
  refine cw_ret ?_
  refine fnK_r (res1 rfl (rv_t (v := .bool _) rfl)) (.refl _) ?_
  rfl
end Go.SW
set_option linter.unusedVariables false
set_option maxRecDepth 100000
set_option maxHeartbeats 4000000
namespace Go.SW
open Go.Proofs
theorem cb100 : Callable Tryz.prog 100 := callable_of Tryz.func100 (by kernel_rfl) (by kernel_rfl)
theorem cb101 : Callable Tryz.prog 101 := callable_of Tryz.func101 (by kernel_rfl) (by kernel_rfl)
theorem cb29 : Callable Tryz.prog 29 := callable_of Tryz.func29 (by kernel_rfl) (by kernel_rfl)
theorem cb33 : Callable Tryz.prog 33 := callable_of Tryz.func33 (by kernel_rfl) (by kernel_rfl)
theorem l22_awake (H : Hp)  (hML : GInt H 2) : Pr Tryz.prog 29 #[] H (.bool true) := by
  refine pr_cw Tryz.func29 rfl Tryz.ntmps29 rfl (fun N => ?_)
  refine cw_seq ?_
  refine cw_region ?_
  refine ol rfl (lo_assign (v := .bool _) rfl) ?_
  refine ow_nil ?_
  refine seqK_n ?_
  refine cw_seq ?_
  refine cw_region ?_
  refine ol rfl (lo_build (v := .agg #[_, _, _, _, _, _, _, _, _, _, _, _, _, _, _, _, _, _, _, _, _, _, _, _, _, _, _, _, _]) rfl (bd60_0u8_1u64 _ _)) ?_
  refine ow1 (op1_pr (deed_Bytes _ (⟨11, 1, (⟨[], 0, []⟩ : ShopR), (⟨[], 0, 0, []⟩ : QueueR), (⟨[], [], false, [], [], false⟩ : BindR), [], 0, 0, 0, 0, 0, (⟨0, [], [], [], [], 0, 0⟩ : Mail), []⟩ : DeedR) none 0 slh_nil none 0 slh_nil (by simp only [DeedR.wf, ShopR.wf, QueueR.wf, BindR.wf, Mail.wf]; first | omega | (simp; done) | (simp; omega)) hML) (en_f cb33 rfl) rfl ?_)
  have := deedBytes_len (d := (⟨11, 1, (⟨[], 0, []⟩ : ShopR), (⟨[], 0, 0, []⟩ : QueueR), (⟨[], [], false, [], [], false⟩ : BindR), [], 0, 0, 0, 0, 0, (⟨0, [], [], [], [], 0, 0⟩ : Mail), []⟩ : DeedR)) (by first | omega | decide)
  have := deedE_r (⟨11, 1, (⟨[], 0, []⟩ : ShopR), (⟨[], 0, 0, []⟩ : QueueR), (⟨[], [], false, [], [], false⟩ : BindR), [], 0, 0, 0, 0, 0, (⟨0, [], [], [], [], 0, 0⟩ : Mail), []⟩ : DeedR)
  refine ol rfl (lo_move (v := .tuple #[_, _]) rfl) ?_
  refine ol rfl (lo_extract (v := str _) rfl rfl) ?_
  refine ol rfl (lo_extract (v := .int _ _) rfl rfl) ?_
  refine ol rfl (lo_assign (v := str _) rfl) ?_
  refine ol rfl (lo_assign (v := .int _ _) rfl) ?_
  refine ow_nil ?_
  refine seqK_n ?_
  refine cw_seq ?_
  refine cw_region ?_
  refine ow1 (op1_pr (l13_Awake _ hML) (en_f cb100 rfl) rfl ?_)
  refine ol rfl (lo_move (v := .bool _) rfl) ?_
  refine ow1 (op1_prg rfl rfl (l14_Awake _ hML) (en_f cb101 rfl) rfl ?_)
  refine ol rfl (lo_pick_t (v := .bool _) rfl rfl rfl) ?_
  refine ol rfl (lo_move (v := .bool _) rfl) ?_
  refine ow1 (op1_g rfl rfl rfl (lo_move (v := .int _ _) rfl) ?_)
  refine ow1 (op1_g rfl rfl rfl (lo_eql rfl rfl) ?_)
  refine ol rfl (lo_pick_t (v := .bool _) rfl rfl rfl) ?_
  refine ol rfl (lo_move (v := .bool _) rfl) ?_
  refine ow1 (op1_g rfl (by decide +kernel) rfl (lo_move (v := str _) rfl) ?_)
  refine ow1 (op1_g rfl (by decide +kernel) rfl (lo_len_str rfl Tryz.underlying9) ?_)
  refine ow1 (op1_g rfl (by decide +kernel) rfl (lo_eql rfl rfl) ?_)
  refine ol rfl (lo_pick_t (v := .bool _) rfl (by decide +kernel) rfl) ?_
  refine ol rfl (lo_assign (v := .bool _) rfl) ?_
  refine ow_nil ?_
  refine seqK_n ?_
  refine cw_ret ?_
  refine fnK_r (res1 rfl (rv_t (v := .bool _) rfl)) (.refl _) ?_
  exact congrArg Value.bool (by decide +kernel)
end Go.SW
set_option linter.unusedVariables false
set_option maxRecDepth 100000
set_option maxHeartbeats 4000000
namespace Go.SW
open Go.Proofs
theorem cb30 : Callable Tryz.prog 30 := callable_of Tryz.func30 (by kernel_rfl) (by kernel_rfl)
theorem cb31 : Callable Tryz.prog 31 := callable_of Tryz.func31 (by kernel_rfl) (by kernel_rfl)
theorem cb32 : Callable Tryz.prog 32 := callable_of Tryz.func32 (by kernel_rfl) (by kernel_rfl)
theorem cb35 : Callable Tryz.prog 35 := callable_of Tryz.func35 (by kernel_rfl) (by kernel_rfl)
theorem deed_law_Bytes (H : Hp) (d : DeedR) (d_bind_want_a : Option Addr) (d_bind_want_c : Nat) (d_bind_want_h : SlH pairE 4 H (.slice d_bind_want_a d.bind.want.length d_bind_want_c) d.bind.want) (d_mail_head_a : Option Addr) (d_mail_head_c : Nat) (d_mail_head_h : SlH pairE 4 H (.slice d_mail_head_a d.mail.head.length d_mail_head_c) d.mail.head) (d_w : DeedR.wf d) (hML : GInt H 2) : Pr Tryz.prog 4 #[.agg (DeedR.cells d d_bind_want_a d_bind_want_c d_mail_head_a d_mail_head_c).toArray] H (.bool true) := by
  refine pr_cw Tryz.func4 rfl Tryz.ntmps4 rfl (fun N => ?_)
  have d_w' := d_w
  simp only [DeedR.wf, ShopR.wf, QueueR.wf, BindR.wf, Mail.wf] at d_w'
  refine cw_seq ?_
  refine cw_region ?_
  refine ow1 (op1_box (cs := [_, _, _, _, _, _, _, _, _, _, _, _, _, _, _, _, _, _, _, _, _, _, _, _, _, _, _, _, _]) 0 rfl rfl (fun b1 => ?_))
  refine ol rfl (lo_assign (v := .bool _) rfl) ?_
  refine ow_nil ?_
  refine seqK_n ?_
  refine cw_seq ?_
  refine cw_seq ?_
  refine cw_region ?_
  refine ow1 (op1_pr (l22_awake _ hML) (en_f cb29 rfl) rfl ?_)
  refine ol rfl (lo_not rfl) ?_
  refine ow_nil ?_
  refine seqK_n ?_
  refine cw_cond_f rfl rfl ?_
  refine cw_skip ?_
  refine seqK_n ?_
  refine cw_seq ?_
  refine cw_seq ?_
  refine cw_region ?_
  refine ol rfl (lo_loadA (i := 0) (vs := [_, _, _, _, _, _, _, _, _, _, _, _, _, _, _, _, _, _, _, _, _, _, _, _, _, _, _, _, _]) rfl ag60 sz60 rfl rfl rfl) ?_
  refine ow1 (op1_pr (l22_Light _ d d_bind_want_a d_bind_want_c d_bind_want_h d_mail_head_a d_mail_head_c d_mail_head_h d_w) (en_f cb30 rfl) rfl ?_)
  have hld1 := lightD_len d
  refine ol rfl (lo_not rfl) ?_
  refine ow_nil ?_
  refine seqK_n ?_
  refine cw_cond rfl (fun h2 => ?_) (fun h2 => ?_)
  · have h3 := not_t h2
    refine cw_seq ?_
    refine cw_region ?_
    refine ol rfl (lo_assign (v := .bool _) rfl) ?_
    refine ow_nil ?_
    refine seqK_n ?_
    refine cw_ret ?_
    refine seqK_r ?_
    refine fnK_r (res1 rfl (rv_t (v := .bool _) rfl)) (.refl _) ?_
    first
      | rfl
      | (exfalso; omega)
      | (refine congrArg Value.bool ?_; unfold deedBytes; rw [if_neg (by omega)]; simp; done)
      | (refine congrArg Value.bool ?_; rw [deedBytes_s (by omega) (by omega) (slh_kind d_bind_want_h) (slh_kind d_mail_head_h)]; simp; done)
  have h4 := not_f h2
  refine cw_skip ?_
  refine seqK_n ?_
  refine cw_seq ?_
  refine cw_region ?_
  refine ol rfl (lo_loadA (i := 0) (vs := [_, _, _, _, _, _, _, _, _, _, _, _, _, _, _, _, _, _, _, _, _, _, _, _, _, _, _, _, _]) rfl ag60 sz60 rfl rfl rfl) ?_
  refine ow1 (op1_ph (l22_To _ d d_bind_want_a d_bind_want_c d_bind_want_h d_mail_head_a d_mail_head_c d_mail_head_h d_w (by first | omega | (have := lightD_len d (by assumption); omega))) (en_f cb31 rfl) rfl ?_)
  rintro _ H12 ⟨a5, c6, a8, c9, rfl, hs7, hs10⟩ hl11
  refine ow1 (op1_alloc 1 rfl zr66 (fun b13 => ?_))
  refine ow1 (op1_storeAll (i := 1) (vs := [_, _, _, _, _, _, _, _, _, _, _, _, _, _, _, _, _, _, _, _, _, _, _, _, _, _, _, _, _]) rfl rfl rfl sz66 rfl rfl rfl ?_)
  refine ow_nil ?_
  refine seqK_n ?_
  refine cw_seq ?_
  refine cw_region ?_
  refine ol rfl (lo_loadA (i := 1) (vs := [_, _, _, _, _, _, _, _, _, _, _, _, _, _, _, _, _, _, _, _, _, _, _, _, _, _, _, _, _]) rfl ag66 sz66 rfl rfl rfl) ?_
  refine ow1 (op1_pr (r22_Check _ d a5 c6 hs7 a8 c9 hs10 d_w) (en_f cb32 rfl) rfl ?_)
  have := deedE_r d
  refine ol rfl (lo_assign (v := .int _ _) rfl) ?_
  refine ow_nil ?_
  refine seqK_n ?_
  refine cw_seq ?_
  refine cw_region ?_
  refine ol rfl (lo_loadA (i := 0) (vs := [_, _, _, _, _, _, _, _, _, _, _, _, _, _, _, _, _, _, _, _, _, _, _, _, _, _, _, _, _]) rfl ag60 sz60 rfl rfl rfl) ?_
  refine ow1 (op1_pr (deed_Bytes _ d d_bind_want_a d_bind_want_c (d_bind_want_h.mono ((HLe.refl _).trans hl11) (fun _ _ h => h)) d_mail_head_a d_mail_head_c (d_mail_head_h.mono ((HLe.refl _).trans hl11) (fun _ _ h => h)) d_w (hML.mono ((HLe.refl _).trans hl11))) (en_f cb33 rfl) rfl ?_)
  have := deedBytes_len (d := d) (by first | omega | decide)
  have := deedE_r d
  refine ol rfl (lo_move (v := .tuple #[_, _]) rfl) ?_
  refine ol rfl (lo_extract (v := str _) rfl rfl) ?_
  refine ol rfl (lo_extract (v := .int _ _) rfl rfl) ?_
  refine ol rfl (lo_assign (v := str _) rfl) ?_
  refine ol rfl (lo_assign (v := .int _ _) rfl) ?_
  refine ow_nil ?_
  refine seqK_n ?_
  refine cw_seq ?_
  refine cw_seq ?_
  refine cw_region ?_
  refine ol rfl (lo_loadA (i := 0) (vs := [_, _, _, _, _, _, _, _, _, _, _, _, _, _, _, _, _, _, _, _, _, _, _, _, _, _, _, _, _]) rfl ag60 sz60 rfl rfl rfl) ?_
  refine ow1 (op1_pr (deed_Check _ d d_bind_want_a d_bind_want_c (d_bind_want_h.mono ((HLe.refl _).trans hl11) (fun _ _ h => h)) d_mail_head_a d_mail_head_c (d_mail_head_h.mono ((HLe.refl _).trans hl11) (fun _ _ h => h)) d_w (hML.mono ((HLe.refl _).trans hl11))) (en_f cb34 rfl) rfl ?_)
  have := deedE_r d
  refine ol rfl (lo_move (v := .int _ _) rfl) ?_
  refine ol rfl (lo_neq rfl rfl) ?_
  refine ol rfl (lo_move (v := .bool _) rfl) ?_
  refine ow_sp (j := 4) rfl (fun h14 => ?_) (fun h14 => ?_)
  · have h15 := not_t h14
    have p16 := df h15
    refine ow1 (op1_gs rfl h14 rfl ?_)
    refine ow1 (op1_gs rfl h14 rfl ?_)
    refine ow1 (op1_gs rfl h14 rfl ?_)
    refine ol rfl (lo_pick_t (v := .bool _) rfl h14 rfl) ?_
    refine ow_nil ?_
    refine seqK_n ?_
    refine cw_cond_t rfl rfl ?_
    refine cw_seq ?_
    refine cw_region ?_
    refine ol rfl (lo_assign (v := .bool _) rfl) ?_
    refine ow_nil ?_
    refine seqK_n ?_
    refine cw_ret ?_
    refine seqK_r ?_
    refine fnK_r (res1 rfl (rv_t (v := .bool _) rfl)) ((HLe.refl _).trans hl11) ?_
    first
      | rfl
      | (exfalso; omega)
      | (refine congrArg Value.bool ?_; unfold deedBytes; rw [if_neg (by omega)]; simp; done)
      | (refine congrArg Value.bool ?_; rw [deedBytes_s (by omega) (by omega) (slh_kind d_bind_want_h) (slh_kind d_mail_head_h)]; simp; done)
  have h17 := not_f h14
  have p18 := dt h17
  refine ow1 (op1_g rfl h14 rfl (lo_move (v := .int _ _) rfl) ?_)
  refine ow1 (op1_g rfl h14 rfl (lo_move (v := .int _ _) rfl) ?_)
  refine ow1 (op1_g rfl h14 rfl (lo_neq rfl rfl) ?_)
  refine ol rfl (lo_pick_f (v := .bool _) rfl h14 rfl) ?_
  refine ow_nil ?_
  refine seqK_n ?_
  refine cw_cond_f rfl h14 ?_
  refine cw_skip ?_
  refine seqK_n ?_
  refine cw_seq ?_
  refine cw_seq ?_
  refine cw_region ?_
  refine ol rfl (lo_move (v := .int _ _) rfl) ?_
  refine ol rfl (lo_neq rfl rfl) ?_
  refine ow_nil ?_
  refine seqK_n ?_
  refine cw_cond rfl (fun h19 => ?_) (fun h19 => ?_)
  · have h20 := not_t h19
    have p21 := df h20
    refine cw_seq ?_
    refine cw_region ?_
    refine ol rfl (lo_move (v := str _) rfl) ?_
    refine ol rfl (lo_seql rfl rfl) ?_
    refine ol rfl (lo_assign (v := .bool _) rfl) ?_
    refine ow_nil ?_
    refine seqK_n ?_
    refine cw_ret ?_
    refine seqK_r ?_
    refine fnK_r (res1 rfl (rv_t (v := .bool _) rfl)) ((HLe.refl _).trans hl11) ?_
    first
      | rfl
      | (exfalso; omega)
      | (refine congrArg Value.bool ?_; unfold deedBytes; rw [if_neg (by omega)]; simp; done)
      | (refine congrArg Value.bool ?_; rw [deedBytes_s (by omega) (by omega) (slh_kind d_bind_want_h) (slh_kind d_mail_head_h)]; simp; done)
  have h22 := not_f h19
  have p23 := dt h22
  refine cw_skip ?_
  refine seqK_n ?_
  refine cw_seq ?_
  refine cw_region ?_
  refine ol rfl (lo_move (v := str _) rfl) ?_
  refine ol rfl (lo_loadA (i := 1) (vs := [_, _, _, _, _, _, _, _, _, _, _, _, _, _, _, _, _, _, _, _, _, _, _, _, _, _, _, _, _]) rfl ag66 sz66 rfl rfl rfl) ?_
  refine ow1 (op1_pr (r22_Bytes _ d a5 c6 hs7 a8 c9 hs10 d_w (by first | assumption | omega)) (en_f cb35 rfl) rfl ?_)
  refine ol rfl (lo_seql rfl rfl) ?_
  refine ol rfl (lo_assign (v := .bool _) rfl) ?_
  refine ow_nil ?_
  refine seqK_n ?_
  refine cw_ret ?_
  refine fnK_r (res1 rfl (rv_t (v := .bool _) rfl)) ((HLe.refl _).trans hl11) ?_
  first
    | rfl
    | (exfalso; omega)
    | (refine congrArg Value.bool ?_; unfold deedBytes; rw [if_neg (by omega)]; simp; done)
    | (refine congrArg Value.bool ?_; rw [deedBytes_s (by omega) (by omega) (slh_kind d_bind_want_h) (slh_kind d_mail_head_h)]; simp; done)
end Go.SW
namespace Go.SW
open Go.ChangeShapes Go.WideShapes Go.ChangeAt Go.RowKit
def hp (w : World) : Hp := fun b => w.heap[b]?
def rest0 (w : World) : Rest := ⟨fun _ => none, w.os, w.tape, w.output⟩
theorem mem0 (w : World) : Mem (rest0 w) (hp w) l0 w :=
  { os := rfl, tape := rfl, output := rfl, n := fun _ _ h => (by cases h), h := fun _ _ h => h, l := fun _ _ _ h => (by cases h), nh := fun _ _ h => (by cases h), nl := fun _ _ _ h => (by cases h), ll := fun _ _ _ _ _ h => (by cases h) }
theorem mem0_below {w w' : World} {L : Ls} (h : Mem (rest0 w) (hp w) L w') : Below w.heap.size w w' := by
  have hb : ∀ k, k < w.heap.size → w'.heap[k]? = w.heap[k]? := fun k hk => by
    have e : w.heap[k]? = some w.heap[k] := Array.getElem?_eq_getElem hk
    rw [e]; exact h.h k _ e
  refine ⟨h.os, h.tape, h.output, ?_, hb⟩
  by_cases z : w.heap.size = 0
  · omega
  · have := hb (w.heap.size - 1) (by omega)
    rw [Array.getElem?_eq_getElem (show w.heap.size - 1 < w.heap.size by omega)] at this
    have := (Array.getElem?_eq_some_iff.1 this).1
    omega
section
variable {Ht : Type} {enc : TypeId × Value → Ht} {P : Program} {w : World} {base fuel : Nat} {spare : Nat → Bool} {held : Bool} {cs : List Value} {x : DataW Ht × List MemPlace} {t : TypeId}
theorem rd_int {k : IntKind} (ht : P.underlying t = some (.int k)) (h : DataW.trod enc P w base spare held fuel t cs = some x) : ∃ z : Int, cs = [.int k z] ∧ k.min ≤ z ∧ z ≤ k.max := by
  obtain ⟨z, h1, _, h2⟩ := DataW.trod_int ht h
  refine ⟨z, h1, ?_⟩
  simp only [Lit.wf, Bool.and_eq_true, decide_eq_true_eq] at h2; exact h2
theorem rd_u8 (ht : P.underlying t = some (.int .u8)) (h : DataW.trod enc P w base spare held fuel t cs = some x) : ∃ z : Int, cs = [.int .u8 z] ∧ 0 ≤ z ∧ z ≤ 255 := rd_int ht h
theorem rd_u64 (ht : P.underlying t = some (.int .u64)) (h : DataW.trod enc P w base spare held fuel t cs = some x) : ∃ z : Int, cs = [.int .u64 z] ∧ 0 ≤ z ∧ z ≤ 18446744073709551615 := rd_int ht h
theorem rd_i64 (ht : P.underlying t = some (.int .i64)) (h : DataW.trod enc P w base spare held fuel t cs = some x) : ∃ z : Int, cs = [.int .i64 z] ∧ -9223372036854775808 ≤ z ∧ z ≤ 9223372036854775807 := rd_int ht h
theorem rd_bool (ht : P.underlying t = some .bool) (h : DataW.trod enc P w base spare held fuel t cs = some x) : ∃ z : Bool, cs = [.bool z] := by
  obtain ⟨z, h1, _⟩ := DataW.trod_bool ht h
  exact ⟨z, h1⟩
theorem rd_str (ht : P.underlying t = some .string) (h : DataW.trod enc P w base spare held fuel t cs = some x) : ∃ s : Bs, cs = [str s] ∧ s.length ≤ 9223372036854775807 := by
  obtain ⟨s, h1, _, h2⟩ := DataW.trod_string ht h
  refine ⟨s.data.toList, by rw [h1, str_of], ?_⟩
  have : s.data.toList.length = s.size := Array.length_toList
  rw [this]; exact h2
theorem list_of {α : Type} {Q : Nat → α → Prop} : ∀ n, (∀ i, i < n → ∃ r, Q i r) → ∃ rs : List α, rs.length = n ∧ ∀ i (h : i < rs.length), Q i rs[i]
  | 0, _ => ⟨[], rfl, fun i h => by cases h⟩
  | n + 1, hq => by
    obtain ⟨rs, hl, hr⟩ := list_of n (fun i hi => hq i (by omega))
    obtain ⟨r, hr0⟩ := hq n (by omega)
    refine ⟨rs ++ [r], by simp [hl], fun i hi => ?_⟩
    by_cases e : i < rs.length
    · rw [List.getElem_append_left e]; exact hr i e
    · have : i = rs.length := by simp at hi; omega
      subst this
      rw [List.getElem_append_right (Nat.le_refl _)]
      simp only [Nat.sub_self, List.getElem_cons_zero]
      rw [hl]; exact hr0
theorem rd_slice {α : Type} {E : Hp → α → List Value → Prop} {k : Nat} {e : TypeId} (ht : P.underlying t = some (.slice e)) (hk : P.cellsOf e = k) (h0 : 0 < k) (he : ∀ fuel cs x, DataW.trod enc P w base spare held fuel e cs = some x → ∃ r, E (hp w) r cs)
    (h : DataW.trod enc P w base spare held fuel t cs = some x) : ∃ (a : Option Addr) (c : Nat) (rs : List α), cs = [.slice a rs.length c] ∧ SlH E k (hp w) (.slice a rs.length c) rs ∧ rs.length ≤ 9223372036854775807 := by
  rcases Go.Deep.open_slice ht h with ⟨h1, _⟩ | ⟨a, len, cap, m, nf, D, Pl, h1, _, hl, hm, hmm, _, hi⟩
  · exact ⟨none, 0, [], h1, slh_nil, Nat.zero_le _⟩
  · have hs0 : 0 < len → a = ⟨a.block, a.off, none⟩ := by
      intro hl0
      obtain ⟨cs', hc, hT⟩ := hi 0 (by rw [hmm]; split <;> omega)
      rw [hk, Nat.zero_mul] at hc
      obtain ⟨_, hcl, hat⟩ := World.cells?_some hc
      have ha0 := hat 0 h0
      rw [List.getElem?_eq_getElem (by omega)] at ha0
      obtain ⟨ab, ao, asp⟩ := a
      cases asp with
      | none => rfl
      | some z =>
        exfalso
        unfold World.cell? at ha0
        simp only [Addr.add] at ha0
        split at ha0 <;> simp at ha0
    have key : ∀ i, i < len → ∃ r : α, ∃ cs', E (hp w) r cs' ∧ SlAt (hp w) (.slice (some a) len cap) k i cs' := by
      intro i hil
      have ha := hs0 (by omega)
      obtain ⟨cs', hc, hT⟩ := hi i (by rw [hmm]; split <;> omega)
      obtain ⟨r, hr⟩ := he _ _ _ hT
      rw [hk] at hc
      obtain ⟨_, hcl, hat⟩ := World.cells?_some hc
      refine ⟨r, cs', hr, ?_⟩
      generalize a.block = ab at ha
      generalize a.off = ao at ha
      subst ha
      simp only [add_none] at hat
      have ha0 := hat 0 h0
      rw [List.getElem?_eq_getElem (by omega)] at ha0
      unfold World.cell? at ha0
      simp only at ha0
      split at ha0
      · rename_i c T fr hb
        refine ⟨ab, ao, len, cap, c, T, fr, rfl, hb, hcl, fun j hj => ?_⟩
        have := hat j hj
        unfold World.cell? at this
        simp only at this
        rw [hb] at this
        simpa using this
      · cases ha0
    obtain ⟨rs, hlen, hr⟩ := list_of (Q := fun i (r : α) => ∃ cs', E (hp w) r cs' ∧ SlAt (hp w) (.slice (some a) len cap) k i cs') len key
    refine ⟨some a, cap, rs, by rw [h1, hlen], ⟨⟨some a, cap, rfl, by omega⟩, fun i hi => ?_⟩, ?_⟩
    · rw [hlen]; exact hr i hi
    · have : cap ≤ 9223372036854775807 := hm
      omega
/-- A struct's field. -/
theorem rd_fld {fs : Array Field} {xs : List (DataW Ht × List MemPlace)} {n i o k : Nat} {f : Field} {ft : TypeId} (hf : ∀ (i : Nat) (f : Field), fs[i]? = some f → DataW.trod enc P w base spare held n f.type ((cs.drop f.offset).take (P.cellsOf f.type)) = xs[i]?) (hl : xs.length = fs.size)
    (hi : fs[i]? = some f) (ho : f.offset = o) (ht : f.type = ft) (hk : P.cellsOf ft = k) : ∃ y, DataW.trod enc P w base spare held n ft ((cs.drop o).take k) = some y := by
  have h := hf i f hi
  have hlt : i < fs.size := (Array.getElem?_eq_some_iff.1 hi).1
  rw [ho, ht, hk, List.getElem?_eq_getElem (by omega)] at h
  exact ⟨_, h⟩
theorem cs_last {l : List Value} {o k : Nat} (hl : cs.length = o + k) (h : (cs.drop o).take k = l) : cs.drop o = l := by
  rw [← h, List.take_of_length_le (by simp; omega)]
theorem cs_step {l r : List Value} {o k : Nat} (h : (cs.drop o).take k = l) (hr : cs.drop (o + k) = r) : cs.drop o = l ++ r := by
  rw [← h, ← hr, ← List.drop_drop, List.take_append_drop]
end
/-- A struct that is handed over. -/
theorem rd_agg {Ht : Type} {enc : TypeId × Value → Ht} {P : Program} {w : World} {r : Reach} {b0 base : Nat} {spare : Nat → Bool} {held : Bool} {t : TypeId} {fs : Array Field} {v : Value} {d : DataW Ht} {p : List MemPlace} (hs : P.underlying t = some (.struct fs)) (hv : Value.okWide P w r b0 t v)
    (h : DataW.Trod enc P w base spare held t v d p) : ∃ (l : List Value) (fuel : Nat), v = .agg l.toArray ∧ DataW.trod enc P w base spare held fuel t l = some (d, p) := by
  obtain ⟨cs, rfl, _⟩ := okWide_struct hs hv
  obtain ⟨fuel, hf⟩ := h
  exact ⟨cs.toList, fuel, rfl, hf⟩
theorem params_ok {P : Program} {ts : Array TypeId} (h : (ts.toList.all fun t => P.readableRec t && decide (t < P.types.size)) = true) : ∀ t ∈ ts.toList, P.readableRec t = true ∧ t < P.types.size := fun t ht => by
  have := List.all_eq_true.1 h t ht
  simpa using this
/-- The cells of a datum. -/
def flatD : Nat → DataW Unit → List Value
  | _, .lit (.int k n) => [.int k n]
  | _, .lit (.string s) => [.string ⟨s.toArray⟩]
  | _, .lit (.bool b) => [.bool b]
  | n + 1, .agg l => l.flatMap (flatD n)
  | _, _ => []
/-- The settled world, with data laid in its variables. -/
def layD (d : DataW Unit) : Obj → Obj
  | .cells _ t frozen => .cells (flatD 5 d).toArray t frozen
  | o => o
noncomputable def laidW (P : Program) (os : Os) (l : List (Nat × DataW Unit)) : World :=
  let w0 := World.holding P os ⟨#[], #[], []⟩
  { w0 with heap := List.foldl (fun h x => h.modify x.1 (layD x.2)) w0.heap l }
/-- Each argument reads as it did, where below the heap's old size nothing has turned. -/
theorem trodAll_stays {Ht : Type} {enc : TypeId × Value → Ht} {P : Program} (hl : laidOutB P = true) {W W' : World} (hb : Below W.heap.size W W') {sp : Nat → Bool} : ∀ {ts : List TypeId} {vs : List Value} {ds : List (DataW Ht)} {ps : List MemPlace}, (∀ t ∈ ts, P.readableRec t = true ∧ t < P.types.size) →
    DataW.TrodAll enc P W 0 (fun _ => true) true ts vs ds ps → (∀ x ∈ ps, x.block < W.heap.size) → (∀ x ∈ ps, sp x.block = true) → DataW.TrodAll enc P W' 0 sp true ts vs ds ps := by
  intro ts
  induction ts with
  | nil => intro vs ds ps _ h _ _; cases vs <;> cases ds <;> first | exact h | exact h.elim
  | cons t ts ih =>
    intro vs ds ps hr h hlt hsp
    obtain ⟨v, vs', d, ds', p, q, rfl, rfl, rfl, h1, h2⟩ := trodAll_cons h
    exact trodAll_cons_mk (WideElems.Trod_stays hl (hr t (by simp)).1 (hr t (by simp)).2 h1 (fun x hx => hb.same (hlt x (by simp [hx]))) (fun x hx => hsp x (by simp [hx]))) (ih (fun u hu => hr u (by simp [hu])) h2 (fun x hx => hlt x (by simp [hx])) (fun x hx => hsp x (by simp [hx])))
section
variable {Ht : Type} {enc : TypeId × Value → Ht} {P : Program}
/-- A row's last step where below the heap's old size nothing has turned: it hands back true, and the arguments read as they did. -/
theorem law_post {f : Func} {s : ChangeSpec} {apart fresh again : Bool} {W W' : World} {args : Array Value} {ds : List (DataW Ht)} {before : List MemPlace} {tb : TypeId} (hvars : s.vars = [])
    (hW : DataW.Whole enc P f.params.toList s.vars apart W args.toList ds [] before) (hb : Below W.heap.size W W') (hl : laidOutB P = true) (hr : ∀ t ∈ f.params.toList, P.readableRec t = true ∧ t < P.types.size)
    (hres : f.resultTypes = #[tb]) (hu : P.underlying tb = some .bool) (hfn : s.fn Ht (ds ++ []) = { results := [.lit (.bool true)], args := ds }) : s.post enc P f apart fresh false again W args (.bool true) W' := by
  have hlt : ∀ p ∈ before, p.block < W.heap.size := fun p hp => hW.lt p hp
  have hold : ∀ p ∈ before, (fun b => decide (b < W.heap.size)) p.block = true := fun p hp => by simpa using hlt p hp
  have hW0 := hW
  obtain ⟨p, q, hA, hV, rfl, hz, hn⟩ := hW0
  have hq : q = [] := by
    rw [hvars] at hV
    exact (trodVars_none hV).2
  subst hq
  rw [List.append_nil] at hlt hold hz hn hW
  have hA0 : DataW.TrodAll enc P W 0 (fun _ => true) true f.params.toList args.toList ds p := hA
  have hargs : ∀ sp : Nat → Bool, (∀ x ∈ p, sp x.block = true) → DataW.TrodAll enc P W' 0 sp true f.params.toList args.toList ds p := fun sp hs => trodAll_stays hl hb hr hA0 hlt hs
  have hvs : ∀ sp : Nat → Bool, DataW.TrodVars enc P W' sp s.vars ([] : List (DataW Ht)) [] := fun sp => by rw [hvars]; rfl
  have hR : ∀ (b : Nat) (sp : Nat → Bool) (hd : Bool), DataW.TrodAll enc P W' b sp hd f.resultTypes.toList ((Value.bool true).resultList f.resultTypes.size) [.lit (.bool true)] [] := fun b sp hd => by
    rw [hres]
    exact trodAll_mk1 (shut_bool hu true)
  have hok : ∀ (j : Nat) (t : TypeId) (r : Value), f.resultTypes[j]? = some t → ((Value.bool true).resultList f.resultTypes.size)[j]? = some r → Value.okWide P W' .any 0 t r := ok_one hres rfl (okWide_bool_mk hu true)
  refine ⟨ds, [], p, [], p, [], hW, ?_, ?_, ?_, World.keptBut_mono (fun x hx => ⟨hx, Or.inr (by simpa using hx)⟩) (hb.frame (· ∈ p)), fun _ => ?_⟩
  · rw [hfn]; exact hR _ _ _
  · rw [hfn]; exact hargs _ hold
  · rw [hfn]; exact hvs _
  · refine ⟨hok, _, _, ([] ++ p) ++ [], ⟨[] ++ p, [], trodAll_append (hargs _ (fun _ _ => rfl)) (hR _ _ _), hvs _, rfl, ?_, ?_⟩, ?_⟩
    · intro b off hp
      have hin : MemPlace.cell b off ∈ p := by simpa using hp
      rw [hb.frozen (hlt _ hin)]
      exact hz b off hin
    · intro ha
      have := hn ha
      simpa using this
    · intro x hx _
      simpa using hx
/-- A variable of type int holds an int. -/
theorem gint_of_shape {w : World} {g : Nat} {t : TypeId} {zero : Array Value} (h : w.ShapedOpen P) (hg : g < P.globals.size)
    (h0 : ((begin P (fun _ _ => 0) default).world.heap[g]?).bind Obj.row? = some (zero, t)) (hz : zero.size = 1)
    (hb : P.buildable t = true) (hc : P.cellTypes P.depth t = some [t]) (hu : P.underlying t = some (.int .i64)) : GInt (hp w) g := by
  obtain ⟨cs, hh, hs, hr⟩ := h.1 g zero t hg h0
  obtain ⟨ts, hts, _, hall⟩ := hr hb
  rw [hc] at hts
  cases hts
  have h1 : 0 < cs.size := by omega
  obtain ⟨u, hu', hok⟩ := hall 0 cs[0] (by simp [h1])
  have : u = t := by simpa using hu'.symm
  subst this
  unfold Cell.ok at hok
  rw [hu] at hok
  have hv : ∃ m, cs[0] = .int .i64 m := by
    cases hv : cs[0] <;> rw [hv] at hok <;> first | exact ⟨_, by rw [hok.1]⟩ | simp at hok
  obtain ⟨m, hm⟩ := hv
  refine ⟨m, u, (0, 0), ?_⟩
  show w.heap[g]? = _
  rw [hh]
  have e : cs = #[.int .i64 m] := by
    apply Array.ext
    · simp; omega
    · intro i hi1 hi2
      have : i = 0 := by simp at hi2; omega
      subst this
      simpa using hm
  rw [e]
end
end Go.SW
namespace Go.SW
open Go.ChangeShapes Go.WideShapes Go.ChangeAt Go.RowKit
variable {P : Program}
end Go.SW
