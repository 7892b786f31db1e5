/-
  A part of the proof of DraftFull: The walks of this seat, printed by program: mail.Check, mail.Bytes, draft.Life, stairwellref26.Life, deed.maybe, deed.bound, mail.Same, deed.Same. The walks of this seat, printed by program: deed.Deed.told, deed.first, deed.Deed.Check. The walks of this seat, printed by program: deed.Deed.Bytes. The walks of this seat, printed by program: stairwellref04.Name, stairwellref04.Split, stairwellref04.Key. The walks of this seat, printed by program: stairwellref09.Pair, stairwellref09.Check, stairwellref09.Same. The walks of this seat, printed by program: stairwelllaw09.Light, stairwelllaw13.Light, stairwelllaw22.Light, stairwelllaw14.To, stairwelllaw22.To. The walks of this seat, printed by program: stairwellref13.Same, stairwellref14.SameBind, stairwellref22.Same, stairwellref22.names, stairwellref22.maybe, stairwellref22.spare, stairwellref22.checkBind, stairwellref13.Check, stairwellref22.Check. The walks of this seat, printed by program: match.Rule.Check, match.Rule.heads, match.Rule.Goes, match.Same. The walks of this seat, printed by program: slices.Equal[[]string,string], slices.Index[[]string,string], slices.Contains[[]string,string], route.Shop.check, route.Book.Shop. The walks of this seat, printed by program: route.Bind.rule, route.Bind.same, api.Pair], route.Bind.clone, route.Bind]. The walks of this seat, printed by program: stairwelllaw01.awake, stairwelllaw01.Awake, stairwelllaw04.awake, stairwelllaw04.Awake, stairwelllaw09.awake, stairwelllaw09.Awake, stairwelllaw10.awake, stairwelllaw10.Awake, stairwelllaw13.awake, stairwelllaw13.Awake. The walks of this seat, printed by program: deed.Deed], deed.Deed], deed.Deed], deed.Deed], chans.Taker], chans.Taker], chans.Taker], chans.Taker], chans.Lent], chans.Lent], chans.Lent], chans.Lent], route.Shop], route.Shop], route.Bind], route.Bind]. The walks of this seat, printed by program: draft.Draft.Settles$1, draft.Draft.Settles, draft.clone, draft.Draft.check, draft.Draft.Len, stairwellref26.Settles, chans.New, chans.Chan.Credit, chans.Chan.Room, chans.Chan.of$1, chans.Chan.of, chans.Chan.Sure, chans.Chan.Put, chans.Chan.Number, chans.Chan.Draft, chans.Chan.Drafts, chans.Chan.Undo, stairwellref27.New, stairwellref27.Credit, stairwellref27.Room, stairwellref27.Sure, stairwellref27.Put, stairwellref27.Draft, stairwellref27.Undo, stairwellref27.SameTakers, stairwellref27.SameLent. The walks of this seat, printed by program: route.put, route.Book.Make, route.Book.there.
-/
import Derived.Test.YtdkpbleeehmhjaaGreatDoorProg
import Derived.Test.YtdkpbleeehmhjaaGreatDoorDraftFullP2
import Derived.Test.YtdkpbleeehmhjaaGreatDoorDraftFullP3
import Derived.KernelRfl
set_option linter.unusedVariables false
set_option linter.unusedSimpArgs false
set_option linter.unusedVariables false
set_option maxRecDepth 100000
set_option maxHeartbeats 4000000
namespace Go.SW.V
open Go.SW Go.Proofs
theorem ag22 : Ag Tryz.prog 22 false := fun w => by kernel_rfl
theorem cb103 : Callable Tryz.prog 103 := callable_of Tryz.func103 (by kernel_rfl) (by kernel_rfl)
theorem cb107 : Callable Tryz.prog 107 := callable_of Tryz.func107 (by kernel_rfl) (by kernel_rfl)
theorem cb108 : Callable Tryz.prog 108 := callable_of Tryz.func108 (by kernel_rfl) (by kernel_rfl)
theorem cb110 : Callable Tryz.prog 110 := callable_of Tryz.func110 (by kernel_rfl) (by kernel_rfl)
theorem cb117 : Callable Tryz.prog 117 := callable_of Tryz.func117 (by kernel_rfl) (by kernel_rfl)
theorem cb126 : Callable Tryz.prog 126 := callable_of Tryz.func126 (by kernel_rfl) (by kernel_rfl)
theorem cb29 : Callable Tryz.prog 29 := callable_of Tryz.func29 (by kernel_rfl) (by kernel_rfl)
theorem eqg44 : Tryz.prog.eqGuardType Tryz.prog.depth 44 = false := by kernel_rfl
theorem eqg46 : Tryz.prog.eqGuardType Tryz.prog.depth 46 = false := by kernel_rfl
theorem veq44 (p q : ShopR) : ∀ (H : Hp) (vs us : List Value), Sims H (ShopR.pc p) vs → Sims H (ShopR.pc q) us → EqV Tryz.prog 10000 44 (.agg vs.toArray) (.agg us.toArray) (decide (p = q)) := by
  intro H vs us hv hu
  obtain ⟨_, _, rfl, v0, v_0⟩ := hv.inv_cons
  obtain ⟨_, _, rfl, v1, v_1⟩ := v_0.inv_cons
  obtain ⟨_, _, rfl, v2, v_2⟩ := v_1.inv_cons
  cases v_2.inv_nil
  cases v0.inv_str.1; cases v1.inv_int.1; cases v2.inv_str.1
  obtain ⟨_, _, rfl, u0, u_0⟩ := hu.inv_cons
  obtain ⟨_, _, rfl, u1, u_1⟩ := u_0.inv_cons
  obtain ⟨_, _, rfl, u2, u_2⟩ := u_1.inv_cons
  cases u_2.inv_nil
  cases u0.inv_str.1; cases u1.inv_int.1; cases u2.inv_str.1
  exact EqV.to (eqv_agg Tryz.underlying44 (by kernel_rfl) (eqf_1 (by decide) ag9 rfl rfl (eqv_str Tryz.underlying9) (eqf_1 (by decide) ag5 rfl rfl (eqv_int Tryz.underlying5) (eqf_1 (by decide) ag9 rfl rfl (eqv_str Tryz.underlying9) eqf_nil)))) (by obtain ⟨a0, a1, a2⟩ := p; obtain ⟨b0, b1, b2⟩ := q; rw [Bool.eq_iff_iff]; simp)
theorem veq46 (p q : QueueR) : ∀ (H : Hp) (vs us : List Value), Sims H (QueueR.pc p) vs → Sims H (QueueR.pc q) us → EqV Tryz.prog 10000 46 (.agg vs.toArray) (.agg us.toArray) (decide (p = q)) := by
  intro H vs us hv hu
  obtain ⟨_, _, rfl, v0, v_0⟩ := hv.inv_cons
  obtain ⟨_, _, rfl, v1, v_1⟩ := v_0.inv_cons
  obtain ⟨_, _, rfl, v2, v_2⟩ := v_1.inv_cons
  obtain ⟨_, _, rfl, v3, v_3⟩ := v_2.inv_cons
  cases v_3.inv_nil
  cases v0.inv_str.1; cases v1.inv_int.1; cases v2.inv_int.1; cases v3.inv_str.1
  obtain ⟨_, _, rfl, u0, u_0⟩ := hu.inv_cons
  obtain ⟨_, _, rfl, u1, u_1⟩ := u_0.inv_cons
  obtain ⟨_, _, rfl, u2, u_2⟩ := u_1.inv_cons
  obtain ⟨_, _, rfl, u3, u_3⟩ := u_2.inv_cons
  cases u_3.inv_nil
  cases u0.inv_str.1; cases u1.inv_int.1; cases u2.inv_int.1; cases u3.inv_str.1
  exact EqV.to (eqv_agg Tryz.underlying46 (by kernel_rfl) (eqf_1 (by decide) ag9 rfl rfl (eqv_str Tryz.underlying9) (eqf_1 (by decide) ag22 rfl rfl (eqv_int Tryz.underlying22) (eqf_1 (by decide) ag22 rfl rfl (eqv_int Tryz.underlying22) (eqf_1 (by decide) ag9 rfl rfl (eqv_str Tryz.underlying9) eqf_nil))))) (by obtain ⟨a0, a1, a2, a3⟩ := p; obtain ⟨b0, b1, b2, b3⟩ := q; rw [Bool.eq_iff_iff]; simp)
def tbv14 : Tb := [(5, ⟨.int .u8, 1, 1, [.int .u8 0]⟩),
  (9, ⟨.str, 1, 16, [.str []]⟩),
  (22, ⟨.int .u64, 1, 8, [.int .u64 0]⟩),
  (44, ⟨.agg [(0, 1), (1, 1), (2, 1)], 3, 40, [.str [], .int .u8 0, .str []]⟩),
  (46, ⟨.agg [(0, 1), (1, 1), (2, 1), (3, 1)], 4, 48, [.str [], .int .u64 0, .int .u64 0, .str []]⟩),
  (47, ⟨.slc 139, 1, 24, [.sl Pair.pc []]⟩),
  (49, ⟨.agg [(0, 1), (1, 1), (2, 1), (3, 1), (4, 1), (5, 1)], 6, 88, [.str [], .str [], .bool false, .str [], .sl Pair.pc [], .bool false]⟩),
  (51, ⟨.agg [(0, 1), (1, 1), (2, 1), (3, 1), (4, 1), (5, 1), (6, 1)], 7, 96, [.int .u64 0, .str [], .str [], .sl Pair.pc [], .str [], .int .u64 0, .int .u8 0]⟩),
  (53, ⟨.agg [(0, 1), (1, 1), (2, 3), (5, 4), (9, 6), (15, 1), (16, 1), (17, 1), (18, 1), (19, 1), (20, 1), (21, 7), (28, 1)], 29, 344, [.int .u8 0, .int .u64 0, .str [], .int .u8 0, .str [], .str [], .int .u64 0, .int .u64 0, .str [], .str [], .str [], .bool false, .str [], .sl Pair.pc [], .bool false, .str [], .int .u64 0, .int .u8 0, .int .u8 0, .int .u8 0, .int .u64 0, .int .u64 0, .str [], .str [], .sl Pair.pc [], .str [], .int .u64 0, .int .u8 0, .str []]⟩),
  (170, ⟨.agg [(0, 1), (1, 1)], 2, 24, [.str [], .int .i64 0]⟩)]
theorem tbv14ok : tbB Tryz.prog tbv14 = true := by kernel_rfl
theorem mail_Check (m : Mail) : Fn Tryz.prog gb 110 [.agg (Mail.pc m)] (.int .i64 (mailC m)) := by
  refine fn_cw tbv14ok Tryz.func110 rfl Tryz.ntmps110 rfl cb110 rfl rfl fun w N H hG => ?_
  have m_head_l : m.head.length ≤ 140737488355328 := w.1.2.2.2.1.1
  refine go tbv14ok 2 rfl rfl trivial ?_
  refine ef (boxA 0 rfl rfl rfl fun b1 => ?_)
  refine go tbv14ok 8 rfl rfl trivial ?_
  refine call (words_Name _) rfl rfl fun w2 => ?_
  refine go tbv14ok 9 rfl rfl trivial ?_
  refine cnd rfl (fun h3 => ?_) (fun h3 => ?_)
  · have h4 := not_t h3
    have p5 := df h4
    refine go tbv14ok 8 rfl rfl trivial ?_
    refine rt1 rfl rfl ?_
    refine ple ?_
    refine congrArg (PV.int .i64) ?_
    simp only [Bool.or_eq_true, Bool.and_eq_true, Bool.not_eq_true', decide_eq_true_eq, Bool.or_eq_false_iff, Bool.and_eq_false_iff, Bool.not_eq_false', decide_eq_false_iff_not, beq_iff_eq, beq_eq_false_iff_ne] at *
    unfold mailC
    (repeat' split) <;> first | rfl | (exfalso; omega) | (exfalso; simp_all; done) | (exfalso; simp_all; omega) | grind
  · have h6 := not_f h3
    have p7 := dt h6
    refine go tbv14ok 7 rfl rfl trivial ?_
    refine call (words_Key _) rfl rfl fun w8 => ?_
    refine go tbv14ok 9 rfl rfl trivial ?_
    refine cnd rfl (fun h9 => ?_) (fun h9 => ?_)
    · have h10 := not_t h9
      have p11 := df h10
      refine go tbv14ok 8 rfl rfl trivial ?_
      refine rt1 rfl rfl ?_
      refine ple ?_
      refine congrArg (PV.int .i64) ?_
      simp only [Bool.or_eq_true, Bool.and_eq_true, Bool.not_eq_true', decide_eq_true_eq, Bool.or_eq_false_iff, Bool.and_eq_false_iff, Bool.not_eq_false', decide_eq_false_iff_not, beq_iff_eq, beq_eq_false_iff_ne] at *
      unfold mailC
      (repeat' split) <;> first | rfl | (exfalso; omega) | (exfalso; simp_all; done) | (exfalso; simp_all; omega) | grind
    · have h12 := not_f h9
      have p13 := dt h12
      refine go tbv14ok 7 rfl rfl trivial ?_
      refine call (head_Check _) rfl rfl fun w14 => ?_
      refine go tbv14ok 11 rfl rfl trivial ?_
      refine cnd rfl (fun h15 => ?_) (fun h15 => ?_)
      · have h16 := not_t h15
        have p17 := df h16
        refine go tbv14ok 9 rfl rfl trivial ?_
        refine rt1 rfl rfl ?_
        refine ple ?_
        refine congrArg (PV.int .i64) ?_
        simp only [Bool.or_eq_true, Bool.and_eq_true, Bool.not_eq_true', decide_eq_true_eq, Bool.or_eq_false_iff, Bool.and_eq_false_iff, Bool.not_eq_false', decide_eq_false_iff_not, beq_iff_eq, beq_eq_false_iff_ne] at *
        unfold mailC
        (repeat' split) <;> first | rfl | (exfalso; omega) | (exfalso; simp_all; done) | (exfalso; simp_all; omega) | grind
      · have h18 := not_f h15
        have p19 := dt h18
        refine go tbv14ok 9 rfl rfl trivial ?_
        refine cnd rfl (fun h20 => ?_) (fun h20 => ?_)
        · have p21 := dt h20
          refine go tbv14ok 8 rfl rfl trivial ?_
          refine rt1 rfl rfl ?_
          refine ple ?_
          refine congrArg (PV.int .i64) ?_
          simp only [Bool.or_eq_true, Bool.and_eq_true, Bool.not_eq_true', decide_eq_true_eq, Bool.or_eq_false_iff, Bool.and_eq_false_iff, Bool.not_eq_false', decide_eq_false_iff_not, beq_iff_eq, beq_eq_false_iff_ne] at *
          unfold mailC
          (repeat' split) <;> first | rfl | (exfalso; omega) | (exfalso; simp_all; done) | (exfalso; simp_all; omega) | grind
        · have p22 := df h20
          refine go tbv14ok 8 rfl rfl trivial ?_
          refine cnd rfl (fun h23 => ?_) (fun h23 => ?_)
          · have p24 := dt h23
            refine go tbv14ok 8 rfl rfl trivial ?_
            refine rt1 rfl rfl ?_
            refine ple ?_
            refine congrArg (PV.int .i64) ?_
            simp only [Bool.or_eq_true, Bool.and_eq_true, Bool.not_eq_true', decide_eq_true_eq, Bool.or_eq_false_iff, Bool.and_eq_false_iff, Bool.not_eq_false', decide_eq_false_iff_not, beq_iff_eq, beq_eq_false_iff_ne] at *
            unfold mailC
            (repeat' split) <;> first | rfl | (exfalso; omega) | (exfalso; simp_all; done) | (exfalso; simp_all; omega) | grind
          · have p25 := df h23
            refine go tbv14ok 9 rfl rfl trivial ?_
            refine rt1 rfl rfl ?_
            refine ple ?_
            refine congrArg (PV.int .i64) ?_
            simp only [Bool.or_eq_true, Bool.and_eq_true, Bool.not_eq_true', decide_eq_true_eq, Bool.or_eq_false_iff, Bool.and_eq_false_iff, Bool.not_eq_false', decide_eq_false_iff_not, beq_iff_eq, beq_eq_false_iff_ne] at *
            unfold mailC
            (repeat' split) <;> first | rfl | (exfalso; omega) | (exfalso; simp_all; done) | (exfalso; simp_all; omega) | grind
theorem mail_Bytes (m : Mail) : Fn Tryz.prog gb 117 [.agg (Mail.pc m)] (.tup [.str (mailBytes m), .int .i64 (mailC m)]) := by
  refine fn_cw tbv14ok Tryz.func117 rfl Tryz.ntmps117 rfl cb117 rfl rfl fun w N H hG => ?_
  have m_w := Mail.pwf w.1
  have m_w' := m_w
  simp only [Mail.wf] at m_w'
  have m_head_k := Mail.kd3 w.1
  have m_head_k2 : m.head.length ≤ 140737488355328 := w.1.2.2.2.1.1
  refine go tbv14ok 2 rfl rfl trivial ?_
  refine ef (boxA 0 rfl rfl rfl fun b1 => ?_)
  refine go tbv14ok 8 rfl rfl trivial ?_
  refine call (mail_Check _) rfl rfl fun w2 => ?_
  have := mailC_r m
  have hmo2 := fun h => mailC_ok (m := m) h
  refine go tbv14ok 9 rfl rfl trivial ?_
  refine cnd rfl (fun h3 => ?_) (fun h3 => ?_)
  · have h4 := not_t h3
    have p5 := df h4
    refine go tbv14ok 9 rfl rfl trivial ?_
    refine rt2 rfl rfl ?_
    refine ple ?_
    simp [mailBytes, mailOut, *]
  · have h6 := not_f h3
    have p7 := dt h6
    refine go tbv14ok 6 rfl rfl trivial ?_
    refine call (head_Bytes _) rfl rfl fun w8 => ?_
    have := headBytes_len m.head
    refine go tbv14ok 8 rfl rfl trivial ?_
    refine any [1, 2, 3, 4, 5, 6] 17 mixd rfl ?_
    refine gov tbv14ok [0, 1, 2] 14 rfl (by kernel_rfl) rfl rfl trivial ?_
    refine vcall 3 rfl (by kernel_rfl) (out_Num (⟨[], 0⟩ : Out) _ _ (by first | omega | (have := hrl (by assumption); omega) | (simp [outNum, outRaw, numB_len, numK] <;> omega) | (have := hrl (by assumption); simp [outNum, outRaw, numB_len, numK] <;> omega))) rfl rfl fun w9 => ?_
    have nl0 : (⟨[], 0⟩ : Out).s.length = 0 := rfl
    have := outNum_len (⟨[], 0⟩ : Out) m.id 8
    refine gov tbv14ok [4, 5] 11 rfl (by kernel_rfl) rfl rfl trivial ?_
    refine vcall 6 rfl (by kernel_rfl) (out_Text _ _ (by first | omega | (have := hrl (by assumption); omega) | (simp [outNum, outRaw, numB_len, numK] <;> omega) | (have := hrl (by assumption); simp [outNum, outRaw, numB_len, numK] <;> omega))) rfl rfl fun w10 => ?_
    have := outText_len (outNum (⟨[], 0⟩ : Out) m.id 8) m.shop
    refine gov tbv14ok [7, 8] 8 rfl (by kernel_rfl) rfl rfl trivial ?_
    refine vcall 9 rfl (by kernel_rfl) (out_Text _ _ (by first | omega | (have := hrl (by assumption); omega) | (simp [outNum, outRaw, numB_len, numK] <;> omega) | (have := hrl (by assumption); simp [outNum, outRaw, numB_len, numK] <;> omega))) rfl rfl fun w11 => ?_
    have := outText_len (outText (outNum (⟨[], 0⟩ : Out) m.id 8) m.shop) m.key
    refine gov tbv14ok [10] 6 rfl (by kernel_rfl) rfl rfl trivial ?_
    refine vcall 11 rfl (by kernel_rfl) (out_Raw _ _ (by first | omega | (have := hrl (by assumption); omega) | (simp [outNum, outRaw, numB_len, numK] <;> omega) | (have := hrl (by assumption); simp [outNum, outRaw, numB_len, numK] <;> omega))) rfl rfl fun w12 => ?_
    have := outRaw_len (outText (outText (outNum (⟨[], 0⟩ : Out) m.id 8) m.shop) m.key) (headBytes m.head)
    refine gov tbv14ok [12, 13] 3 rfl (by kernel_rfl) rfl rfl trivial ?_
    refine vcall 14 rfl (by kernel_rfl) (out_Text _ _ (by first | omega | (have := hrl (by assumption); omega) | (simp [outNum, outRaw, numB_len, numK] <;> omega) | (have := hrl (by assumption); simp [outNum, outRaw, numB_len, numK] <;> omega))) rfl rfl fun w13 => ?_
    have := outText_len (outRaw (outText (outText (outNum (⟨[], 0⟩ : Out) m.id 8) m.shop) m.key) (headBytes m.head)) m.body
    refine ve 15 rfl (by kernel_rfl) rfl (alloc tbv14ok 1 rfl rfl rfl rfl fun b14 => ?_)
    refine vt 16 rfl (by kernel_rfl) (by kernel_rfl) (storeA tbv14ok rfl rfl rfl rfl rfl rfl rfl rfl rfl rfl ?_)
    refine vdone (by kernel_rfl) ?_
    refine go tbv14ok 2 rfl rfl trivial ?_
    refine any [2, 3, 4, 5, 6, 7] 11 mixd rfl ?_
    refine gov tbv14ok [0, 1, 2] 8 rfl (by kernel_rfl) rfl rfl trivial ?_
    refine vcall 3 rfl (by kernel_rfl) (out_Num _ _ _ (by first | omega | (have := hrl (by assumption); omega) | (simp [outNum, outRaw, numB_len, numK] <;> omega) | (have := hrl (by assumption); simp [outNum, outRaw, numB_len, numK] <;> omega))) rfl rfl fun w15 => ?_
    have := outNum_len (outText (outRaw (outText (outText (outNum (⟨[], 0⟩ : Out) m.id 8) m.shop) m.key) (headBytes m.head)) m.body) m.due 8
    refine gov tbv14ok [4, 5, 6] 4 rfl (by kernel_rfl) rfl rfl trivial ?_
    refine vcall 7 rfl (by kernel_rfl) (out_Num _ _ _ (by first | omega | (have := hrl (by assumption); omega) | (simp [outNum, outRaw, numB_len, numK] <;> omega) | (have := hrl (by assumption); simp [outNum, outRaw, numB_len, numK] <;> omega))) rfl rfl fun w16 => ?_
    have := outNum_len (outNum (outText (outRaw (outText (outText (outNum (⟨[], 0⟩ : Out) m.id 8) m.shop) m.key) (headBytes m.head)) m.body) m.due 8) m.hops 1
    refine vcall 8 rfl (by kernel_rfl) (out_String _) rfl rfl fun w17 => ?_
    refine gov tbv14ok [9, 10] 0 rfl (by kernel_rfl) rfl rfl trivial ?_
    refine vdone (by kernel_rfl) ?_
    refine go tbv14ok 2 rfl rfl trivial ?_
    refine rt2 rfl rfl ?_
    refine ple ?_
    simp [mailBytes, mailOut, *]
theorem draft_Life (tick : Int) (life : Int) : Fn Tryz.prog gb 29 [.int .u64 tick, .int .u64 life] (.int .u64 (lifeN tick life)) := by
  refine fn_cw tbv14ok Tryz.func29 rfl Tryz.ntmps29 rfl cb29 rfl rfl fun w N H hG => ?_
  have tick_r : 0 ≤ tick ∧ tick ≤ 18446744073709551615 := w.1
  have life_r : 0 ≤ life ∧ life ≤ 18446744073709551615 := w.2.1
  refine go tbv14ok 13 rfl rfl trivial ?_
  refine q1g [9] rfl (fun hc => qsub rfl rfl (rg_u64 (by omega))) ⟨(fun hc => hc), trivial⟩ rfl rfl rfl fun _ => ?_
  refine go tbv14ok 4 rfl rfl ⟨(fun hc => hc), (fun hc => hc), rfl, rfl, trivial⟩ ?_
  refine cnd rfl (fun h1 => ?_) (fun h1 => ?_)
  · refine go tbv14ok 7 rfl rfl trivial ?_
    refine rt1 rfl rfl ?_
    refine ple ?_
    refine congrArg (PV.int .u64) ?_
    simp only [Bool.or_eq_true, Bool.and_eq_true, Bool.not_eq_true', decide_eq_true_eq, Bool.or_eq_false_iff, Bool.and_eq_false_iff, Bool.not_eq_false', decide_eq_false_iff_not, beq_iff_eq, beq_eq_false_iff_ne] at *
    unfold lifeN
    (repeat' split) <;> first | rfl | (exfalso; omega) | (exfalso; simp_all; done) | (exfalso; simp_all; omega) | grind
  · have h2 := orl h1
    have p3 := df h2
    have h4 := orr h1
    have p5 := df h4
    refine go tbv14ok 6 rfl rfl trivial ?_
    refine q1 (qadd rfl rfl (rg_u64 (by omega))) rfl fun w6 => ?_
    refine go tbv14ok 4 rfl rfl trivial ?_
    refine rt1 rfl rfl ?_
    refine ple ?_
    refine congrArg (PV.int .u64) ?_
    simp only [Bool.or_eq_true, Bool.and_eq_true, Bool.not_eq_true', decide_eq_true_eq, Bool.or_eq_false_iff, Bool.and_eq_false_iff, Bool.not_eq_false', decide_eq_false_iff_not, beq_iff_eq, beq_eq_false_iff_ne] at *
    unfold lifeN
    (repeat' split) <;> first | rfl | (exfalso; omega) | (exfalso; simp_all; done) | (exfalso; simp_all; omega) | grind
theorem deed_maybe (s : Bs) : Fn Tryz.prog gb 108 [.str s] (.int .i64 (maybeE s)) := by
  refine fn_cw tbv14ok Tryz.func108 rfl Tryz.ntmps108 rfl cb108 rfl rfl fun w N H hG => ?_
  have s_l : s.length ≤ 9223372036854775807 := w.1
  refine go tbv14ok 12 rfl rfl trivial ?_
  refine cnd rfl (fun h1 => ?_) (fun h1 => ?_)
  · have p2 := dt h1
    refine go tbv14ok 7 rfl rfl trivial ?_
    refine rt1 rfl rfl ?_
    refine ple ?_
    simp [maybeE, *]
  · have p3 := df h1
    refine go tbv14ok 5 rfl rfl trivial ?_
    refine call (words_Name _) rfl rfl fun w4 => ?_
    refine go tbv14ok 4 rfl rfl trivial ?_
    refine rt1 rfl rfl ?_
    refine ple ?_
    simp [maybeE, *]
theorem deed_bound (b : Bool) (e : Int) : Fn Tryz.prog gb 107 [.bool b, .int .i64 e] (.int .i64 (boundE b e)) := by
  refine fn_cw tbv14ok Tryz.func107 rfl Tryz.ntmps107 rfl cb107 rfl rfl fun w N H hG => ?_
  have e_r : -9223372036854775808 ≤ e ∧ e ≤ 9223372036854775807 := w.2.1
  refine go tbv14ok 11 rfl rfl trivial ?_
  refine cnd rfl (fun h1 => ?_) (fun h1 => ?_)
  · refine go tbv14ok 8 rfl rfl trivial ?_
    refine rt1 rfl rfl ?_
    refine ple ?_
    simp [boundE, *]
  · refine go tbv14ok 8 rfl rfl trivial ?_
    refine rt1 rfl rfl ?_
    refine ple ?_
    simp [boundE, *]
theorem mail_Same (a : Mail) (b : Mail) : Fn Tryz.prog gb 126 [.agg (Mail.pc a), .agg (Mail.pc b)] (.bool (decide (a = b))) := by
  refine fn_cw tbv14ok Tryz.func126 rfl Tryz.ntmps126 rfl cb126 rfl rfl fun w N H hG => ?_
  have a_head_l : a.head.length ≤ 140737488355328 := w.1.2.2.2.1.1
  have b_head_l : b.head.length ≤ 140737488355328 := w.2.1.2.2.2.1.1
  refine go tbv14ok 2 rfl rfl trivial ?_
  refine ef (boxA 0 rfl rfl rfl fun b1 => ?_)
  refine ef (boxA 1 rfl rfl rfl fun b2 => ?_)
  refine go tbv14ok 29 rfl rfl ⟨(fun hc => hc), (fun hc => hc), (fun hc => hc), (fun hc => hc), rfl, rfl, (fun hc => hc), (fun hc => hc), (fun hc => hc), (fun hc => hc), rfl, rfl, (fun hc => hc), (fun hc => hc), trivial⟩ ?_
  refine callg rfl (fun hc => (head_Same _ _)) rfl ⟨(fun hc => hc), (fun hc => hc), trivial⟩ rfl rfl fun _ => ?_
  refine go tbv14ok 26 rfl rfl ⟨rfl, rfl, (fun hc => hc), (fun hc => hc), (fun hc => hc), (fun hc => hc), rfl, rfl, (fun hc => hc), (fun hc => hc), (fun hc => hc), (fun hc => hc), rfl, rfl, (fun hc => hc), (fun hc => hc), (fun hc => hc), (fun hc => hc), rfl, rfl, trivial⟩ ?_
  refine rt1 rfl rfl ?_
  refine ple ?_
  exact congrArg PV.bool (by rw [Bool.eq_iff_iff]; first | (simp [Mail.eq_iff, and_assoc]; done) | (simp [Mail.eq_iff]; grind))
theorem deed_Same (a : DeedR) (b : DeedR) : Fn Tryz.prog gb 103 [.agg (DeedR.pc a), .agg (DeedR.pc b)] (.bool (decide (a = b))) := by
  refine fn_cw tbv14ok Tryz.func103 rfl Tryz.ntmps103 rfl cb103 rfl rfl fun w N H hG => ?_
  have a_bind_want_l : a.bind.want.length ≤ 140737488355328 := w.1.2.2.2.2.2.2.2.2.2.2.2.2.2.1.1
  have a_mail_head_l : a.mail.head.length ≤ 140737488355328 := w.1.2.2.2.2.2.2.2.2.2.2.2.2.2.2.2.2.2.2.2.2.2.2.2.2.1.1
  have b_bind_want_l : b.bind.want.length ≤ 140737488355328 := w.2.1.2.2.2.2.2.2.2.2.2.2.2.2.2.1.1
  have b_mail_head_l : b.mail.head.length ≤ 140737488355328 := w.2.1.2.2.2.2.2.2.2.2.2.2.2.2.2.2.2.2.2.2.2.2.2.2.2.2.1.1
  refine go tbv14ok 2 rfl rfl trivial ?_
  refine ef (boxA 0 rfl rfl rfl fun b1 => ?_)
  refine ef (boxA 1 rfl rfl rfl fun b2 => ?_)
  refine go tbv14ok 22 rfl rfl ⟨(fun hc => hc), (fun hc => hc), (fun hc => hc), (fun hc => hc), rfl, rfl, (fun hc => hc), (fun hc => hc), trivial⟩ ?_
  refine q1g [19, 21] rfl (fun hc => saeq rfl rfl eqg44 (veq44 a.shop b.shop)) ⟨(fun hc => hc), (fun hc => hc), trivial⟩ rfl rfl rfl fun _ => ?_
  refine go tbv14ok 6 rfl rfl ⟨rfl, rfl, (fun hc => hc), (fun hc => hc), trivial⟩ ?_
  refine q1g [26, 28] rfl (fun hc => saeq rfl rfl eqg46 (veq46 a.queue b.queue)) ⟨(fun hc => hc), (fun hc => hc), trivial⟩ rfl rfl rfl fun _ => ?_
  refine go tbv14ok 6 rfl rfl ⟨rfl, rfl, (fun hc => hc), (fun hc => hc), trivial⟩ ?_
  refine callg rfl (fun hc => (deed_sameBind _ _)) rfl ⟨(fun hc => hc), (fun hc => hc), trivial⟩ rfl rfl fun _ => ?_
  refine go tbv14ok 48 rfl rfl ⟨rfl, rfl, (fun hc => hc), (fun hc => hc), (fun hc => hc), (fun hc => hc), rfl, rfl, (fun hc => hc), (fun hc => hc), (fun hc => hc), (fun hc => hc), rfl, rfl, (fun hc => hc), (fun hc => hc), (fun hc => hc), (fun hc => hc), rfl, rfl, (fun hc => hc), (fun hc => hc), (fun hc => hc), (fun hc => hc), rfl, rfl, (fun hc => hc), (fun hc => hc), (fun hc => hc), (fun hc => hc), rfl, rfl, (fun hc => hc), (fun hc => hc), (fun hc => hc), (fun hc => hc), rfl, rfl, (fun hc => hc), (fun hc => hc), trivial⟩ ?_
  refine callg rfl (fun hc => (mail_Same _ _)) rfl ⟨(fun hc => hc), (fun hc => hc), trivial⟩ rfl rfl fun _ => ?_
  refine go tbv14ok 12 rfl rfl ⟨rfl, rfl, (fun hc => hc), (fun hc => hc), (fun hc => hc), (fun hc => hc), rfl, rfl, trivial⟩ ?_
  refine rt1 rfl rfl ?_
  refine ple ?_
  exact congrArg PV.bool (by rw [Bool.eq_iff_iff]; first | (simp [DeedR.eq_iff, and_assoc]; done) | (simp [DeedR.eq_iff]; grind))
end Go.SW.V
set_option linter.unusedVariables false
set_option maxRecDepth 100000
set_option maxHeartbeats 4000000
namespace Go.SW.V
open Go.SW Go.Proofs
theorem cb104 : Callable Tryz.prog 104 := callable_of Tryz.func104 (by kernel_rfl) (by kernel_rfl)
theorem cb105 : Callable Tryz.prog 105 := callable_of Tryz.func105 (by kernel_rfl) (by kernel_rfl)
theorem cb82 : Callable Tryz.prog 82 := callable_of Tryz.func82 (by kernel_rfl) (by kernel_rfl)
def tbv15 : Tb := [(5, ⟨.int .u8, 1, 1, [.int .u8 0]⟩),
  (9, ⟨.str, 1, 16, [.str []]⟩),
  (22, ⟨.int .u64, 1, 8, [.int .u64 0]⟩),
  (31, ⟨.int .i64, 1, 8, [.int .i64 0]⟩),
  (44, ⟨.agg [(0, 1), (1, 1), (2, 1)], 3, 40, [.str [], .int .u8 0, .str []]⟩),
  (46, ⟨.agg [(0, 1), (1, 1), (2, 1), (3, 1)], 4, 48, [.str [], .int .u64 0, .int .u64 0, .str []]⟩),
  (47, ⟨.slc 139, 1, 24, [.sl Pair.pc []]⟩),
  (49, ⟨.agg [(0, 1), (1, 1), (2, 1), (3, 1), (4, 1), (5, 1)], 6, 88, [.str [], .str [], .bool false, .str [], .sl Pair.pc [], .bool false]⟩),
  (51, ⟨.agg [(0, 1), (1, 1), (2, 1), (3, 1), (4, 1), (5, 1), (6, 1)], 7, 96, [.int .u64 0, .str [], .str [], .sl Pair.pc [], .str [], .int .u64 0, .int .u8 0]⟩),
  (53, ⟨.agg [(0, 1), (1, 1), (2, 3), (5, 4), (9, 6), (15, 1), (16, 1), (17, 1), (18, 1), (19, 1), (20, 1), (21, 7), (28, 1)], 29, 344, [.int .u8 0, .int .u64 0, .str [], .int .u8 0, .str [], .str [], .int .u64 0, .int .u64 0, .str [], .str [], .str [], .bool false, .str [], .sl Pair.pc [], .bool false, .str [], .int .u64 0, .int .u8 0, .int .u8 0, .int .u8 0, .int .u64 0, .int .u64 0, .str [], .str [], .sl Pair.pc [], .str [], .int .u64 0, .int .u8 0, .str []]⟩),
  (178, ⟨.slc 31, 1, 24, [.sl i64c []]⟩)]
theorem tbv15ok : tbB Tryz.prog tbv15 = true := by kernel_rfl
theorem deed_told (d : DeedR) : Fn Tryz.prog gb 104 [.agg (DeedR.pc d)] (.agg (DeedR.pc (toldD d))) := by
  refine fn_cw tbv15ok Tryz.func104 rfl Tryz.ntmps104 rfl cb104 rfl rfl fun w N H hG => ?_
  have d_bind_want_l : d.bind.want.length ≤ 140737488355328 := w.1.2.2.2.2.2.2.2.2.2.2.2.2.2.1.1
  have d_mail_head_l : d.mail.head.length ≤ 140737488355328 := w.1.2.2.2.2.2.2.2.2.2.2.2.2.2.2.2.2.2.2.2.2.2.2.2.2.1.1
  refine go tbv15ok 2 rfl rfl trivial ?_
  refine ef (boxA 0 rfl rfl rfl fun b1 => ?_)
  refine ef (alloc tbv15ok 1 rfl rfl rfl rfl fun b2 => ?_)
  refine go tbv15ok 9 rfl rfl trivial ?_
  refine ef (alloc tbv15ok 2 rfl rfl rfl rfl fun b3 => ?_)
  refine ef (storeA tbv15ok rfl rfl rfl rfl rfl rfl rfl rfl rfl rfl ?_)
  refine go tbv15ok 16 rfl rfl trivial ?_
  refine cnd rfl (fun h4 => ?_) (fun h4 => ?_)
  · have p5 := dt h4
    refine go tbv15ok 4 rfl rfl trivial ?_
    refine ef (storeA tbv15ok rfl rfl rfl rfl rfl rfl rfl rfl rfl rfl ?_)
    refine go tbv15ok 6 rfl rfl trivial ?_
    refine ef (storeA tbv15ok rfl rfl rfl rfl rfl rfl rfl rfl rfl rfl ?_)
    refine go tbv15ok 3 rfl rfl trivial ?_
    refine rt1 rfl rfl ?_
    refine ple ?_
    have e : toldD d = (⟨d.kind, d.tick, d.shop, (⟨[], 0, 0, []⟩ : QueueR), (⟨[], [], false, [], [], false⟩ : BindR), [], 0, 0, 0, 0, 0, (⟨0, [], [], [], [], 0, 0⟩ : Mail), []⟩ : DeedR) := by
      unfold toldD
      repeat (first | rw [if_pos (by omega)] | rw [if_neg (by omega)])
      rfl
    rw [e]; rfl
  · have p6 := df h4
    refine go tbv15ok 6 rfl rfl trivial ?_
    refine cnd rfl (fun h7 => ?_) (fun h7 => ?_)
    · have p8 := dt h7
      refine go tbv15ok 4 rfl rfl trivial ?_
      refine ef (storeA tbv15ok rfl rfl rfl rfl rfl rfl rfl rfl rfl rfl ?_)
      refine go tbv15ok 6 rfl rfl trivial ?_
      refine ef (storeA tbv15ok rfl rfl rfl rfl rfl rfl rfl rfl rfl rfl ?_)
      refine go tbv15ok 3 rfl rfl trivial ?_
      refine rt1 rfl rfl ?_
      refine ple ?_
      have e : toldD d = (⟨d.kind, d.tick, (⟨[], 0, []⟩ : ShopR), d.queue, (⟨[], [], false, [], [], false⟩ : BindR), [], 0, 0, 0, 0, 0, (⟨0, [], [], [], [], 0, 0⟩ : Mail), []⟩ : DeedR) := by
        unfold toldD
        repeat (first | rw [if_pos (by omega)] | rw [if_neg (by omega)])
        rfl
      rw [e]; rfl
    · have p9 := df h7
      refine go tbv15ok 7 rfl rfl trivial ?_
      refine cnd rfl (fun h10 => ?_) (fun h10 => ?_)
      · have p11 := dt h10
        refine go tbv15ok 2 rfl rfl trivial ?_
        refine cndT rfl h10 ?_
        refine go tbv15ok 4 rfl rfl trivial ?_
        refine ef (storeA tbv15ok rfl rfl rfl rfl rfl rfl rfl rfl rfl rfl ?_)
        refine go tbv15ok 6 rfl rfl trivial ?_
        refine ef (storeA tbv15ok rfl rfl rfl rfl rfl rfl rfl rfl rfl rfl ?_)
        refine go tbv15ok 3 rfl rfl trivial ?_
        refine rt1 rfl rfl ?_
        refine ple ?_
        have e : toldD d = (⟨d.kind, d.tick, (⟨[], 0, []⟩ : ShopR), (⟨[], 0, 0, []⟩ : QueueR), d.bind, [], 0, 0, 0, 0, 0, (⟨0, [], [], [], [], 0, 0⟩ : Mail), []⟩ : DeedR) := by
          unfold toldD
          repeat (first | rw [if_pos (by omega)] | rw [if_neg (by omega)])
          rfl
        rw [e]; rfl
      · have p12 := df h10
        refine go tbv15ok 5 rfl rfl trivial ?_
        refine cnd rfl (fun h13 => ?_) (fun h13 => ?_)
        · have p14 := dt h13
          refine go tbv15ok 4 rfl rfl trivial ?_
          refine ef (storeA tbv15ok rfl rfl rfl rfl rfl rfl rfl rfl rfl rfl ?_)
          refine go tbv15ok 6 rfl rfl trivial ?_
          refine ef (storeA tbv15ok rfl rfl rfl rfl rfl rfl rfl rfl rfl rfl ?_)
          refine go tbv15ok 3 rfl rfl trivial ?_
          refine rt1 rfl rfl ?_
          refine ple ?_
          have e : toldD d = (⟨d.kind, d.tick, (⟨[], 0, []⟩ : ShopR), (⟨[], 0, 0, []⟩ : QueueR), d.bind, [], 0, 0, 0, 0, 0, (⟨0, [], [], [], [], 0, 0⟩ : Mail), []⟩ : DeedR) := by
            unfold toldD
            repeat (first | rw [if_pos (by omega)] | rw [if_neg (by omega)])
            rfl
          rw [e]; rfl
        · have p15 := df h13
          refine go tbv15ok 6 rfl rfl trivial ?_
          refine cnd rfl (fun h16 => ?_) (fun h16 => ?_)
          · have p17 := dt h16
            refine go tbv15ok 4 rfl rfl trivial ?_
            refine ef (storeA tbv15ok rfl rfl rfl rfl rfl rfl rfl rfl rfl rfl ?_)
            refine go tbv15ok 6 rfl rfl trivial ?_
            refine ef (storeA tbv15ok rfl rfl rfl rfl rfl rfl rfl rfl rfl rfl ?_)
            refine go tbv15ok 3 rfl rfl trivial ?_
            refine rt1 rfl rfl ?_
            refine ple ?_
            have e : toldD d = (⟨d.kind, d.tick, (⟨[], 0, []⟩ : ShopR), (⟨[], 0, 0, []⟩ : QueueR), (⟨[], [], false, [], [], false⟩ : BindR), [], 0, 0, 0, 0, 0, d.mail, []⟩ : DeedR) := by
              unfold toldD
              repeat (first | rw [if_pos (by omega)] | rw [if_neg (by omega)])
              rfl
            rw [e]; rfl
          · have p18 := df h16
            refine go tbv15ok 7 rfl rfl trivial ?_
            refine cnd rfl (fun h19 => ?_) (fun h19 => ?_)
            · have p20 := dt h19
              refine go tbv15ok 2 rfl rfl trivial ?_
              refine cndT rfl h19 ?_
              refine go tbv15ok 4 rfl rfl trivial ?_
              refine ef (store1 tbv15ok rfl rfl rfl rfl rfl rfl rfl rfl rfl ?_)
              refine go tbv15ok 6 rfl rfl trivial ?_
              refine ef (storeA tbv15ok rfl rfl rfl rfl rfl rfl rfl rfl rfl rfl ?_)
              refine go tbv15ok 3 rfl rfl trivial ?_
              refine rt1 rfl rfl ?_
              refine ple ?_
              have e : toldD d = (⟨d.kind, d.tick, (⟨[], 0, []⟩ : ShopR), (⟨[], 0, 0, []⟩ : QueueR), (⟨[], [], false, [], [], false⟩ : BindR), d.name, 0, 0, 0, 0, 0, (⟨0, [], [], [], [], 0, 0⟩ : Mail), []⟩ : DeedR) := by
                unfold toldD
                repeat (first | rw [if_pos (by omega)] | rw [if_neg (by omega)])
                rfl
              rw [e]; rfl
            · have p21 := df h19
              refine go tbv15ok 6 rfl rfl trivial ?_
              refine cnd rfl (fun h22 => ?_) (fun h22 => ?_)
              · have p23 := dt h22
                refine go tbv15ok 2 rfl rfl trivial ?_
                refine cndT rfl h22 ?_
                refine go tbv15ok 4 rfl rfl trivial ?_
                refine ef (store1 tbv15ok rfl rfl rfl rfl rfl rfl rfl rfl rfl ?_)
                refine go tbv15ok 6 rfl rfl trivial ?_
                refine ef (storeA tbv15ok rfl rfl rfl rfl rfl rfl rfl rfl rfl rfl ?_)
                refine go tbv15ok 3 rfl rfl trivial ?_
                refine rt1 rfl rfl ?_
                refine ple ?_
                have e : toldD d = (⟨d.kind, d.tick, (⟨[], 0, []⟩ : ShopR), (⟨[], 0, 0, []⟩ : QueueR), (⟨[], [], false, [], [], false⟩ : BindR), d.name, 0, 0, 0, 0, 0, (⟨0, [], [], [], [], 0, 0⟩ : Mail), []⟩ : DeedR) := by
                  unfold toldD
                  repeat (first | rw [if_pos (by omega)] | rw [if_neg (by omega)])
                  rfl
                rw [e]; rfl
              · have p24 := df h22
                refine go tbv15ok 5 rfl rfl trivial ?_
                refine cnd rfl (fun h25 => ?_) (fun h25 => ?_)
                · have p26 := dt h25
                  refine go tbv15ok 4 rfl rfl trivial ?_
                  refine ef (store1 tbv15ok rfl rfl rfl rfl rfl rfl rfl rfl rfl ?_)
                  refine go tbv15ok 6 rfl rfl trivial ?_
                  refine ef (storeA tbv15ok rfl rfl rfl rfl rfl rfl rfl rfl rfl rfl ?_)
                  refine go tbv15ok 3 rfl rfl trivial ?_
                  refine rt1 rfl rfl ?_
                  refine ple ?_
                  have e : toldD d = (⟨d.kind, d.tick, (⟨[], 0, []⟩ : ShopR), (⟨[], 0, 0, []⟩ : QueueR), (⟨[], [], false, [], [], false⟩ : BindR), d.name, 0, 0, 0, 0, 0, (⟨0, [], [], [], [], 0, 0⟩ : Mail), []⟩ : DeedR) := by
                    unfold toldD
                    repeat (first | rw [if_pos (by omega)] | rw [if_neg (by omega)])
                    rfl
                  rw [e]; rfl
                · have p27 := df h25
                  refine go tbv15ok 6 rfl rfl trivial ?_
                  refine cnd rfl (fun h28 => ?_) (fun h28 => ?_)
                  · have p29 := dt h28
                    refine any [2, 3, 4, 5, 6, 7, 8] 12 mixd rfl ?_
                    refine gov tbv15ok [0, 1, 2, 3, 4, 5, 6] 5 rfl (by kernel_rfl) rfl rfl trivial ?_
                    refine ve 7 rfl (by kernel_rfl) rfl (store1 tbv15ok rfl rfl rfl rfl rfl rfl rfl rfl rfl ?_)
                    refine gov tbv15ok [8] 3 rfl (by kernel_rfl) rfl rfl trivial ?_
                    refine ve 9 rfl (by kernel_rfl) rfl (store1 tbv15ok rfl rfl rfl rfl rfl rfl rfl rfl rfl ?_)
                    refine gov tbv15ok [10] 1 rfl (by kernel_rfl) rfl rfl trivial ?_
                    refine vt 11 rfl (by kernel_rfl) (by kernel_rfl) (store1 tbv15ok rfl rfl rfl rfl rfl rfl rfl rfl rfl ?_)
                    refine vdone (by kernel_rfl) ?_
                    refine go tbv15ok 5 rfl rfl trivial ?_
                    refine ef (storeA tbv15ok rfl rfl rfl rfl rfl rfl rfl rfl rfl rfl ?_)
                    refine go tbv15ok 3 rfl rfl trivial ?_
                    refine rt1 rfl rfl ?_
                    refine ple ?_
                    have e : toldD d = (⟨d.kind, d.tick, (⟨[], 0, []⟩ : ShopR), (⟨[], 0, 0, []⟩ : QueueR), (⟨[], [], false, [], [], false⟩ : BindR), d.name, d.id, d.how, 0, 0, 0, (⟨0, [], [], [], [], 0, 0⟩ : Mail), []⟩ : DeedR) := by
                      unfold toldD
                      repeat (first | rw [if_pos (by omega)] | rw [if_neg (by omega)])
                      rfl
                    rw [e]; rfl
                  · have p30 := df h28
                    refine go tbv15ok 6 rfl rfl trivial ?_
                    refine cnd rfl (fun h31 => ?_) (fun h31 => ?_)
                    · have p32 := dt h31
                      refine any [2, 3, 4, 5, 6, 7, 8] 12 mixd rfl ?_
                      refine gov tbv15ok [0, 1, 2, 3, 4, 5, 6] 5 rfl (by kernel_rfl) rfl rfl trivial ?_
                      refine ve 7 rfl (by kernel_rfl) rfl (store1 tbv15ok rfl rfl rfl rfl rfl rfl rfl rfl rfl ?_)
                      refine gov tbv15ok [8] 3 rfl (by kernel_rfl) rfl rfl trivial ?_
                      refine ve 9 rfl (by kernel_rfl) rfl (store1 tbv15ok rfl rfl rfl rfl rfl rfl rfl rfl rfl ?_)
                      refine gov tbv15ok [10] 1 rfl (by kernel_rfl) rfl rfl trivial ?_
                      refine vt 11 rfl (by kernel_rfl) (by kernel_rfl) (storeA tbv15ok rfl rfl rfl rfl rfl rfl rfl rfl rfl rfl ?_)
                      refine vdone (by kernel_rfl) ?_
                      refine go tbv15ok 5 rfl rfl trivial ?_
                      refine ef (storeA tbv15ok rfl rfl rfl rfl rfl rfl rfl rfl rfl rfl ?_)
                      refine go tbv15ok 3 rfl rfl trivial ?_
                      refine rt1 rfl rfl ?_
                      refine ple ?_
                      have e : toldD d = (⟨d.kind, d.tick, (⟨[], 0, []⟩ : ShopR), (⟨[], 0, 0, []⟩ : QueueR), (⟨[], [], false, [], [], false⟩ : BindR), [], 0, 0, d.frm, 0, d.number, d.mail, []⟩ : DeedR) := by
                        unfold toldD
                        repeat (first | rw [if_pos (by omega)] | rw [if_neg (by omega)])
                        rfl
                      rw [e]; rfl
                    · have p33 := df h31
                      refine go tbv15ok 6 rfl rfl trivial ?_
                      refine cnd rfl (fun h34 => ?_) (fun h34 => ?_)
                      · have p35 := dt h34
                        refine any [2, 3, 4, 5, 6, 7, 8] 8 mixd rfl ?_
                        refine gov tbv15ok [0, 1, 2, 3, 4] 3 rfl (by kernel_rfl) rfl rfl trivial ?_
                        refine ve 5 rfl (by kernel_rfl) rfl (store1 tbv15ok rfl rfl rfl rfl rfl rfl rfl rfl rfl ?_)
                        refine gov tbv15ok [6] 1 rfl (by kernel_rfl) rfl rfl trivial ?_
                        refine vt 7 rfl (by kernel_rfl) (by kernel_rfl) (store1 tbv15ok rfl rfl rfl rfl rfl rfl rfl rfl rfl ?_)
                        refine vdone (by kernel_rfl) ?_
                        refine go tbv15ok 5 rfl rfl trivial ?_
                        refine ef (storeA tbv15ok rfl rfl rfl rfl rfl rfl rfl rfl rfl rfl ?_)
                        refine go tbv15ok 3 rfl rfl trivial ?_
                        refine rt1 rfl rfl ?_
                        refine ple ?_
                        have e : toldD d = (⟨d.kind, d.tick, (⟨[], 0, []⟩ : ShopR), (⟨[], 0, 0, []⟩ : QueueR), (⟨[], [], false, [], [], false⟩ : BindR), [], 0, 0, 0, d.code, 0, (⟨0, [], [], [], [], 0, 0⟩ : Mail), d.text⟩ : DeedR) := by
                          unfold toldD
                          repeat (first | rw [if_pos (by omega)] | rw [if_neg (by omega)])
                          rfl
                        rw [e]; rfl
                      · have p36 := df h34
                        refine go tbv15ok 6 rfl rfl trivial ?_
                        refine ef (storeA tbv15ok rfl rfl rfl rfl rfl rfl rfl rfl rfl rfl ?_)
                        refine go tbv15ok 3 rfl rfl trivial ?_
                        refine rt1 rfl rfl ?_
                        refine ple ?_
                        have e : toldD d = (⟨d.kind, d.tick, (⟨[], 0, []⟩ : ShopR), (⟨[], 0, 0, []⟩ : QueueR), (⟨[], [], false, [], [], false⟩ : BindR), [], 0, 0, 0, 0, 0, (⟨0, [], [], [], [], 0, 0⟩ : Mail), []⟩ : DeedR) := by
                          unfold toldD
                          repeat (first | rw [if_pos (by omega)] | rw [if_neg (by omega)])
                          rfl
                        rw [e]; rfl
theorem deed_first (l : List Int) : Fn Tryz.prog gb 105 [.sl i64c l] (.int .i64 (firstE l)) := by
  refine fn_cw tbv15ok Tryz.func105 rfl Tryz.ntmps105 rfl cb105 rfl rfl fun w N H hG => ?_
  have l_l : l.length ≤ 140737488355328 := w.1.1
  refine go tbv15ok 14 rfl rfl trivial ?_
  refine loop (ι := Nat) [0, 5, 6] [] (fun k => [(7, .int .i64 (k : Int))]) (fun k => []) (fun k => k ≤ l.length ∧ firstE l = firstE (l.drop k)) (fun k => l.length - k) 0 ⟨rfl, trivial⟩ trivial ?_ ?_
  · exact ⟨Nat.zero_le _, rfl⟩
  · rintro k hp1
    obtain ⟨hk1, hk2⟩ := hp1
    refine go tbv15ok 6 rfl rfl trivial ?_
    refine cnd rfl (fun h2 => ?_) (fun h2 => ?_)
    · have p3 := dt h2
      obtain ⟨c4, hc5⟩ := getE (xs := l) (m := k) (by omega)
      refine go tbv15ok 6 rfl rfl trivial ?_
      refine q1 (qidx tbv15ok k rfl rfl rfl hc5 rfl rfl rfl rfl) rfl fun w6 => ?_
      refine go tbv15ok 10 rfl rfl trivial ?_
      refine cnd rfl (fun h7 => ?_) (fun h7 => ?_)
      · have h8 := not_t h7
        have p9 := df h8
        refine go tbv15ok 12 rfl rfl trivial ?_
        refine rt1 rfl rfl ?_
        refine ple ?_
        refine congrArg (PV.int .i64) ?_
        rw [hk2, dropE hc5]
        unfold firstE
        rw [if_pos (by assumption)]
      · have h10 := not_f h7
        have p11 := dt h10
        refine go tbv15ok 7 rfl rfl ⟨(by omega), trivial⟩ ?_
        refine next (k + 1) rfl rfl ⟨rfl, trivial⟩ trivial ?_ ?_
        · omega
        · refine ⟨by omega, ?_⟩
          rw [hk2, dropE hc5]
          conv => lhs; unfold firstE
          rw [if_neg (by omega)]
    · have p12 := df h2
      refine go tbv15ok 11 rfl rfl trivial ?_
      refine rt1 rfl rfl ?_
      refine ple ?_
      refine congrArg (PV.int .i64) ?_
      rw [hk2, List.drop_of_length_le (by omega)]
      rfl
theorem deed_Check (d : DeedR) : Fn Tryz.prog gb 82 [.agg (DeedR.pc d)] (.int .i64 (deedE d)) := by
  refine fn_cw tbv15ok Tryz.func82 rfl Tryz.ntmps82 rfl cb82 rfl rfl fun w N H hG => ?_
  have d_bind_want_l : d.bind.want.length ≤ 140737488355328 := w.1.2.2.2.2.2.2.2.2.2.2.2.2.2.1.1
  have d_mail_head_l : d.mail.head.length ≤ 140737488355328 := w.1.2.2.2.2.2.2.2.2.2.2.2.2.2.2.2.2.2.2.2.2.2.2.2.2.1.1
  refine go tbv15ok 2 rfl rfl trivial ?_
  refine ef (boxA 0 rfl rfl rfl fun b1 => ?_)
  refine go tbv15ok 13 rfl rfl trivial ?_
  refine cnd rfl (fun h2 => ?_) (fun h2 => ?_)
  · have p3 := dt h2
    refine go tbv15ok 8 rfl rfl trivial ?_
    refine rt1 rfl rfl ?_
    refine ple ?_
    refine congrArg (PV.int .i64) ?_
    unfold deedE
    repeat (first | rw [if_pos (by omega)] | rw [if_neg (by omega)] | rw [if_pos (by assumption)] | rw [if_neg (not_not_intro (by assumption))])
    all_goals first | done | rfl
  · have p4 := df h2
    refine go tbv15ok 1 rfl rfl trivial ?_
    refine any [1, 2, 3, 4, 5, 6] 6 mixd rfl ?_
    refine gov tbv15ok [0, 1] 4 rfl (by kernel_rfl) rfl rfl trivial ?_
    refine ve 2 rfl (by kernel_rfl) rfl (ecall (deed_told _) rfl rfl fun w5 => ?_)
    refine vcall 3 rfl (by kernel_rfl) (deed_Same _ _) rfl rfl fun w6 => ?_
    refine gov tbv15ok [4, 5] 0 rfl (by kernel_rfl) rfl rfl trivial ?_
    refine vdone (by kernel_rfl) ?_
    refine go tbv15ok 1 rfl rfl trivial ?_
    refine cnd rfl (fun h7 => ?_) (fun h7 => ?_)
    · have h8 := not_t h7
      have p9 := df h8
      refine go tbv15ok 8 rfl rfl trivial ?_
      refine rt1 rfl rfl ?_
      refine ple ?_
      refine congrArg (PV.int .i64) ?_
      unfold deedE
      repeat (first | rw [if_pos (by omega)] | rw [if_neg (by omega)] | rw [if_pos (by assumption)] | rw [if_neg (not_not_intro (by assumption))])
      all_goals first | done | rfl
    · have h10 := not_f h7
      have p11 := dt h10
      refine go tbv15ok 17 rfl rfl trivial ?_
      refine cnd rfl (fun h12 => ?_) (fun h12 => ?_)
      · have p13 := dt h12
        refine go tbv15ok 1 rfl rfl trivial ?_
        refine any [1, 2, 3, 4, 5, 6] 16 mixd rfl ?_
        refine gov tbv15ok [0, 1, 2] 13 rfl (by kernel_rfl) rfl rfl trivial ?_
        refine vcall 3 rfl (by kernel_rfl) (words_Name _) rfl rfl fun w14 => ?_
        refine gov tbv15ok [4, 5, 6, 7] 8 rfl (by kernel_rfl) rfl rfl trivial ?_
        refine vcall 8 rfl (by kernel_rfl) (deed_bound _ _) rfl rfl fun w15 => ?_
        refine gov tbv15ok [9, 10, 11] 4 rfl (by kernel_rfl) rfl rfl trivial ?_
        refine vcall 12 rfl (by kernel_rfl) (deed_maybe _) rfl rfl fun w16 => ?_
        have := maybeE_r d.shop.to
        refine ve 13 rfl (by kernel_rfl) rfl (bsl 1 i64c [nameE d.shop.name, boundE (decide (4 < d.shop.sort)) 8, maybeE d.shop.to] tbv15ok rfl rfl rfl rfl rfl (fun _ => rfl) rfl (by decide) (by decide) rfl fun u17 => ?_)
        refine ve 14 rfl (by kernel_rfl) rfl (calll 1 rfl (deed_first _) rfl rfl rfl fun w18 => ?_)
        refine gov tbv15ok [15] 0 rfl (by kernel_rfl) rfl rfl trivial ?_
        refine vdone (by kernel_rfl) ?_
        refine go tbv15ok 4 rfl rfl trivial ?_
        refine rt1 rfl rfl ?_
        refine ple ?_
        refine congrArg (PV.int .i64) ?_
        unfold deedE
        repeat (first | rw [if_pos (by omega)] | rw [if_neg (by omega)] | rw [if_pos (by assumption)] | rw [if_neg (not_not_intro (by assumption))])
        all_goals first | done | rfl
      · have p19 := df h12
        refine go tbv15ok 6 rfl rfl trivial ?_
        refine cnd rfl (fun h20 => ?_) (fun h20 => ?_)
        · have p21 := dt h20
          refine go tbv15ok 1 rfl rfl trivial ?_
          refine any [1, 2, 3, 4, 5, 6] 11 mixd rfl ?_
          refine gov tbv15ok [0, 1, 2] 8 rfl (by kernel_rfl) rfl rfl trivial ?_
          refine vcall 3 rfl (by kernel_rfl) (words_Name _) rfl rfl fun w22 => ?_
          refine gov tbv15ok [4, 5, 6] 4 rfl (by kernel_rfl) rfl rfl trivial ?_
          refine vcall 7 rfl (by kernel_rfl) (deed_maybe _) rfl rfl fun w23 => ?_
          have := maybeE_r d.queue.dead
          refine ve 8 rfl (by kernel_rfl) rfl (bsl 1 i64c [nameE d.queue.name, maybeE d.queue.dead] tbv15ok rfl rfl rfl rfl rfl (fun _ => rfl) rfl (by decide) (by decide) rfl fun u24 => ?_)
          refine ve 9 rfl (by kernel_rfl) rfl (calll 1 rfl (deed_first _) rfl rfl rfl fun w25 => ?_)
          refine gov tbv15ok [10] 0 rfl (by kernel_rfl) rfl rfl trivial ?_
          refine vdone (by kernel_rfl) ?_
          refine go tbv15ok 4 rfl rfl trivial ?_
          refine rt1 rfl rfl ?_
          refine ple ?_
          refine congrArg (PV.int .i64) ?_
          unfold deedE
          repeat (first | rw [if_pos (by omega)] | rw [if_neg (by omega)] | rw [if_pos (by assumption)] | rw [if_neg (not_not_intro (by assumption))])
          all_goals first | done | rfl
        · have p26 := df h20
          refine go tbv15ok 7 rfl rfl trivial ?_
          refine cnd rfl (fun h27 => ?_) (fun h27 => ?_)
          · have p28 := dt h27
            refine go tbv15ok 2 rfl rfl trivial ?_
            refine cndT rfl h27 ?_
            refine go tbv15ok 4 rfl rfl trivial ?_
            refine ef (alloc tbv15ok 1 rfl rfl rfl rfl fun b29 => ?_)
            refine ef (storeA tbv15ok rfl rfl rfl rfl rfl rfl rfl rfl rfl rfl ?_)
            refine go tbv15ok 3 rfl rfl trivial ?_
            refine any [2, 3, 4, 5, 6, 7] 17 mixd rfl ?_
            refine gov tbv15ok [0, 1] 15 rfl (by kernel_rfl) rfl rfl trivial ?_
            refine vcall 2 rfl (by kernel_rfl) (words_Name _) rfl rfl fun w30 => ?_
            refine gov tbv15ok [3, 4] 12 rfl (by kernel_rfl) rfl rfl trivial ?_
            refine vcall 5 rfl (by kernel_rfl) (words_Name _) rfl rfl fun w31 => ?_
            refine gov tbv15ok [6, 7, 8, 9] 7 rfl (by kernel_rfl) rfl rfl trivial ?_
            refine vcall 10 rfl (by kernel_rfl) (deed_bound _ _) rfl rfl fun w32 => ?_
            refine gov tbv15ok [11, 12] 4 rfl (by kernel_rfl) rfl rfl trivial ?_
            refine vcall 13 rfl (by kernel_rfl) (head_Check _) rfl rfl fun w33 => ?_
            refine ve 14 rfl (by kernel_rfl) rfl (bsl 2 i64c [nameE d.bind.shop, nameE d.bind.to, boundE (decide (64 < (d.bind.key.length : Int))) 5, headE d.bind.want] tbv15ok rfl rfl rfl rfl rfl (fun _ => rfl) rfl (by decide) (by decide) rfl fun u34 => ?_)
            refine ve 15 rfl (by kernel_rfl) rfl (calll 2 rfl (deed_first _) rfl rfl rfl fun w35 => ?_)
            refine gov tbv15ok [16] 0 rfl (by kernel_rfl) rfl rfl trivial ?_
            refine vdone (by kernel_rfl) ?_
            refine go tbv15ok 4 rfl rfl trivial ?_
            refine rt1 rfl rfl ?_
            refine ple ?_
            refine congrArg (PV.int .i64) ?_
            unfold deedE
            repeat (first | rw [if_pos (by omega)] | rw [if_neg (by omega)] | rw [if_pos (by assumption)] | rw [if_neg (not_not_intro (by assumption))])
            all_goals first | done | rfl
          · have p36 := df h27
            refine go tbv15ok 5 rfl rfl trivial ?_
            refine cnd rfl (fun h37 => ?_) (fun h37 => ?_)
            · have p38 := dt h37
              refine go tbv15ok 4 rfl rfl trivial ?_
              refine ef (alloc tbv15ok 1 rfl rfl rfl rfl fun b39 => ?_)
              refine ef (storeA tbv15ok rfl rfl rfl rfl rfl rfl rfl rfl rfl rfl ?_)
              refine go tbv15ok 3 rfl rfl trivial ?_
              refine any [2, 3, 4, 5, 6, 7] 17 mixd rfl ?_
              refine gov tbv15ok [0, 1] 15 rfl (by kernel_rfl) rfl rfl trivial ?_
              refine vcall 2 rfl (by kernel_rfl) (words_Name _) rfl rfl fun w40 => ?_
              refine gov tbv15ok [3, 4] 12 rfl (by kernel_rfl) rfl rfl trivial ?_
              refine vcall 5 rfl (by kernel_rfl) (words_Name _) rfl rfl fun w41 => ?_
              refine gov tbv15ok [6, 7, 8, 9] 7 rfl (by kernel_rfl) rfl rfl trivial ?_
              refine vcall 10 rfl (by kernel_rfl) (deed_bound _ _) rfl rfl fun w42 => ?_
              refine gov tbv15ok [11, 12] 4 rfl (by kernel_rfl) rfl rfl trivial ?_
              refine vcall 13 rfl (by kernel_rfl) (head_Check _) rfl rfl fun w43 => ?_
              refine ve 14 rfl (by kernel_rfl) rfl (bsl 2 i64c [nameE d.bind.shop, nameE d.bind.to, boundE (decide (64 < (d.bind.key.length : Int))) 5, headE d.bind.want] tbv15ok rfl rfl rfl rfl rfl (fun _ => rfl) rfl (by decide) (by decide) rfl fun u44 => ?_)
              refine ve 15 rfl (by kernel_rfl) rfl (calll 2 rfl (deed_first _) rfl rfl rfl fun w45 => ?_)
              refine gov tbv15ok [16] 0 rfl (by kernel_rfl) rfl rfl trivial ?_
              refine vdone (by kernel_rfl) ?_
              refine go tbv15ok 4 rfl rfl trivial ?_
              refine rt1 rfl rfl ?_
              refine ple ?_
              refine congrArg (PV.int .i64) ?_
              unfold deedE
              repeat (first | rw [if_pos (by omega)] | rw [if_neg (by omega)] | rw [if_pos (by assumption)] | rw [if_neg (not_not_intro (by assumption))])
              all_goals first | done | rfl
            · have p46 := df h37
              refine go tbv15ok 7 rfl rfl trivial ?_
              refine cnd rfl (fun h47 => ?_) (fun h47 => ?_)
              · have p48 := dt h47
                refine go tbv15ok 2 rfl rfl trivial ?_
                refine cndT rfl h47 ?_
                refine go tbv15ok 4 rfl rfl trivial ?_
                refine call (mail_Check _) rfl rfl fun w49 => ?_
                have := mailC_r d.mail
                have hmo49 := fun h => mailC_ok (m := d.mail) h
                refine go tbv15ok 6 rfl rfl trivial ?_
                refine rt1 rfl rfl ?_
                refine ple ?_
                refine congrArg (PV.int .i64) ?_
                unfold deedE
                repeat (first | rw [if_pos (by omega)] | rw [if_neg (by omega)] | rw [if_pos (by assumption)] | rw [if_neg (not_not_intro (by assumption))])
                all_goals first | done | rfl
              · have p50 := df h47
                refine go tbv15ok 5 rfl rfl trivial ?_
                refine cnd rfl (fun h51 => ?_) (fun h51 => ?_)
                · have p52 := dt h51
                  refine go tbv15ok 4 rfl rfl trivial ?_
                  refine call (mail_Check _) rfl rfl fun w53 => ?_
                  have := mailC_r d.mail
                  have hmo53 := fun h => mailC_ok (m := d.mail) h
                  refine go tbv15ok 6 rfl rfl trivial ?_
                  refine rt1 rfl rfl ?_
                  refine ple ?_
                  refine congrArg (PV.int .i64) ?_
                  unfold deedE
                  repeat (first | rw [if_pos (by omega)] | rw [if_neg (by omega)] | rw [if_pos (by assumption)] | rw [if_neg (not_not_intro (by assumption))])
                  all_goals first | done | rfl
                · have p54 := df h51
                  refine go tbv15ok 7 rfl rfl trivial ?_
                  refine cnd rfl (fun h55 => ?_) (fun h55 => ?_)
                  · have p56 := dt h55
                    refine go tbv15ok 2 rfl rfl trivial ?_
                    refine cndT rfl h55 ?_
                    refine go tbv15ok 8 rfl rfl trivial ?_
                    refine rt1 rfl rfl ?_
                    refine ple ?_
                    refine congrArg (PV.int .i64) ?_
                    unfold deedE
                    repeat (first | rw [if_pos (by omega)] | rw [if_neg (by omega)] | rw [if_pos (by assumption)] | rw [if_neg (not_not_intro (by assumption))])
                    all_goals first | done | rfl
                  · have p57 := df h55
                    refine go tbv15ok 5 rfl rfl trivial ?_
                    refine cnd rfl (fun h58 => ?_) (fun h58 => ?_)
                    · have p59 := dt h58
                      refine go tbv15ok 8 rfl rfl trivial ?_
                      refine rt1 rfl rfl ?_
                      refine ple ?_
                      refine congrArg (PV.int .i64) ?_
                      unfold deedE
                      repeat (first | rw [if_pos (by omega)] | rw [if_neg (by omega)] | rw [if_pos (by assumption)] | rw [if_neg (not_not_intro (by assumption))])
                      all_goals first | done | rfl
                    · have p60 := df h58
                      refine go tbv15ok 6 rfl rfl trivial ?_
                      refine cnd rfl (fun h61 => ?_) (fun h61 => ?_)
                      · have p62 := dt h61
                        refine go tbv15ok 6 rfl rfl trivial ?_
                        refine call (deed_bound _ _) rfl rfl fun w63 => ?_
                        refine go tbv15ok 6 rfl rfl trivial ?_
                        refine rt1 rfl rfl ?_
                        refine ple ?_
                        refine congrArg (PV.int .i64) ?_
                        unfold deedE
                        repeat (first | rw [if_pos (by omega)] | rw [if_neg (by omega)] | rw [if_pos (by assumption)] | rw [if_neg (not_not_intro (by assumption))])
                        all_goals first | done | rfl
                      · have p64 := df h61
                        refine go tbv15ok 4 rfl rfl trivial ?_
                        refine any [1, 2, 3, 4, 5, 6] 10 mixd rfl ?_
                        refine gov tbv15ok [0, 1] 8 rfl (by kernel_rfl) rfl rfl trivial ?_
                        refine vcall 2 rfl (by kernel_rfl) (words_Name _) rfl rfl fun w65 => ?_
                        refine gov tbv15ok [3, 4, 5] 4 rfl (by kernel_rfl) rfl rfl trivial ?_
                        refine vcall 6 rfl (by kernel_rfl) (deed_bound _ _) rfl rfl fun w66 => ?_
                        refine ve 7 rfl (by kernel_rfl) rfl (bsl 1 i64c [nameE d.name, boundE (decide (2 < d.how)) 7] tbv15ok rfl rfl rfl rfl rfl (fun _ => rfl) rfl (by decide) (by decide) rfl fun u67 => ?_)
                        refine ve 8 rfl (by kernel_rfl) rfl (calll 1 rfl (deed_first _) rfl rfl rfl fun w68 => ?_)
                        refine gov tbv15ok [9] 0 rfl (by kernel_rfl) rfl rfl trivial ?_
                        refine vdone (by kernel_rfl) ?_
                        refine go tbv15ok 2 rfl rfl trivial ?_
                        refine rt1 rfl rfl ?_
                        refine ple ?_
                        refine congrArg (PV.int .i64) ?_
                        unfold deedE
                        repeat (first | rw [if_pos (by omega)] | rw [if_neg (by omega)] | rw [if_pos (by assumption)] | rw [if_neg (not_not_intro (by assumption))])
                        all_goals first | done | rfl
end Go.SW.V
set_option linter.unusedVariables false
set_option maxRecDepth 100000
set_option maxHeartbeats 4000000
namespace Go.SW.V
open Go.SW Go.Proofs
theorem cb100 : Callable Tryz.prog 100 := callable_of Tryz.func100 (by kernel_rfl) (by kernel_rfl)
def tbv16 : Tb := [(4, ⟨.bool, 1, 1, [.bool false]⟩),
  (5, ⟨.int .u8, 1, 1, [.int .u8 0]⟩),
  (9, ⟨.str, 1, 16, [.str []]⟩),
  (22, ⟨.int .u64, 1, 8, [.int .u64 0]⟩),
  (44, ⟨.agg [(0, 1), (1, 1), (2, 1)], 3, 40, [.str [], .int .u8 0, .str []]⟩),
  (46, ⟨.agg [(0, 1), (1, 1), (2, 1), (3, 1)], 4, 48, [.str [], .int .u64 0, .int .u64 0, .str []]⟩),
  (47, ⟨.slc 139, 1, 24, [.sl Pair.pc []]⟩),
  (49, ⟨.agg [(0, 1), (1, 1), (2, 1), (3, 1), (4, 1), (5, 1)], 6, 88, [.str [], .str [], .bool false, .str [], .sl Pair.pc [], .bool false]⟩),
  (51, ⟨.agg [(0, 1), (1, 1), (2, 1), (3, 1), (4, 1), (5, 1), (6, 1)], 7, 96, [.int .u64 0, .str [], .str [], .sl Pair.pc [], .str [], .int .u64 0, .int .u8 0]⟩),
  (53, ⟨.agg [(0, 1), (1, 1), (2, 3), (5, 4), (9, 6), (15, 1), (16, 1), (17, 1), (18, 1), (19, 1), (20, 1), (21, 7), (28, 1)], 29, 344, [.int .u8 0, .int .u64 0, .str [], .int .u8 0, .str [], .str [], .int .u64 0, .int .u64 0, .str [], .str [], .str [], .bool false, .str [], .sl Pair.pc [], .bool false, .str [], .int .u64 0, .int .u8 0, .int .u8 0, .int .u8 0, .int .u64 0, .int .u64 0, .str [], .str [], .sl Pair.pc [], .str [], .int .u64 0, .int .u8 0, .str []]⟩),
  (170, ⟨.agg [(0, 1), (1, 1)], 2, 24, [.str [], .int .i64 0]⟩)]
theorem tbv16ok : tbB Tryz.prog tbv16 = true := by kernel_rfl
theorem deed_Bytes (d : DeedR) : Fn Tryz.prog gb 100 [.agg (DeedR.pc d)] (.tup [.str (deedBytes d), .int .i64 (deedE d)]) := by
  refine fn_cw tbv16ok Tryz.func100 rfl Tryz.ntmps100 rfl cb100 rfl rfl fun w N H hG => ?_
  have d_w := DeedR.pwf w.1
  have d_w' := d_w
  simp only [DeedR.wf, ShopR.wf, QueueR.wf, BindR.wf, Mail.wf] at d_w'
  have d_bind_want_k := DeedR.kd13 w.1
  have d_bind_want_k2 : d.bind.want.length ≤ 140737488355328 := w.1.2.2.2.2.2.2.2.2.2.2.2.2.2.1.1
  have d_mail_head_k := DeedR.kd24 w.1
  have d_mail_head_k2 : d.mail.head.length ≤ 140737488355328 := w.1.2.2.2.2.2.2.2.2.2.2.2.2.2.2.2.2.2.2.2.2.2.2.2.2.1.1
  refine go tbv16ok 2 rfl rfl trivial ?_
  refine ef (boxA 0 rfl rfl rfl fun b1 => ?_)
  refine go tbv16ok 8 rfl rfl trivial ?_
  refine call (deed_Check _) rfl rfl fun w2 => ?_
  have := deedE_r d
  refine go tbv16ok 9 rfl rfl trivial ?_
  refine cnd rfl (fun h3 => ?_) (fun h3 => ?_)
  · have h4 := not_t h3
    have p5 := df h4
    refine go tbv16ok 9 rfl rfl trivial ?_
    refine rt2 rfl rfl ?_
    refine ple ?_
    have e : deedBytes d = [] := by
      unfold deedBytes
      first
        | (rw [if_neg (by assumption)]; done)
        | (rw [if_pos (by assumption)]; unfold deedOut; (repeat (first | rw [if_pos (by omega)] | rw [if_neg (by omega)] | rw [if_pos (by assumption)] | rw [if_neg (by assumption)] | rw [if_neg (not_not_intro (by assumption))])); first | done | rfl)
    rw [e]
    try (rw [show deedE d = 0 by assumption])
  · have h6 := not_f h3
    have p7 := dt h6
    have hdk := deedE_ok (d := d) (by omega) p7
    obtain ⟨dk1, dk2, dk3, dk4, dk5, dk6, dk7, dk8, dk9, dk10, dk11, dk12, dk13, dk14, dk15, dk16, dk17, dk18, dk19⟩ := hdk
    refine go tbv16ok 3 rfl rfl trivial ?_
    refine any [1, 2, 3, 4, 5, 6] 10 mixd rfl ?_
    refine gov tbv16ok [0, 1, 2, 3] 6 rfl (by kernel_rfl) rfl rfl trivial ?_
    refine vcall 4 rfl (by kernel_rfl) (out_Num (⟨[], 0⟩ : Out) _ _ (by first | omega | (have := hrl (by assumption); omega) | (simp [outNum, outRaw, numB_len, numK] <;> omega) | (have := hrl (by assumption); simp [outNum, outRaw, numB_len, numK] <;> omega))) rfl rfl fun w8 => ?_
    have nl0 : (⟨[], 0⟩ : Out).s.length = 0 := rfl
    have := outNum_len (⟨[], 0⟩ : Out) d.kind 1
    refine gov tbv16ok [5, 6] 3 rfl (by kernel_rfl) rfl rfl trivial ?_
    refine vcall 7 rfl (by kernel_rfl) (out_Num _ _ _ (by first | omega | (have := hrl (by assumption); omega) | (simp [outNum, outRaw, numB_len, numK] <;> omega) | (have := hrl (by assumption); simp [outNum, outRaw, numB_len, numK] <;> omega))) rfl rfl fun w9 => ?_
    have := outNum_len (outNum (⟨[], 0⟩ : Out) d.kind 1) d.tick 8
    refine ve 8 rfl (by kernel_rfl) rfl (alloc tbv16ok 1 rfl rfl rfl rfl fun b10 => ?_)
    refine vt 9 rfl (by kernel_rfl) (by kernel_rfl) (storeA tbv16ok rfl rfl rfl rfl rfl rfl rfl rfl rfl rfl ?_)
    refine vdone (by kernel_rfl) ?_
    refine go tbv16ok 5 rfl rfl trivial ?_
    refine call (mail_Bytes _) rfl rfl fun w11 => ?_
    have := mailBytes_len d.mail
    refine go tbv16ok 21 rfl rfl trivial ?_
    refine cnd rfl (fun h12 => ?_) (fun h12 => ?_)
    · have p13 := dt h12
      refine any [2, 3, 4, 5, 6, 7] 15 mixd rfl ?_
      refine gov tbv16ok [0, 1, 2, 3] 11 rfl (by kernel_rfl) rfl rfl trivial ?_
      refine vcall 4 rfl (by kernel_rfl) (out_Text _ _ (by first | omega | (have := hrl (by assumption); omega) | (simp [outNum, outRaw, numB_len, numK] <;> omega) | (have := hrl (by assumption); simp [outNum, outRaw, numB_len, numK] <;> omega))) rfl rfl fun w14 => ?_
      have := outText_len (outNum (outNum (⟨[], 0⟩ : Out) d.kind 1) d.tick 8) d.shop.name
      refine gov tbv16ok [5, 6, 7, 8] 6 rfl (by kernel_rfl) rfl rfl trivial ?_
      refine vcall 9 rfl (by kernel_rfl) (out_Num _ _ _ (by first | omega | (have := hrl (by assumption); omega) | (simp [outNum, outRaw, numB_len, numK] <;> omega) | (have := hrl (by assumption); simp [outNum, outRaw, numB_len, numK] <;> omega))) rfl rfl fun w15 => ?_
      have := outNum_len (outText (outNum (outNum (⟨[], 0⟩ : Out) d.kind 1) d.tick 8) d.shop.name) d.shop.sort 1
      refine gov tbv16ok [10, 11, 12] 2 rfl (by kernel_rfl) rfl rfl trivial ?_
      refine vcall 13 rfl (by kernel_rfl) (out_Text _ _ (by first | omega | (have := hrl (by assumption); omega) | (simp [outNum, outRaw, numB_len, numK] <;> omega) | (have := hrl (by assumption); simp [outNum, outRaw, numB_len, numK] <;> omega))) rfl rfl fun w16 => ?_
      have := outText_len (outNum (outText (outNum (outNum (⟨[], 0⟩ : Out) d.kind 1) d.tick 8) d.shop.name) d.shop.sort 1) d.shop.to
      refine vt 14 rfl (by kernel_rfl) (by kernel_rfl) (storeA tbv16ok rfl rfl rfl rfl rfl rfl rfl rfl rfl rfl ?_)
      refine vdone (by kernel_rfl) ?_
      refine go tbv16ok 5 rfl rfl trivial ?_
      refine call (out_String _) rfl rfl fun w17 => ?_
      refine go tbv16ok 5 rfl rfl trivial ?_
      refine rt2 rfl rfl ?_
      refine ple ?_
      have e : deedBytes d = (outText (outNum (outText (outNum (outNum (⟨[], 0⟩ : Out) d.kind 1) d.tick 8) d.shop.name) d.shop.sort 1) d.shop.to).s := by
        unfold deedBytes
        first
          | (rw [if_neg (by assumption)]; done)
          | (rw [if_pos (by assumption)]; unfold deedOut; (repeat (first | rw [if_pos (by omega)] | rw [if_neg (by omega)] | rw [if_pos (by assumption)] | rw [if_neg (by assumption)] | rw [if_neg (not_not_intro (by assumption))])); first | done | rfl)
      rw [e]
      try (rw [show deedE d = 0 by assumption])
    · have p18 := df h12
      refine go tbv16ok 6 rfl rfl trivial ?_
      refine cnd rfl (fun h19 => ?_) (fun h19 => ?_)
      · have p20 := dt h19
        refine any [2, 3, 4, 5, 6, 7] 18 mixd rfl ?_
        refine gov tbv16ok [0, 1, 2, 3] 14 rfl (by kernel_rfl) rfl rfl trivial ?_
        refine vcall 4 rfl (by kernel_rfl) (out_Text _ _ (by first | omega | (have := hrl (by assumption); omega) | (simp [outNum, outRaw, numB_len, numK] <;> omega) | (have := hrl (by assumption); simp [outNum, outRaw, numB_len, numK] <;> omega))) rfl rfl fun w21 => ?_
        have := outText_len (outNum (outNum (⟨[], 0⟩ : Out) d.kind 1) d.tick 8) d.queue.name
        refine gov tbv16ok [5, 6, 7] 10 rfl (by kernel_rfl) rfl rfl trivial ?_
        refine vcall 8 rfl (by kernel_rfl) (out_Num _ _ _ (by first | omega | (have := hrl (by assumption); omega) | (simp [outNum, outRaw, numB_len, numK] <;> omega) | (have := hrl (by assumption); simp [outNum, outRaw, numB_len, numK] <;> omega))) rfl rfl fun w22 => ?_
        have := outNum_len (outText (outNum (outNum (⟨[], 0⟩ : Out) d.kind 1) d.tick 8) d.queue.name) d.queue.most 8
        refine gov tbv16ok [9, 10, 11] 6 rfl (by kernel_rfl) rfl rfl trivial ?_
        refine vcall 12 rfl (by kernel_rfl) (out_Num _ _ _ (by first | omega | (have := hrl (by assumption); omega) | (simp [outNum, outRaw, numB_len, numK] <;> omega) | (have := hrl (by assumption); simp [outNum, outRaw, numB_len, numK] <;> omega))) rfl rfl fun w23 => ?_
        have := outNum_len (outNum (outText (outNum (outNum (⟨[], 0⟩ : Out) d.kind 1) d.tick 8) d.queue.name) d.queue.most 8) d.queue.life 8
        refine gov tbv16ok [13, 14, 15] 2 rfl (by kernel_rfl) rfl rfl trivial ?_
        refine vcall 16 rfl (by kernel_rfl) (out_Text _ _ (by first | omega | (have := hrl (by assumption); omega) | (simp [outNum, outRaw, numB_len, numK] <;> omega) | (have := hrl (by assumption); simp [outNum, outRaw, numB_len, numK] <;> omega))) rfl rfl fun w24 => ?_
        have := outText_len (outNum (outNum (outText (outNum (outNum (⟨[], 0⟩ : Out) d.kind 1) d.tick 8) d.queue.name) d.queue.most 8) d.queue.life 8) d.queue.dead
        refine vt 17 rfl (by kernel_rfl) (by kernel_rfl) (storeA tbv16ok rfl rfl rfl rfl rfl rfl rfl rfl rfl rfl ?_)
        refine vdone (by kernel_rfl) ?_
        refine go tbv16ok 5 rfl rfl trivial ?_
        refine call (out_String _) rfl rfl fun w25 => ?_
        refine go tbv16ok 5 rfl rfl trivial ?_
        refine rt2 rfl rfl ?_
        refine ple ?_
        have e : deedBytes d = (outText (outNum (outNum (outText (outNum (outNum (⟨[], 0⟩ : Out) d.kind 1) d.tick 8) d.queue.name) d.queue.most 8) d.queue.life 8) d.queue.dead).s := by
          unfold deedBytes
          first
            | (rw [if_neg (by assumption)]; done)
            | (rw [if_pos (by assumption)]; unfold deedOut; (repeat (first | rw [if_pos (by omega)] | rw [if_neg (by omega)] | rw [if_pos (by assumption)] | rw [if_neg (by assumption)] | rw [if_neg (not_not_intro (by assumption))])); first | done | rfl)
        rw [e]
        try (rw [show deedE d = 0 by assumption])
      · have p26 := df h19
        refine go tbv16ok 7 rfl rfl trivial ?_
        refine cnd rfl (fun h27 => ?_) (fun h27 => ?_)
        · have p28 := dt h27
          refine go tbv16ok 2 rfl rfl trivial ?_
          refine cndT rfl h27 ?_
          refine go tbv16ok 4 rfl rfl trivial ?_
          refine ef (alloc tbv16ok 2 rfl rfl rfl rfl fun b29 => ?_)
          refine ef (storeA tbv16ok rfl rfl rfl rfl rfl rfl rfl rfl rfl rfl ?_)
          refine go tbv16ok 6 rfl rfl trivial ?_
          refine call (head_Bytes _) rfl rfl fun w30 => ?_
          have := headBytes_len d.bind.want
          refine go tbv16ok 7 rfl rfl trivial ?_
          refine any [3, 4, 5, 6, 7, 8] 21 mixd rfl ?_
          refine gov tbv16ok [0, 1, 2] 18 rfl (by kernel_rfl) rfl rfl trivial ?_
          refine vcall 3 rfl (by kernel_rfl) (out_Text _ _ (by first | omega | (have := hrl (by assumption); omega) | (simp [outNum, outRaw, numB_len, numK] <;> omega) | (have := hrl (by assumption); simp [outNum, outRaw, numB_len, numK] <;> omega))) rfl rfl fun w31 => ?_
          have := outText_len (outNum (outNum (⟨[], 0⟩ : Out) d.kind 1) d.tick 8) d.bind.shop
          refine gov tbv16ok [4, 5] 15 rfl (by kernel_rfl) rfl rfl trivial ?_
          refine vcall 6 rfl (by kernel_rfl) (out_Text _ _ (by first | omega | (have := hrl (by assumption); omega) | (simp [outNum, outRaw, numB_len, numK] <;> omega) | (have := hrl (by assumption); simp [outNum, outRaw, numB_len, numK] <;> omega))) rfl rfl fun w32 => ?_
          have := outText_len (outText (outNum (outNum (⟨[], 0⟩ : Out) d.kind 1) d.tick 8) d.bind.shop) d.bind.to
          refine gov tbv16ok [7, 8] 12 rfl (by kernel_rfl) rfl rfl trivial ?_
          refine vcall 9 rfl (by kernel_rfl) (deed_bit _) rfl rfl fun w33 => ?_
          refine vcall 10 rfl (by kernel_rfl) (out_Num _ _ _ (by first | omega | (have := hrl (by assumption); omega) | (simp [outNum, outRaw, numB_len, numK] <;> omega) | (have := hrl (by assumption); simp [outNum, outRaw, numB_len, numK] <;> omega))) rfl rfl fun w34 => ?_
          have := outNum_len (outText (outText (outNum (outNum (⟨[], 0⟩ : Out) d.kind 1) d.tick 8) d.bind.shop) d.bind.to) (bitN d.bind.up) 1
          refine gov tbv16ok [11, 12] 8 rfl (by kernel_rfl) rfl rfl trivial ?_
          refine vcall 13 rfl (by kernel_rfl) (out_Text _ _ (by first | omega | (have := hrl (by assumption); omega) | (simp [outNum, outRaw, numB_len, numK] <;> omega) | (have := hrl (by assumption); simp [outNum, outRaw, numB_len, numK] <;> omega))) rfl rfl fun w35 => ?_
          have := outText_len (outNum (outText (outText (outNum (outNum (⟨[], 0⟩ : Out) d.kind 1) d.tick 8) d.bind.shop) d.bind.to) (bitN d.bind.up) 1) d.bind.key
          refine gov tbv16ok [14] 6 rfl (by kernel_rfl) rfl rfl trivial ?_
          refine vcall 15 rfl (by kernel_rfl) (out_Raw _ _ (by first | omega | (have := hrl (by assumption); omega) | (simp [outNum, outRaw, numB_len, numK] <;> omega) | (have := hrl (by assumption); simp [outNum, outRaw, numB_len, numK] <;> omega))) rfl rfl fun w36 => ?_
          have := outRaw_len (outText (outNum (outText (outText (outNum (outNum (⟨[], 0⟩ : Out) d.kind 1) d.tick 8) d.bind.shop) d.bind.to) (bitN d.bind.up) 1) d.bind.key) (headBytes d.bind.want)
          refine gov tbv16ok [16, 17] 3 rfl (by kernel_rfl) rfl rfl trivial ?_
          refine vcall 18 rfl (by kernel_rfl) (deed_bit _) rfl rfl fun w37 => ?_
          refine vcall 19 rfl (by kernel_rfl) (out_Num _ _ _ (by first | omega | (have := hrl (by assumption); omega) | (simp [outNum, outRaw, numB_len, numK] <;> omega) | (have := hrl (by assumption); simp [outNum, outRaw, numB_len, numK] <;> omega))) rfl rfl fun w38 => ?_
          have := outNum_len (outRaw (outText (outNum (outText (outText (outNum (outNum (⟨[], 0⟩ : Out) d.kind 1) d.tick 8) d.bind.shop) d.bind.to) (bitN d.bind.up) 1) d.bind.key) (headBytes d.bind.want)) (bitN d.bind.all) 1
          refine vt 20 rfl (by kernel_rfl) (by kernel_rfl) (storeA tbv16ok rfl rfl rfl rfl rfl rfl rfl rfl rfl rfl ?_)
          refine vdone (by kernel_rfl) ?_
          refine go tbv16ok 5 rfl rfl trivial ?_
          refine call (out_String _) rfl rfl fun w39 => ?_
          refine go tbv16ok 5 rfl rfl trivial ?_
          refine rt2 rfl rfl ?_
          refine ple ?_
          have e : deedBytes d = (outNum (outRaw (outText (outNum (outText (outText (outNum (outNum (⟨[], 0⟩ : Out) d.kind 1) d.tick 8) d.bind.shop) d.bind.to) (bitN d.bind.up) 1) d.bind.key) (headBytes d.bind.want)) (bitN d.bind.all) 1).s := by
            unfold deedBytes
            first
              | (rw [if_neg (by assumption)]; done)
              | (rw [if_pos (by assumption)]; unfold deedOut; (repeat (first | rw [if_pos (by omega)] | rw [if_neg (by omega)] | rw [if_pos (by assumption)] | rw [if_neg (by assumption)] | rw [if_neg (not_not_intro (by assumption))])); first | done | rfl)
          rw [e]
          try (rw [show deedE d = 0 by assumption])
        · have p40 := df h27
          refine go tbv16ok 5 rfl rfl trivial ?_
          refine cnd rfl (fun h41 => ?_) (fun h41 => ?_)
          · have p42 := dt h41
            refine go tbv16ok 4 rfl rfl trivial ?_
            refine ef (alloc tbv16ok 2 rfl rfl rfl rfl fun b43 => ?_)
            refine ef (storeA tbv16ok rfl rfl rfl rfl rfl rfl rfl rfl rfl rfl ?_)
            refine go tbv16ok 6 rfl rfl trivial ?_
            refine call (head_Bytes _) rfl rfl fun w44 => ?_
            have := headBytes_len d.bind.want
            refine go tbv16ok 7 rfl rfl trivial ?_
            refine any [3, 4, 5, 6, 7, 8] 21 mixd rfl ?_
            refine gov tbv16ok [0, 1, 2] 18 rfl (by kernel_rfl) rfl rfl trivial ?_
            refine vcall 3 rfl (by kernel_rfl) (out_Text _ _ (by first | omega | (have := hrl (by assumption); omega) | (simp [outNum, outRaw, numB_len, numK] <;> omega) | (have := hrl (by assumption); simp [outNum, outRaw, numB_len, numK] <;> omega))) rfl rfl fun w45 => ?_
            have := outText_len (outNum (outNum (⟨[], 0⟩ : Out) d.kind 1) d.tick 8) d.bind.shop
            refine gov tbv16ok [4, 5] 15 rfl (by kernel_rfl) rfl rfl trivial ?_
            refine vcall 6 rfl (by kernel_rfl) (out_Text _ _ (by first | omega | (have := hrl (by assumption); omega) | (simp [outNum, outRaw, numB_len, numK] <;> omega) | (have := hrl (by assumption); simp [outNum, outRaw, numB_len, numK] <;> omega))) rfl rfl fun w46 => ?_
            have := outText_len (outText (outNum (outNum (⟨[], 0⟩ : Out) d.kind 1) d.tick 8) d.bind.shop) d.bind.to
            refine gov tbv16ok [7, 8] 12 rfl (by kernel_rfl) rfl rfl trivial ?_
            refine vcall 9 rfl (by kernel_rfl) (deed_bit _) rfl rfl fun w47 => ?_
            refine vcall 10 rfl (by kernel_rfl) (out_Num _ _ _ (by first | omega | (have := hrl (by assumption); omega) | (simp [outNum, outRaw, numB_len, numK] <;> omega) | (have := hrl (by assumption); simp [outNum, outRaw, numB_len, numK] <;> omega))) rfl rfl fun w48 => ?_
            have := outNum_len (outText (outText (outNum (outNum (⟨[], 0⟩ : Out) d.kind 1) d.tick 8) d.bind.shop) d.bind.to) (bitN d.bind.up) 1
            refine gov tbv16ok [11, 12] 8 rfl (by kernel_rfl) rfl rfl trivial ?_
            refine vcall 13 rfl (by kernel_rfl) (out_Text _ _ (by first | omega | (have := hrl (by assumption); omega) | (simp [outNum, outRaw, numB_len, numK] <;> omega) | (have := hrl (by assumption); simp [outNum, outRaw, numB_len, numK] <;> omega))) rfl rfl fun w49 => ?_
            have := outText_len (outNum (outText (outText (outNum (outNum (⟨[], 0⟩ : Out) d.kind 1) d.tick 8) d.bind.shop) d.bind.to) (bitN d.bind.up) 1) d.bind.key
            refine gov tbv16ok [14] 6 rfl (by kernel_rfl) rfl rfl trivial ?_
            refine vcall 15 rfl (by kernel_rfl) (out_Raw _ _ (by first | omega | (have := hrl (by assumption); omega) | (simp [outNum, outRaw, numB_len, numK] <;> omega) | (have := hrl (by assumption); simp [outNum, outRaw, numB_len, numK] <;> omega))) rfl rfl fun w50 => ?_
            have := outRaw_len (outText (outNum (outText (outText (outNum (outNum (⟨[], 0⟩ : Out) d.kind 1) d.tick 8) d.bind.shop) d.bind.to) (bitN d.bind.up) 1) d.bind.key) (headBytes d.bind.want)
            refine gov tbv16ok [16, 17] 3 rfl (by kernel_rfl) rfl rfl trivial ?_
            refine vcall 18 rfl (by kernel_rfl) (deed_bit _) rfl rfl fun w51 => ?_
            refine vcall 19 rfl (by kernel_rfl) (out_Num _ _ _ (by first | omega | (have := hrl (by assumption); omega) | (simp [outNum, outRaw, numB_len, numK] <;> omega) | (have := hrl (by assumption); simp [outNum, outRaw, numB_len, numK] <;> omega))) rfl rfl fun w52 => ?_
            have := outNum_len (outRaw (outText (outNum (outText (outText (outNum (outNum (⟨[], 0⟩ : Out) d.kind 1) d.tick 8) d.bind.shop) d.bind.to) (bitN d.bind.up) 1) d.bind.key) (headBytes d.bind.want)) (bitN d.bind.all) 1
            refine vt 20 rfl (by kernel_rfl) (by kernel_rfl) (storeA tbv16ok rfl rfl rfl rfl rfl rfl rfl rfl rfl rfl ?_)
            refine vdone (by kernel_rfl) ?_
            refine go tbv16ok 5 rfl rfl trivial ?_
            refine call (out_String _) rfl rfl fun w53 => ?_
            refine go tbv16ok 5 rfl rfl trivial ?_
            refine rt2 rfl rfl ?_
            refine ple ?_
            have e : deedBytes d = (outNum (outRaw (outText (outNum (outText (outText (outNum (outNum (⟨[], 0⟩ : Out) d.kind 1) d.tick 8) d.bind.shop) d.bind.to) (bitN d.bind.up) 1) d.bind.key) (headBytes d.bind.want)) (bitN d.bind.all) 1).s := by
              unfold deedBytes
              first
                | (rw [if_neg (by assumption)]; done)
                | (rw [if_pos (by assumption)]; unfold deedOut; (repeat (first | rw [if_pos (by omega)] | rw [if_neg (by omega)] | rw [if_pos (by assumption)] | rw [if_neg (by assumption)] | rw [if_neg (not_not_intro (by assumption))])); first | done | rfl)
            rw [e]
            try (rw [show deedE d = 0 by assumption])
          · have p54 := df h41
            refine go tbv16ok 6 rfl rfl trivial ?_
            refine cnd rfl (fun h55 => ?_) (fun h55 => ?_)
            · have p56 := dt h55
              refine go tbv16ok 3 rfl rfl trivial ?_
              refine call (out_Raw _ _ (by first | omega | (have := hrl (by assumption); omega) | (simp [outNum, outRaw, numB_len, numK] <;> omega) | (have := hrl (by assumption); simp [outNum, outRaw, numB_len, numK] <;> omega))) rfl rfl fun w57 => ?_
              have := outRaw_len (outNum (outNum (⟨[], 0⟩ : Out) d.kind 1) d.tick 8) (mailBytes d.mail)
              refine ef (storeA tbv16ok rfl rfl rfl rfl rfl rfl rfl rfl rfl rfl ?_)
              refine go tbv16ok 6 rfl rfl trivial ?_
              refine call (out_String _) rfl rfl fun w58 => ?_
              refine go tbv16ok 5 rfl rfl trivial ?_
              refine rt2 rfl rfl ?_
              refine ple ?_
              have e : deedBytes d = (outRaw (outNum (outNum (⟨[], 0⟩ : Out) d.kind 1) d.tick 8) (mailBytes d.mail)).s := by
                unfold deedBytes
                first
                  | (rw [if_neg (by assumption)]; done)
                  | (rw [if_pos (by assumption)]; unfold deedOut; (repeat (first | rw [if_pos (by omega)] | rw [if_neg (by omega)] | rw [if_pos (by assumption)] | rw [if_neg (by assumption)] | rw [if_neg (not_not_intro (by assumption))])); first | done | rfl)
              rw [e]
              try (rw [show deedE d = 0 by assumption])
            · have p59 := df h55
              refine go tbv16ok 7 rfl rfl trivial ?_
              refine cnd rfl (fun h60 => ?_) (fun h60 => ?_)
              · have p61 := dt h60
                refine go tbv16ok 2 rfl rfl trivial ?_
                refine cndT rfl h60 ?_
                refine go tbv16ok 4 rfl rfl trivial ?_
                refine call (out_Text _ _ (by first | omega | (have := hrl (by assumption); omega) | (simp [outNum, outRaw, numB_len, numK] <;> omega) | (have := hrl (by assumption); simp [outNum, outRaw, numB_len, numK] <;> omega))) rfl rfl fun w62 => ?_
                have := outText_len (outNum (outNum (⟨[], 0⟩ : Out) d.kind 1) d.tick 8) d.name
                refine ef (storeA tbv16ok rfl rfl rfl rfl rfl rfl rfl rfl rfl rfl ?_)
                refine go tbv16ok 6 rfl rfl trivial ?_
                refine call (out_String _) rfl rfl fun w63 => ?_
                refine go tbv16ok 5 rfl rfl trivial ?_
                refine rt2 rfl rfl ?_
                refine ple ?_
                have e : deedBytes d = (outText (outNum (outNum (⟨[], 0⟩ : Out) d.kind 1) d.tick 8) d.name).s := by
                  unfold deedBytes
                  first
                    | (rw [if_neg (by assumption)]; done)
                    | (rw [if_pos (by assumption)]; unfold deedOut; (repeat (first | rw [if_pos (by omega)] | rw [if_neg (by omega)] | rw [if_pos (by assumption)] | rw [if_neg (by assumption)] | rw [if_neg (not_not_intro (by assumption))])); first | done | rfl)
                rw [e]
                try (rw [show deedE d = 0 by assumption])
              · have p64 := df h60
                refine go tbv16ok 6 rfl rfl trivial ?_
                refine cnd rfl (fun h65 => ?_) (fun h65 => ?_)
                · have p66 := dt h65
                  refine go tbv16ok 2 rfl rfl trivial ?_
                  refine cndT rfl h65 ?_
                  refine go tbv16ok 4 rfl rfl trivial ?_
                  refine call (out_Text _ _ (by first | omega | (have := hrl (by assumption); omega) | (simp [outNum, outRaw, numB_len, numK] <;> omega) | (have := hrl (by assumption); simp [outNum, outRaw, numB_len, numK] <;> omega))) rfl rfl fun w67 => ?_
                  have := outText_len (outNum (outNum (⟨[], 0⟩ : Out) d.kind 1) d.tick 8) d.name
                  refine ef (storeA tbv16ok rfl rfl rfl rfl rfl rfl rfl rfl rfl rfl ?_)
                  refine go tbv16ok 6 rfl rfl trivial ?_
                  refine call (out_String _) rfl rfl fun w68 => ?_
                  refine go tbv16ok 5 rfl rfl trivial ?_
                  refine rt2 rfl rfl ?_
                  refine ple ?_
                  have e : deedBytes d = (outText (outNum (outNum (⟨[], 0⟩ : Out) d.kind 1) d.tick 8) d.name).s := by
                    unfold deedBytes
                    first
                      | (rw [if_neg (by assumption)]; done)
                      | (rw [if_pos (by assumption)]; unfold deedOut; (repeat (first | rw [if_pos (by omega)] | rw [if_neg (by omega)] | rw [if_pos (by assumption)] | rw [if_neg (by assumption)] | rw [if_neg (not_not_intro (by assumption))])); first | done | rfl)
                  rw [e]
                  try (rw [show deedE d = 0 by assumption])
                · have p69 := df h65
                  refine go tbv16ok 5 rfl rfl trivial ?_
                  refine cnd rfl (fun h70 => ?_) (fun h70 => ?_)
                  · have p71 := dt h70
                    refine go tbv16ok 4 rfl rfl trivial ?_
                    refine call (out_Text _ _ (by first | omega | (have := hrl (by assumption); omega) | (simp [outNum, outRaw, numB_len, numK] <;> omega) | (have := hrl (by assumption); simp [outNum, outRaw, numB_len, numK] <;> omega))) rfl rfl fun w72 => ?_
                    have := outText_len (outNum (outNum (⟨[], 0⟩ : Out) d.kind 1) d.tick 8) d.name
                    refine ef (storeA tbv16ok rfl rfl rfl rfl rfl rfl rfl rfl rfl rfl ?_)
                    refine go tbv16ok 6 rfl rfl trivial ?_
                    refine call (out_String _) rfl rfl fun w73 => ?_
                    refine go tbv16ok 5 rfl rfl trivial ?_
                    refine rt2 rfl rfl ?_
                    refine ple ?_
                    have e : deedBytes d = (outText (outNum (outNum (⟨[], 0⟩ : Out) d.kind 1) d.tick 8) d.name).s := by
                      unfold deedBytes
                      first
                        | (rw [if_neg (by assumption)]; done)
                        | (rw [if_pos (by assumption)]; unfold deedOut; (repeat (first | rw [if_pos (by omega)] | rw [if_neg (by omega)] | rw [if_pos (by assumption)] | rw [if_neg (by assumption)] | rw [if_neg (not_not_intro (by assumption))])); first | done | rfl)
                    rw [e]
                    try (rw [show deedE d = 0 by assumption])
                  · have p74 := df h70
                    refine go tbv16ok 6 rfl rfl trivial ?_
                    refine cnd rfl (fun h75 => ?_) (fun h75 => ?_)
                    · have p76 := dt h75
                      refine any [2, 3, 4, 5, 6, 7] 12 mixd rfl ?_
                      refine gov tbv16ok [0, 1, 2] 9 rfl (by kernel_rfl) rfl rfl trivial ?_
                      refine vcall 3 rfl (by kernel_rfl) (out_Text _ _ (by first | omega | (have := hrl (by assumption); omega) | (simp [outNum, outRaw, numB_len, numK] <;> omega) | (have := hrl (by assumption); simp [outNum, outRaw, numB_len, numK] <;> omega))) rfl rfl fun w77 => ?_
                      have := outText_len (outNum (outNum (⟨[], 0⟩ : Out) d.kind 1) d.tick 8) d.name
                      refine gov tbv16ok [4, 5] 6 rfl (by kernel_rfl) rfl rfl trivial ?_
                      refine vcall 6 rfl (by kernel_rfl) (out_Num _ _ _ (by first | omega | (have := hrl (by assumption); omega) | (simp [outNum, outRaw, numB_len, numK] <;> omega) | (have := hrl (by assumption); simp [outNum, outRaw, numB_len, numK] <;> omega))) rfl rfl fun w78 => ?_
                      have := outNum_len (outText (outNum (outNum (⟨[], 0⟩ : Out) d.kind 1) d.tick 8) d.name) d.id 8
                      refine gov tbv16ok [7, 8, 9] 2 rfl (by kernel_rfl) rfl rfl trivial ?_
                      refine vcall 10 rfl (by kernel_rfl) (out_Num _ _ _ (by first | omega | (have := hrl (by assumption); omega) | (simp [outNum, outRaw, numB_len, numK] <;> omega) | (have := hrl (by assumption); simp [outNum, outRaw, numB_len, numK] <;> omega))) rfl rfl fun w79 => ?_
                      have := outNum_len (outNum (outText (outNum (outNum (⟨[], 0⟩ : Out) d.kind 1) d.tick 8) d.name) d.id 8) d.how 1
                      refine vt 11 rfl (by kernel_rfl) (by kernel_rfl) (storeA tbv16ok rfl rfl rfl rfl rfl rfl rfl rfl rfl rfl ?_)
                      refine vdone (by kernel_rfl) ?_
                      refine go tbv16ok 5 rfl rfl trivial ?_
                      refine call (out_String _) rfl rfl fun w80 => ?_
                      refine go tbv16ok 5 rfl rfl trivial ?_
                      refine rt2 rfl rfl ?_
                      refine ple ?_
                      have e : deedBytes d = (outNum (outNum (outText (outNum (outNum (⟨[], 0⟩ : Out) d.kind 1) d.tick 8) d.name) d.id 8) d.how 1).s := by
                        unfold deedBytes
                        first
                          | (rw [if_neg (by assumption)]; done)
                          | (rw [if_pos (by assumption)]; unfold deedOut; (repeat (first | rw [if_pos (by omega)] | rw [if_neg (by omega)] | rw [if_pos (by assumption)] | rw [if_neg (by assumption)] | rw [if_neg (not_not_intro (by assumption))])); first | done | rfl)
                      rw [e]
                      try (rw [show deedE d = 0 by assumption])
                    · have p81 := df h75
                      refine go tbv16ok 6 rfl rfl trivial ?_
                      refine cnd rfl (fun h82 => ?_) (fun h82 => ?_)
                      · have p83 := dt h82
                        refine any [2, 3, 4, 5, 6, 7] 11 mixd rfl ?_
                        refine gov tbv16ok [0, 1, 2, 3] 7 rfl (by kernel_rfl) rfl rfl trivial ?_
                        refine vcall 4 rfl (by kernel_rfl) (out_Num _ _ _ (by first | omega | (have := hrl (by assumption); omega) | (simp [outNum, outRaw, numB_len, numK] <;> omega) | (have := hrl (by assumption); simp [outNum, outRaw, numB_len, numK] <;> omega))) rfl rfl fun w84 => ?_
                        have := outNum_len (outNum (outNum (⟨[], 0⟩ : Out) d.kind 1) d.tick 8) d.frm 1
                        refine gov tbv16ok [5, 6] 4 rfl (by kernel_rfl) rfl rfl trivial ?_
                        refine vcall 7 rfl (by kernel_rfl) (out_Num _ _ _ (by first | omega | (have := hrl (by assumption); omega) | (simp [outNum, outRaw, numB_len, numK] <;> omega) | (have := hrl (by assumption); simp [outNum, outRaw, numB_len, numK] <;> omega))) rfl rfl fun w85 => ?_
                        have := outNum_len (outNum (outNum (outNum (⟨[], 0⟩ : Out) d.kind 1) d.tick 8) d.frm 1) d.number 8
                        refine gov tbv16ok [8] 2 rfl (by kernel_rfl) rfl rfl trivial ?_
                        refine vcall 9 rfl (by kernel_rfl) (out_Raw _ _ (by first | omega | (have := hrl (by assumption); omega) | (simp [outNum, outRaw, numB_len, numK] <;> omega) | (have := hrl (by assumption); simp [outNum, outRaw, numB_len, numK] <;> omega))) rfl rfl fun w86 => ?_
                        have := outRaw_len (outNum (outNum (outNum (outNum (⟨[], 0⟩ : Out) d.kind 1) d.tick 8) d.frm 1) d.number 8) (mailBytes d.mail)
                        refine vt 10 rfl (by kernel_rfl) (by kernel_rfl) (storeA tbv16ok rfl rfl rfl rfl rfl rfl rfl rfl rfl rfl ?_)
                        refine vdone (by kernel_rfl) ?_
                        refine go tbv16ok 5 rfl rfl trivial ?_
                        refine call (out_String _) rfl rfl fun w87 => ?_
                        refine go tbv16ok 5 rfl rfl trivial ?_
                        refine rt2 rfl rfl ?_
                        refine ple ?_
                        have e : deedBytes d = (outRaw (outNum (outNum (outNum (outNum (⟨[], 0⟩ : Out) d.kind 1) d.tick 8) d.frm 1) d.number 8) (mailBytes d.mail)).s := by
                          unfold deedBytes
                          first
                            | (rw [if_neg (by assumption)]; done)
                            | (rw [if_pos (by assumption)]; unfold deedOut; (repeat (first | rw [if_pos (by omega)] | rw [if_neg (by omega)] | rw [if_pos (by assumption)] | rw [if_neg (by assumption)] | rw [if_neg (not_not_intro (by assumption))])); first | done | rfl)
                        rw [e]
                        try (rw [show deedE d = 0 by assumption])
                      · have p88 := df h82
                        refine go tbv16ok 6 rfl rfl trivial ?_
                        refine cnd rfl (fun h89 => ?_) (fun h89 => ?_)
                        · have p90 := dt h89
                          refine any [2, 3, 4, 5, 6, 7] 9 mixd rfl ?_
                          refine gov tbv16ok [0, 1, 2, 3] 5 rfl (by kernel_rfl) rfl rfl trivial ?_
                          refine vcall 4 rfl (by kernel_rfl) (out_Num _ _ _ (by first | omega | (have := hrl (by assumption); omega) | (simp [outNum, outRaw, numB_len, numK] <;> omega) | (have := hrl (by assumption); simp [outNum, outRaw, numB_len, numK] <;> omega))) rfl rfl fun w91 => ?_
                          have := outNum_len (outNum (outNum (⟨[], 0⟩ : Out) d.kind 1) d.tick 8) d.code 1
                          refine gov tbv16ok [5, 6] 2 rfl (by kernel_rfl) rfl rfl trivial ?_
                          refine vcall 7 rfl (by kernel_rfl) (out_Text _ _ (by first | omega | (have := hrl (by assumption); omega) | (simp [outNum, outRaw, numB_len, numK] <;> omega) | (have := hrl (by assumption); simp [outNum, outRaw, numB_len, numK] <;> omega))) rfl rfl fun w92 => ?_
                          have := outText_len (outNum (outNum (outNum (⟨[], 0⟩ : Out) d.kind 1) d.tick 8) d.code 1) d.text
                          refine vt 8 rfl (by kernel_rfl) (by kernel_rfl) (storeA tbv16ok rfl rfl rfl rfl rfl rfl rfl rfl rfl rfl ?_)
                          refine vdone (by kernel_rfl) ?_
                          refine go tbv16ok 5 rfl rfl trivial ?_
                          refine call (out_String _) rfl rfl fun w93 => ?_
                          refine go tbv16ok 5 rfl rfl trivial ?_
                          refine rt2 rfl rfl ?_
                          refine ple ?_
                          have e : deedBytes d = (outText (outNum (outNum (outNum (⟨[], 0⟩ : Out) d.kind 1) d.tick 8) d.code 1) d.text).s := by
                            unfold deedBytes
                            first
                              | (rw [if_neg (by assumption)]; done)
                              | (rw [if_pos (by assumption)]; unfold deedOut; (repeat (first | rw [if_pos (by omega)] | rw [if_neg (by omega)] | rw [if_pos (by assumption)] | rw [if_neg (by assumption)] | rw [if_neg (not_not_intro (by assumption))])); first | done | rfl)
                          rw [e]
                          try (rw [show deedE d = 0 by assumption])
                        · have p94 := df h89
                          refine go tbv16ok 6 rfl rfl trivial ?_
                          refine call (out_String _) rfl rfl fun w95 => ?_
                          refine go tbv16ok 5 rfl rfl trivial ?_
                          refine rt2 rfl rfl ?_
                          refine ple ?_
                          have e : deedBytes d = (outNum (outNum (⟨[], 0⟩ : Out) d.kind 1) d.tick 8).s := by
                            unfold deedBytes
                            first
                              | (rw [if_neg (by assumption)]; done)
                              | (rw [if_pos (by assumption)]; unfold deedOut; (repeat (first | rw [if_pos (by omega)] | rw [if_neg (by omega)] | rw [if_pos (by assumption)] | rw [if_neg (by assumption)] | rw [if_neg (not_not_intro (by assumption))])); first | done | rfl)
                          rw [e]
                          try (rw [show deedE d = 0 by assumption])
end Go.SW.V
set_option linter.unusedVariables false
set_option maxRecDepth 100000
set_option maxHeartbeats 4000000
namespace Go.SW.V
open Go.SW Go.Proofs
theorem cb51 : Callable Tryz.prog 51 := callable_of Tryz.func51 (by kernel_rfl) (by kernel_rfl)
theorem cb52 : Callable Tryz.prog 52 := callable_of Tryz.func52 (by kernel_rfl) (by kernel_rfl)
theorem cb93 : Callable Tryz.prog 93 := callable_of Tryz.func93 (by kernel_rfl) (by kernel_rfl)
def tbv18 : Tb := [(9, ⟨.str, 1, 16, [.str []]⟩),
  (146, ⟨.slc 9, 1, 24, [.sl strc []]⟩)]
theorem tbv18ok : tbB Tryz.prog tbv18 = true := by kernel_rfl
theorem r4_Name (s : Bs) : Fn Tryz.prog gb 51 [.str s] (.int .i64 (nameE s)) := by
  refine fn_cw tbv18ok Tryz.func51 rfl Tryz.ntmps51 rfl cb51 rfl rfl fun w N H hG => ?_
  have s_l : s.length ≤ 9223372036854775807 := w.1
  refine go tbv18ok 13 rfl rfl trivial ?_
  refine cnd rfl (fun h1 => ?_) (fun h1 => ?_)
  · have p2 := dt h1
    refine go tbv18ok 7 rfl rfl trivial ?_
    refine rt1 rfl rfl ?_
    refine ple ?_
    have : s = [] := List.eq_nil_of_length_eq_zero (by omega)
    subst this
    rfl
  · have p3 := df h1
    refine go tbv18ok 10 rfl rfl trivial ?_
    refine cnd rfl (fun h4 => ?_) (fun h4 => ?_)
    · have p5 := dt h4
      refine go tbv18ok 7 rfl rfl trivial ?_
      refine rt1 rfl rfl ?_
      refine ple ?_
      have hne : ¬ s = [] := fun q => by subst q; simp at *
      unfold nameE
      rw [if_neg hne, if_pos (by omega)]
    · have p6 := df h4
      refine go tbv18ok 9 rfl rfl trivial ?_
      refine loop (ι := Nat) [0, 4, 5, 6, 7, 8, 9] [] (fun k => [(3, .int .i64 (k : Int))]) (fun k => []) (fun k => k ≤ s.length ∧ (s.drop k).all (fun c => letter c.toNat) = plain s) (fun k => s.length - k) 0 ⟨rfl, trivial⟩ trivial ?_ ?_
      · exact ⟨by omega, rfl⟩
      · rintro k hp7
        obtain ⟨hk1, hk2⟩ := hp7
        refine go tbv18ok 9 rfl rfl trivial ?_
        refine cnd rfl (fun h8 => ?_) (fun h8 => ?_)
        · have p9 := dt h8
          have := u8r (s.getD k 0)
          refine go tbv18ok 8 rfl rfl trivial ?_
          refine q1 (sidx tbv18ok k rfl rfl rfl rfl rfl (by omega)) rfl fun w10 => ?_
          refine call (r4_letter _) rfl rfl fun w11 => ?_
          refine go tbv18ok 3 rfl rfl trivial ?_
          refine cnd rfl (fun h12 => ?_) (fun h12 => ?_)
          · have h13 := not_t h12
            refine go tbv18ok 11 rfl rfl trivial ?_
            refine rt1 rfl rfl ?_
            refine ple ?_
            have hne : ¬ s = [] := fun q => by subst q; simp at *
            unfold nameE
            rw [if_neg hne, if_neg (by omega), ← hk2, letter_all (k := k) (by omega)]
            simp only [*, Bool.false_and, Bool.false_eq_true, if_false]
          · have h14 := not_f h12
            refine go tbv18ok 8 rfl rfl ⟨(by omega), trivial⟩ ?_
            refine next (k + 1) rfl rfl ⟨rfl, trivial⟩ trivial ?_ ?_
            · omega
            · refine ⟨by omega, ?_⟩
              rw [← hk2, letter_all (k := k) (by omega)]
              simp only [*, Bool.true_and]
        · have p15 := df h8
          refine go tbv18ok 11 rfl rfl trivial ?_
          refine rt1 rfl rfl ?_
          refine ple ?_
          have hne : ¬ s = [] := fun q => by subst q; simp at *
          unfold nameE
          rw [if_neg hne, if_neg (by omega), ← hk2, List.drop_of_length_le (by omega)]
          rfl
theorem r4_Split (s : Bs) (hs : s.length ≤ 1000000) : Fn Tryz.prog gb 93 [.str s] (.sl strc (wordsOf s)) := by
  refine fn_cw tbv18ok Tryz.func93 rfl Tryz.ntmps93 rfl cb93 rfl rfl fun w N H hG => ?_
  have s_l : s.length ≤ 9223372036854775807 := w.1
  refine go tbv18ok 13 rfl rfl trivial ?_
  refine cnd rfl (fun h1 => ?_) (fun h1 => ?_)
  · have p2 := dt h1
    refine go tbv18ok 7 rfl rfl trivial ?_
    refine rt1 rfl rfl ?_
    refine ple_nilx ?_
    unfold wordsOf; rw [if_pos (List.eq_nil_of_length_eq_zero (by omega))]
  · have p3 := df h1
    refine go tbv18ok 19 rfl rfl trivial ?_
    refine sw_own (t := 3) (k := 1) (e := 9) 0 strc rfl rfl ?_
    refine loop (ι := Nat × Nat × (List Bs) × Value) [0, 2, 6, 7, 8] [] (fun ⟨f, k, out, u_out⟩ => [(3, .osl 0), (4, .int .i64 (f : Int)), (5, .int .i64 (k : Int))]) (fun ⟨f, k, out, u_out⟩ => [(0, .arr u_out 1 9 strc out)]) (fun ⟨f, k, out, u_out⟩ => f ≤ k ∧ k ≤ s.length ∧ dots s = out ++ dots (s.drop f) ∧ noDot s f k ∧ out.length ≤ k) (fun ⟨f, k, out, u_out⟩ => s.length - k) ⟨0, 0, [], (.slice none 0 0)⟩ ⟨rfl, rfl, rfl, trivial⟩ ⟨rfl, trivial⟩ ?_ ?_
    · exact ⟨Nat.le_refl _, Nat.zero_le _, rfl, noDot_nil, Nat.zero_le _⟩
    · rintro ⟨f, k, out, u_out⟩ hp4
      obtain ⟨hk1, hk2, hk3, hk4, hk5⟩ := hp4
      refine go tbv18ok 9 rfl rfl trivial ?_
      refine cnd rfl (fun h5 => ?_) (fun h5 => ?_)
      · have p6 := dt h5
        have := u8r (s.getD k 0)
        refine go tbv18ok 8 rfl rfl trivial ?_
        refine q1 (sidx tbv18ok k rfl rfl rfl rfl rfl (by omega)) rfl fun w7 => ?_
        refine go tbv18ok 3 rfl rfl trivial ?_
        refine cnd rfl (fun h8 => ?_) (fun h8 => ?_)
        · have p9 := dt h8
          refine go tbv18ok 6 rfl rfl trivial ?_
          refine q1 (ssl tbv18ok f k rfl rfl rfl rfl rfl rfl rfl (by omega) (by omega)) rfl fun w10 => ?_
          refine ef (bsl 1 strc [((s.drop f).take (k - f))] tbv18ok rfl rfl rfl rfl rfl (fun _ => rfl) rfl (by decide) (by decide) rfl fun u11 => ?_)
          refine ef (app tbv18ok [((s.drop f).take (k - f))] rfl rfl rfl rfl rfl rfl rfl rfl rfl (src_o rfl rfl) (by first | omega | (simp; omega)) rfl fun u12 => ?_)
          refine go tbv18ok 15 rfl rfl ⟨(by omega), (by omega), trivial⟩ ?_
          refine next ⟨(k + 1), (k + 1), (out ++ [((s.drop f).take (k - f))]), (u12)⟩ rfl rfl ⟨rfl, rfl, rfl, trivial⟩ ⟨rfl, trivial⟩ ?_ ?_
          · (try simp only []); omega
          · (try simp only [])
            refine ⟨by omega, by omega, split_hit hk3 hk4 (by omega) (by omega) (byteEq (n := 46) (by omega) (by omega)), noDot_nil, by simp; omega⟩
        · have p13 := df h8
          refine go tbv18ok 8 rfl rfl ⟨(by omega), trivial⟩ ?_
          refine next ⟨f, (k + 1), out, (u_out)⟩ rfl rfl ⟨rfl, rfl, rfl, trivial⟩ ⟨rfl, trivial⟩ ?_ ?_
          · (try simp only []); omega
          · exact ⟨by omega, by omega, hk3, noDot_step hk4 (byteNe (n := 46) (by omega) (by omega)), by omega⟩
      · have p14 := df h5
        refine go tbv18ok 10 rfl rfl trivial ?_
        refine q1 (sslo tbv18ok f rfl rfl rfl rfl rfl (by omega)) rfl fun w15 => ?_
        refine ef (bsl 1 strc [(s.drop f)] tbv18ok rfl rfl rfl rfl rfl (fun _ => rfl) rfl (by decide) (by decide) rfl fun u16 => ?_)
        refine ef (app tbv18ok [(s.drop f)] rfl rfl rfl rfl rfl rfl rfl rfl rfl (src_o rfl rfl) (by first | omega | (simp; omega)) rfl fun u17 => ?_)
        refine go tbv18ok 3 rfl rfl trivial ?_
        refine givec 0 rfl ?_
        refine go tbv18ok 1 rfl rfl trivial ?_
        refine rt1 rfl rfl ?_
        refine ple ?_
        have hne : ¬ s = [] := fun q => by subst q; simp at *
        have e : wordsOf s = (out ++ [(s.drop f)]) := by unfold wordsOf; rw [if_neg hne]; exact split_end hk3 hk4 (by omega)
        first | (rw [e]; done) | (rw [e]; rfl)
theorem r4_Key (s : Bs) (pattern : Bool) : Fn Tryz.prog gb 52 [.str s, .bool pattern] (.int .i64 (keyE (besidesOf pattern) s)) := by
  refine fn_cw tbv18ok Tryz.func52 rfl Tryz.ntmps52 rfl cb52 rfl rfl fun w N H hG => ?_
  have s_l : s.length ≤ 9223372036854775807 := w.1
  refine go tbv18ok 13 rfl rfl trivial ?_
  refine cnd rfl (fun h1 => ?_) (fun h1 => ?_)
  · have p2 := dt h1
    refine go tbv18ok 7 rfl rfl trivial ?_
    refine rt1 rfl rfl ?_
    refine ple ?_
    unfold keyE
    rw [if_pos (by omega)]
  · have p3 := df h1
    refine go tbv18ok 6 rfl rfl trivial ?_
    refine call (r4_Split _ (by first | omega | (simp; done) | decide)) rfl rfl fun w4 => ?_
    refine go tbv18ok 5 rfl rfl trivial ?_
    refine loop (ι := Nat) [0, 1, 9, 10, 11, 12, 13, 14] [] (fun k => [(15, .int .i64 (k : Int))]) (fun k => []) (fun k => k ≤ (wordsOf s).length ∧ (wordsOf s).any (isBad (besidesOf pattern)) = ((wordsOf s).drop k).any (isBad (besidesOf pattern))) (fun k => (wordsOf s).length - k) 0 ⟨rfl, trivial⟩ trivial ?_ ?_
    · exact ⟨Nat.zero_le _, by simp⟩
    · rintro k hp5
      obtain ⟨hk1, hk2⟩ := hp5
      have hwl := words_le s
      refine go tbv18ok 6 rfl rfl trivial ?_
      refine cnd rfl (fun h6 => ?_) (fun h6 => ?_)
      · have p7 := dt h6
        obtain ⟨c8, hc9⟩ := getE (xs := wordsOf s) (m := k) (by omega)
        have c8_l : c8.length ≤ 9223372036854775807 := (w4.2 c8 (List.mem_of_getElem? hc9)).1
        refine go tbv18ok 6 rfl rfl trivial ?_
        refine q1 (qidx tbv18ok k rfl rfl rfl hc9 rfl rfl rfl rfl) rfl fun w10 => ?_
        refine go tbv18ok 19 rfl rfl trivial ?_
        refine loop (ι := Nat × Bool) [0, 1, 6, 9, 10, 11, 12, 13, 14, 15, 16, 17, 18, 19, 20, 21] [] (fun ⟨j, b⟩ => [(7, .bool b), (8, .int .i64 (j : Int))]) (fun ⟨j, b⟩ => []) (fun ⟨j, b⟩ => j ≤ c8.length ∧ (decide ((c8.length : Int) = 0) || !plain c8) = (b || !((c8.drop j).all (fun c => letter c.toNat)))) (fun ⟨j, b⟩ => c8.length - j) ⟨0, (decide ((c8.length : Int) = 0))⟩ ⟨rfl, rfl, trivial⟩ trivial ?_ ?_
        · exact ⟨Nat.zero_le _, rfl⟩
        · rintro ⟨j, b⟩ hp11
          obtain ⟨hj1, hj2⟩ := hp11
          refine go tbv18ok 9 rfl rfl trivial ?_
          refine cnd rfl (fun h12 => ?_) (fun h12 => ?_)
          · have p13 := dt h12
            have := u8r (c8.getD j 0)
            refine go tbv18ok 9 rfl rfl trivial ?_
            refine q1g [30, 31] rfl (fun hc => sidx tbv18ok j rfl rfl rfl rfl rfl (by omega)) ⟨(fun hc => hc), (fun hc => hc), trivial⟩ rfl rfl rfl fun _ => ?_
            refine callg rfl (fun hc => (r4_letter _)) rfl ⟨(fun hc => hc), trivial⟩ rfl rfl fun _ => ?_
            refine go tbv18ok 11 rfl rfl ⟨(fun hc => hc), rfl, rfl, (by omega), trivial⟩ ?_
            refine next ⟨(j + 1), (b || (!(letter ((c8.getD j 0).toNat : Int))))⟩ rfl rfl ⟨rfl, rfl, trivial⟩ trivial ?_ ?_
            · (try simp only []); omega
            · refine ⟨by omega, ?_⟩
              rw [hj2, letter_all (k := j) (by omega)]
              simp only [*, Bool.true_or, Bool.false_or, Bool.not_and, Bool.not_true, Bool.not_false, Bool.false_and, Bool.true_and, Bool.or_assoc]
          · have p14 := df h12
            refine go tbv18ok 22 rfl rfl ⟨(fun hc => hc), (fun hc => hc), (fun hc => hc), (fun hc => hc), (fun hc => hc), (fun hc => (by rw [hc]; rfl)), (fun hc => rfl), (fun hc => hc), (fun hc => (by rw [hc]; rfl)), (fun hc => rfl), (fun hc => hc), rfl, rfl, trivial⟩ ?_
            refine cnd rfl (fun h15 => ?_) (fun h15 => ?_)
            · have h16 := bl h15
              have h17 := br h15
              have h18 := not_t h17
              refine go tbv18ok 11 rfl rfl trivial ?_
              refine rt1 rfl rfl ?_
              refine ple ?_
              rw [List.drop_of_length_le (by omega)] at hj2
              have hX := hj2
              simp only [List.all_nil, Bool.not_true, Bool.or_false] at hX
              have hb : isBad (besidesOf pattern) c8 = true := by rw [isBad_doc hX]; first | (simp [*]; done) | (simp_all; done) | (cases pattern <;> simp_all; done) | grind
              unfold keyE
              rw [if_neg (by omega), hk2, dropE hc9, List.any_cons, hb]
              rfl
            · refine go tbv18ok 7 rfl rfl ⟨(by omega), trivial⟩ ?_
              refine next (k + 1) rfl rfl ⟨rfl, trivial⟩ trivial ?_ ?_
              · omega
              · refine ⟨by omega, ?_⟩
                rw [List.drop_of_length_le (by omega)] at hj2
                have hX := hj2
                simp only [List.all_nil, Bool.not_true, Bool.or_false] at hX
                have hb : isBad (besidesOf pattern) c8 = false := by rw [isBad_doc hX]; first | (simp [*]; done) | (simp_all; done) | (cases pattern <;> simp_all; done) | grind
                rw [hk2, dropE hc9, List.any_cons, hb]
                simp
      · have p19 := df h6
        refine go tbv18ok 11 rfl rfl trivial ?_
        refine rt1 rfl rfl ?_
        refine ple ?_
        unfold keyE
        rw [if_neg (by omega), hk2, List.drop_of_length_le (by omega)]
        rfl
end Go.SW.V
set_option linter.unusedVariables false
set_option maxRecDepth 100000
set_option maxHeartbeats 4000000
namespace Go.SW.V
open Go.SW Go.Proofs
theorem cb53 : Callable Tryz.prog 53 := callable_of Tryz.func53 (by kernel_rfl) (by kernel_rfl)
theorem cb94 : Callable Tryz.prog 94 := callable_of Tryz.func94 (by kernel_rfl) (by kernel_rfl)
def tbv19 : Tb := [(2, ⟨.int .i64, 1, 8, [.int .i64 0]⟩),
  (5, ⟨.int .u8, 1, 1, [.int .u8 0]⟩),
  (9, ⟨.str, 1, 16, [.str []]⟩),
  (47, ⟨.slc 139, 1, 24, [.sl Pair.pc []]⟩),
  (139, ⟨.agg [(0, 1), (1, 1), (2, 1), (3, 1)], 4, 48, [.str [], .int .u8 0, .int .i64 0, .str []]⟩)]
theorem tbv19ok : tbB Tryz.prog tbv19 = true := by kernel_rfl
theorem r9_Pair (p : Pair) (ahead : List Pair) : Fn Tryz.prog gb 94 [.agg (Pair.pc p), .sl Pair.pc ahead] (.int .i64 (pairErr p ahead)) := by
  refine fn_cw tbv19ok Tryz.func94 rfl Tryz.ntmps94 rfl cb94 rfl rfl fun w N H hG => ?_
  have ahead_l : ahead.length ≤ 140737488355328 := w.2.1.1
  refine go tbv19ok 2 rfl rfl trivial ?_
  refine ef (boxA 0 rfl rfl rfl fun b1 => ?_)
  refine go tbv19ok 7 rfl rfl trivial ?_
  refine call (r4_Name _) rfl rfl fun w2 => ?_
  refine go tbv19ok 10 rfl rfl trivial ?_
  refine cnd rfl (fun h3 => ?_) (fun h3 => ?_)
  · have h4 := not_t h3
    have p5 := df h4
    refine go tbv19ok 8 rfl rfl trivial ?_
    refine rt1 rfl rfl ?_
    refine ple ?_
    refine congrArg (PV.int .i64) ?_
    rw [pairErr_doc]
    simp only [Bool.or_eq_true, Bool.and_eq_true, Bool.not_eq_true', decide_eq_true_eq, Bool.or_eq_false_iff, Bool.and_eq_false_iff, Bool.not_eq_false', decide_eq_false_iff_not, beq_iff_eq, beq_eq_false_iff_ne] at *
    first | (simp [*]; done) | (simp [*]; omega) | ((repeat' split) <;> first | rfl | omega | (exfalso; simp_all; done) | (exfalso; simp_all; omega) | grind)
  · have h6 := not_f h3
    have p7 := dt h6
    refine go tbv19ok 10 rfl rfl trivial ?_
    refine cnd rfl (fun h8 => ?_) (fun h8 => ?_)
    · have p9 := dt h8
      refine go tbv19ok 7 rfl rfl trivial ?_
      refine rt1 rfl rfl ?_
      refine ple ?_
      refine congrArg (PV.int .i64) ?_
      rw [pairErr_doc]
      simp only [Bool.or_eq_true, Bool.and_eq_true, Bool.not_eq_true', decide_eq_true_eq, Bool.or_eq_false_iff, Bool.and_eq_false_iff, Bool.not_eq_false', decide_eq_false_iff_not, beq_iff_eq, beq_eq_false_iff_ne] at *
      first | (simp [*]; done) | (simp [*]; omega) | ((repeat' split) <;> first | rfl | omega | (exfalso; simp_all; done) | (exfalso; simp_all; omega) | grind)
    · have p10 := df h8
      refine go tbv19ok 16 rfl rfl ⟨(fun hc => hc), (fun hc => hc), (fun hc => hc), rfl, rfl, trivial⟩ ?_
      refine cnd rfl (fun h11 => ?_) (fun h11 => ?_)
      · have h12 := bl h11
        have p13 := dt h12
        have h14 := br h11
        have p15 := dt h14
        refine go tbv19ok 7 rfl rfl trivial ?_
        refine rt1 rfl rfl ?_
        refine ple ?_
        refine congrArg (PV.int .i64) ?_
        rw [pairErr_doc]
        simp only [Bool.or_eq_true, Bool.and_eq_true, Bool.not_eq_true', decide_eq_true_eq, Bool.or_eq_false_iff, Bool.and_eq_false_iff, Bool.not_eq_false', decide_eq_false_iff_not, beq_iff_eq, beq_eq_false_iff_ne] at *
        first | (simp [*]; done) | (simp [*]; omega) | ((repeat' split) <;> first | rfl | omega | (exfalso; simp_all; done) | (exfalso; simp_all; omega) | grind)
      · refine go tbv19ok 20 rfl rfl ⟨(fun hc => hc), (fun hc => hc), (fun hc => hc), (fun hc => hc), (fun hc => hc), (fun hc => hc), (fun hc => (by rw [hc]; rfl)), (fun hc => rfl), rfl, rfl, trivial⟩ ?_
        refine cnd rfl (fun h16 => ?_) (fun h16 => ?_)
        · have h17 := bl h16
          have p18 := dt h17
          have h19 := br h16
          refine go tbv19ok 7 rfl rfl trivial ?_
          refine rt1 rfl rfl ?_
          refine ple ?_
          refine congrArg (PV.int .i64) ?_
          rw [pairErr_doc]
          simp only [Bool.or_eq_true, Bool.and_eq_true, Bool.not_eq_true', decide_eq_true_eq, Bool.or_eq_false_iff, Bool.and_eq_false_iff, Bool.not_eq_false', decide_eq_false_iff_not, beq_iff_eq, beq_eq_false_iff_ne] at *
          first | (simp [*]; done) | (simp [*]; omega) | ((repeat' split) <;> first | rfl | omega | (exfalso; simp_all; done) | (exfalso; simp_all; omega) | grind)
        · refine go tbv19ok 25 rfl rfl ⟨(fun hc => hc), (fun hc => hc), rfl, rfl, (fun hc => hc), (fun hc => hc), (fun hc => hc), (fun hc => hc), (fun hc => hc), (fun hc => hc), (fun hc => (by rw [hc]; rfl)), (fun hc => rfl), rfl, rfl, trivial⟩ ?_
          refine cnd rfl (fun h20 => ?_) (fun h20 => ?_)
          · refine go tbv19ok 7 rfl rfl trivial ?_
            refine rt1 rfl rfl ?_
            refine ple ?_
            refine congrArg (PV.int .i64) ?_
            rw [pairErr_doc]
            simp only [Bool.or_eq_true, Bool.and_eq_true, Bool.not_eq_true', decide_eq_true_eq, Bool.or_eq_false_iff, Bool.and_eq_false_iff, Bool.not_eq_false', decide_eq_false_iff_not, beq_iff_eq, beq_eq_false_iff_ne] at *
            first | (simp [*]; done) | (simp [*]; omega) | ((repeat' split) <;> first | rfl | omega | (exfalso; simp_all; done) | (exfalso; simp_all; omega) | grind)
          · have h21 := orl h20
            have h22 := orr h20
            refine go tbv19ok 11 rfl rfl trivial ?_
            refine loop (ι := Nat) [0, 1, 2, 5, 8, 9, 10, 11, 12, 14, 15, 16, 17, 18, 19, 20, 21, 22, 23, 24, 25, 26, 27, 28, 29, 30, 31, 32, 33, 34, 35, 36, 37, 38, 39, 40, 41, 42, 43, 44, 45, 46, 47, 48, 49, 50, 51, 52, 53, 54, 55, 56, 57, 58] [0] (fun k => [(59, .int .i64 (k : Int))]) (fun k => []) (fun k => k ≤ ahead.length ∧ findP ahead p.key = findP (ahead.drop k) p.key) (fun k => ahead.length - k) 0 ⟨rfl, trivial⟩ trivial ?_ ?_
            · exact ⟨Nat.zero_le _, rfl⟩
            · rintro k hp23
              obtain ⟨hk1, hk2⟩ := hp23
              refine go tbv19ok 6 rfl rfl trivial ?_
              refine cnd rfl (fun h24 => ?_) (fun h24 => ?_)
              · have p25 := dt h24
                obtain ⟨c26, hc27⟩ := getE (xs := ahead) (m := k) (by omega)
                have c26_w := Pair.pwf (w.2.1.2 c26 (List.mem_of_getElem? hc27))
                refine go tbv19ok 6 rfl rfl trivial ?_
                refine q1 (qidx tbv19ok k rfl rfl rfl hc27 rfl rfl rfl rfl) rfl fun w28 => ?_
                refine go tbv19ok 1 rfl rfl trivial ?_
                refine ef (alloc tbv19ok 1 rfl rfl rfl rfl fun b29 => ?_)
                refine ef (storeA tbv19ok rfl rfl rfl rfl rfl rfl rfl rfl rfl rfl ?_)
                refine go tbv19ok 11 rfl rfl trivial ?_
                refine cnd rfl (fun h30 => ?_) (fun h30 => ?_)
                · have p31 := dt h30
                  refine go tbv19ok 11 rfl rfl trivial ?_
                  refine rt1 rfl rfl ?_
                  refine ple ?_
                  have e9 := findP_hit hk2 (dropE hc27) (by assumption)
                  clear hk2
                  refine congrArg (PV.int .i64) ?_
                  rw [pairErr_doc]
                  simp only [Bool.or_eq_true, Bool.and_eq_true, Bool.not_eq_true', decide_eq_true_eq, Bool.or_eq_false_iff, Bool.and_eq_false_iff, Bool.not_eq_false', decide_eq_false_iff_not, beq_iff_eq, beq_eq_false_iff_ne] at *
                  first | (simp [*]; done) | (simp [*]; omega) | ((repeat' split) <;> first | rfl | omega | (exfalso; simp_all; done) | (exfalso; simp_all; omega) | grind)
                · have p32 := df h30
                  refine go tbv19ok 7 rfl rfl ⟨(by omega), trivial⟩ ?_
                  refine next (k + 1) rfl rfl ⟨rfl, trivial⟩ trivial ?_ ?_
                  · omega
                  · exact ⟨by omega, findP_miss hk2 (dropE hc27) (by assumption)⟩
              · have p33 := df h24
                refine go tbv19ok 11 rfl rfl trivial ?_
                refine rt1 rfl rfl ?_
                refine ple ?_
                have e9 : findP ahead p.key = none := by rw [hk2, List.drop_of_length_le (by omega)]; rfl
                clear hk2
                refine congrArg (PV.int .i64) ?_
                rw [pairErr_doc]
                simp only [Bool.or_eq_true, Bool.and_eq_true, Bool.not_eq_true', decide_eq_true_eq, Bool.or_eq_false_iff, Bool.and_eq_false_iff, Bool.not_eq_false', decide_eq_false_iff_not, beq_iff_eq, beq_eq_false_iff_ne] at *
                first | (simp [*]; done) | (simp [*]; omega) | ((repeat' split) <;> first | rfl | omega | (exfalso; simp_all; done) | (exfalso; simp_all; omega) | grind)
theorem r9_Check (h : List Pair) : Fn Tryz.prog gb 53 [.sl Pair.pc h] (.int .i64 (headE h)) := by
  refine fn_cw tbv19ok Tryz.func53 rfl Tryz.ntmps53 rfl cb53 rfl rfl fun w N H hG => ?_
  have h_l : h.length ≤ 140737488355328 := w.1.1
  refine go tbv19ok 13 rfl rfl trivial ?_
  refine cnd rfl (fun h1 => ?_) (fun h1 => ?_)
  · have p2 := dt h1
    refine go tbv19ok 7 rfl rfl trivial ?_
    refine rt1 rfl rfl ?_
    refine ple ?_
    simp [headE, *]
  · have p3 := df h1
    refine go tbv19ok 11 rfl rfl trivial ?_
    refine loop (ι := Nat) [0, 6, 7, 8, 9, 10] [] (fun k => [(11, .int .i64 (k : Int))]) (fun k => []) (fun k => k ≤ h.length ∧ headGo [] h = headGo (h.take k) (h.drop k)) (fun k => h.length - k) 0 ⟨rfl, trivial⟩ trivial ?_ ?_
    · exact ⟨Nat.zero_le _, rfl⟩
    · rintro k hp4
      obtain ⟨hk1, hk2⟩ := hp4
      refine go tbv19ok 6 rfl rfl trivial ?_
      refine cnd rfl (fun h5 => ?_) (fun h5 => ?_)
      · have p6 := dt h5
        obtain ⟨c7, hc8⟩ := getE (xs := h) (m := k) (by omega)
        have c7_w := Pair.pwf (w.1.2 c7 (List.mem_of_getElem? hc8))
        refine go tbv19ok 7 rfl rfl trivial ?_
        refine q1 (qidx tbv19ok k rfl rfl rfl hc8 rfl rfl rfl rfl) rfl fun w9 => ?_
        refine go tbv19ok 1 rfl rfl trivial ?_
        refine ef (alloc tbv19ok 0 rfl rfl rfl rfl fun b10 => ?_)
        refine go tbv19ok 1 rfl rfl trivial ?_
        refine ef (storeA tbv19ok rfl rfl rfl rfl rfl rfl rfl rfl rfl rfl ?_)
        refine go tbv19ok 3 rfl rfl trivial ?_
        refine any [1, 2, 3, 4, 5, 6] 6 mixd rfl ?_
        refine gov tbv19ok [0, 1, 2] 3 rfl (by kernel_rfl) rfl rfl trivial ?_
        refine vq 3 (lshi tbv19ok k rfl rfl rfl rfl rfl (fun _ => rfl) rfl (by omega)) rfl (by kernel_rfl) rfl fun w11 => ?_
        refine vcall 4 rfl (by kernel_rfl) (r9_Pair _ _) rfl rfl fun w12 => ?_
        have := pairErr_r c7 (h.take k)
        refine gov tbv19ok [5] 0 rfl (by kernel_rfl) rfl rfl trivial ?_
        refine vdone (by kernel_rfl) ?_
        refine go tbv19ok 7 rfl rfl trivial ?_
        refine cnd rfl (fun h13 => ?_) (fun h13 => ?_)
        · have h14 := not_t h13
          have p15 := df h14
          refine go tbv19ok 12 rfl rfl trivial ?_
          refine rt1 rfl rfl ?_
          refine ple ?_
          unfold headE
          rw [if_neg (by omega), hk2, dropE hc8]
          simp only [headGo]
          rw [if_pos (by omega)]
        · have h16 := not_f h13
          have p17 := dt h16
          refine go tbv19ok 7 rfl rfl ⟨(by omega), trivial⟩ ?_
          refine next (k + 1) rfl rfl ⟨rfl, trivial⟩ trivial ?_ ?_
          · omega
          · refine ⟨by omega, ?_⟩
            rw [hk2, dropE hc8, takeE hc8]
            simp only [headGo]
            rw [if_neg (by omega)]
      · have p18 := df h5
        refine go tbv19ok 11 rfl rfl trivial ?_
        refine rt1 rfl rfl ?_
        refine ple ?_
        unfold headE
        rw [if_neg (by omega), hk2, List.drop_of_length_le (by omega)]
        rfl
end Go.SW.V
set_option linter.unusedVariables false
set_option maxRecDepth 100000
set_option maxHeartbeats 4000000
namespace Go.SW.V
open Go.SW Go.Proofs
theorem cb27 : Callable Tryz.prog 27 := callable_of Tryz.func27 (by kernel_rfl) (by kernel_rfl)
theorem cb50 : Callable Tryz.prog 50 := callable_of Tryz.func50 (by kernel_rfl) (by kernel_rfl)
def tbv20 : Tb := [(5, ⟨.int .u8, 1, 1, [.int .u8 0]⟩),
  (9, ⟨.str, 1, 16, [.str []]⟩),
  (22, ⟨.int .u64, 1, 8, [.int .u64 0]⟩),
  (44, ⟨.agg [(0, 1), (1, 1), (2, 1)], 3, 40, [.str [], .int .u8 0, .str []]⟩),
  (46, ⟨.agg [(0, 1), (1, 1), (2, 1), (3, 1)], 4, 48, [.str [], .int .u64 0, .int .u64 0, .str []]⟩),
  (47, ⟨.slc 139, 1, 24, [.sl Pair.pc []]⟩),
  (49, ⟨.agg [(0, 1), (1, 1), (2, 1), (3, 1), (4, 1), (5, 1)], 6, 88, [.str [], .str [], .bool false, .str [], .sl Pair.pc [], .bool false]⟩),
  (51, ⟨.agg [(0, 1), (1, 1), (2, 1), (3, 1), (4, 1), (5, 1), (6, 1)], 7, 96, [.int .u64 0, .str [], .str [], .sl Pair.pc [], .str [], .int .u64 0, .int .u8 0]⟩),
  (53, ⟨.agg [(0, 1), (1, 1), (2, 3), (5, 4), (9, 6), (15, 1), (16, 1), (17, 1), (18, 1), (19, 1), (20, 1), (21, 7), (28, 1)], 29, 344, [.int .u8 0, .int .u64 0, .str [], .int .u8 0, .str [], .str [], .int .u64 0, .int .u64 0, .str [], .str [], .str [], .bool false, .str [], .sl Pair.pc [], .bool false, .str [], .int .u64 0, .int .u8 0, .int .u8 0, .int .u8 0, .int .u64 0, .int .u64 0, .str [], .str [], .sl Pair.pc [], .str [], .int .u64 0, .int .u8 0, .str []]⟩),
  (60, ⟨.agg [(0, 1), (1, 1), (2, 1), (3, 1), (4, 1), (5, 1)], 6, 88, [.str [], .str [], .bool false, .str [], .sl Pair.pc [], .bool false]⟩),
  (62, ⟨.agg [(0, 1), (1, 1), (2, 3), (5, 4), (9, 6), (15, 1), (16, 1), (17, 1), (18, 1), (19, 1), (20, 1), (21, 7), (28, 1)], 29, 344, [.int .u8 0, .int .u64 0, .str [], .int .u8 0, .str [], .str [], .int .u64 0, .int .u64 0, .str [], .str [], .str [], .bool false, .str [], .sl Pair.pc [], .bool false, .str [], .int .u64 0, .int .u8 0, .int .u8 0, .int .u8 0, .int .u64 0, .int .u64 0, .str [], .str [], .sl Pair.pc [], .str [], .int .u64 0, .int .u8 0, .str []]⟩),
  (139, ⟨.agg [(0, 1), (1, 1), (2, 1), (3, 1)], 4, 48, [.str [], .int .u8 0, .int .i64 0, .str []]⟩)]
theorem tbv20ok : tbB Tryz.prog tbv20 = true := by kernel_rfl
theorem l09_Light (h : List Pair) : Fn Tryz.prog gb 50 [.sl Pair.pc h] (.bool (lightH h)) := by
  refine fn_cw tbv20ok Tryz.func50 rfl Tryz.ntmps50 rfl cb50 rfl rfl fun w N H hG => ?_
  have h_l : h.length ≤ 140737488355328 := w.1.1
  refine go tbv20ok 13 rfl rfl trivial ?_
  refine cnd rfl (fun h1 => ?_) (fun h1 => ?_)
  · have p2 := dt h1
    refine go tbv20ok 7 rfl rfl trivial ?_
    refine rt1 rfl rfl ?_
    refine ple ?_
    exact congrArg PV.bool (by simp [lightH]; omega)
  · have p3 := df h1
    refine go tbv20ok 11 rfl rfl trivial ?_
    refine loop (ι := Nat) [0, 5, 6, 7, 8, 9] [] (fun k => [(10, .int .i64 (k : Int))]) (fun k => []) (fun k => k ≤ h.length ∧ h.all lightP = (h.drop k).all lightP) (fun k => h.length - k) 0 ⟨rfl, trivial⟩ trivial ?_ ?_
    · exact ⟨Nat.zero_le _, rfl⟩
    · rintro k hp4
      obtain ⟨hk1, hk2⟩ := hp4
      refine go tbv20ok 6 rfl rfl trivial ?_
      refine cnd rfl (fun h5 => ?_) (fun h5 => ?_)
      · have p6 := dt h5
        obtain ⟨c7, hc8⟩ := getE (xs := h) (m := k) (by omega)
        have c7_w := Pair.pwf (w.1.2 c7 (List.mem_of_getElem? hc8))
        refine go tbv20ok 6 rfl rfl trivial ?_
        refine q1 (qidx tbv20ok k rfl rfl rfl hc8 rfl rfl rfl rfl) rfl fun w9 => ?_
        refine go tbv20ok 1 rfl rfl trivial ?_
        refine ef (alloc tbv20ok 0 rfl rfl rfl rfl fun b10 => ?_)
        refine ef (storeA tbv20ok rfl rfl rfl rfl rfl rfl rfl rfl rfl rfl ?_)
        refine go tbv20ok 16 rfl rfl ⟨(fun hc => hc), (fun hc => hc), (fun hc => hc), rfl, rfl, trivial⟩ ?_
        refine cnd rfl (fun h11 => ?_) (fun h11 => ?_)
        · refine go tbv20ok 11 rfl rfl trivial ?_
          refine rt1 rfl rfl ?_
          refine ple ?_
          exact congrArg PV.bool (by unfold lightH; rw [all_miss hk2 (dropE hc8) (by simp [lightP]; first | omega | grind)]; simp)
        · have h12 := orl h11
          have p13 := df h12
          have h14 := orr h11
          have p15 := df h14
          refine go tbv20ok 7 rfl rfl ⟨(by omega), trivial⟩ ?_
          refine next (k + 1) rfl rfl ⟨rfl, trivial⟩ trivial ?_ ?_
          · omega
          · exact ⟨by omega, all_step hk2 (dropE hc8) (by simp [lightP]; omega)⟩
      · have p16 := df h5
        refine go tbv20ok 11 rfl rfl trivial ?_
        refine rt1 rfl rfl ?_
        refine ple ?_
        exact congrArg PV.bool (by unfold lightH; rw [all_end hk2 (by omega)]; simp; omega)
theorem l13_Light (m : Mail) : Fn Tryz.prog gb 27 [.agg (Mail.pc m)] (.bool (lightMl m)) := by
  refine fn_cw tbv20ok Tryz.func27 rfl Tryz.ntmps27 rfl cb27 rfl rfl fun w N H hG => ?_
  have m_w := Mail.pwf w.1
  have m_w' := m_w
  simp only [Mail.wf] at m_w'
  have m_head_k := Mail.kd3 w.1
  have m_head_k2 : m.head.length ≤ 140737488355328 := w.1.2.2.2.1.1
  refine go tbv20ok 2 rfl rfl trivial ?_
  refine ef (boxA 0 rfl rfl rfl fun b1 => ?_)
  refine go tbv20ok 18 rfl rfl ⟨(fun hc => hc), (fun hc => hc), (fun hc => hc), rfl, rfl, (fun hc => hc), trivial⟩ ?_
  refine callg rfl (fun hc => (l09_Light _)) rfl ⟨(fun hc => hc), trivial⟩ rfl rfl fun _ => ?_
  refine go tbv20ok 11 rfl rfl ⟨rfl, rfl, (fun hc => hc), (fun hc => hc), (fun hc => hc), rfl, rfl, trivial⟩ ?_
  refine rt1 rfl rfl ?_
  refine ple ?_
  refine congrArg PV.bool ?_
  unfold lightMl
  first | (simp only [*, Bool.and_true, Bool.true_and, Bool.false_and, Bool.and_false, decide_true, decide_false]; done) | (rw [Bool.eq_iff_iff]; simp [and_assoc]; done) | (rw [Bool.eq_iff_iff]; simp; grind)
end Go.SW.V
set_option linter.unusedVariables false
set_option maxRecDepth 100000
set_option maxHeartbeats 4000000
namespace Go.SW.V
open Go.SW Go.Proofs
theorem cb28 : Callable Tryz.prog 28 := callable_of Tryz.func28 (by kernel_rfl) (by kernel_rfl)
def tbv21 : Tb := [(4, ⟨.bool, 1, 1, [.bool false]⟩),
  (5, ⟨.int .u8, 1, 1, [.int .u8 0]⟩),
  (9, ⟨.str, 1, 16, [.str []]⟩),
  (22, ⟨.int .u64, 1, 8, [.int .u64 0]⟩),
  (47, ⟨.slc 139, 1, 24, [.sl Pair.pc []]⟩),
  (51, ⟨.agg [(0, 1), (1, 1), (2, 1), (3, 1), (4, 1), (5, 1), (6, 1)], 7, 96, [.int .u64 0, .str [], .str [], .sl Pair.pc [], .str [], .int .u64 0, .int .u8 0]⟩),
  (58, ⟨.agg [(0, 1), (1, 1), (2, 1)], 3, 40, [.str [], .int .u8 0, .str []]⟩),
  (59, ⟨.agg [(0, 1), (1, 1), (2, 1), (3, 1)], 4, 48, [.str [], .int .u64 0, .int .u64 0, .str []]⟩),
  (60, ⟨.agg [(0, 1), (1, 1), (2, 1), (3, 1), (4, 1), (5, 1)], 6, 88, [.str [], .str [], .bool false, .str [], .sl Pair.pc [], .bool false]⟩),
  (62, ⟨.agg [(0, 1), (1, 1), (2, 3), (5, 4), (9, 6), (15, 1), (16, 1), (17, 1), (18, 1), (19, 1), (20, 1), (21, 7), (28, 1)], 29, 344, [.int .u8 0, .int .u64 0, .str [], .int .u8 0, .str [], .str [], .int .u64 0, .int .u64 0, .str [], .str [], .str [], .bool false, .str [], .sl Pair.pc [], .bool false, .str [], .int .u64 0, .int .u8 0, .int .u8 0, .int .u8 0, .int .u64 0, .int .u64 0, .str [], .str [], .sl Pair.pc [], .str [], .int .u64 0, .int .u8 0, .str []]⟩)]
theorem tbv21ok : tbB Tryz.prog tbv21 = true := by kernel_rfl
theorem r13_Check (m : Mail) : Fn Tryz.prog gb 28 [.agg (Mail.pc m)] (.int .i64 (mailC m)) := by
  refine fn_cw tbv21ok Tryz.func28 rfl Tryz.ntmps28 rfl cb28 rfl rfl fun w N H hG => ?_
  have m_head_l : m.head.length ≤ 140737488355328 := w.1.2.2.2.1.1
  refine go tbv21ok 2 rfl rfl trivial ?_
  refine ef (boxA 0 rfl rfl rfl fun b1 => ?_)
  refine go tbv21ok 7 rfl rfl trivial ?_
  refine call (r4_Name _) rfl rfl fun w2 => ?_
  refine go tbv21ok 10 rfl rfl trivial ?_
  refine cnd rfl (fun h3 => ?_) (fun h3 => ?_)
  · have p4 := dt h3
    refine go tbv21ok 3 rfl rfl trivial ?_
    refine call (r4_Key _ _) rfl rfl fun w5 => ?_
    refine go tbv21ok 10 rfl rfl trivial ?_
    refine cnd rfl (fun h6 => ?_) (fun h6 => ?_)
    · have p7 := dt h6
      refine go tbv21ok 3 rfl rfl trivial ?_
      refine call (r9_Check _) rfl rfl fun w8 => ?_
      refine go tbv21ok 16 rfl rfl ⟨(fun hc => hc), (fun hc => hc), (fun hc => hc), rfl, rfl, trivial⟩ ?_
      refine cnd rfl (fun h9 => ?_) (fun h9 => ?_)
      · have h10 := bl h9
        have p11 := dt h10
        have h12 := br h9
        have p13 := dt h12
        refine go tbv21ok 16 rfl rfl ⟨(fun hc => hc), (fun hc => hc), rfl, rfl, trivial⟩ ?_
        refine cnd rfl (fun h14 => ?_) (fun h14 => ?_)
        · have h15 := bl h14
          have p16 := dt h15
          have h17 := br h14
          have p18 := dt h17
          refine go tbv21ok 11 rfl rfl trivial ?_
          refine rt1 rfl rfl ?_
          refine ple ?_
          have hbo : besidesOf false = [] := rfl
          simp only [hbo] at *
          refine congrArg (PV.int .i64) ?_
          simp only [Bool.or_eq_true, Bool.and_eq_true, Bool.not_eq_true', decide_eq_true_eq, Bool.or_eq_false_iff, Bool.and_eq_false_iff, Bool.not_eq_false', decide_eq_false_iff_not, beq_iff_eq, beq_eq_false_iff_ne] at *
          unfold mailC
          (repeat' split) <;> first | rfl | (exfalso; omega) | (exfalso; simp_all; done) | (exfalso; simp_all; omega) | grind
        · refine go tbv21ok 9 rfl rfl trivial ?_
          refine rt1 rfl rfl ?_
          refine ple ?_
          have hbo : besidesOf false = [] := rfl
          simp only [hbo] at *
          refine congrArg (PV.int .i64) ?_
          simp only [Bool.or_eq_true, Bool.and_eq_true, Bool.not_eq_true', decide_eq_true_eq, Bool.or_eq_false_iff, Bool.and_eq_false_iff, Bool.not_eq_false', decide_eq_false_iff_not, beq_iff_eq, beq_eq_false_iff_ne] at *
          unfold mailC
          (repeat' split) <;> first | rfl | (exfalso; omega) | (exfalso; simp_all; done) | (exfalso; simp_all; omega) | grind
      · refine go tbv21ok 14 rfl rfl ⟨(fun hc => hc), (fun hc => hc), rfl, rfl, trivial⟩ ?_
        refine cnd rfl (fun h19 => ?_) (fun h19 => ?_)
        · have h20 := bl h19
          have p21 := dt h20
          have h22 := br h19
          have p23 := dt h22
          refine go tbv21ok 11 rfl rfl trivial ?_
          refine rt1 rfl rfl ?_
          refine ple ?_
          have hbo : besidesOf false = [] := rfl
          simp only [hbo] at *
          refine congrArg (PV.int .i64) ?_
          simp only [Bool.or_eq_true, Bool.and_eq_true, Bool.not_eq_true', decide_eq_true_eq, Bool.or_eq_false_iff, Bool.and_eq_false_iff, Bool.not_eq_false', decide_eq_false_iff_not, beq_iff_eq, beq_eq_false_iff_ne] at *
          unfold mailC
          (repeat' split) <;> first | rfl | (exfalso; omega) | (exfalso; simp_all; done) | (exfalso; simp_all; omega) | grind
        · refine go tbv21ok 9 rfl rfl trivial ?_
          refine rt1 rfl rfl ?_
          refine ple ?_
          have hbo : besidesOf false = [] := rfl
          simp only [hbo] at *
          refine congrArg (PV.int .i64) ?_
          simp only [Bool.or_eq_true, Bool.and_eq_true, Bool.not_eq_true', decide_eq_true_eq, Bool.or_eq_false_iff, Bool.and_eq_false_iff, Bool.not_eq_false', decide_eq_false_iff_not, beq_iff_eq, beq_eq_false_iff_ne] at *
          unfold mailC
          (repeat' split) <;> first | rfl | (exfalso; omega) | (exfalso; simp_all; done) | (exfalso; simp_all; omega) | grind
    · have p24 := df h6
      refine go tbv21ok 15 rfl rfl ⟨(fun hc => hc), (fun hc => hc), (fun hc => hc), rfl, rfl, trivial⟩ ?_
      refine cnd rfl (fun h25 => ?_) (fun h25 => ?_)
      · have h26 := bl h25
        have p27 := dt h26
        have h28 := br h25
        have p29 := dt h28
        refine go tbv21ok 16 rfl rfl ⟨(fun hc => hc), (fun hc => hc), rfl, rfl, trivial⟩ ?_
        refine cnd rfl (fun h30 => ?_) (fun h30 => ?_)
        · have h31 := bl h30
          have p32 := dt h31
          have h33 := br h30
          have p34 := dt h33
          refine go tbv21ok 11 rfl rfl trivial ?_
          refine rt1 rfl rfl ?_
          refine ple ?_
          have hbo : besidesOf false = [] := rfl
          simp only [hbo] at *
          refine congrArg (PV.int .i64) ?_
          simp only [Bool.or_eq_true, Bool.and_eq_true, Bool.not_eq_true', decide_eq_true_eq, Bool.or_eq_false_iff, Bool.and_eq_false_iff, Bool.not_eq_false', decide_eq_false_iff_not, beq_iff_eq, beq_eq_false_iff_ne] at *
          unfold mailC
          (repeat' split) <;> first | rfl | (exfalso; omega) | (exfalso; simp_all; done) | (exfalso; simp_all; omega) | grind
        · refine go tbv21ok 9 rfl rfl trivial ?_
          refine rt1 rfl rfl ?_
          refine ple ?_
          have hbo : besidesOf false = [] := rfl
          simp only [hbo] at *
          refine congrArg (PV.int .i64) ?_
          simp only [Bool.or_eq_true, Bool.and_eq_true, Bool.not_eq_true', decide_eq_true_eq, Bool.or_eq_false_iff, Bool.and_eq_false_iff, Bool.not_eq_false', decide_eq_false_iff_not, beq_iff_eq, beq_eq_false_iff_ne] at *
          unfold mailC
          (repeat' split) <;> first | rfl | (exfalso; omega) | (exfalso; simp_all; done) | (exfalso; simp_all; omega) | grind
      · refine go tbv21ok 14 rfl rfl ⟨(fun hc => hc), (fun hc => hc), rfl, rfl, trivial⟩ ?_
        refine cnd rfl (fun h35 => ?_) (fun h35 => ?_)
        · have h36 := bl h35
          have p37 := dt h36
          have h38 := br h35
          have p39 := dt h38
          refine go tbv21ok 11 rfl rfl trivial ?_
          refine rt1 rfl rfl ?_
          refine ple ?_
          have hbo : besidesOf false = [] := rfl
          simp only [hbo] at *
          refine congrArg (PV.int .i64) ?_
          simp only [Bool.or_eq_true, Bool.and_eq_true, Bool.not_eq_true', decide_eq_true_eq, Bool.or_eq_false_iff, Bool.and_eq_false_iff, Bool.not_eq_false', decide_eq_false_iff_not, beq_iff_eq, beq_eq_false_iff_ne] at *
          unfold mailC
          (repeat' split) <;> first | rfl | (exfalso; omega) | (exfalso; simp_all; done) | (exfalso; simp_all; omega) | grind
        · refine go tbv21ok 9 rfl rfl trivial ?_
          refine rt1 rfl rfl ?_
          refine ple ?_
          have hbo : besidesOf false = [] := rfl
          simp only [hbo] at *
          refine congrArg (PV.int .i64) ?_
          simp only [Bool.or_eq_true, Bool.and_eq_true, Bool.not_eq_true', decide_eq_true_eq, Bool.or_eq_false_iff, Bool.and_eq_false_iff, Bool.not_eq_false', decide_eq_false_iff_not, beq_iff_eq, beq_eq_false_iff_ne] at *
          unfold mailC
          (repeat' split) <;> first | rfl | (exfalso; omega) | (exfalso; simp_all; done) | (exfalso; simp_all; omega) | grind
  · have p40 := df h3
    refine go tbv21ok 9 rfl rfl trivial ?_
    refine cndF rfl h3 ?_
    refine go tbv21ok 15 rfl rfl ⟨(fun hc => hc), (fun hc => hc), (fun hc => hc), rfl, rfl, trivial⟩ ?_
    refine cnd rfl (fun h41 => ?_) (fun h41 => ?_)
    · have h42 := bl h41
      have p43 := dt h42
      have h44 := br h41
      have p45 := dt h44
      refine go tbv21ok 16 rfl rfl ⟨(fun hc => hc), (fun hc => hc), rfl, rfl, trivial⟩ ?_
      refine cnd rfl (fun h46 => ?_) (fun h46 => ?_)
      · have h47 := bl h46
        have p48 := dt h47
        have h49 := br h46
        have p50 := dt h49
        refine go tbv21ok 11 rfl rfl trivial ?_
        refine rt1 rfl rfl ?_
        refine ple ?_
        have hbo : besidesOf false = [] := rfl
        simp only [hbo] at *
        refine congrArg (PV.int .i64) ?_
        simp only [Bool.or_eq_true, Bool.and_eq_true, Bool.not_eq_true', decide_eq_true_eq, Bool.or_eq_false_iff, Bool.and_eq_false_iff, Bool.not_eq_false', decide_eq_false_iff_not, beq_iff_eq, beq_eq_false_iff_ne] at *
        unfold mailC
        (repeat' split) <;> first | rfl | (exfalso; omega) | (exfalso; simp_all; done) | (exfalso; simp_all; omega) | grind
      · refine go tbv21ok 9 rfl rfl trivial ?_
        refine rt1 rfl rfl ?_
        refine ple ?_
        have hbo : besidesOf false = [] := rfl
        simp only [hbo] at *
        refine congrArg (PV.int .i64) ?_
        simp only [Bool.or_eq_true, Bool.and_eq_true, Bool.not_eq_true', decide_eq_true_eq, Bool.or_eq_false_iff, Bool.and_eq_false_iff, Bool.not_eq_false', decide_eq_false_iff_not, beq_iff_eq, beq_eq_false_iff_ne] at *
        unfold mailC
        (repeat' split) <;> first | rfl | (exfalso; omega) | (exfalso; simp_all; done) | (exfalso; simp_all; omega) | grind
    · refine go tbv21ok 14 rfl rfl ⟨(fun hc => hc), (fun hc => hc), rfl, rfl, trivial⟩ ?_
      refine cnd rfl (fun h51 => ?_) (fun h51 => ?_)
      · have h52 := bl h51
        have p53 := dt h52
        have h54 := br h51
        have p55 := dt h54
        refine go tbv21ok 11 rfl rfl trivial ?_
        refine rt1 rfl rfl ?_
        refine ple ?_
        have hbo : besidesOf false = [] := rfl
        simp only [hbo] at *
        refine congrArg (PV.int .i64) ?_
        simp only [Bool.or_eq_true, Bool.and_eq_true, Bool.not_eq_true', decide_eq_true_eq, Bool.or_eq_false_iff, Bool.and_eq_false_iff, Bool.not_eq_false', decide_eq_false_iff_not, beq_iff_eq, beq_eq_false_iff_ne] at *
        unfold mailC
        (repeat' split) <;> first | rfl | (exfalso; omega) | (exfalso; simp_all; done) | (exfalso; simp_all; omega) | grind
      · refine go tbv21ok 9 rfl rfl trivial ?_
        refine rt1 rfl rfl ?_
        refine ple ?_
        have hbo : besidesOf false = [] := rfl
        simp only [hbo] at *
        refine congrArg (PV.int .i64) ?_
        simp only [Bool.or_eq_true, Bool.and_eq_true, Bool.not_eq_true', decide_eq_true_eq, Bool.or_eq_false_iff, Bool.and_eq_false_iff, Bool.not_eq_false', decide_eq_false_iff_not, beq_iff_eq, beq_eq_false_iff_ne] at *
        unfold mailC
        (repeat' split) <;> first | rfl | (exfalso; omega) | (exfalso; simp_all; done) | (exfalso; simp_all; omega) | grind
end Go.SW.V
set_option linter.unusedVariables false
set_option maxRecDepth 100000
set_option maxHeartbeats 4000000
namespace Go.SW.V
open Go.SW Go.Proofs
theorem cb148 : Callable Tryz.prog 148 := callable_of Tryz.func148 (by kernel_rfl) (by kernel_rfl)
theorem cb152 : Callable Tryz.prog 152 := callable_of Tryz.func152 (by kernel_rfl) (by kernel_rfl)
theorem cb168 : Callable Tryz.prog 168 := callable_of Tryz.func168 (by kernel_rfl) (by kernel_rfl)
theorem cb172 : Callable Tryz.prog 172 := callable_of Tryz.func172 (by kernel_rfl) (by kernel_rfl)
def tbv22 : Tb := [(4, ⟨.bool, 1, 1, [.bool false]⟩),
  (5, ⟨.int .u8, 1, 1, [.int .u8 0]⟩),
  (9, ⟨.str, 1, 16, [.str []]⟩),
  (47, ⟨.slc 139, 1, 24, [.sl Pair.pc []]⟩),
  (139, ⟨.agg [(0, 1), (1, 1), (2, 1), (3, 1)], 4, 48, [.str [], .int .u8 0, .int .i64 0, .str []]⟩),
  (206, ⟨.agg [(0, 1), (1, 1), (2, 1), (3, 1)], 4, 56, [.int .u8 0, .str [], .sl Pair.pc [], .bool false]⟩)]
theorem tbv22ok : tbB Tryz.prog tbv22 = true := by kernel_rfl
theorem rule_Check (r : Rule) : Fn Tryz.prog gb 148 [.agg (Rule.pc r)] (.int .i64 (ruleE r)) := by
  refine fn_cw tbv22ok Tryz.func148 rfl Tryz.ntmps148 rfl cb148 rfl rfl fun w N H hG => ?_
  have r_w := Rule.pwf w.1
  have r_w' := r_w
  simp only [Rule.wf] at r_w'
  have r_want_k := Rule.kd2 w.1
  have r_want_k2 : r.want.length ≤ 140737488355328 := w.1.2.2.1.1
  refine go tbv22ok 2 rfl rfl trivial ?_
  refine ef (boxA 0 rfl rfl rfl fun b1 => ?_)
  refine go tbv22ok 18 rfl rfl trivial ?_
  refine cnd rfl (fun h2 => ?_) (fun h2 => ?_)
  · have p3 := dt h2
    refine go tbv22ok 8 rfl rfl trivial ?_
    refine rt1 rfl rfl ?_
    refine ple ?_
    refine congrArg (PV.int .i64) ?_
    (try simp only [Bool.or_eq_true, Bool.and_eq_true, Bool.not_eq_true', decide_eq_true_eq, Bool.or_eq_false_iff, Bool.and_eq_false_iff, Bool.not_eq_false', decide_eq_false_iff_not, beq_iff_eq, beq_eq_false_iff_ne] at *)
    unfold ruleE
    repeat (first | rw [if_pos (by omega)] | rw [if_neg (by omega)])
    all_goals first | done | rfl | omega
  · have p4 := df h2
    refine go tbv22ok 8 rfl rfl trivial ?_
    refine cnd rfl (fun h5 => ?_) (fun h5 => ?_)
    · have p6 := dt h5
      refine go tbv22ok 3 rfl rfl trivial ?_
      refine call (words_Key _) rfl rfl fun w7 => ?_
      refine go tbv22ok 11 rfl rfl trivial ?_
      refine cnd rfl (fun h8 => ?_) (fun h8 => ?_)
      · have h9 := not_t h8
        have p10 := df h9
        refine go tbv22ok 8 rfl rfl trivial ?_
        refine rt1 rfl rfl ?_
        refine ple ?_
        refine congrArg (PV.int .i64) ?_
        (try simp only [Bool.or_eq_true, Bool.and_eq_true, Bool.not_eq_true', decide_eq_true_eq, Bool.or_eq_false_iff, Bool.and_eq_false_iff, Bool.not_eq_false', decide_eq_false_iff_not, beq_iff_eq, beq_eq_false_iff_ne] at *)
        unfold ruleE
        repeat (first | rw [if_pos (by omega)] | rw [if_neg (by omega)])
        all_goals first | done | rfl | omega
      · have h11 := not_f h8
        have p12 := dt h11
        refine go tbv22ok 6 rfl rfl trivial ?_
        refine call (head_Check _) rfl rfl fun w13 => ?_
        refine go tbv22ok 4 rfl rfl trivial ?_
        refine rt1 rfl rfl ?_
        refine ple ?_
        refine congrArg (PV.int .i64) ?_
        (try simp only [Bool.or_eq_true, Bool.and_eq_true, Bool.not_eq_true', decide_eq_true_eq, Bool.or_eq_false_iff, Bool.and_eq_false_iff, Bool.not_eq_false', decide_eq_false_iff_not, beq_iff_eq, beq_eq_false_iff_ne] at *)
        unfold ruleE
        repeat (first | rw [if_pos (by omega)] | rw [if_neg (by omega)])
        all_goals first | done | rfl | omega
    · have p14 := df h5
      refine go tbv22ok 3 rfl rfl trivial ?_
      refine call (words_Pattern _) rfl rfl fun w15 => ?_
      refine go tbv22ok 11 rfl rfl trivial ?_
      refine cnd rfl (fun h16 => ?_) (fun h16 => ?_)
      · have h17 := not_t h16
        have p18 := df h17
        refine go tbv22ok 8 rfl rfl trivial ?_
        refine rt1 rfl rfl ?_
        refine ple ?_
        refine congrArg (PV.int .i64) ?_
        (try simp only [Bool.or_eq_true, Bool.and_eq_true, Bool.not_eq_true', decide_eq_true_eq, Bool.or_eq_false_iff, Bool.and_eq_false_iff, Bool.not_eq_false', decide_eq_false_iff_not, beq_iff_eq, beq_eq_false_iff_ne] at *)
        unfold ruleE
        repeat (first | rw [if_pos (by omega)] | rw [if_neg (by omega)])
        all_goals first | done | rfl | omega
      · have h19 := not_f h16
        have p20 := dt h19
        refine go tbv22ok 6 rfl rfl trivial ?_
        refine call (head_Check _) rfl rfl fun w21 => ?_
        refine go tbv22ok 4 rfl rfl trivial ?_
        refine rt1 rfl rfl ?_
        refine ple ?_
        refine congrArg (PV.int .i64) ?_
        (try simp only [Bool.or_eq_true, Bool.and_eq_true, Bool.not_eq_true', decide_eq_true_eq, Bool.or_eq_false_iff, Bool.and_eq_false_iff, Bool.not_eq_false', decide_eq_false_iff_not, beq_iff_eq, beq_eq_false_iff_ne] at *)
        unfold ruleE
        repeat (first | rw [if_pos (by omega)] | rw [if_neg (by omega)])
        all_goals first | done | rfl | omega
theorem rule_heads (r : Rule) (h : List Pair) : Fn Tryz.prog gb 168 [.agg (Rule.pc r), .sl Pair.pc h] (.bool (headsGo r.all h r.want)) := by
  refine fn_cw tbv22ok Tryz.func168 rfl Tryz.ntmps168 rfl cb168 rfl rfl fun w N H hG => ?_
  have r_want_l : r.want.length ≤ 140737488355328 := w.1.2.2.1.1
  have h_l : h.length ≤ 140737488355328 := w.2.1.1
  refine go tbv22ok 2 rfl rfl trivial ?_
  refine ef (boxA 0 rfl rfl rfl fun b1 => ?_)
  refine go tbv22ok 17 rfl rfl trivial ?_
  refine loop (ι := Nat) [0, 1, 2, 10, 11, 12] [0] (fun k => [(13, .int .i64 (k : Int))]) (fun k => []) (fun k => k ≤ r.want.length ∧ headsGo r.all h r.want = headsGo r.all h (r.want.drop k)) (fun k => r.want.length - k) 0 ⟨rfl, trivial⟩ trivial ?_ ?_
  · exact ⟨Nat.zero_le _, rfl⟩
  · rintro k hp2
    obtain ⟨hk1, hk2⟩ := hp2
    refine go tbv22ok 6 rfl rfl trivial ?_
    refine cnd rfl (fun h3 => ?_) (fun h3 => ?_)
    · have p4 := dt h3
      obtain ⟨c5, hc6⟩ := getE (xs := r.want) (m := k) (by omega)
      have c5_w := Pair.pwf (w.1.2.2.1.2 c5 (List.mem_of_getElem? hc6))
      refine go tbv22ok 6 rfl rfl trivial ?_
      refine q1 (qidx tbv22ok k rfl rfl rfl hc6 rfl rfl rfl rfl) rfl fun w7 => ?_
      refine go tbv22ok 1 rfl rfl trivial ?_
      refine ef (alloc tbv22ok 1 rfl rfl rfl rfl fun b8 => ?_)
      refine ef (storeA tbv22ok rfl rfl rfl rfl rfl rfl rfl rfl rfl rfl ?_)
      refine go tbv22ok 7 rfl rfl trivial ?_
      refine call (head_Find _ _) rfl rfl fun w9 => ?_
      refine go tbv22ok 3 rfl rfl trivial ?_
      refine ef (alloc tbv22ok 2 rfl rfl rfl rfl fun b10 => ?_)
      refine ef (storeA tbv22ok rfl rfl rfl rfl rfl rfl rfl rfl rfl rfl ?_)
      refine go tbv22ok 9 rfl rfl trivial ?_
      refine q1g [26, 27] rfl (fun hc => saeq rfl rfl eqg139 (veq139 ((findP h c5.key).getD Pair.zero) c5)) ⟨(fun hc => hc), (fun hc => hc), trivial⟩ rfl rfl rfl fun _ => ?_
      refine go tbv22ok 15 rfl rfl ⟨rfl, rfl, (fun hc => hc), rfl, rfl, trivial⟩ ?_
      refine cnd rfl (fun h11 => ?_) (fun h11 => ?_)
      · have h12 := bl h11
        have h13 := bl h12
        have h14 := br h12
        have p15 := dt h14
        have h16 := br h11
        refine go tbv22ok 8 rfl rfl ⟨(by omega), trivial⟩ ?_
        refine next (k + 1) rfl rfl ⟨rfl, trivial⟩ trivial ?_ ?_
        · omega
        · refine ⟨by omega, ?_⟩
          rw [hk2, dropE hc6]
          simp only [headsGo]
          first | (simp only [hasP]; simp [*]; done) | (unfold hasP; simp_all; done) | (unfold hasP; grind)
      · refine go tbv22ok 6 rfl rfl trivial ?_
        refine cnd rfl (fun h17 => ?_) (fun h17 => ?_)
        · have h18 := bl h17
          have h19 := br h17
          have p20 := dt h19
          refine go tbv22ok 13 rfl rfl trivial ?_
          refine rt1 rfl rfl ?_
          refine ple ?_
          refine congrArg PV.bool ?_
          rw [hk2, dropE hc6]
          simp only [headsGo]
          first | (simp only [hasP]; simp [*]; done) | (unfold hasP; simp_all; done) | (unfold hasP; grind)
        · refine go tbv22ok 7 rfl rfl trivial ?_
          refine cnd rfl (fun h21 => ?_) (fun h21 => ?_)
          · refine go tbv22ok 13 rfl rfl trivial ?_
            refine rt1 rfl rfl ?_
            refine ple ?_
            refine congrArg PV.bool ?_
            rw [hk2, dropE hc6]
            simp only [headsGo]
            first | (simp only [hasP]; simp [*]; done) | (unfold hasP; simp_all; done) | (unfold hasP; grind)
          · refine go tbv22ok 8 rfl rfl ⟨(by omega), trivial⟩ ?_
            refine next (k + 1) rfl rfl ⟨rfl, trivial⟩ trivial ?_ ?_
            · omega
            · refine ⟨by omega, ?_⟩
              rw [hk2, dropE hc6]
              simp only [headsGo]
              first | (simp only [hasP]; simp [*]; done) | (unfold hasP; simp_all; done) | (unfold hasP; grind)
    · have p22 := df h3
      refine go tbv22ok 14 rfl rfl trivial ?_
      refine rt1 rfl rfl ?_
      refine ple ?_
      refine congrArg PV.bool ?_
      rw [hk2, List.drop_of_length_le (by omega)]
      rfl
theorem rule_Goes (r : Rule) (key : Bs) (h : List Pair) (hrk : r.key.length < 4294967281) (hk : key.length < 4294967281) : Fn Tryz.prog gb 152 [.agg (Rule.pc r), .str key, .sl Pair.pc h] (.bool (goesR r key h)) := by
  refine fn_cw tbv22ok Tryz.func152 rfl Tryz.ntmps152 rfl cb152 rfl rfl fun w N H hG => ?_
  have r_want_l : r.want.length ≤ 140737488355328 := w.1.2.2.1.1
  have key_l : key.length ≤ 9223372036854775807 := w.2.1
  have h_l : h.length ≤ 140737488355328 := w.2.2.1.1
  refine go tbv22ok 2 rfl rfl trivial ?_
  refine ef (boxA 0 rfl rfl rfl fun b1 => ?_)
  refine go tbv22ok 17 rfl rfl trivial ?_
  refine cnd rfl (fun h2 => ?_) (fun h2 => ?_)
  · have p3 := dt h2
    refine go tbv22ok 12 rfl rfl trivial ?_
    refine rt1 rfl rfl ?_
    refine ple ?_
    refine congrArg PV.bool ?_
    first | (simp [goesR, *]; done) | (simp [goesR, *]; omega)
  · have p4 := df h2
    refine go tbv22ok 6 rfl rfl trivial ?_
    refine cnd rfl (fun h5 => ?_) (fun h5 => ?_)
    · have p6 := dt h5
      refine go tbv22ok 5 rfl rfl trivial ?_
      refine call (words_Matches _ _ (by first | omega | (simp; done) | decide) (by first | omega | (simp; done) | decide)) rfl rfl fun w7 => ?_
      refine go tbv22ok 6 rfl rfl trivial ?_
      refine rt1 rfl rfl ?_
      refine ple ?_
      refine congrArg PV.bool ?_
      first | (simp [goesR, *]; done) | (simp [goesR, *]; omega)
    · have p8 := df h5
      refine go tbv22ok 6 rfl rfl trivial ?_
      refine cnd rfl (fun h9 => ?_) (fun h9 => ?_)
      · have p10 := dt h9
        refine go tbv22ok 4 rfl rfl trivial ?_
        refine call (rule_heads _ _) rfl rfl fun w11 => ?_
        refine go tbv22ok 6 rfl rfl trivial ?_
        refine rt1 rfl rfl ?_
        refine ple ?_
        refine congrArg PV.bool ?_
        first | (simp [goesR, *]; done) | (simp [goesR, *]; omega)
      · have p12 := df h9
        refine go tbv22ok 9 rfl rfl trivial ?_
        refine rt1 rfl rfl ?_
        refine ple ?_
        refine congrArg PV.bool ?_
        first | (simp [goesR, *]; done) | (simp [goesR, *]; omega)
theorem match_Same (a : Rule) (b : Rule) : Fn Tryz.prog gb 172 [.agg (Rule.pc a), .agg (Rule.pc b)] (.bool (decide (a = b))) := by
  refine fn_cw tbv22ok Tryz.func172 rfl Tryz.ntmps172 rfl cb172 rfl rfl fun w N H hG => ?_
  have a_want_l : a.want.length ≤ 140737488355328 := w.1.2.2.1.1
  have b_want_l : b.want.length ≤ 140737488355328 := w.2.1.2.2.1.1
  refine go tbv22ok 2 rfl rfl trivial ?_
  refine ef (boxA 0 rfl rfl rfl fun b1 => ?_)
  refine ef (boxA 1 rfl rfl rfl fun b2 => ?_)
  refine go tbv22ok 29 rfl rfl ⟨(fun hc => hc), (fun hc => hc), (fun hc => hc), (fun hc => hc), rfl, rfl, (fun hc => hc), (fun hc => hc), (fun hc => hc), (fun hc => hc), rfl, rfl, (fun hc => hc), (fun hc => hc), trivial⟩ ?_
  refine callg rfl (fun hc => (eq_Pair _ _)) rfl ⟨(fun hc => hc), (fun hc => hc), trivial⟩ rfl rfl fun _ => ?_
  refine go tbv22ok 5 rfl rfl ⟨rfl, rfl, trivial⟩ ?_
  refine rt1 rfl rfl ?_
  refine ple ?_
  exact congrArg PV.bool (by rw [Bool.eq_iff_iff]; first | (simp [Rule.eq_iff, and_assoc]; done) | (simp [Rule.eq_iff]; grind))
end Go.SW.V
set_option linter.unusedVariables false
set_option maxRecDepth 100000
set_option maxHeartbeats 4000000
namespace Go.SW.V
open Go.SW Go.Proofs
theorem cb138 : Callable Tryz.prog 138 := callable_of Tryz.func138 (by kernel_rfl) (by kernel_rfl)
theorem cb144 : Callable Tryz.prog 144 := callable_of Tryz.func144 (by kernel_rfl) (by kernel_rfl)
theorem cb145 : Callable Tryz.prog 145 := callable_of Tryz.func145 (by kernel_rfl) (by kernel_rfl)
theorem cb169 : Callable Tryz.prog 169 := callable_of Tryz.func169 (by kernel_rfl) (by kernel_rfl)
theorem cb173 : Callable Tryz.prog 173 := callable_of Tryz.func173 (by kernel_rfl) (by kernel_rfl)
def tbv23 : Tb := [(5, ⟨.int .u8, 1, 1, [.int .u8 0]⟩),
  (9, ⟨.str, 1, 16, [.str []]⟩),
  (44, ⟨.agg [(0, 1), (1, 1), (2, 1)], 3, 40, [.str [], .int .u8 0, .str []]⟩),
  (146, ⟨.slc 9, 1, 24, [.sl strc []]⟩),
  (188, ⟨.slc 44, 1, 24, [.sl ShopR.pc []]⟩),
  (191, ⟨.agg [(0, 1), (1, 1)], 2, 48, [.sl ShopR.pc [], .sl BindR.pc []]⟩)]
theorem tbv23ok : tbB Tryz.prog tbv23 = true := by kernel_rfl
theorem eq_Str (a : List Bs) (b : List Bs) : Fn Tryz.prog gb 138 [.sl strc a, .sl strc b] (.bool (decide (a = b))) := by
  refine fn_cw tbv23ok Tryz.func138 rfl Tryz.ntmps138 rfl cb138 rfl rfl fun w N H hG => ?_
  have a_l : a.length ≤ 140737488355328 := w.1.1
  have b_l : b.length ≤ 140737488355328 := w.2.1.1
  refine go tbv23ok 15 rfl rfl trivial ?_
  refine cnd rfl (fun h1 => ?_) (fun h1 => ?_)
  · have h2 := not_t h1
    have p3 := df h2
    refine go tbv23ok 7 rfl rfl trivial ?_
    refine rt1 rfl rfl ?_
    refine ple ?_
    exact congrArg PV.bool (eqL_len (by assumption)).symm
  · have h4 := not_f h1
    have p5 := dt h4
    refine go tbv23ok 11 rfl rfl trivial ?_
    refine loop (ι := Nat) [0, 1, 6, 7, 8, 9, 10, 11, 12] [] (fun k => [(13, .int .i64 (k : Int))]) (fun k => []) (fun k => k ≤ a.length ∧ decide (a = b) = decide (a.drop k = b.drop k)) (fun k => a.length - k) 0 ⟨rfl, trivial⟩ trivial ?_ ?_
    · exact ⟨Nat.zero_le _, rfl⟩
    · rintro k hp6
      obtain ⟨hk1, hk2⟩ := hp6
      refine go tbv23ok 6 rfl rfl trivial ?_
      refine cnd rfl (fun h7 => ?_) (fun h7 => ?_)
      · have p8 := dt h7
        refine go tbv23ok 11 rfl rfl trivial ?_
        refine any [0, 1, 2, 3, 4, 5] 9 mixd rfl ?_
        refine gov tbv23ok [0, 1] 7 rfl (by kernel_rfl) rfl rfl trivial ?_
        obtain ⟨c9, hc10⟩ := getE (xs := a) (m := k) (by omega)
        have c9_l : c9.length ≤ 9223372036854775807 := (w.1.2 c9 (List.mem_of_getElem? hc10)).1
        refine vq 2 (qidx tbv23ok k rfl rfl rfl hc10 rfl rfl rfl rfl) rfl (by kernel_rfl) rfl fun w11 => ?_
        refine gov tbv23ok [3, 4, 5] 3 rfl (by kernel_rfl) rfl rfl trivial ?_
        obtain ⟨c12, hc13⟩ := getE (xs := b) (m := k) (by omega)
        have c12_l : c12.length ≤ 9223372036854775807 := (w.2.1.2 c12 (List.mem_of_getElem? hc13)).1
        refine vq 6 (qidx tbv23ok k rfl rfl rfl hc13 rfl rfl rfl rfl) rfl (by kernel_rfl) rfl fun w14 => ?_
        refine gov tbv23ok [7, 8] 0 rfl (by kernel_rfl) rfl rfl trivial ?_
        refine vdone (by kernel_rfl) ?_
        refine go tbv23ok 1 rfl rfl trivial ?_
        refine cnd rfl (fun h15 => ?_) (fun h15 => ?_)
        · have h16 := not_t h15
          have p17 := df h16
          refine go tbv23ok 11 rfl rfl trivial ?_
          refine rt1 rfl rfl ?_
          refine ple ?_
          exact congrArg PV.bool (eqL_miss hk2 (dropE hc10) (dropE hc13) (by assumption)).symm
        · have h18 := not_f h15
          have p19 := dt h18
          refine go tbv23ok 7 rfl rfl ⟨(by omega), trivial⟩ ?_
          refine next (k + 1) rfl rfl ⟨rfl, trivial⟩ trivial ?_ ?_
          · omega
          · exact ⟨by omega, eqL_step hk2 (dropE hc10) (dropE hc13) (by assumption)⟩
      · have p20 := df h7
        refine go tbv23ok 11 rfl rfl trivial ?_
        refine rt1 rfl rfl ?_
        refine ple ?_
        exact congrArg PV.bool (eqL_end hk2 (by omega) (by omega)).symm
theorem index_Str (l : List Bs) (x : Bs) : Fn Tryz.prog gb 173 [.sl strc l, .str x] (.int .i64 (idxP (fun y => decide (x = y)) l)) := by
  refine fn_cw tbv23ok Tryz.func173 rfl Tryz.ntmps173 rfl cb173 rfl rfl fun w N H hG => ?_
  have l_l : l.length ≤ 140737488355328 := w.1.1
  have x_l : x.length ≤ 9223372036854775807 := w.2.1
  refine go tbv23ok 14 rfl rfl trivial ?_
  refine loop (ι := Nat) [0, 1, 6, 7] [] (fun k => [(8, .int .i64 (k : Int))]) (fun k => []) (fun k => k ≤ l.length ∧ idxP (fun y => decide (x = y)) l = idxF (fun y => decide (x = y)) k (l.drop k)) (fun k => l.length - k) 0 ⟨rfl, trivial⟩ trivial ?_ ?_
  · exact ⟨Nat.zero_le _, rfl⟩
  · rintro k hp1
    obtain ⟨hik1, hik2⟩ := hp1
    refine go tbv23ok 6 rfl rfl trivial ?_
    refine cnd rfl (fun h2 => ?_) (fun h2 => ?_)
    · have p3 := dt h2
      obtain ⟨c4, hc5⟩ := getE (xs := l) (m := k) (by omega)
      have c4_l : c4.length ≤ 9223372036854775807 := (w.1.2 c4 (List.mem_of_getElem? hc5)).1
      refine go tbv23ok 15 rfl rfl trivial ?_
      refine q1 (qidx tbv23ok k rfl rfl rfl hc5 rfl rfl rfl rfl) rfl fun w6 => ?_
      refine go tbv23ok 4 rfl rfl trivial ?_
      refine cnd rfl (fun h7 => ?_) (fun h7 => ?_)
      · have p8 := dt h7
        refine go tbv23ok 12 rfl rfl trivial ?_
        refine rt1 rfl rfl ?_
        refine ple ?_
        exact congrArg (PV.int .i64) (idx_hit hik2 (dropE hc5) (by first | assumption | (simp [*]; done))).symm
      · have p9 := df h7
        refine go tbv23ok 7 rfl rfl ⟨(by omega), trivial⟩ ?_
        refine next (k + 1) rfl rfl ⟨rfl, trivial⟩ trivial ?_ ?_
        · omega
        · exact ⟨by omega, idx_miss hik2 (dropE hc5) (by assumption)⟩
    · have p10 := df h2
      refine go tbv23ok 11 rfl rfl trivial ?_
      refine rt1 rfl rfl ?_
      refine ple ?_
      exact congrArg (PV.int .i64) (idx_end hik2 (by omega)).symm
theorem contains_Str (l : List Bs) (x : Bs) : Fn Tryz.prog gb 169 [.sl strc l, .str x] (.bool (decide (x ∈ l))) := by
  refine fn_cw tbv23ok Tryz.func169 rfl Tryz.ntmps169 rfl cb169 rfl rfl fun w N H hG => ?_
  have l_l : l.length ≤ 140737488355328 := w.1.1
  have x_l : x.length ≤ 9223372036854775807 := w.2.1
  refine go tbv23ok 9 rfl rfl trivial ?_
  refine call (index_Str _ _) rfl rfl fun w1 => ?_
  have := idxP_r (fun y => decide (x = y)) l
  refine go tbv23ok 5 rfl rfl trivial ?_
  refine rt1 rfl rfl ?_
  refine ple ?_
  refine congrArg PV.bool ?_
  rw [Bool.eq_iff_iff, decide_eq_true_eq, decide_eq_true_eq, idxP_any]
  simp
theorem shop_check (x : ShopR) : Fn Tryz.prog gb 144 [.agg (ShopR.pc x)] (.int .i64 (shopE x)) := by
  refine fn_cw tbv23ok Tryz.func144 rfl Tryz.ntmps144 rfl cb144 rfl rfl fun w N H hG => ?_
  refine go tbv23ok 2 rfl rfl trivial ?_
  refine ef (boxA 0 rfl rfl rfl fun b1 => ?_)
  refine go tbv23ok 8 rfl rfl trivial ?_
  refine call (words_Name _) rfl rfl fun w2 => ?_
  refine go tbv23ok 9 rfl rfl trivial ?_
  refine cnd rfl (fun h3 => ?_) (fun h3 => ?_)
  · have h4 := not_t h3
    have p5 := df h4
    refine go tbv23ok 8 rfl rfl trivial ?_
    refine rt1 rfl rfl ?_
    refine ple ?_
    refine congrArg (PV.int .i64) ?_
    simp only [Bool.or_eq_true, Bool.and_eq_true, Bool.not_eq_true', decide_eq_true_eq, Bool.or_eq_false_iff, Bool.and_eq_false_iff, Bool.not_eq_false', decide_eq_false_iff_not, beq_iff_eq, beq_eq_false_iff_ne] at *
    unfold shopE
    (repeat' split) <;> first | rfl | (exfalso; omega) | (exfalso; simp_all; done) | (exfalso; simp_all; omega) | grind
  · have h6 := not_f h3
    have p7 := dt h6
    refine go tbv23ok 12 rfl rfl trivial ?_
    refine cnd rfl (fun h8 => ?_) (fun h8 => ?_)
    · have p9 := dt h8
      refine go tbv23ok 8 rfl rfl trivial ?_
      refine rt1 rfl rfl ?_
      refine ple ?_
      refine congrArg (PV.int .i64) ?_
      simp only [Bool.or_eq_true, Bool.and_eq_true, Bool.not_eq_true', decide_eq_true_eq, Bool.or_eq_false_iff, Bool.and_eq_false_iff, Bool.not_eq_false', decide_eq_false_iff_not, beq_iff_eq, beq_eq_false_iff_ne] at *
      unfold shopE
      (repeat' split) <;> first | rfl | (exfalso; omega) | (exfalso; simp_all; done) | (exfalso; simp_all; omega) | grind
    · have p10 := df h8
      refine go tbv23ok 8 rfl rfl trivial ?_
      refine cnd rfl (fun h11 => ?_) (fun h11 => ?_)
      · have p12 := dt h11
        refine go tbv23ok 4 rfl rfl trivial ?_
        refine call (words_Name _) rfl rfl fun w13 => ?_
        refine go tbv23ok 6 rfl rfl trivial ?_
        refine rt1 rfl rfl ?_
        refine ple ?_
        refine congrArg (PV.int .i64) ?_
        simp only [Bool.or_eq_true, Bool.and_eq_true, Bool.not_eq_true', decide_eq_true_eq, Bool.or_eq_false_iff, Bool.and_eq_false_iff, Bool.not_eq_false', decide_eq_false_iff_not, beq_iff_eq, beq_eq_false_iff_ne] at *
        unfold shopE
        (repeat' split) <;> first | rfl | (exfalso; omega) | (exfalso; simp_all; done) | (exfalso; simp_all; omega) | grind
      · have p14 := df h11
        refine go tbv23ok 8 rfl rfl trivial ?_
        refine cnd rfl (fun h15 => ?_) (fun h15 => ?_)
        · have h16 := not_t h15
          have p17 := df h16
          refine go tbv23ok 8 rfl rfl trivial ?_
          refine rt1 rfl rfl ?_
          refine ple ?_
          refine congrArg (PV.int .i64) ?_
          simp only [Bool.or_eq_true, Bool.and_eq_true, Bool.not_eq_true', decide_eq_true_eq, Bool.or_eq_false_iff, Bool.and_eq_false_iff, Bool.not_eq_false', decide_eq_false_iff_not, beq_iff_eq, beq_eq_false_iff_ne] at *
          unfold shopE
          (repeat' split) <;> first | rfl | (exfalso; omega) | (exfalso; simp_all; done) | (exfalso; simp_all; omega) | grind
        · have h18 := not_f h15
          have p19 := dt h18
          refine go tbv23ok 9 rfl rfl trivial ?_
          refine rt1 rfl rfl ?_
          refine ple ?_
          refine congrArg (PV.int .i64) ?_
          simp only [Bool.or_eq_true, Bool.and_eq_true, Bool.not_eq_true', decide_eq_true_eq, Bool.or_eq_false_iff, Bool.and_eq_false_iff, Bool.not_eq_false', decide_eq_false_iff_not, beq_iff_eq, beq_eq_false_iff_ne] at *
          unfold shopE
          (repeat' split) <;> first | rfl | (exfalso; omega) | (exfalso; simp_all; done) | (exfalso; simp_all; omega) | grind
theorem book_Shop (b : BookR) (name : Bs) : Fn Tryz.prog gb 145 [.agg (BookR.pc b), .str name] (.tup [.agg (ShopR.pc ((shopOf b.shops name).getD ShopR.zero)), .bool ((shopOf b.shops name).isSome)]) := by
  refine fn_cw tbv23ok Tryz.func145 rfl Tryz.ntmps145 rfl cb145 rfl rfl fun w N H hG => ?_
  have b_shops_l : b.shops.length ≤ 140737488355328 := w.1.1.1
  have b_binds_l : b.binds.length ≤ 140737488355328 := w.1.2.1.1
  have name_l : name.length ≤ 9223372036854775807 := w.2.1
  refine go tbv23ok 2 rfl rfl trivial ?_
  refine ef (boxA 0 rfl rfl rfl fun b1 => ?_)
  refine ef (alloc tbv23ok 1 rfl rfl rfl rfl fun b2 => ?_)
  refine go tbv23ok 13 rfl rfl trivial ?_
  refine loop (ι := Nat) [0, 1, 2, 4, 8, 9, 10] [0, 1] (fun k => [(11, .int .i64 (k : Int))]) (fun k => []) (fun k => k ≤ b.shops.length ∧ shopOf b.shops name = shopOf (b.shops.drop k) name) (fun k => b.shops.length - k) 0 ⟨rfl, trivial⟩ trivial ?_ ?_
  · exact ⟨Nat.zero_le _, rfl⟩
  · rintro k hp3
    obtain ⟨hk1, hk2⟩ := hp3
    refine go tbv23ok 6 rfl rfl trivial ?_
    refine cnd rfl (fun h4 => ?_) (fun h4 => ?_)
    · have p5 := dt h4
      obtain ⟨c6, hc7⟩ := getE (xs := b.shops) (m := k) (by omega)
      have c6_w := ShopR.pwf (w.1.1.2 c6 (List.mem_of_getElem? hc7))
      refine go tbv23ok 6 rfl rfl trivial ?_
      refine q1 (qidx tbv23ok k rfl rfl rfl hc7 rfl rfl rfl rfl) rfl fun w8 => ?_
      refine go tbv23ok 1 rfl rfl trivial ?_
      refine ef (alloc tbv23ok 2 rfl rfl rfl rfl fun b9 => ?_)
      refine ef (storeA tbv23ok rfl rfl rfl rfl rfl rfl rfl rfl rfl rfl ?_)
      refine go tbv23ok 10 rfl rfl trivial ?_
      refine cnd rfl (fun h10 => ?_) (fun h10 => ?_)
      · have p11 := dt h10
        refine go tbv23ok 3 rfl rfl trivial ?_
        refine ef (storeA tbv23ok rfl rfl rfl rfl rfl rfl rfl rfl rfl rfl ?_)
        refine go tbv23ok 9 rfl rfl trivial ?_
        refine rt2 rfl rfl ?_
        refine ple ?_
        have e := shopOf_hit hk2 (dropE hc7) (by assumption)
        rw [e]
        rfl
      · have p12 := df h10
        refine go tbv23ok 7 rfl rfl ⟨(by omega), trivial⟩ ?_
        refine next (k + 1) rfl rfl ⟨rfl, trivial⟩ trivial ?_ ?_
        · (try simp only []); omega
        · exact ⟨by omega, shopOf_miss hk2 (dropE hc7) (by assumption)⟩
    · have p13 := df h4
      refine go tbv23ok 8 rfl rfl trivial ?_
      refine ef (storeA tbv23ok rfl rfl rfl rfl rfl rfl rfl rfl rfl rfl ?_)
      refine go tbv23ok 4 rfl rfl trivial ?_
      refine rt2 rfl rfl ?_
      refine ple ?_
      rw [List.drop_of_length_le (by omega)] at hk2
      rw [hk2]
      rfl
end Go.SW.V
set_option linter.unusedVariables false
set_option maxRecDepth 100000
set_option maxHeartbeats 4000000
namespace Go.SW.V
open Go.SW Go.Proofs
theorem cb147 : Callable Tryz.prog 147 := callable_of Tryz.func147 (by kernel_rfl) (by kernel_rfl)
theorem cb151 : Callable Tryz.prog 151 := callable_of Tryz.func151 (by kernel_rfl) (by kernel_rfl)
theorem cb164 : Callable Tryz.prog 164 := callable_of Tryz.func164 (by kernel_rfl) (by kernel_rfl)
theorem cb165 : Callable Tryz.prog 165 := callable_of Tryz.func165 (by kernel_rfl) (by kernel_rfl)
theorem cb84 : Callable Tryz.prog 84 := callable_of Tryz.func84 (by kernel_rfl) (by kernel_rfl)
def tbv24 : Tb := [(4, ⟨.bool, 1, 1, [.bool false]⟩),
  (9, ⟨.str, 1, 16, [.str []]⟩),
  (47, ⟨.slc 139, 1, 24, [.sl Pair.pc []]⟩),
  (49, ⟨.agg [(0, 1), (1, 1), (2, 1), (3, 1), (4, 1), (5, 1)], 6, 88, [.str [], .str [], .bool false, .str [], .sl Pair.pc [], .bool false]⟩),
  (139, ⟨.agg [(0, 1), (1, 1), (2, 1), (3, 1)], 4, 48, [.str [], .int .u8 0, .int .i64 0, .str []]⟩),
  (189, ⟨.slc 49, 1, 24, [.sl BindR.pc []]⟩),
  (206, ⟨.agg [(0, 1), (1, 1), (2, 1), (3, 1)], 4, 56, [.int .u8 0, .str [], .sl Pair.pc [], .bool false]⟩)]
theorem tbv24ok : tbB Tryz.prog tbv24 = true := by kernel_rfl
theorem bind_rule (x : BindR) (sort : Int) : Fn Tryz.prog gb 147 [.agg (BindR.pc x), .int .u8 sort] (.agg (Rule.pc (bindRule x sort))) := by
  refine fn_cw tbv24ok Tryz.func147 rfl Tryz.ntmps147 rfl cb147 rfl rfl fun w N H hG => ?_
  have x_want_l : x.want.length ≤ 140737488355328 := w.1.2.2.2.2.1.1
  have sort_r : 0 ≤ sort ∧ sort ≤ 255 := w.2.1
  refine go tbv24ok 2 rfl rfl trivial ?_
  refine ef (boxA 0 rfl rfl rfl fun b1 => ?_)
  refine ef (alloc tbv24ok 1 rfl rfl rfl rfl fun b2 => ?_)
  refine go tbv24ok 12 rfl rfl trivial ?_
  refine ef (storeA tbv24ok rfl rfl rfl rfl rfl rfl rfl rfl rfl rfl ?_)
  refine go tbv24ok 3 rfl rfl trivial ?_
  refine rt1 rfl rfl ?_
  refine ple ?_
  rfl
theorem bind_same (x : BindR) (y : BindR) : Fn Tryz.prog gb 165 [.agg (BindR.pc x), .agg (BindR.pc y)] (.bool (decide (x = y))) := by
  refine fn_cw tbv24ok Tryz.func165 rfl Tryz.ntmps165 rfl cb165 rfl rfl fun w N H hG => ?_
  have x_want_l : x.want.length ≤ 140737488355328 := w.1.2.2.2.2.1.1
  have y_want_l : y.want.length ≤ 140737488355328 := w.2.1.2.2.2.2.1.1
  refine go tbv24ok 2 rfl rfl trivial ?_
  refine ef (boxA 0 rfl rfl rfl fun b1 => ?_)
  refine ef (boxA 1 rfl rfl rfl fun b2 => ?_)
  refine go tbv24ok 4 rfl rfl trivial ?_
  refine any [2, 3, 4, 5, 6, 7] 27 mixd rfl ?_
  refine gov tbv24ok [0, 1, 2, 3, 4, 5, 6, 7, 8, 9, 10, 11, 12, 13, 14, 15, 16, 17, 18, 19, 20, 22] 5 rfl (by kernel_rfl) rfl rfl ⟨(fun hc => hc), (fun hc => hc), (fun hc => hc), (fun hc => hc), rfl, rfl, (fun hc => hc), (fun hc => hc), (fun hc => hc), (fun hc => hc), rfl, rfl, trivial⟩ ?_
  refine ve 21 rfl (by kernel_rfl) rfl (ecallg rfl (fun hc => (bind_rule _ _)) rfl ⟨(fun hc => hc), trivial⟩ rfl rfl fun _ => ?_)
  refine ve 23 rfl (by kernel_rfl) rfl (ecallg rfl (fun hc => (bind_rule _ _)) rfl ⟨(fun hc => hc), trivial⟩ rfl rfl fun _ => ?_)
  refine vcallg 24 rfl (by kernel_rfl) rfl (fun hc => (match_Same _ _)) rfl rfl ⟨(fun hc => hc), (fun hc => hc), trivial⟩ rfl fun _ => ?_
  refine gov tbv24ok [25, 26] 0 rfl (by kernel_rfl) rfl rfl ⟨rfl, rfl, trivial⟩ ?_
  refine vdone (by kernel_rfl) ?_
  refine go tbv24ok 2 rfl rfl trivial ?_
  refine rt1 rfl rfl ?_
  refine ple ?_
  exact congrArg PV.bool (by rw [Bool.eq_iff_iff]; first | (simp [BindR.eq_iff, bindRule, and_assoc]; done) | (simp [BindR.eq_iff, bindRule]; grind))
theorem clone_Pair (s : List Pair) (hl : s.length ≤ 1000000) : Fn Tryz.prog gb 84 [.sl Pair.pc s] (.sl Pair.pc s) := by
  refine fn_cw tbv24ok Tryz.func84 rfl Tryz.ntmps84 rfl cb84 rfl rfl fun w N H hG => ?_
  have s_l : s.length ≤ 140737488355328 := w.1.1
  refine go tbv24ok 9 rfl rfl trivial ?_
  refine ef (lnil tbv24ok rfl rfl rfl rfl rfl fun b1 hb2 => ?_)
  refine go tbv24ok 2 rfl rfl trivial ?_
  refine cnd rfl (fun h3 => ?_) (fun h3 => ?_)
  · refine go tbv24ok 7 rfl rfl trivial ?_
    refine rt1 rfl rfl ?_
    refine ple_nilx ?_
    exact hb2 (by assumption)
  · refine go tbv24ok 4 rfl rfl trivial ?_
    refine ef (bsl 0 Pair.pc [] tbv24ok rfl rfl rfl rfl rfl (fun _ => rfl) rfl (by decide) (by decide) rfl fun u4 => ?_)
    refine go tbv24ok 1 rfl rfl trivial ?_
    refine ef (app tbv24ok s rfl rfl rfl rfl rfl rfl rfl rfl rfl (src_l rfl (fun _ => rfl)) (by first | omega | (simp; omega)) rfl fun u5 => ?_)
    refine go tbv24ok 3 rfl rfl trivial ?_
    refine givec 0 rfl ?_
    refine go tbv24ok 1 rfl rfl trivial ?_
    refine rt1 rfl rfl ?_
    refine ple ?_
    simp
theorem bind_clone (x : BindR) (hl : x.want.length ≤ 1000000) : Fn Tryz.prog gb 151 [.agg (BindR.pc x)] (.agg (BindR.pc x)) := by
  refine fn_cw tbv24ok Tryz.func151 rfl Tryz.ntmps151 rfl cb151 rfl rfl fun w N H hG => ?_
  have x_want_l : x.want.length ≤ 140737488355328 := w.1.2.2.2.2.1.1
  refine go tbv24ok 2 rfl rfl trivial ?_
  refine ef (boxA 0 rfl rfl rfl fun b1 => ?_)
  refine ef (alloc tbv24ok 1 rfl rfl rfl rfl fun b2 => ?_)
  refine go tbv24ok 6 rfl rfl trivial ?_
  refine call (clone_Pair _ (by first | omega | (simp; done) | (simp; omega))) rfl rfl fun w3 => ?_
  refine go tbv24ok 1 rfl rfl trivial ?_
  refine ef (store1 tbv24ok rfl rfl rfl rfl rfl rfl rfl rfl rfl ?_)
  refine go tbv24ok 5 rfl rfl trivial ?_
  refine ef (storeA tbv24ok rfl rfl rfl rfl rfl rfl rfl rfl rfl rfl ?_)
  refine go tbv24ok 3 rfl rfl trivial ?_
  refine rt1 rfl rfl ?_
  refine ple ?_
  rfl
theorem idxF_Bind (s : List BindR) (f : FuncId) (f_fst f_cap : List PV) (f_p : BindR → Bool) (f_h : ∀ x, Fn Tryz.prog gb f (argsP.apL f_fst ((.agg (BindR.pc x)) :: f_cap)) (.bool (f_p x))) : Fn Tryz.prog gb 164 [.sl BindR.pc s, .fn f f_fst f_cap] (.int .i64 (idxP f_p s)) := by
  refine fn_cw tbv24ok Tryz.func164 rfl Tryz.ntmps164 rfl cb164 rfl rfl fun w N H hG => ?_
  have s_l : s.length ≤ 140737488355328 := w.1.1
  refine go tbv24ok 14 rfl rfl trivial ?_
  refine loop (ι := Nat) [0, 1, 6, 7] [] (fun k => [(8, .int .i64 (k : Int))]) (fun k => []) (fun k => k ≤ s.length ∧ idxP f_p s = idxF f_p k (s.drop k)) (fun k => s.length - k) 0 ⟨rfl, trivial⟩ trivial ?_ ?_
  · exact ⟨Nat.zero_le _, rfl⟩
  · rintro k hp1
    obtain ⟨hk1, hk2⟩ := hp1
    refine go tbv24ok 6 rfl rfl trivial ?_
    refine cnd rfl (fun h2 => ?_) (fun h2 => ?_)
    · have p3 := dt h2
      obtain ⟨c4, hc5⟩ := getE (xs := s) (m := k) (by omega)
      have c4_w := BindR.pwf (w.1.2 c4 (List.mem_of_getElem? hc5))
      refine go tbv24ok 15 rfl rfl trivial ?_
      refine q1 (qidx tbv24ok k rfl rfl rfl hc5 rfl rfl rfl rfl) rfl fun w6 => ?_
      refine go tbv24ok 1 rfl rfl trivial ?_
      refine call (f_h c4) rfl rfl fun w7 => ?_
      refine go tbv24ok 2 rfl rfl trivial ?_
      refine cnd rfl (fun h8 => ?_) (fun h8 => ?_)
      · refine go tbv24ok 12 rfl rfl trivial ?_
        refine rt1 rfl rfl ?_
        refine ple ?_
        exact congrArg (PV.int .i64) (idx_hit hk2 (dropE hc5) (by assumption)).symm
      · refine go tbv24ok 7 rfl rfl ⟨(by omega), trivial⟩ ?_
        refine next (k + 1) rfl rfl ⟨rfl, trivial⟩ trivial ?_ ?_
        · omega
        · exact ⟨by omega, idx_miss hk2 (dropE hc5) (by assumption)⟩
    · have p9 := df h2
      refine go tbv24ok 11 rfl rfl trivial ?_
      refine rt1 rfl rfl ?_
      refine ple ?_
      exact congrArg (PV.int .i64) (idx_end hk2 (by omega)).symm
end Go.SW.V
set_option linter.unusedVariables false
set_option maxRecDepth 100000
set_option maxHeartbeats 4000000
namespace Go.SW.V
open Go.SW Go.Proofs
theorem cb101 : Callable Tryz.prog 101 := callable_of Tryz.func101 (by kernel_rfl) (by kernel_rfl)
theorem cb123 : Callable Tryz.prog 123 := callable_of Tryz.func123 (by kernel_rfl) (by kernel_rfl)
theorem cb132 : Callable Tryz.prog 132 := callable_of Tryz.func132 (by kernel_rfl) (by kernel_rfl)
theorem cb136 : Callable Tryz.prog 136 := callable_of Tryz.func136 (by kernel_rfl) (by kernel_rfl)
theorem cb137 : Callable Tryz.prog 137 := callable_of Tryz.func137 (by kernel_rfl) (by kernel_rfl)
theorem cb143 : Callable Tryz.prog 143 := callable_of Tryz.func143 (by kernel_rfl) (by kernel_rfl)
theorem cb154 : Callable Tryz.prog 154 := callable_of Tryz.func154 (by kernel_rfl) (by kernel_rfl)
theorem cb155 : Callable Tryz.prog 155 := callable_of Tryz.func155 (by kernel_rfl) (by kernel_rfl)
theorem cb161 : Callable Tryz.prog 161 := callable_of Tryz.func161 (by kernel_rfl) (by kernel_rfl)
theorem cb171 : Callable Tryz.prog 171 := callable_of Tryz.func171 (by kernel_rfl) (by kernel_rfl)
def tbv25 : Tb := [(9, ⟨.str, 1, 16, [.str []]⟩),
  (51, ⟨.agg [(0, 1), (1, 1), (2, 1), (3, 1), (4, 1), (5, 1), (6, 1)], 7, 96, [.int .u64 0, .str [], .str [], .sl Pair.pc [], .str [], .int .u64 0, .int .u8 0]⟩),
  (170, ⟨.agg [(0, 1), (1, 1)], 2, 24, [.str [], .int .i64 0]⟩),
  (206, ⟨.agg [(0, 1), (1, 1), (2, 1), (3, 1)], 4, 56, [.int .u8 0, .str [], .sl Pair.pc [], .bool false]⟩)]
theorem tbv25ok : tbB Tryz.prog tbv25 = true := by kernel_rfl
theorem l01_awake : Fn Tryz.prog gb 171 [] (.bool true) := by
  refine fn_cw tbv25ok Tryz.func171 rfl Tryz.ntmps171 rfl cb171 rfl rfl fun w N H hG => ?_
  refine go tbv25ok 8 rfl rfl trivial ?_
  refine call (out_Num (⟨[], 0⟩ : Out) _ _ (by first | omega | (have := hrl (by assumption); omega) | (simp [outNum, outRaw, numB_len, numK] <;> omega) | (have := hrl (by assumption); simp [outNum, outRaw, numB_len, numK] <;> omega))) rfl rfl fun w1 => ?_
  have nl0 : (⟨[], 0⟩ : Out).s.length = 0 := rfl
  have := outNum_len (⟨[], 0⟩ : Out) 258 2
  refine call (out_String _) rfl rfl fun w2 => ?_
  refine go tbv25ok 1 rfl rfl trivial ?_
  refine so_rt (t := 4) (p' := .bool true) (ple (congrArg PV.bool (show decide (((outNum (⟨[], 0⟩ : Out) 258 2).s) = [1, 2]) = true by decide +kernel))) rfl ?_
  refine go tbv25ok 1 rfl rfl trivial ?_
  refine ungd rfl rfl ?_
  refine go tbv25ok 1 rfl rfl trivial ?_
  refine ungd rfl rfl ?_
  refine call (out_Text (⟨[], 0⟩ : Out) _ (by first | omega | (have := hrl (by assumption); omega) | (simp [outNum, outRaw, numB_len, numK] <;> omega) | (have := hrl (by assumption); simp [outNum, outRaw, numB_len, numK] <;> omega))) rfl rfl fun w3 => ?_
  have nl0 : (⟨[], 0⟩ : Out).s.length = 0 := rfl
  have := outText_len (⟨[], 0⟩ : Out) [97, 98]
  refine ungd rfl rfl ?_
  refine call (out_String _) rfl rfl fun w4 => ?_
  refine ungd rfl rfl ?_
  refine go tbv25ok 1 rfl rfl trivial ?_
  refine so_rt (t := 9) (p' := .bool true) (ple (congrArg PV.bool (show decide (((outText (⟨[], 0⟩ : Out) [97, 98]).s) = [0, 2, 97, 98]) = true by decide +kernel))) rfl ?_
  refine go tbv25ok 2 rfl rfl trivial ?_
  refine ungd rfl rfl ?_
  refine ef (ecallb 0 (octet_New _) rfl rfl fun w5 b6 => ?_)
  refine ungd rfl rfl ?_
  refine ef (ecallm (in_Num (⟨[1, 2], 0⟩) _) rfl rfl rfl rfl rfl fun w7 w7p => ?_)
  have := inNum_r (⟨[1, 2], 0⟩) 2
  refine ungd rfl rfl ?_
  refine go tbv25ok 1 rfl rfl trivial ?_
  refine so_rt (t := 14) (p' := .bool true) (ple (congrArg PV.bool (show decide ((((inNum (⟨[1, 2], 0⟩) 2)).1) = 258) = true by decide +kernel))) rfl ?_
  refine go tbv25ok 5 rfl rfl trivial ?_
  refine rt1 rfl rfl ?_
  refine ple ?_
  exact congrArg PV.bool (by first | rfl | decide +kernel)
theorem l01_Awake : Fn Tryz.prog gb 161 [] (.bool true) := by
  refine fn_cw tbv25ok Tryz.func161 rfl Tryz.ntmps161 rfl cb161 rfl rfl fun w N H hG => ?_
  refine go tbv25ok 7 rfl rfl trivial ?_
  refine call l01_awake rfl rfl fun w1 => ?_
  refine go tbv25ok 4 rfl rfl trivial ?_
  refine rt1 rfl rfl ?_
  refine ple ?_
  rfl
theorem l04_awake : Fn Tryz.prog gb 154 [] (.bool true) := by
  refine fn_cw tbv25ok Tryz.func154 rfl Tryz.ntmps154 rfl cb154 rfl rfl fun w N H hG => ?_
  refine go tbv25ok 7 rfl rfl trivial ?_
  refine call (words_Matches _ _ (by first | omega | (simp; done) | decide) (by first | omega | (simp; done) | decide)) rfl rfl fun w1 => ?_
  refine so_rt (t := 1) (p' := .bool true) (ple (congrArg PV.bool (show mt (wordsOf [97, 46, 42, 46, 35]) (wordsOf [97, 46, 98]) = true by decide +kernel))) rfl ?_
  refine go tbv25ok 1 rfl rfl trivial ?_
  refine ungd rfl rfl ?_
  refine call (words_Matches _ _ (by first | omega | (simp; done) | decide) (by first | omega | (simp; done) | decide)) rfl rfl fun w2 => ?_
  refine so_rt (t := 3) (p' := .bool true) (ple (congrArg PV.bool (show mt (wordsOf [97, 46, 42, 46, 35]) (wordsOf [97, 46, 98, 46, 99, 46, 100]) = true by decide +kernel))) rfl ?_
  refine go tbv25ok 2 rfl rfl trivial ?_
  refine ungd rfl rfl ?_
  refine call (words_Matches _ _ (by first | omega | (simp; done) | decide) (by first | omega | (simp; done) | decide)) rfl rfl fun w3 => ?_
  refine so_rt (t := 6) (p' := .bool false) (ple (congrArg PV.bool (show mt (wordsOf [97, 46, 42, 46, 35]) (wordsOf [97]) = false by decide +kernel))) rfl ?_
  refine ungd rfl rfl ?_
  refine go tbv25ok 1 rfl rfl trivial ?_
  refine so_rt (t := 7) (p' := .bool true) (ple (congrArg PV.bool (show !false = true by decide +kernel))) rfl ?_
  refine go tbv25ok 2 rfl rfl trivial ?_
  refine ungd rfl rfl ?_
  refine call (words_Name _) rfl rfl fun w4 => ?_
  refine ungd rfl rfl ?_
  refine go tbv25ok 1 rfl rfl trivial ?_
  refine so_rt (t := 11) (p' := .bool true) (ple (congrArg PV.bool (show decide ((nameE [97, 45, 49]) = 0) = true by decide +kernel))) rfl ?_
  refine go tbv25ok 5 rfl rfl trivial ?_
  refine rt1 rfl rfl ?_
  refine ple ?_
  exact congrArg PV.bool (by first | rfl | decide +kernel)
theorem l04_Awake : Fn Tryz.prog gb 136 [] (.bool true) := by
  refine fn_cw tbv25ok Tryz.func136 rfl Tryz.ntmps136 rfl cb136 rfl rfl fun w N H hG => ?_
  refine go tbv25ok 7 rfl rfl trivial ?_
  refine call l04_awake rfl rfl fun w1 => ?_
  refine go tbv25ok 4 rfl rfl trivial ?_
  refine rt1 rfl rfl ?_
  refine ple ?_
  rfl
theorem l09_awake : Fn Tryz.prog gb 143 [] (.bool true) := by
  refine fn_cw tbv25ok Tryz.func143 rfl Tryz.ntmps143 rfl cb143 rfl rfl fun w N H hG => ?_
  refine go tbv25ok 7 rfl rfl trivial ?_
  refine call (Fn.le (head_Bytes []) (ples_cons ple_nil ples_nil) (ple rfl) rfl) rfl rfl fun w1 => ?_
  have := headBytes_len []
  refine go tbv25ok 9 rfl rfl trivial ?_
  refine call l01_Awake rfl rfl fun w2 => ?_
  refine go tbv25ok 1 rfl rfl trivial ?_
  refine ungd rfl rfl ?_
  refine call l04_Awake rfl rfl fun w3 => ?_
  refine go tbv25ok 2 rfl rfl trivial ?_
  refine ungd rfl rfl ?_
  refine go tbv25ok 1 rfl rfl trivial ?_
  refine ungd rfl rfl ?_
  refine go tbv25ok 1 rfl rfl trivial ?_
  refine so_rt (t := 13) (p' := .bool true) (ple (congrArg PV.bool (show decide ((headE []) = 0) = true by decide +kernel))) rfl ?_
  refine go tbv25ok 2 rfl rfl trivial ?_
  refine ungd rfl rfl ?_
  refine go tbv25ok 1 rfl rfl trivial ?_
  refine ungd rfl rfl ?_
  refine go tbv25ok 1 rfl rfl trivial ?_
  refine so_rt (t := 17) (p' := .bool true) (ple (congrArg PV.bool (show decide ((headBytes []) = [0]) = true by decide +kernel))) rfl ?_
  refine go tbv25ok 5 rfl rfl trivial ?_
  refine rt1 rfl rfl ?_
  refine ple ?_
  exact congrArg PV.bool (by first | rfl | decide +kernel)
theorem l09_Awake : Fn Tryz.prog gb 132 [] (.bool true) := by
  refine fn_cw tbv25ok Tryz.func132 rfl Tryz.ntmps132 rfl cb132 rfl rfl fun w N H hG => ?_
  refine go tbv25ok 7 rfl rfl trivial ?_
  refine call l09_awake rfl rfl fun w1 => ?_
  refine go tbv25ok 4 rfl rfl trivial ?_
  refine rt1 rfl rfl ?_
  refine ple ?_
  rfl
theorem l10_awake : Fn Tryz.prog gb 155 [] (.bool true) := by
  refine fn_cw tbv25ok Tryz.func155 rfl Tryz.ntmps155 rfl cb155 rfl rfl fun w N H hG => ?_
  refine go tbv25ok 8 rfl rfl trivial ?_
  refine ef (alloc tbv25ok 0 rfl rfl rfl rfl fun b1 => ?_)
  refine ef (storeA tbv25ok rfl rfl rfl rfl rfl rfl rfl rfl rfl rfl ?_)
  refine go tbv25ok 4 rfl rfl trivial ?_
  refine call l04_Awake rfl rfl fun w2 => ?_
  refine go tbv25ok 1 rfl rfl trivial ?_
  refine ungd rfl rfl ?_
  refine call l09_Awake rfl rfl fun w3 => ?_
  refine go tbv25ok 2 rfl rfl trivial ?_
  refine ungd rfl rfl ?_
  refine go tbv25ok 1 rfl rfl trivial ?_
  refine ungd rfl rfl ?_
  refine call (rule_Check (⟨2, [97, 46, 35], [], false⟩ : Rule)) rfl rfl fun w4 => ?_
  refine ungd rfl rfl ?_
  refine go tbv25ok 1 rfl rfl trivial ?_
  refine so_rt (t := 10) (p' := .bool true) (ple (congrArg PV.bool (show decide ((ruleE (⟨2, [97, 46, 35], [], false⟩ : Rule)) = 0) = true by decide +kernel))) rfl ?_
  refine go tbv25ok 2 rfl rfl trivial ?_
  refine ungd rfl rfl ?_
  refine go tbv25ok 1 rfl rfl trivial ?_
  refine ungd rfl rfl ?_
  refine call (Fn.le (rule_Goes (⟨2, [97, 46, 35], [], false⟩ : Rule) _ [] (by first | omega | (simp; done) | decide) (by first | omega | (simp; done) | decide)) (ples_cons (ple rfl) (ples_cons (ple rfl) (ples_cons ple_nil ples_nil))) (ple rfl) rfl) rfl rfl fun w5 => ?_
  refine so_rt (t := 14) (p' := .bool true) (ple (congrArg PV.bool (show goesR (⟨2, [97, 46, 35], [], false⟩ : Rule) [97, 46, 98] [] = true by decide +kernel))) rfl ?_
  refine go tbv25ok 2 rfl rfl trivial ?_
  refine ungd rfl rfl ?_
  refine go tbv25ok 1 rfl rfl trivial ?_
  refine ungd rfl rfl ?_
  refine call (Fn.le (rule_Goes (⟨2, [97, 46, 35], [], false⟩ : Rule) _ [] (by first | omega | (simp; done) | decide) (by first | omega | (simp; done) | decide)) (ples_cons (ple rfl) (ples_cons (ple rfl) (ples_cons ple_nil ples_nil))) (ple rfl) rfl) rfl rfl fun w6 => ?_
  refine so_rt (t := 18) (p' := .bool false) (ple (congrArg PV.bool (show goesR (⟨2, [97, 46, 35], [], false⟩ : Rule) [98] [] = false by decide +kernel))) rfl ?_
  refine ungd rfl rfl ?_
  refine go tbv25ok 1 rfl rfl trivial ?_
  refine so_rt (t := 19) (p' := .bool true) (ple (congrArg PV.bool (show !false = true by decide +kernel))) rfl ?_
  refine go tbv25ok 5 rfl rfl trivial ?_
  refine rt1 rfl rfl ?_
  refine ple ?_
  exact congrArg PV.bool (by first | rfl | decide +kernel)
theorem l10_Awake : Fn Tryz.prog gb 137 [] (.bool true) := by
  refine fn_cw tbv25ok Tryz.func137 rfl Tryz.ntmps137 rfl cb137 rfl rfl fun w N H hG => ?_
  refine go tbv25ok 7 rfl rfl trivial ?_
  refine call l10_awake rfl rfl fun w1 => ?_
  refine go tbv25ok 4 rfl rfl trivial ?_
  refine rt1 rfl rfl ?_
  refine ple ?_
  rfl
theorem l13_awake : Fn Tryz.prog gb 123 [] (.bool true) := by
  refine fn_cw tbv25ok Tryz.func123 rfl Tryz.ntmps123 rfl cb123 rfl rfl fun w N H hG => ?_
  refine go tbv25ok 8 rfl rfl trivial ?_
  refine call (mail_Bytes (⟨0, [97], [], [], [], 0, 0⟩ : Mail)) rfl rfl fun w1 => ?_
  have := mailBytes_len (⟨0, [97], [], [], [], 0, 0⟩ : Mail)
  refine go tbv25ok 9 rfl rfl trivial ?_
  refine call l09_Awake rfl rfl fun w2 => ?_
  refine go tbv25ok 1 rfl rfl trivial ?_
  refine ungd rfl rfl ?_
  refine go tbv25ok 1 rfl rfl trivial ?_
  refine ungd rfl rfl ?_
  refine go tbv25ok 1 rfl rfl trivial ?_
  refine so_rt (t := 11) (p' := .bool true) (ple (congrArg PV.bool (show decide ((mailC (⟨0, [97], [], [], [], 0, 0⟩ : Mail)) = 0) = true by decide +kernel))) rfl ?_
  refine go tbv25ok 2 rfl rfl trivial ?_
  refine ungd rfl rfl ?_
  refine go tbv25ok 1 rfl rfl trivial ?_
  refine ungd rfl rfl ?_
  refine go tbv25ok 1 rfl rfl trivial ?_
  refine ungd rfl rfl ?_
  refine go tbv25ok 1 rfl rfl trivial ?_
  refine so_rt (t := 16) (p' := .bool true) (ple (congrArg PV.bool (show decide (((mailBytes (⟨0, [97], [], [], [], 0, 0⟩ : Mail)).length : Int) = 25) = true by decide +kernel))) rfl ?_
  refine go tbv25ok 5 rfl rfl trivial ?_
  refine rt1 rfl rfl ?_
  refine ple ?_
  exact congrArg PV.bool (by first | rfl | decide +kernel)
theorem l13_Awake : Fn Tryz.prog gb 101 [] (.bool true) := by
  refine fn_cw tbv25ok Tryz.func101 rfl Tryz.ntmps101 rfl cb101 rfl rfl fun w N H hG => ?_
  refine go tbv25ok 7 rfl rfl trivial ?_
  refine call l13_awake rfl rfl fun w1 => ?_
  refine go tbv25ok 4 rfl rfl trivial ?_
  refine rt1 rfl rfl ?_
  refine ple ?_
  rfl
end Go.SW.V
set_option linter.unusedVariables false
set_option maxRecDepth 100000
set_option maxHeartbeats 4000000
namespace Go.SW.V
open Go.SW Go.Proofs
theorem cb146 : Callable Tryz.prog 146 := callable_of Tryz.func146 (by kernel_rfl) (by kernel_rfl)
theorem cb150 : Callable Tryz.prog 150 := callable_of Tryz.func150 (by kernel_rfl) (by kernel_rfl)
theorem cb162 : Callable Tryz.prog 162 := callable_of Tryz.func162 (by kernel_rfl) (by kernel_rfl)
theorem cb166 : Callable Tryz.prog 166 := callable_of Tryz.func166 (by kernel_rfl) (by kernel_rfl)
theorem cb42 : Callable Tryz.prog 42 := callable_of Tryz.func42 (by kernel_rfl) (by kernel_rfl)
theorem cb48 : Callable Tryz.prog 48 := callable_of Tryz.func48 (by kernel_rfl) (by kernel_rfl)
theorem cb83 : Callable Tryz.prog 83 := callable_of Tryz.func83 (by kernel_rfl) (by kernel_rfl)
theorem cb91 : Callable Tryz.prog 91 := callable_of Tryz.func91 (by kernel_rfl) (by kernel_rfl)
def tbv40 : Tb := [(3, ⟨.int .i64, 1, 8, [.int .i64 0]⟩),
  (24, ⟨.slc 126, 1, 24, [.sl TakerR.pc []]⟩),
  (25, ⟨.slc 39, 1, 24, [.sl LentR.pc []]⟩),
  (26, ⟨.slc 53, 1, 24, [.sl DeedR.pc []]⟩),
  (39, ⟨.agg [(0, 1), (1, 1)], 2, 24, [.int .u64 0, .str []]⟩),
  (44, ⟨.agg [(0, 1), (1, 1), (2, 1)], 3, 40, [.str [], .int .u8 0, .str []]⟩),
  (49, ⟨.agg [(0, 1), (1, 1), (2, 1), (3, 1), (4, 1), (5, 1)], 6, 88, [.str [], .str [], .bool false, .str [], .sl Pair.pc [], .bool false]⟩),
  (53, ⟨.agg [(0, 1), (1, 1), (2, 3), (5, 4), (9, 6), (15, 1), (16, 1), (17, 1), (18, 1), (19, 1), (20, 1), (21, 7), (28, 1)], 29, 344, [.int .u8 0, .int .u64 0, .str [], .int .u8 0, .str [], .str [], .int .u64 0, .int .u64 0, .str [], .str [], .str [], .bool false, .str [], .sl Pair.pc [], .bool false, .str [], .int .u64 0, .int .u8 0, .int .u8 0, .int .u8 0, .int .u64 0, .int .u64 0, .str [], .str [], .sl Pair.pc [], .str [], .int .u64 0, .int .u8 0, .str []]⟩),
  (126, ⟨.agg [(0, 1), (1, 1)], 2, 24, [.int .u64 0, .str []]⟩),
  (132, ⟨.slc 25, 1, 24, [.sl (slc LentR.pc) []]⟩),
  (135, ⟨.slc 26, 1, 24, [.sl (slc DeedR.pc) []]⟩),
  (166, ⟨.slc 24, 1, 24, [.sl (slc TakerR.pc) []]⟩),
  (188, ⟨.slc 44, 1, 24, [.sl ShopR.pc []]⟩),
  (189, ⟨.slc 49, 1, 24, [.sl BindR.pc []]⟩),
  (217, ⟨.slc 188, 1, 24, [.sl (slc ShopR.pc) []]⟩),
  (221, ⟨.slc 189, 1, 24, [.sl (slc BindR.pc) []]⟩)]
theorem tbv40ok : tbB Tryz.prog tbv40 = true := by kernel_rfl
theorem grow_Deed (n : Int) (hn : 0 ≤ n ∧ n ≤ 1000000) : Fo Tryz.prog gb 83 [.val (.slice none 0 0), .int .i64 n] (fun u => .val u) 29 53 DeedR.pc ([] : List DeedR) := by
  refine fo_cw tbv40ok Tryz.func83 rfl Tryz.ntmps83 rfl cb83 (fun _ => rfl) rfl fun w N H hG => ?_
  have n_r : -9223372036854775808 ≤ n ∧ n ≤ 9223372036854775807 := w.2.1
  refine go tbv40ok 12 rfl rfl trivial ?_
  refine cnd rfl (fun h1 => ?_) (fun h1 => ?_)
  · have p2 := dt h1
    exfalso; omega
  · have p3 := df h1
    refine go tbv40ok 7 rfl rfl trivial ?_
    refine q1 (qcap0 tbv40ok rfl rfl rfl) rfl fun w4 => ?_
    refine go tbv40ok 1 rfl rfl trivial ?_
    refine q1 (qlen0 tbv40ok rfl rfl rfl) rfl fun w5 => ?_
    refine go tbv40ok 11 rfl rfl ⟨(by omega), (by omega), trivial⟩ ?_
    refine cnd rfl (fun h6 => ?_) (fun h6 => ?_)
    · have p7 := dt h6
      refine go tbv40ok 3 rfl rfl trivial ?_
      refine q1 (qcap0 tbv40ok rfl rfl rfl) rfl fun w8 => ?_
      refine q1 (qcut0 tbv40ok rfl rfl rfl rfl rfl (by omega)) rfl fun w9 => ?_
      refine go tbv40ok 1 rfl rfl trivial ?_
      refine ef (appz (m := ((n - (0 - 0))).toNat) 0 tbv40ok rfl rfl rfl rfl rfl rfl rfl rfl rfl rfl (by omega) (by omega) (by (try simp only []); omega) rfl rfl fun u10 => ?_)
      refine go tbv40ok 1 rfl rfl trivial ?_
      refine q1 (qlen0 tbv40ok rfl rfl rfl) rfl fun w11 => ?_
      refine ef (ocut DeedR.pc tbv40ok rfl rfl rfl rfl rfl rfl (by omega) rfl fun u12 => ?_)
      refine go tbv40ok 9 rfl rfl trivial ?_
      refine sw_val (t := 4) (i := 0) rfl rfl ?_
      refine go tbv40ok 1 rfl rfl trivial ?_
      refine ro1 (j := 0) rfl rfl rfl ?_
      rfl
    · have p13 := df h6
      refine go tbv40ok 8 rfl rfl trivial ?_
      refine sw_own (t := 4) (k := 29) (e := 53) 0 DeedR.pc rfl rfl ?_
      refine sw_val (t := 4) (i := 0) rfl rfl ?_
      refine go tbv40ok 1 rfl rfl trivial ?_
      refine ro1 (j := 0) rfl rfl rfl ?_
      rfl
theorem concat_Deed (ls : List (List DeedR)) (hl : ls.flatten.length ≤ 1000000) : Fn Tryz.prog gb 42 [.sl (slc DeedR.pc) ls] (.sl DeedR.pc ls.flatten) := by
  refine fn_cw tbv40ok Tryz.func42 rfl Tryz.ntmps42 rfl cb42 rfl rfl fun w N H hG => ?_
  have ls_l : ls.length ≤ 140737488355328 := w.1.1
  refine go tbv40ok 19 rfl rfl trivial ?_
  refine loop (ι := Nat × Int) [0, 2, 9, 10] [] (fun ⟨k, n⟩ => [(3, .int .i64 n), (11, .int .i64 (k : Int))]) (fun ⟨k, n⟩ => []) (fun ⟨k, n⟩ => k ≤ ls.length ∧ n = ((ls.take k).flatten.length : Int)) (fun ⟨k, n⟩ => ls.length - k) ⟨0, 0⟩ ⟨rfl, rfl, trivial⟩ trivial ?_ ?_
  · exact ⟨Nat.zero_le _, by simp⟩
  · rintro ⟨k, n⟩ hp1
    obtain ⟨hk1, hk2⟩ := hp1
    have hg0 := flat_le ls k
    refine go tbv40ok 6 rfl rfl trivial ?_
    refine cnd rfl (fun h2 => ?_) (fun h2 => ?_)
    · have p3 := dt h2
      obtain ⟨c4, hc5⟩ := getE (xs := ls) (m := k) (by omega)
      refine go tbv40ok 6 rfl rfl trivial ?_
      refine q1 (qidx tbv40ok k rfl rfl rfl hc5 rfl rfl rfl rfl) rfl fun w6 => ?_
      refine go tbv40ok 19 rfl rfl ⟨(by have hg := flat_le ls (k + 1); have hfl := congrArg List.length (flat_step (by assumption : ls[k]? = some _)); simp only [List.length_append] at hfl; omega), trivial⟩ ?_
      refine cnd rfl (fun h7 => ?_) (fun h7 => ?_)
      · have p8 := dt h7
        exfalso; omega
      · have p9 := df h7
        refine go tbv40ok 7 rfl rfl ⟨(by have hg := flat_le ls (k + 1); have hfl := congrArg List.length (flat_step (by assumption : ls[k]? = some _)); simp only [List.length_append] at hfl; omega), trivial⟩ ?_
        refine next ⟨(k + 1), (n + (c4.length : Int))⟩ rfl rfl ⟨rfl, rfl, trivial⟩ trivial ?_ ?_
        · (try simp only []); omega
        · have hf := flat_step hc5
          have hg := flat_le ls (k + 1)
          have hfl := congrArg List.length hf
          simp only [List.length_append] at hfl
          exact ⟨by omega, by (try simp only []); omega⟩
    · have p10 := df h2
      refine go tbv40ok 8 rfl rfl trivial ?_
      refine ef (ecallo 0 (grow_Deed _ (by omega)) rfl rfl fun u12 w11 => ?_)
      refine go tbv40ok 12 rfl rfl trivial ?_
      refine sw_osl (t := 6) 0 rfl rfl ?_
      refine loop (ι := Nat × (List DeedR) × Value) [0, 2, 3, 9, 10, 11, 12, 23, 24, 25, 26] [] (fun ⟨k, out, u_out⟩ => [(6, .osl 0), (27, .int .i64 (k : Int))]) (fun ⟨k, out, u_out⟩ => [(0, .arr u_out 29 53 DeedR.pc out)]) (fun ⟨k, out, u_out⟩ => k ≤ ls.length ∧ out = (ls.take k).flatten) (fun ⟨k, out, u_out⟩ => ls.length - k) ⟨0, ([] : List DeedR), (u12)⟩ ⟨rfl, rfl, trivial⟩ ⟨rfl, trivial⟩ ?_ ?_
      · exact ⟨Nat.zero_le _, by simp⟩
      · rintro ⟨k, out, u_out⟩ hp13
        obtain ⟨hk1, hk2⟩ := hp13
        refine go tbv40ok 6 rfl rfl trivial ?_
        refine cnd rfl (fun h14 => ?_) (fun h14 => ?_)
        · have p15 := dt h14
          obtain ⟨c16, hc17⟩ := getE (xs := ls) (m := k) (by omega)
          refine go tbv40ok 6 rfl rfl trivial ?_
          refine q1 (qidx tbv40ok k rfl rfl rfl hc17 rfl rfl rfl rfl) rfl fun w18 => ?_
          refine go tbv40ok 7 rfl rfl trivial ?_
          refine ef (app tbv40ok c16 rfl rfl rfl rfl rfl rfl rfl rfl rfl (src_l rfl (fun _ => rfl)) (by have hg := flat_le ls (k + 1); have hfl := congrArg List.length (flat_step (by assumption : ls[k]? = some _)); simp only [List.length_append] at hfl; subst hk2; (try simp only []); omega) rfl fun u19 => ?_)
          refine go tbv40ok 8 rfl rfl ⟨(by have hg := flat_le ls (k + 1); have hfl := congrArg List.length (flat_step (by assumption : ls[k]? = some _)); simp only [List.length_append] at hfl; omega), trivial⟩ ?_
          refine next ⟨(k + 1), (out ++ c16), (u19)⟩ rfl rfl ⟨rfl, rfl, trivial⟩ ⟨rfl, trivial⟩ ?_ ?_
          · (try simp only []); omega
          · exact ⟨by omega, by (try simp only []); rw [flat_step hc17, hk2]⟩
        · have p20 := df h14
          refine go tbv40ok 11 rfl rfl trivial ?_
          refine givec 0 rfl ?_
          refine go tbv40ok 1 rfl rfl trivial ?_
          refine rt1 rfl rfl ?_
          refine ple ?_
          rw [hk2, flat_full (by omega)]
theorem idxF_Deed (s : List DeedR) (f : FuncId) (f_fst f_cap : List PV) (f_p : DeedR → Bool) (f_h : ∀ x, Fn Tryz.prog gb f (argsP.apL f_fst ((.agg (DeedR.pc x)) :: f_cap)) (.bool (f_p x))) : Fn Tryz.prog gb 91 [.sl DeedR.pc s, .fn f f_fst f_cap] (.int .i64 (idxP f_p s)) := by
  refine fn_cw tbv40ok Tryz.func91 rfl Tryz.ntmps91 rfl cb91 rfl rfl fun w N H hG => ?_
  have s_l : s.length ≤ 140737488355328 := w.1.1
  refine go tbv40ok 14 rfl rfl trivial ?_
  refine loop (ι := Nat) [0, 1, 6, 7] [] (fun k => [(8, .int .i64 (k : Int))]) (fun k => []) (fun k => k ≤ s.length ∧ idxP f_p s = idxF f_p k (s.drop k)) (fun k => s.length - k) 0 ⟨rfl, trivial⟩ trivial ?_ ?_
  · exact ⟨Nat.zero_le _, rfl⟩
  · rintro k hp1
    obtain ⟨hk1, hk2⟩ := hp1
    refine go tbv40ok 6 rfl rfl trivial ?_
    refine cnd rfl (fun h2 => ?_) (fun h2 => ?_)
    · have p3 := dt h2
      obtain ⟨c4, hc5⟩ := getE (xs := s) (m := k) (by omega)
      have c4_w := DeedR.pwf (w.1.2 c4 (List.mem_of_getElem? hc5))
      refine go tbv40ok 15 rfl rfl trivial ?_
      refine q1 (qidx tbv40ok k rfl rfl rfl hc5 rfl rfl rfl rfl) rfl fun w6 => ?_
      refine go tbv40ok 1 rfl rfl trivial ?_
      refine call (f_h c4) rfl rfl fun w7 => ?_
      refine go tbv40ok 2 rfl rfl trivial ?_
      refine cnd rfl (fun h8 => ?_) (fun h8 => ?_)
      · refine go tbv40ok 12 rfl rfl trivial ?_
        refine rt1 rfl rfl ?_
        refine ple ?_
        exact congrArg (PV.int .i64) (idx_hit hk2 (dropE hc5) (by assumption)).symm
      · refine go tbv40ok 7 rfl rfl ⟨(by omega), trivial⟩ ?_
        refine next (k + 1) rfl rfl ⟨rfl, trivial⟩ trivial ?_ ?_
        · omega
        · exact ⟨by omega, idx_miss hk2 (dropE hc5) (by assumption)⟩
    · have p9 := df h2
      refine go tbv40ok 11 rfl rfl trivial ?_
      refine rt1 rfl rfl ?_
      refine ple ?_
      exact congrArg (PV.int .i64) (idx_end hk2 (by omega)).symm
theorem cF_Deed (s : List DeedR) (f : FuncId) (f_fst f_cap : List PV) (f_p : DeedR → Bool) (f_h : ∀ x, Fn Tryz.prog gb f (argsP.apL f_fst ((.agg (DeedR.pc x)) :: f_cap)) (.bool (f_p x))) : Fn Tryz.prog gb 48 [.sl DeedR.pc s, .fn f f_fst f_cap] (.bool (decide (0 ≤ idxP f_p s))) := by
  refine fn_cw tbv40ok Tryz.func48 rfl Tryz.ntmps48 rfl cb48 rfl rfl fun w N H hG => ?_
  have s_l : s.length ≤ 140737488355328 := w.1.1
  refine go tbv40ok 9 rfl rfl trivial ?_
  refine call (idxF_Deed _ f f_fst f_cap f_p f_h) rfl rfl fun w1 => ?_
  have hix1 := idxP_b f_p s
  refine go tbv40ok 5 rfl rfl trivial ?_
  refine rt1 rfl rfl ?_
  refine ple ?_
  rfl
theorem grow_Shop (n : Int) (hn : 0 ≤ n ∧ n ≤ 1000000) : Fo Tryz.prog gb 162 [.val (.slice none 0 0), .int .i64 n] (fun u => .val u) 3 44 ShopR.pc ([] : List ShopR) := by
  refine fo_cw tbv40ok Tryz.func162 rfl Tryz.ntmps162 rfl cb162 (fun _ => rfl) rfl fun w N H hG => ?_
  have n_r : -9223372036854775808 ≤ n ∧ n ≤ 9223372036854775807 := w.2.1
  refine go tbv40ok 12 rfl rfl trivial ?_
  refine cnd rfl (fun h1 => ?_) (fun h1 => ?_)
  · have p2 := dt h1
    exfalso; omega
  · have p3 := df h1
    refine go tbv40ok 7 rfl rfl trivial ?_
    refine q1 (qcap0 tbv40ok rfl rfl rfl) rfl fun w4 => ?_
    refine go tbv40ok 1 rfl rfl trivial ?_
    refine q1 (qlen0 tbv40ok rfl rfl rfl) rfl fun w5 => ?_
    refine go tbv40ok 11 rfl rfl ⟨(by omega), (by omega), trivial⟩ ?_
    refine cnd rfl (fun h6 => ?_) (fun h6 => ?_)
    · have p7 := dt h6
      refine go tbv40ok 3 rfl rfl trivial ?_
      refine q1 (qcap0 tbv40ok rfl rfl rfl) rfl fun w8 => ?_
      refine q1 (qcut0 tbv40ok rfl rfl rfl rfl rfl (by omega)) rfl fun w9 => ?_
      refine go tbv40ok 1 rfl rfl trivial ?_
      refine ef (appz (m := ((n - (0 - 0))).toNat) 0 tbv40ok rfl rfl rfl rfl rfl rfl rfl rfl rfl rfl (by omega) (by omega) (by (try simp only []); omega) rfl rfl fun u10 => ?_)
      refine go tbv40ok 1 rfl rfl trivial ?_
      refine q1 (qlen0 tbv40ok rfl rfl rfl) rfl fun w11 => ?_
      refine ef (ocut ShopR.pc tbv40ok rfl rfl rfl rfl rfl rfl (by omega) rfl fun u12 => ?_)
      refine go tbv40ok 9 rfl rfl trivial ?_
      refine sw_val (t := 4) (i := 0) rfl rfl ?_
      refine go tbv40ok 1 rfl rfl trivial ?_
      refine ro1 (j := 0) rfl rfl rfl ?_
      rfl
    · have p13 := df h6
      refine go tbv40ok 8 rfl rfl trivial ?_
      refine sw_own (t := 4) (k := 3) (e := 44) 0 ShopR.pc rfl rfl ?_
      refine sw_val (t := 4) (i := 0) rfl rfl ?_
      refine go tbv40ok 1 rfl rfl trivial ?_
      refine ro1 (j := 0) rfl rfl rfl ?_
      rfl
theorem concat_Shop (ls : List (List ShopR)) (hl : ls.flatten.length ≤ 1000000) : Fn Tryz.prog gb 146 [.sl (slc ShopR.pc) ls] (.sl ShopR.pc ls.flatten) := by
  refine fn_cw tbv40ok Tryz.func146 rfl Tryz.ntmps146 rfl cb146 rfl rfl fun w N H hG => ?_
  have ls_l : ls.length ≤ 140737488355328 := w.1.1
  refine go tbv40ok 19 rfl rfl trivial ?_
  refine loop (ι := Nat × Int) [0, 2, 9, 10] [] (fun ⟨k, n⟩ => [(3, .int .i64 n), (11, .int .i64 (k : Int))]) (fun ⟨k, n⟩ => []) (fun ⟨k, n⟩ => k ≤ ls.length ∧ n = ((ls.take k).flatten.length : Int)) (fun ⟨k, n⟩ => ls.length - k) ⟨0, 0⟩ ⟨rfl, rfl, trivial⟩ trivial ?_ ?_
  · exact ⟨Nat.zero_le _, by simp⟩
  · rintro ⟨k, n⟩ hp1
    obtain ⟨hk1, hk2⟩ := hp1
    have hg0 := flat_le ls k
    refine go tbv40ok 6 rfl rfl trivial ?_
    refine cnd rfl (fun h2 => ?_) (fun h2 => ?_)
    · have p3 := dt h2
      obtain ⟨c4, hc5⟩ := getE (xs := ls) (m := k) (by omega)
      refine go tbv40ok 6 rfl rfl trivial ?_
      refine q1 (qidx tbv40ok k rfl rfl rfl hc5 rfl rfl rfl rfl) rfl fun w6 => ?_
      refine go tbv40ok 19 rfl rfl ⟨(by have hg := flat_le ls (k + 1); have hfl := congrArg List.length (flat_step (by assumption : ls[k]? = some _)); simp only [List.length_append] at hfl; omega), trivial⟩ ?_
      refine cnd rfl (fun h7 => ?_) (fun h7 => ?_)
      · have p8 := dt h7
        exfalso; omega
      · have p9 := df h7
        refine go tbv40ok 7 rfl rfl ⟨(by have hg := flat_le ls (k + 1); have hfl := congrArg List.length (flat_step (by assumption : ls[k]? = some _)); simp only [List.length_append] at hfl; omega), trivial⟩ ?_
        refine next ⟨(k + 1), (n + (c4.length : Int))⟩ rfl rfl ⟨rfl, rfl, trivial⟩ trivial ?_ ?_
        · (try simp only []); omega
        · have hf := flat_step hc5
          have hg := flat_le ls (k + 1)
          have hfl := congrArg List.length hf
          simp only [List.length_append] at hfl
          exact ⟨by omega, by (try simp only []); omega⟩
    · have p10 := df h2
      refine go tbv40ok 8 rfl rfl trivial ?_
      refine ef (ecallo 0 (grow_Shop _ (by omega)) rfl rfl fun u12 w11 => ?_)
      refine go tbv40ok 12 rfl rfl trivial ?_
      refine sw_osl (t := 6) 0 rfl rfl ?_
      refine loop (ι := Nat × (List ShopR) × Value) [0, 2, 3, 9, 10, 11, 12, 23, 24, 25, 26] [] (fun ⟨k, out, u_out⟩ => [(6, .osl 0), (27, .int .i64 (k : Int))]) (fun ⟨k, out, u_out⟩ => [(0, .arr u_out 3 44 ShopR.pc out)]) (fun ⟨k, out, u_out⟩ => k ≤ ls.length ∧ out = (ls.take k).flatten) (fun ⟨k, out, u_out⟩ => ls.length - k) ⟨0, ([] : List ShopR), (u12)⟩ ⟨rfl, rfl, trivial⟩ ⟨rfl, trivial⟩ ?_ ?_
      · exact ⟨Nat.zero_le _, by simp⟩
      · rintro ⟨k, out, u_out⟩ hp13
        obtain ⟨hk1, hk2⟩ := hp13
        refine go tbv40ok 6 rfl rfl trivial ?_
        refine cnd rfl (fun h14 => ?_) (fun h14 => ?_)
        · have p15 := dt h14
          obtain ⟨c16, hc17⟩ := getE (xs := ls) (m := k) (by omega)
          refine go tbv40ok 6 rfl rfl trivial ?_
          refine q1 (qidx tbv40ok k rfl rfl rfl hc17 rfl rfl rfl rfl) rfl fun w18 => ?_
          refine go tbv40ok 7 rfl rfl trivial ?_
          refine ef (app tbv40ok c16 rfl rfl rfl rfl rfl rfl rfl rfl rfl (src_l rfl (fun _ => rfl)) (by have hg := flat_le ls (k + 1); have hfl := congrArg List.length (flat_step (by assumption : ls[k]? = some _)); simp only [List.length_append] at hfl; subst hk2; (try simp only []); omega) rfl fun u19 => ?_)
          refine go tbv40ok 8 rfl rfl ⟨(by have hg := flat_le ls (k + 1); have hfl := congrArg List.length (flat_step (by assumption : ls[k]? = some _)); simp only [List.length_append] at hfl; omega), trivial⟩ ?_
          refine next ⟨(k + 1), (out ++ c16), (u19)⟩ rfl rfl ⟨rfl, rfl, trivial⟩ ⟨rfl, trivial⟩ ?_ ?_
          · (try simp only []); omega
          · exact ⟨by omega, by (try simp only []); rw [flat_step hc17, hk2]⟩
        · have p20 := df h14
          refine go tbv40ok 11 rfl rfl trivial ?_
          refine givec 0 rfl ?_
          refine go tbv40ok 1 rfl rfl trivial ?_
          refine rt1 rfl rfl ?_
          refine ple ?_
          rw [hk2, flat_full (by omega)]
theorem grow_Bind (n : Int) (hn : 0 ≤ n ∧ n ≤ 1000000) : Fo Tryz.prog gb 166 [.val (.slice none 0 0), .int .i64 n] (fun u => .val u) 6 49 BindR.pc ([] : List BindR) := by
  refine fo_cw tbv40ok Tryz.func166 rfl Tryz.ntmps166 rfl cb166 (fun _ => rfl) rfl fun w N H hG => ?_
  have n_r : -9223372036854775808 ≤ n ∧ n ≤ 9223372036854775807 := w.2.1
  refine go tbv40ok 12 rfl rfl trivial ?_
  refine cnd rfl (fun h1 => ?_) (fun h1 => ?_)
  · have p2 := dt h1
    exfalso; omega
  · have p3 := df h1
    refine go tbv40ok 7 rfl rfl trivial ?_
    refine q1 (qcap0 tbv40ok rfl rfl rfl) rfl fun w4 => ?_
    refine go tbv40ok 1 rfl rfl trivial ?_
    refine q1 (qlen0 tbv40ok rfl rfl rfl) rfl fun w5 => ?_
    refine go tbv40ok 11 rfl rfl ⟨(by omega), (by omega), trivial⟩ ?_
    refine cnd rfl (fun h6 => ?_) (fun h6 => ?_)
    · have p7 := dt h6
      refine go tbv40ok 3 rfl rfl trivial ?_
      refine q1 (qcap0 tbv40ok rfl rfl rfl) rfl fun w8 => ?_
      refine q1 (qcut0 tbv40ok rfl rfl rfl rfl rfl (by omega)) rfl fun w9 => ?_
      refine go tbv40ok 1 rfl rfl trivial ?_
      refine ef (appz (m := ((n - (0 - 0))).toNat) 0 tbv40ok rfl rfl rfl rfl rfl rfl rfl rfl rfl rfl (by omega) (by omega) (by (try simp only []); omega) rfl rfl fun u10 => ?_)
      refine go tbv40ok 1 rfl rfl trivial ?_
      refine q1 (qlen0 tbv40ok rfl rfl rfl) rfl fun w11 => ?_
      refine ef (ocut BindR.pc tbv40ok rfl rfl rfl rfl rfl rfl (by omega) rfl fun u12 => ?_)
      refine go tbv40ok 9 rfl rfl trivial ?_
      refine sw_val (t := 4) (i := 0) rfl rfl ?_
      refine go tbv40ok 1 rfl rfl trivial ?_
      refine ro1 (j := 0) rfl rfl rfl ?_
      rfl
    · have p13 := df h6
      refine go tbv40ok 8 rfl rfl trivial ?_
      refine sw_own (t := 4) (k := 6) (e := 49) 0 BindR.pc rfl rfl ?_
      refine sw_val (t := 4) (i := 0) rfl rfl ?_
      refine go tbv40ok 1 rfl rfl trivial ?_
      refine ro1 (j := 0) rfl rfl rfl ?_
      rfl
theorem concat_Bind (ls : List (List BindR)) (hl : ls.flatten.length ≤ 1000000) : Fn Tryz.prog gb 150 [.sl (slc BindR.pc) ls] (.sl BindR.pc ls.flatten) := by
  refine fn_cw tbv40ok Tryz.func150 rfl Tryz.ntmps150 rfl cb150 rfl rfl fun w N H hG => ?_
  have ls_l : ls.length ≤ 140737488355328 := w.1.1
  refine go tbv40ok 19 rfl rfl trivial ?_
  refine loop (ι := Nat × Int) [0, 2, 9, 10] [] (fun ⟨k, n⟩ => [(3, .int .i64 n), (11, .int .i64 (k : Int))]) (fun ⟨k, n⟩ => []) (fun ⟨k, n⟩ => k ≤ ls.length ∧ n = ((ls.take k).flatten.length : Int)) (fun ⟨k, n⟩ => ls.length - k) ⟨0, 0⟩ ⟨rfl, rfl, trivial⟩ trivial ?_ ?_
  · exact ⟨Nat.zero_le _, by simp⟩
  · rintro ⟨k, n⟩ hp1
    obtain ⟨hk1, hk2⟩ := hp1
    have hg0 := flat_le ls k
    refine go tbv40ok 6 rfl rfl trivial ?_
    refine cnd rfl (fun h2 => ?_) (fun h2 => ?_)
    · have p3 := dt h2
      obtain ⟨c4, hc5⟩ := getE (xs := ls) (m := k) (by omega)
      refine go tbv40ok 6 rfl rfl trivial ?_
      refine q1 (qidx tbv40ok k rfl rfl rfl hc5 rfl rfl rfl rfl) rfl fun w6 => ?_
      refine go tbv40ok 19 rfl rfl ⟨(by have hg := flat_le ls (k + 1); have hfl := congrArg List.length (flat_step (by assumption : ls[k]? = some _)); simp only [List.length_append] at hfl; omega), trivial⟩ ?_
      refine cnd rfl (fun h7 => ?_) (fun h7 => ?_)
      · have p8 := dt h7
        exfalso; omega
      · have p9 := df h7
        refine go tbv40ok 7 rfl rfl ⟨(by have hg := flat_le ls (k + 1); have hfl := congrArg List.length (flat_step (by assumption : ls[k]? = some _)); simp only [List.length_append] at hfl; omega), trivial⟩ ?_
        refine next ⟨(k + 1), (n + (c4.length : Int))⟩ rfl rfl ⟨rfl, rfl, trivial⟩ trivial ?_ ?_
        · (try simp only []); omega
        · have hf := flat_step hc5
          have hg := flat_le ls (k + 1)
          have hfl := congrArg List.length hf
          simp only [List.length_append] at hfl
          exact ⟨by omega, by (try simp only []); omega⟩
    · have p10 := df h2
      refine go tbv40ok 8 rfl rfl trivial ?_
      refine ef (ecallo 0 (grow_Bind _ (by omega)) rfl rfl fun u12 w11 => ?_)
      refine go tbv40ok 12 rfl rfl trivial ?_
      refine sw_osl (t := 6) 0 rfl rfl ?_
      refine loop (ι := Nat × (List BindR) × Value) [0, 2, 3, 9, 10, 11, 12, 23, 24, 25, 26] [] (fun ⟨k, out, u_out⟩ => [(6, .osl 0), (27, .int .i64 (k : Int))]) (fun ⟨k, out, u_out⟩ => [(0, .arr u_out 6 49 BindR.pc out)]) (fun ⟨k, out, u_out⟩ => k ≤ ls.length ∧ out = (ls.take k).flatten) (fun ⟨k, out, u_out⟩ => ls.length - k) ⟨0, ([] : List BindR), (u12)⟩ ⟨rfl, rfl, trivial⟩ ⟨rfl, trivial⟩ ?_ ?_
      · exact ⟨Nat.zero_le _, by simp⟩
      · rintro ⟨k, out, u_out⟩ hp13
        obtain ⟨hk1, hk2⟩ := hp13
        refine go tbv40ok 6 rfl rfl trivial ?_
        refine cnd rfl (fun h14 => ?_) (fun h14 => ?_)
        · have p15 := dt h14
          obtain ⟨c16, hc17⟩ := getE (xs := ls) (m := k) (by omega)
          refine go tbv40ok 6 rfl rfl trivial ?_
          refine q1 (qidx tbv40ok k rfl rfl rfl hc17 rfl rfl rfl rfl) rfl fun w18 => ?_
          refine go tbv40ok 7 rfl rfl trivial ?_
          refine ef (app tbv40ok c16 rfl rfl rfl rfl rfl rfl rfl rfl rfl (src_l rfl (fun _ => rfl)) (by have hg := flat_le ls (k + 1); have hfl := congrArg List.length (flat_step (by assumption : ls[k]? = some _)); simp only [List.length_append] at hfl; subst hk2; (try simp only []); omega) rfl fun u19 => ?_)
          refine go tbv40ok 8 rfl rfl ⟨(by have hg := flat_le ls (k + 1); have hfl := congrArg List.length (flat_step (by assumption : ls[k]? = some _)); simp only [List.length_append] at hfl; omega), trivial⟩ ?_
          refine next ⟨(k + 1), (out ++ c16), (u19)⟩ rfl rfl ⟨rfl, rfl, trivial⟩ ⟨rfl, trivial⟩ ?_ ?_
          · (try simp only []); omega
          · exact ⟨by omega, by (try simp only []); rw [flat_step hc17, hk2]⟩
        · have p20 := df h14
          refine go tbv40ok 11 rfl rfl trivial ?_
          refine givec 0 rfl ?_
          refine go tbv40ok 1 rfl rfl trivial ?_
          refine rt1 rfl rfl ?_
          refine ple ?_
          rw [hk2, flat_full (by omega)]
end Go.SW.V
set_option linter.unusedVariables false
set_option maxRecDepth 100000
set_option maxHeartbeats 4000000
namespace Go.SW.V
open Go.SW Go.Proofs
theorem cb24 : Callable Tryz.prog 24 := callable_of Tryz.func24 (by kernel_rfl) (by kernel_rfl)
theorem cb25 : Callable Tryz.prog 25 := callable_of Tryz.func25 (by kernel_rfl) (by kernel_rfl)
theorem cb41 : Callable Tryz.prog 41 := callable_of Tryz.func41 (by kernel_rfl) (by kernel_rfl)
theorem cb43 : Callable Tryz.prog 43 := callable_of Tryz.func43 (by kernel_rfl) (by kernel_rfl)
theorem cb49 : Callable Tryz.prog 49 := callable_of Tryz.func49 (by kernel_rfl) (by kernel_rfl)
def tbv41 : Tb := [(3, ⟨.int .i64, 1, 8, [.int .i64 0]⟩),
  (4, ⟨.bool, 1, 1, [.bool false]⟩),
  (5, ⟨.int .u8, 1, 1, [.int .u8 0]⟩),
  (9, ⟨.str, 1, 16, [.str []]⟩),
  (22, ⟨.int .u64, 1, 8, [.int .u64 0]⟩),
  (24, ⟨.slc 126, 1, 24, [.sl TakerR.pc []]⟩),
  (25, ⟨.slc 39, 1, 24, [.sl LentR.pc []]⟩),
  (26, ⟨.slc 53, 1, 24, [.sl DeedR.pc []]⟩),
  (28, ⟨.agg [(0, 1)], 1, 24, [.sl DeedR.pc []]⟩),
  (30, ⟨.agg [(0, 1), (1, 1), (2, 1), (3, 1), (4, 1), (5, 1), (6, 1)], 7, 96, [.int .i64 0, .sl TakerR.pc [], .sl LentR.pc [], .bool false, .bool false, .int .u64 0, .sl DeedR.pc []]⟩),
  (42, ⟨.slc 62, 1, 24, [.sl DeedR.pc []]⟩),
  (47, ⟨.slc 139, 1, 24, [.sl Pair.pc []]⟩),
  (51, ⟨.agg [(0, 1), (1, 1), (2, 1), (3, 1), (4, 1), (5, 1), (6, 1)], 7, 96, [.int .u64 0, .str [], .str [], .sl Pair.pc [], .str [], .int .u64 0, .int .u8 0]⟩),
  (53, ⟨.agg [(0, 1), (1, 1), (2, 3), (5, 4), (9, 6), (15, 1), (16, 1), (17, 1), (18, 1), (19, 1), (20, 1), (21, 7), (28, 1)], 29, 344, [.int .u8 0, .int .u64 0, .str [], .int .u8 0, .str [], .str [], .int .u64 0, .int .u64 0, .str [], .str [], .str [], .bool false, .str [], .sl Pair.pc [], .bool false, .str [], .int .u64 0, .int .u8 0, .int .u8 0, .int .u8 0, .int .u64 0, .int .u64 0, .str [], .str [], .sl Pair.pc [], .str [], .int .u64 0, .int .u8 0, .str []]⟩),
  (62, ⟨.agg [(0, 1), (1, 1), (2, 3), (5, 4), (9, 6), (15, 1), (16, 1), (17, 1), (18, 1), (19, 1), (20, 1), (21, 7), (28, 1)], 29, 344, [.int .u8 0, .int .u64 0, .str [], .int .u8 0, .str [], .str [], .int .u64 0, .int .u64 0, .str [], .str [], .str [], .bool false, .str [], .sl Pair.pc [], .bool false, .str [], .int .u64 0, .int .u8 0, .int .u8 0, .int .u8 0, .int .u64 0, .int .u64 0, .str [], .str [], .sl Pair.pc [], .str [], .int .u64 0, .int .u8 0, .str []]⟩),
  (84, ⟨.slc 127, 1, 24, [.sl TakerR.pc []]⟩),
  (85, ⟨.slc 113, 1, 24, [.sl LentR.pc []]⟩),
  (87, ⟨.agg [(0, 1), (1, 1), (2, 1), (3, 1), (4, 1), (5, 1), (6, 1)], 7, 96, [.int .i64 0, .sl TakerR.pc [], .sl LentR.pc [], .bool false, .bool false, .int .u64 0, .sl DeedR.pc []]⟩),
  (113, ⟨.agg [(0, 1), (1, 1)], 2, 24, [.int .u64 0, .str []]⟩),
  (126, ⟨.agg [(0, 1), (1, 1)], 2, 24, [.int .u64 0, .str []]⟩),
  (127, ⟨.agg [(0, 1), (1, 1)], 2, 24, [.int .u64 0, .str []]⟩)]
theorem tbv41ok : tbB Tryz.prog tbv41 = true := by kernel_rfl
theorem draft_Settles1_ok (d : DeedR) (x1 : Bs) (x2 : Int) : Fn Tryz.prog gb 49 [.agg (DeedR.pc d), .el [.str x1] 0, .el [.int .u64 x2] 0] (.bool (draft_Settles1 d x1 x2)) := by
  refine fn_cw tbv41ok Tryz.func49 rfl Tryz.ntmps49 rfl cb49 rfl rfl fun w N H hG => ?_
  have d_bind_want_l : d.bind.want.length ≤ 140737488355328 := w.1.2.2.2.2.2.2.2.2.2.2.2.2.2.1.1
  have d_mail_head_l : d.mail.head.length ≤ 140737488355328 := w.1.2.2.2.2.2.2.2.2.2.2.2.2.2.2.2.2.2.2.2.2.2.2.2.2.1.1
  have e0 := draft_Settles1.eq_1 d x1 x2
  refine go tbv41ok 2 rfl rfl trivial ?_
  refine ef (boxA 0 rfl rfl rfl fun b1 => ?_)
  refine go tbv41ok 24 rfl rfl ⟨(fun hc => hc), (fun hc => hc), (fun hc => hc), rfl, rfl, (fun hc => hc), (fun hc => hc), (fun hc => hc), rfl, rfl, trivial⟩ ?_
  exact rt1 rfl rfl (ple_of (fun r : Bool => .bool r) e0 (ple rfl))
theorem draft_Draft_Settles_ok (x : DraftR) (name : Bs) (id : Int) : Fn Tryz.prog gb 25 [.agg (DraftR.pc x), .str name, .int .u64 id] (.bool (draft_Draft_Settles x name id)) := by
  refine fn_cw tbv41ok Tryz.func25 rfl Tryz.ntmps25 rfl cb25 rfl rfl fun w N H hG => ?_
  have x_l_l : x.l.length ≤ 140737488355328 := w.1.1.1
  have name_l : name.length ≤ 9223372036854775807 := w.2.1
  have id_r : 0 ≤ id ∧ id ≤ 18446744073709551615 := w.2.2.1
  have e0 := draft_Draft_Settles.eq_1 x name id
  refine go tbv41ok 2 rfl rfl trivial ?_
  refine ef (boxA 0 rfl rfl rfl fun b1 => ?_)
  refine ef (box1 1 rfl rfl rfl fun b2 => ?_)
  refine ef (box1 2 rfl rfl rfl fun b3 => ?_)
  refine go tbv41ok 7 rfl rfl trivial ?_
  refine freeze (i := 1) (t := 4) rfl rfl rfl rfl ?_
  refine freeze (i := 2) (t := 5) rfl rfl rfl rfl ?_
  refine go tbv41ok 1 rfl rfl trivial ?_
  refine call (cF_Deed _ _ _ _ (fun z_4 : DeedR => (draft_Settles1 z_4 name id)) (fun z_4 => draft_Settles1_ok z_4 name id)) rfl rfl fun w5 => ?_
  refine go tbv41ok 4 rfl rfl trivial ?_
  exact rt1 rfl rfl (ple_of (fun r : Bool => .bool r) e0 (ple rfl))
theorem draft_clone_ok (d : DeedR) (hl : d.mail.head.length ≤ 1000000) : Fn Tryz.prog gb 43 [.agg (DeedR.pc d)] (.agg (DeedR.pc (draft_clone d))) := by
  refine fn_cw tbv41ok Tryz.func43 rfl Tryz.ntmps43 rfl cb43 rfl rfl fun w N H hG => ?_
  have d_bind_want_l : d.bind.want.length ≤ 140737488355328 := w.1.2.2.2.2.2.2.2.2.2.2.2.2.2.1.1
  have d_mail_head_l : d.mail.head.length ≤ 140737488355328 := w.1.2.2.2.2.2.2.2.2.2.2.2.2.2.2.2.2.2.2.2.2.2.2.2.2.1.1
  have e0 := draft_clone.eq_1 d
  refine go tbv41ok 2 rfl rfl trivial ?_
  refine ef (boxA 0 rfl rfl rfl fun b1 => ?_)
  refine ef (alloc tbv41ok 1 rfl rfl rfl rfl fun b2 => ?_)
  refine go tbv41ok 7 rfl rfl trivial ?_
  refine call (clone_Pair _ (by first | omega | (simp; done) | (simp; omega))) rfl rfl fun w3 => ?_
  refine go tbv41ok 2 rfl rfl trivial ?_
  refine ef (store1 tbv41ok rfl rfl rfl rfl rfl rfl rfl rfl rfl ?_)
  refine go tbv41ok 5 rfl rfl trivial ?_
  refine ef (storeA tbv41ok rfl rfl rfl rfl rfl rfl rfl rfl rfl rfl ?_)
  refine go tbv41ok 3 rfl rfl trivial ?_
  exact rt1 rfl rfl (ple_of (fun r : DeedR => .agg (DeedR.pc r)) e0 (ple rfl))
theorem draft_Draft_check_ok (x : DraftR) (d : DeedR) : Fn Tryz.prog gb 41 [.agg (DraftR.pc x), .agg (DeedR.pc d)] (.int .i64 (draft_Draft_check x d)) := by
  refine fn_cw tbv41ok Tryz.func41 rfl Tryz.ntmps41 rfl cb41 rfl rfl fun w N H hG => ?_
  have x_l_l : x.l.length ≤ 140737488355328 := w.1.1.1
  have d_bind_want_l : d.bind.want.length ≤ 140737488355328 := w.2.1.2.2.2.2.2.2.2.2.2.2.2.2.2.1.1
  have d_mail_head_l : d.mail.head.length ≤ 140737488355328 := w.2.1.2.2.2.2.2.2.2.2.2.2.2.2.2.2.2.2.2.2.2.2.2.2.2.2.1.1
  have e0 := draft_Draft_check.eq_1 x d
  refine go tbv41ok 2 rfl rfl trivial ?_
  refine ef (boxA 0 rfl rfl rfl fun b1 => ?_)
  refine ef (boxA 1 rfl rfl rfl fun b2 => ?_)
  refine go tbv41ok 4 rfl rfl trivial ?_
  obtain ⟨o, e_o, q_o⟩ := lp0_split e0
  refine joinc (ι := Unit) [2, 3] [0, 1] (fun _ => []) (fun _ => []) (fun _ => o = .fin ()) ?_ ?_
  · refine go tbv41ok 14 rfl rfl trivial ?_
    refine cnd rfl (fun h3 => ?_) (fun h3 => ?_)
    · have p4 := dt h3
      have e5 := e_o.trans (condT h3)
      refine go tbv41ok 2 rfl rfl trivial ?_
      refine cndT rfl h3 ?_
      refine go tbv41ok 2 rfl rfl trivial ?_
      refine next () rfl rfl trivial trivial (by decide) ?_
      exact e5
    · have p6 := df h3
      have e7 := e_o.trans (condF h3)
      refine go tbv41ok 5 rfl rfl trivial ?_
      refine cnd rfl (fun h8 => ?_) (fun h8 => ?_)
      · have p9 := dt h8
        have e10 := e7.trans (condT h8)
        refine go tbv41ok 2 rfl rfl trivial ?_
        refine next () rfl rfl trivial trivial (by decide) ?_
        exact e10
      · have p11 := df h8
        have e12 := e7.trans (condF h8)
        refine go tbv41ok 9 rfl rfl trivial ?_
        have e13 := lp0_ret q_o e12
        exact rt1 rfl rfl (ple_of (fun r : Int => .int .i64 r) e13 (ple rfl))
  · rintro _ hp14
    have e15 := lp0_fin q_o hp14
    refine go tbv41ok 5 rfl rfl trivial ?_
    refine call (deed_Check _) rfl rfl fun w16 => ?_
    have := deedE_r d
    refine go tbv41ok 11 rfl rfl trivial ?_
    refine cnd rfl (fun h17 => ?_) (fun h17 => ?_)
    · have h18 := not_t h17
      have p19 := df h18
      have e20 := e15.trans (condT h17)
      refine go tbv41ok 9 rfl rfl trivial ?_
      exact rt1 rfl rfl (ple_of (fun r : Int => .int .i64 r) e20 (ple rfl))
    · have h21 := not_f h17
      have p22 := dt h21
      have e23 := e15.trans (condF h17)
      refine go tbv41ok 11 rfl rfl ⟨(fun hc => hc), (fun hc => hc), trivial⟩ ?_
      refine callg rfl (fun hc => (draft_Draft_Settles_ok _ _ _)) rfl ⟨(fun hc => hc), (fun hc => hc), (fun hc => hc), trivial⟩ rfl rfl fun _ => ?_
      refine go tbv41ok 4 rfl rfl ⟨rfl, rfl, trivial⟩ ?_
      refine cnd rfl (fun h24 => ?_) (fun h24 => ?_)
      · have h25 := bl h24
        have p26 := dt h25
        have h27 := br h24
        have e28 := e23.trans (condT h24)
        refine go tbv41ok 8 rfl rfl trivial ?_
        exact rt1 rfl rfl (ple_of (fun r : Int => .int .i64 r) e28 (ple rfl))
      · have e29 := e23.trans (condF h24)
        refine go tbv41ok 9 rfl rfl trivial ?_
        refine cnd rfl (fun h30 => ?_) (fun h30 => ?_)
        · have p31 := dt h30
          have e32 := e29.trans (condT h30)
          refine go tbv41ok 8 rfl rfl trivial ?_
          exact rt1 rfl rfl (ple_of (fun r : Int => .int .i64 r) e32 (ple rfl))
        · have p33 := df h30
          have e34 := e29.trans (condF h30)
          refine go tbv41ok 9 rfl rfl trivial ?_
          exact rt1 rfl rfl (ple_of (fun r : Int => .int .i64 r) e34 (ple rfl))
theorem draft_Draft_Len_ok (x : DraftR) : Fn Tryz.prog gb 24 [.agg (DraftR.pc x)] (.int .i64 (draft_Draft_Len x)) := by
  refine fn_cw tbv41ok Tryz.func24 rfl Tryz.ntmps24 rfl cb24 rfl rfl fun w N H hG => ?_
  have x_l_l : x.l.length ≤ 140737488355328 := w.1.1.1
  have e0 := draft_Draft_Len.eq_1 x
  refine go tbv41ok 2 rfl rfl trivial ?_
  refine ef (boxA 0 rfl rfl rfl fun b1 => ?_)
  refine go tbv41ok 12 rfl rfl trivial ?_
  exact rt1 rfl rfl (ple_of (fun r : Int => .int .i64 r) e0 (ple rfl))
end Go.SW.V
set_option linter.unusedVariables false
set_option maxRecDepth 100000
set_option maxHeartbeats 4000000
namespace Go.SW.V
open Go.SW Go.Proofs
theorem cb133 : Callable Tryz.prog 133 := callable_of Tryz.func133 (by kernel_rfl) (by kernel_rfl)
theorem cb149 : Callable Tryz.prog 149 := callable_of Tryz.func149 (by kernel_rfl) (by kernel_rfl)
theorem cb153 : Callable Tryz.prog 153 := callable_of Tryz.func153 (by kernel_rfl) (by kernel_rfl)
def tbv45 : Tb := [(9, ⟨.str, 1, 16, [.str []]⟩),
  (44, ⟨.agg [(0, 1), (1, 1), (2, 1)], 3, 40, [.str [], .int .u8 0, .str []]⟩),
  (49, ⟨.agg [(0, 1), (1, 1), (2, 1), (3, 1), (4, 1), (5, 1)], 6, 88, [.str [], .str [], .bool false, .str [], .sl Pair.pc [], .bool false]⟩),
  (146, ⟨.slc 9, 1, 24, [.sl strc []]⟩),
  (188, ⟨.slc 44, 1, 24, [.sl ShopR.pc []]⟩),
  (189, ⟨.slc 49, 1, 24, [.sl BindR.pc []]⟩),
  (191, ⟨.agg [(0, 1), (1, 1)], 2, 48, [.sl ShopR.pc [], .sl BindR.pc []]⟩),
  (217, ⟨.slc 188, 1, 24, [.sl (slc ShopR.pc) []]⟩)]
theorem tbv45ok : tbB Tryz.prog tbv45 = true := by kernel_rfl
theorem route_put_ok (l : List Bs) (s : Bs) (hl : l.length ≤ 100000) : Fl Tryz.prog gb 153 [.str s] (fun u => .val u) 1 9 strc l (route_put l s) := by
  refine fl_cw tbv45ok Tryz.func153 rfl Tryz.ntmps153 rfl cb153 (fun _ => rfl) rfl fun w l_l u0 N H hG => ?_
  have s_l : s.length ≤ 9223372036854775807 := w.1
  have e0 := route_put.eq_1 l s
  refine go tbv45ok 10 rfl rfl trivial ?_
  refine ef (calll 0 rfl (contains_Str _ _) rfl rfl rfl fun w1 => ?_)
  refine go tbv45ok 2 rfl rfl trivial ?_
  refine cnd rfl (fun h2 => ?_) (fun h2 => ?_)
  · have p3 := dt h2
    have e4 := e0.trans (condT h2)
    refine go tbv45ok 6 rfl rfl trivial ?_
    refine sw_val (t := 4) (i := 0) rfl rfl ?_
    refine go tbv45ok 2 rfl rfl trivial ?_
    refine ro1 (j := 0) rfl rfl rfl ?_
    · exact (congrArg (fun r : (List Bs) => r) e4).symm
  · have p5 := df h2
    have e6 := e0.trans (condF h2)
    refine go tbv45ok 6 rfl rfl trivial ?_
    refine ef (bsl 1 strc [s] tbv45ok rfl rfl rfl rfl rfl (fun _ => rfl) rfl (by decide) (by decide) rfl fun u7 => ?_)
    refine ef (app tbv45ok [s] rfl rfl rfl rfl rfl rfl rfl rfl rfl (src_o rfl rfl) (by first | omega | (simp; omega)) rfl fun u8 => ?_)
    refine go tbv45ok 3 rfl rfl trivial ?_
    refine sw_val (t := 4) (i := 0) rfl rfl ?_
    refine go tbv45ok 1 rfl rfl trivial ?_
    refine ro1 (j := 0) rfl rfl rfl ?_
    · exact (congrArg (fun r : (List Bs) => r) e6).symm
theorem route_Book_Make_ok (b : BookR) (x : ShopR) (hs : b.shops.length ≤ 1000) : Fn Tryz.prog gb 133 [.agg (BookR.pc b), .agg (ShopR.pc x)] (.tup [.agg (BookR.pc ((route_Book_Make b x).1)), .int .i64 ((route_Book_Make b x).2)]) := by
  refine fn_cw tbv45ok Tryz.func133 rfl Tryz.ntmps133 rfl cb133 rfl rfl fun w N H hG => ?_
  have b_shops_l : b.shops.length ≤ 140737488355328 := w.1.1.1
  have b_binds_l : b.binds.length ≤ 140737488355328 := w.1.2.1.1
  have e0 := route_Book_Make.eq_1 b x
  refine go tbv45ok 2 rfl rfl trivial ?_
  refine ef (boxA 0 rfl rfl rfl fun b1 => ?_)
  refine ef (boxA 1 rfl rfl rfl fun b2 => ?_)
  refine ef (alloc tbv45ok 2 rfl rfl rfl rfl fun b3 => ?_)
  refine go tbv45ok 7 rfl rfl trivial ?_
  refine call (shop_check _) rfl rfl fun w4 => ?_
  have := shopE_r x
  refine go tbv45ok 9 rfl rfl trivial ?_
  refine cnd rfl (fun h5 => ?_) (fun h5 => ?_)
  · have h6 := not_t h5
    have p7 := df h6
    have e8 := e0.trans (condT h5)
    refine go tbv45ok 4 rfl rfl trivial ?_
    refine ef (storeA tbv45ok rfl rfl rfl rfl rfl rfl rfl rfl rfl rfl ?_)
    refine go tbv45ok 5 rfl rfl trivial ?_
    exact rt2 rfl rfl (ple_of (fun r : BookR × Int => .tup [.agg (BookR.pc r.1), .int .i64 r.2]) e8 (ple rfl))
  · have h9 := not_f h5
    have p10 := dt h9
    have e11 := e0.trans (condF h5)
    refine go tbv45ok 7 rfl rfl trivial ?_
    refine call (book_Shop _ _) rfl rfl fun w12 => ?_
    refine go tbv45ok 3 rfl rfl trivial ?_
    refine ef (alloc tbv45ok 3 rfl rfl rfl rfl fun b13 => ?_)
    refine ef (storeA tbv45ok rfl rfl rfl rfl rfl rfl rfl rfl rfl rfl ?_)
    refine go tbv45ok 11 rfl rfl trivial ?_
    refine q1g [25, 26] rfl (fun hc => saeq rfl rfl eqg44 (veq44 x ((shopOf b.shops x.name).getD ShopR.zero))) ⟨(fun hc => hc), (fun hc => hc), trivial⟩ rfl rfl rfl fun _ => ?_
    refine go tbv45ok 4 rfl rfl ⟨rfl, rfl, trivial⟩ ?_
    refine cnd rfl (fun h14 => ?_) (fun h14 => ?_)
    · have h15 := bl h14
      have h16 := br h14
      have p17 := dt h16
      have e18 := e11.trans (condT h14)
      refine go tbv45ok 3 rfl rfl trivial ?_
      refine ef (storeA tbv45ok rfl rfl rfl rfl rfl rfl rfl rfl rfl rfl ?_)
      refine go tbv45ok 6 rfl rfl trivial ?_
      exact rt2 rfl rfl (ple_of (fun r : BookR × Int => .tup [.agg (BookR.pc r.1), .int .i64 r.2]) e18 (ple rfl))
    · have e19 := e11.trans (condF h14)
      refine go tbv45ok 6 rfl rfl trivial ?_
      refine cnd rfl (fun h20 => ?_) (fun h20 => ?_)
      · have e21 := e19.trans (condT h20)
        refine go tbv45ok 3 rfl rfl trivial ?_
        refine ef (storeA tbv45ok rfl rfl rfl rfl rfl rfl rfl rfl rfl rfl ?_)
        refine go tbv45ok 6 rfl rfl trivial ?_
        exact rt2 rfl rfl (ple_of (fun r : BookR × Int => .tup [.agg (BookR.pc r.1), .int .i64 r.2]) e21 (ple rfl))
      · have e22 := e19.trans (condF h20)
        refine go tbv45ok 9 rfl rfl trivial ?_
        refine cnd rfl (fun h23 => ?_) (fun h23 => ?_)
        · have p24 := dt h23
          have e25 := e22.trans (condT h23)
          refine go tbv45ok 3 rfl rfl trivial ?_
          refine ef (storeA tbv45ok rfl rfl rfl rfl rfl rfl rfl rfl rfl rfl ?_)
          refine go tbv45ok 6 rfl rfl trivial ?_
          exact rt2 rfl rfl (ple_of (fun r : BookR × Int => .tup [.agg (BookR.pc r.1), .int .i64 r.2]) e25 (ple rfl))
        · have p26 := df h23
          have e27 := e22.trans (condF h23)
          refine go tbv45ok 8 rfl rfl trivial ?_
          refine ef (bsl 4 ShopR.pc [x] tbv45ok rfl rfl rfl rfl rfl (fun _ => rfl) rfl (by decide) (by decide) rfl fun u28 => ?_)
          refine give 4 rfl ?_
          refine ef (bsl 4 (slc ShopR.pc) [b.shops, [x]] tbv45ok rfl rfl rfl rfl rfl (fun _ => rfl) rfl (by decide) (by decide) rfl fun u29 => ?_)
          refine give 4 rfl ?_
          refine call (concat_Shop _ (by first | omega | (simp; done) | (simp; omega) | (simp only [List.flatten_cons, List.flatten_nil, List.length_append, List.append_nil]; simp; omega))) rfl rfl fun w30 => ?_
          refine go tbv45ok 1 rfl rfl trivial ?_
          refine ef (store1 tbv45ok rfl rfl rfl rfl rfl rfl rfl rfl rfl ?_)
          refine go tbv45ok 5 rfl rfl trivial ?_
          refine ef (storeA tbv45ok rfl rfl rfl rfl rfl rfl rfl rfl rfl rfl ?_)
          refine go tbv45ok 4 rfl rfl trivial ?_
          exact rt2 rfl rfl (ple_of (fun r : BookR × Int => .tup [.agg (BookR.pc r.1), .int .i64 r.2]) e27 (ple rfl))
theorem route_Book_there_ok (b : BookR) (x : BindR) : Fn Tryz.prog gb 149 [.agg (BookR.pc b), .agg (BindR.pc x)] (.int .i64 (route_Book_there b x)) := by
  refine fn_cw tbv45ok Tryz.func149 rfl Tryz.ntmps149 rfl cb149 rfl rfl fun w N H hG => ?_
  have b_shops_l : b.shops.length ≤ 140737488355328 := w.1.1.1
  have b_binds_l : b.binds.length ≤ 140737488355328 := w.1.2.1.1
  have x_want_l : x.want.length ≤ 140737488355328 := w.2.1.2.2.2.2.1.1
  have e0 := route_Book_there.eq_1 b x
  refine go tbv45ok 2 rfl rfl trivial ?_
  refine ef (boxA 0 rfl rfl rfl fun b1 => ?_)
  refine ef (boxA 1 rfl rfl rfl fun b2 => ?_)
  refine go tbv45ok 9 rfl rfl trivial ?_
  refine call (idxF_Bind _ _ _ _ (fun z_3 : BindR => decide (x = z_3)) (fun z_3 => bind_same x z_3)) rfl rfl fun w4 => ?_
  have hix4 := idxP_b (fun z_3 : BindR => decide (x = z_3)) b.binds
  refine go tbv45ok 4 rfl rfl trivial ?_
  exact rt1 rfl rfl (ple_of (fun r : Int => .int .i64 r) e0 (ple rfl))
end Go.SW.V
