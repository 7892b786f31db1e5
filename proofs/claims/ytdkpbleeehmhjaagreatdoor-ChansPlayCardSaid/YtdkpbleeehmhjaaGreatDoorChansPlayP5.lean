/-
  A part of the proof of ChansPlay: The walks of this seat, printed by program: stairwellref13.Same, stairwellref14.SameBind, stairwellref22.Same, stairwellref22.names, stairwellref22.maybe, stairwellref22.spare, stairwellref22.checkBind, stairwellref13.Check, stairwellref22.Check. The walks of this seat, printed by program: match.Rule.Check, match.Rule.heads, match.Rule.Goes, match.Same. The walks of this seat, printed by program: slices.Equal[[]string,string], slices.Index[[]string,string], slices.Contains[[]string,string], route.Shop.check, route.Book.Shop. The walks of this seat, printed by program: route.Bind.rule, route.Bind.same, api.Pair], route.Bind.clone, route.Bind]. The walks of this seat, printed by program: stairwelllaw01.awake, stairwelllaw01.Awake, stairwelllaw04.awake, stairwelllaw04.Awake, stairwelllaw09.awake, stairwelllaw09.Awake, stairwelllaw10.awake, stairwelllaw10.Awake, stairwelllaw13.awake, stairwelllaw13.Awake. The walks of this seat, printed by program: deed.Deed], deed.Deed], deed.Deed], deed.Deed], chans.Taker], chans.Taker], chans.Taker], chans.Taker], chans.Lent], chans.Lent], chans.Lent], chans.Lent], route.Shop], route.Shop], route.Bind], route.Bind]. The walks of this seat, printed by program: draft.Draft.Settles$1, draft.Draft.Settles, draft.clone, draft.Draft.check, draft.Draft.Len, stairwellref26.Settles, chans.New, chans.Chan.Credit, chans.Chan.Room, chans.Chan.of$1, chans.Chan.of, chans.Chan.Sure, chans.Chan.Put, chans.Chan.Number, chans.Chan.Draft, chans.Chan.Drafts, chans.Chan.Undo, stairwellref27.New, stairwellref27.Credit, stairwellref27.Room, stairwellref27.Sure, stairwellref27.Put, stairwellref27.Draft, stairwellref27.Undo, stairwellref27.SameTakers, stairwellref27.SameLent. The walks of this seat, printed by program: route.put, route.Book.Make, route.Book.there.
-/
import Derived.Test.YtdkpbleeehmhjaaGreatDoorProg
import Derived.Test.YtdkpbleeehmhjaaGreatDoorChansPlayP3
import Derived.KernelRfl
import Derived.Test.YtdkpbleeehmhjaaGreatDoorChansPlayP4
set_option linter.unusedVariables false
set_option linter.unusedSimpArgs false
set_option linter.unusedVariables false
set_option maxRecDepth 100000
set_option maxHeartbeats 4000000
namespace Go.SW.V
open Go.SW Go.Proofs
theorem cb28 : Callable Tryz.prog 28 := callable_of Tryz.func28 (by kernel_rfl) (by kernel_rfl)
theorem cb44 : Callable Tryz.prog 44 := callable_of Tryz.func44 (by kernel_rfl) (by kernel_rfl)
theorem cb46 : Callable Tryz.prog 46 := callable_of Tryz.func46 (by kernel_rfl) (by kernel_rfl)
theorem cb85 : Callable Tryz.prog 85 := callable_of Tryz.func85 (by kernel_rfl) (by kernel_rfl)
theorem cb86 : Callable Tryz.prog 86 := callable_of Tryz.func86 (by kernel_rfl) (by kernel_rfl)
theorem cb87 : Callable Tryz.prog 87 := callable_of Tryz.func87 (by kernel_rfl) (by kernel_rfl)
theorem cb88 : Callable Tryz.prog 88 := callable_of Tryz.func88 (by kernel_rfl) (by kernel_rfl)
theorem cb89 : Callable Tryz.prog 89 := callable_of Tryz.func89 (by kernel_rfl) (by kernel_rfl)
theorem cb90 : Callable Tryz.prog 90 := callable_of Tryz.func90 (by kernel_rfl) (by kernel_rfl)
theorem eqg58 : Tryz.prog.eqGuardType Tryz.prog.depth 58 = false := by kernel_rfl
theorem eqg59 : Tryz.prog.eqGuardType Tryz.prog.depth 59 = false := by kernel_rfl
theorem veq58 (p q : ShopR) : ∀ (H : Hp) (vs us : List Value), Sims H (ShopR.pc p) vs → Sims H (ShopR.pc q) us → EqV Tryz.prog 10000 58 (.agg vs.toArray) (.agg us.toArray) (decide (p = q)) := by
  intro H vs us hv hu
  obtain ⟨_, _, rfl, v0, v_0⟩ := hv.inv_cons
  obtain ⟨_, _, rfl, v1, v_1⟩ := v_0.inv_cons
  obtain ⟨_, _, rfl, v2, v_2⟩ := v_1.inv_cons
  cases v_2.inv_nil
  cases v0.inv_str.1; cases v1.inv_int.1; cases v2.inv_str.1
  obtain ⟨_, _, rfl, u0, u_0⟩ := hu.inv_cons
  obtain ⟨_, _, rfl, u1, u_1⟩ := u_0.inv_cons
  obtain ⟨_, _, rfl, u2, u_2⟩ := u_1.inv_cons
  cases u_2.inv_nil
  cases u0.inv_str.1; cases u1.inv_int.1; cases u2.inv_str.1
  exact EqV.to (eqv_agg Tryz.underlying58 (by kernel_rfl) (eqf_1 (by decide) ag9 rfl rfl (eqv_str Tryz.underlying9) (eqf_1 (by decide) ag5 rfl rfl (eqv_int Tryz.underlying5) (eqf_1 (by decide) ag9 rfl rfl (eqv_str Tryz.underlying9) eqf_nil)))) (by obtain ⟨a0, a1, a2⟩ := p; obtain ⟨b0, b1, b2⟩ := q; rw [Bool.eq_iff_iff]; simp)
theorem veq59 (p q : QueueR) : ∀ (H : Hp) (vs us : List Value), Sims H (QueueR.pc p) vs → Sims H (QueueR.pc q) us → EqV Tryz.prog 10000 59 (.agg vs.toArray) (.agg us.toArray) (decide (p = q)) := by
  intro H vs us hv hu
  obtain ⟨_, _, rfl, v0, v_0⟩ := hv.inv_cons
  obtain ⟨_, _, rfl, v1, v_1⟩ := v_0.inv_cons
  obtain ⟨_, _, rfl, v2, v_2⟩ := v_1.inv_cons
  obtain ⟨_, _, rfl, v3, v_3⟩ := v_2.inv_cons
  cases v_3.inv_nil
  cases v0.inv_str.1; cases v1.inv_int.1; cases v2.inv_int.1; cases v3.inv_str.1
  obtain ⟨_, _, rfl, u0, u_0⟩ := hu.inv_cons
  obtain ⟨_, _, rfl, u1, u_1⟩ := u_0.inv_cons
  obtain ⟨_, _, rfl, u2, u_2⟩ := u_1.inv_cons
  obtain ⟨_, _, rfl, u3, u_3⟩ := u_2.inv_cons
  cases u_3.inv_nil
  cases u0.inv_str.1; cases u1.inv_int.1; cases u2.inv_int.1; cases u3.inv_str.1
  exact EqV.to (eqv_agg Tryz.underlying59 (by kernel_rfl) (eqf_1 (by decide) ag9 rfl rfl (eqv_str Tryz.underlying9) (eqf_1 (by decide) ag22 rfl rfl (eqv_int Tryz.underlying22) (eqf_1 (by decide) ag22 rfl rfl (eqv_int Tryz.underlying22) (eqf_1 (by decide) ag9 rfl rfl (eqv_str Tryz.underlying9) eqf_nil))))) (by obtain ⟨a0, a1, a2, a3⟩ := p; obtain ⟨b0, b1, b2, b3⟩ := q; rw [Bool.eq_iff_iff]; simp)
def tbv21 : Tb := [(4, ⟨.bool, 1, 1, [.bool false]⟩),
  (5, ⟨.int .u8, 1, 1, [.int .u8 0]⟩),
  (9, ⟨.str, 1, 16, [.str []]⟩),
  (22, ⟨.int .u64, 1, 8, [.int .u64 0]⟩),
  (47, ⟨.slc 139, 1, 24, [.sl Pair.pc []]⟩),
  (51, ⟨.agg [(0, 1), (1, 1), (2, 1), (3, 1), (4, 1), (5, 1), (6, 1)], 7, 96, [.int .u64 0, .str [], .str [], .sl Pair.pc [], .str [], .int .u64 0, .int .u8 0]⟩),
  (58, ⟨.agg [(0, 1), (1, 1), (2, 1)], 3, 40, [.str [], .int .u8 0, .str []]⟩),
  (59, ⟨.agg [(0, 1), (1, 1), (2, 1), (3, 1)], 4, 48, [.str [], .int .u64 0, .int .u64 0, .str []]⟩),
  (60, ⟨.agg [(0, 1), (1, 1), (2, 1), (3, 1), (4, 1), (5, 1)], 6, 88, [.str [], .str [], .bool false, .str [], .sl Pair.pc [], .bool false]⟩),
  (62, ⟨.agg [(0, 1), (1, 1), (2, 3), (5, 4), (9, 6), (15, 1), (16, 1), (17, 1), (18, 1), (19, 1), (20, 1), (21, 7), (28, 1)], 29, 344, [.int .u8 0, .int .u64 0, .str [], .int .u8 0, .str [], .str [], .int .u64 0, .int .u64 0, .str [], .str [], .str [], .bool false, .str [], .sl Pair.pc [], .bool false, .str [], .int .u64 0, .int .u8 0, .int .u8 0, .int .u8 0, .int .u64 0, .int .u64 0, .str [], .str [], .sl Pair.pc [], .str [], .int .u64 0, .int .u8 0, .str []]⟩)]
theorem tbv21ok : tbB Tryz.prog tbv21 = true := by kernel_rfl
theorem r13_Same (a : Mail) (b : Mail) : Fn Tryz.prog gb 90 [.agg (Mail.pc a), .agg (Mail.pc b)] (.bool (decide (a = b))) := by
  refine fn_cw tbv21ok Tryz.func90 rfl Tryz.ntmps90 rfl cb90 rfl rfl fun w N H hG => ?_
  have a_head_l : a.head.length ≤ 140737488355328 := w.1.2.2.2.1.1
  have b_head_l : b.head.length ≤ 140737488355328 := w.2.1.2.2.2.1.1
  refine go tbv21ok 2 rfl rfl trivial ?_
  refine ef (boxA 0 rfl rfl rfl fun b1 => ?_)
  refine ef (boxA 1 rfl rfl rfl fun b2 => ?_)
  refine go tbv21ok 29 rfl rfl ⟨(fun hc => hc), (fun hc => hc), (fun hc => hc), (fun hc => hc), rfl, rfl, (fun hc => hc), (fun hc => hc), (fun hc => hc), (fun hc => hc), rfl, rfl, (fun hc => hc), (fun hc => hc), trivial⟩ ?_
  refine callg rfl (fun hc => (r9_Same _ _)) rfl ⟨(fun hc => hc), (fun hc => hc), trivial⟩ rfl rfl fun _ => ?_
  refine go tbv21ok 26 rfl rfl ⟨rfl, rfl, (fun hc => hc), (fun hc => hc), (fun hc => hc), (fun hc => hc), rfl, rfl, (fun hc => hc), (fun hc => hc), (fun hc => hc), (fun hc => hc), rfl, rfl, (fun hc => hc), (fun hc => hc), (fun hc => hc), (fun hc => hc), rfl, rfl, trivial⟩ ?_
  refine rt1 rfl rfl ?_
  refine ple ?_
  exact congrArg PV.bool (by rw [Bool.eq_iff_iff]; first | (simp [Mail.eq_iff, and_assoc]; done) | (simp [Mail.eq_iff]; grind))
theorem r14_SameBind (a : BindR) (b : BindR) : Fn Tryz.prog gb 89 [.agg (BindR.pc a), .agg (BindR.pc b)] (.bool (decide (a = b))) := by
  refine fn_cw tbv21ok Tryz.func89 rfl Tryz.ntmps89 rfl cb89 rfl rfl fun w N H hG => ?_
  have a_want_l : a.want.length ≤ 140737488355328 := w.1.2.2.2.2.1.1
  have b_want_l : b.want.length ≤ 140737488355328 := w.2.1.2.2.2.2.1.1
  refine go tbv21ok 2 rfl rfl trivial ?_
  refine ef (boxA 0 rfl rfl rfl fun b1 => ?_)
  refine ef (boxA 1 rfl rfl rfl fun b2 => ?_)
  refine go tbv21ok 43 rfl rfl ⟨(fun hc => hc), (fun hc => hc), (fun hc => hc), (fun hc => hc), rfl, rfl, (fun hc => hc), (fun hc => hc), (fun hc => hc), (fun hc => hc), rfl, rfl, (fun hc => hc), (fun hc => hc), (fun hc => hc), (fun hc => hc), rfl, rfl, (fun hc => hc), (fun hc => hc), (fun hc => hc), (fun hc => hc), rfl, rfl, (fun hc => hc), (fun hc => hc), trivial⟩ ?_
  refine callg rfl (fun hc => (r9_Same _ _)) rfl ⟨(fun hc => hc), (fun hc => hc), trivial⟩ rfl rfl fun _ => ?_
  refine go tbv21ok 5 rfl rfl ⟨rfl, rfl, trivial⟩ ?_
  refine rt1 rfl rfl ?_
  refine ple ?_
  exact congrArg PV.bool (by rw [Bool.eq_iff_iff]; first | (simp [BindR.eq_iff, and_assoc]; done) | (simp [BindR.eq_iff]; grind))
theorem r22_Same (a : DeedR) (b : DeedR) : Fn Tryz.prog gb 46 [.agg (DeedR.pc a), .agg (DeedR.pc b)] (.bool (decide (a = b))) := by
  refine fn_cw tbv21ok Tryz.func46 rfl Tryz.ntmps46 rfl cb46 rfl rfl fun w N H hG => ?_
  have a_bind_want_l : a.bind.want.length ≤ 140737488355328 := w.1.2.2.2.2.2.2.2.2.2.2.2.2.2.1.1
  have a_mail_head_l : a.mail.head.length ≤ 140737488355328 := w.1.2.2.2.2.2.2.2.2.2.2.2.2.2.2.2.2.2.2.2.2.2.2.2.2.1.1
  have b_bind_want_l : b.bind.want.length ≤ 140737488355328 := w.2.1.2.2.2.2.2.2.2.2.2.2.2.2.2.1.1
  have b_mail_head_l : b.mail.head.length ≤ 140737488355328 := w.2.1.2.2.2.2.2.2.2.2.2.2.2.2.2.2.2.2.2.2.2.2.2.2.2.2.1.1
  refine go tbv21ok 2 rfl rfl trivial ?_
  refine ef (boxA 0 rfl rfl rfl fun b1 => ?_)
  refine ef (boxA 1 rfl rfl rfl fun b2 => ?_)
  refine go tbv21ok 23 rfl rfl ⟨(fun hc => hc), (fun hc => hc), (fun hc => hc), (fun hc => hc), rfl, rfl, (fun hc => hc), (fun hc => hc), trivial⟩ ?_
  refine q1g [19, 21] rfl (fun hc => sane rfl rfl eqg58 (veq58 a.shop b.shop)) ⟨(fun hc => hc), (fun hc => hc), trivial⟩ rfl rfl rfl fun _ => ?_
  refine go tbv21ok 6 rfl rfl ⟨rfl, rfl, (fun hc => hc), (fun hc => hc), trivial⟩ ?_
  refine q1g [26, 28] rfl (fun hc => sane rfl rfl eqg59 (veq59 a.queue b.queue)) ⟨(fun hc => hc), (fun hc => hc), trivial⟩ rfl rfl rfl fun _ => ?_
  refine go tbv21ok 17 rfl rfl ⟨rfl, rfl, (fun hc => hc), (fun hc => hc), (fun hc => hc), (fun hc => hc), rfl, rfl, (fun hc => hc), (fun hc => hc), (fun hc => hc), (fun hc => hc), rfl, rfl, trivial⟩ ?_
  refine cnd rfl (fun h3 => ?_) (fun h3 => ?_)
  · refine go tbv21ok 7 rfl rfl trivial ?_
    refine rt1 rfl rfl ?_
    refine ple ?_
    exact congrArg PV.bool (by rw [Bool.eq_iff_iff]; first | (simp [DeedR.eq_iff, and_assoc]; done) | (simp [DeedR.eq_iff]; grind))
  · have h4 := orl h3
    have h5 := orl h4
    have h6 := orl h5
    have h7 := orl h6
    have h8 := orl h7
    have h9 := not_f h8
    have p10 := dt h9
    have h11 := orr h7
    have h12 := not_f h11
    have p13 := dt h12
    have h14 := orr h6
    have h15 := not_f h14
    have p16 := dt h15
    have h17 := orr h5
    have h18 := not_f h17
    have p19 := dt h18
    have h20 := orr h4
    have h21 := not_f h20
    have p22 := dt h21
    have h23 := orr h3
    have h24 := not_f h23
    have p25 := dt h24
    refine go tbv21ok 40 rfl rfl ⟨(fun hc => hc), (fun hc => hc), (fun hc => hc), (fun hc => hc), rfl, rfl, (fun hc => hc), (fun hc => hc), (fun hc => hc), (fun hc => hc), rfl, rfl, (fun hc => hc), (fun hc => hc), (fun hc => hc), (fun hc => hc), rfl, rfl, (fun hc => hc), (fun hc => hc), (fun hc => hc), (fun hc => hc), rfl, rfl, trivial⟩ ?_
    refine cnd rfl (fun h26 => ?_) (fun h26 => ?_)
    · refine go tbv21ok 7 rfl rfl trivial ?_
      refine rt1 rfl rfl ?_
      refine ple ?_
      exact congrArg PV.bool (by rw [Bool.eq_iff_iff]; first | (simp [DeedR.eq_iff, and_assoc]; done) | (simp [DeedR.eq_iff]; grind))
    · have h27 := orl h26
      have h28 := orl h27
      have h29 := orl h28
      have h30 := orl h29
      have h31 := not_f h30
      have p32 := dt h31
      have h33 := orr h29
      have h34 := not_f h33
      have p35 := dt h34
      have h36 := orr h28
      have h37 := not_f h36
      have p38 := dt h37
      have h39 := orr h27
      have h40 := not_f h39
      have p41 := dt h40
      have h42 := orr h26
      have h43 := not_f h42
      have p44 := dt h43
      refine go tbv21ok 8 rfl rfl trivial ?_
      refine call (r14_SameBind _ _) rfl rfl fun w45 => ?_
      refine go tbv21ok 5 rfl rfl ⟨(fun hc => hc), (fun hc => hc), trivial⟩ ?_
      refine callg rfl (fun hc => (r13_Same _ _)) rfl ⟨(fun hc => hc), (fun hc => hc), trivial⟩ rfl rfl fun _ => ?_
      refine go tbv21ok 5 rfl rfl ⟨rfl, rfl, trivial⟩ ?_
      refine rt1 rfl rfl ?_
      refine ple ?_
      exact congrArg PV.bool (by rw [Bool.eq_iff_iff]; first | (simp [DeedR.eq_iff, and_assoc]; done) | (simp [DeedR.eq_iff]; grind))
theorem r22_names (k : Int) : Fn Tryz.prog gb 88 [.int .u8 k] (.bool (decide (k = 1 ∨ k = 3 ∨ k = 7 ∨ k = 8))) := by
  refine fn_cw tbv21ok Tryz.func88 rfl Tryz.ntmps88 rfl cb88 rfl rfl fun w N H hG => ?_
  have k_r : 0 ≤ k ∧ k ≤ 255 := w.1
  refine go tbv21ok 25 rfl rfl ⟨(fun hc => hc), rfl, rfl, (fun hc => hc), rfl, rfl, (fun hc => hc), rfl, rfl, trivial⟩ ?_
  refine rt1 rfl rfl ?_
  refine ple ?_
  refine congrArg PV.bool ?_
  first | (rw [Bool.eq_iff_iff]; simp only [decide_eq_true_eq, Bool.false_eq_true, false_iff, true_iff]; omega) | (rw [Bool.eq_iff_iff]; simp [or_assoc]; done) | (rw [Bool.eq_iff_iff]; simp; omega) | (rw [Bool.eq_iff_iff]; simp; grind)
theorem r22_maybe (s : Bs) : Fn Tryz.prog gb 86 [.str s] (.int .i64 (maybeE s)) := by
  refine fn_cw tbv21ok Tryz.func86 rfl Tryz.ntmps86 rfl cb86 rfl rfl fun w N H hG => ?_
  have s_l : s.length ≤ 9223372036854775807 := w.1
  refine go tbv21ok 12 rfl rfl trivial ?_
  refine cnd rfl (fun h1 => ?_) (fun h1 => ?_)
  · have p2 := dt h1
    refine go tbv21ok 7 rfl rfl trivial ?_
    refine rt1 rfl rfl ?_
    refine ple ?_
    simp [maybeE, *]
  · have p3 := df h1
    refine go tbv21ok 5 rfl rfl trivial ?_
    refine call (r4_Name _) rfl rfl fun w4 => ?_
    refine go tbv21ok 4 rfl rfl trivial ?_
    refine rt1 rfl rfl ?_
    refine ple ?_
    simp [maybeE, *]
theorem r22_spare (d : DeedR) : Fn Tryz.prog gb 85 [.agg (DeedR.pc d)] (.bool (!decide (d = toldD d))) := by
  refine fn_cw tbv21ok Tryz.func85 rfl Tryz.ntmps85 rfl cb85 rfl rfl fun w N H hG => ?_
  have d_bind_want_l : d.bind.want.length ≤ 140737488355328 := w.1.2.2.2.2.2.2.2.2.2.2.2.2.2.1.1
  have d_mail_head_l : d.mail.head.length ≤ 140737488355328 := w.1.2.2.2.2.2.2.2.2.2.2.2.2.2.2.2.2.2.2.2.2.2.2.2.2.1.1
  refine go tbv21ok 2 rfl rfl trivial ?_
  refine ef (boxA 0 rfl rfl rfl fun b1 => ?_)
  refine go tbv21ok 19 rfl rfl ⟨(fun hc => hc), trivial⟩ ?_
  refine q1g [10, 11] rfl (fun hc => sane rfl rfl eqg58 (veq58 d.shop (⟨[], 0, []⟩ : ShopR))) ⟨(fun hc => hc), (fun hc => hc), trivial⟩ rfl rfl rfl fun _ => ?_
  refine go tbv21ok 8 rfl rfl ⟨rfl, rfl, (fun hc => hc), (fun hc => hc), (fun hc => hc), trivial⟩ ?_
  refine q1g [19, 20] rfl (fun hc => sane rfl rfl eqg59 (veq59 d.queue (⟨[], 0, 0, []⟩ : QueueR))) ⟨(fun hc => hc), (fun hc => hc), trivial⟩ rfl rfl rfl fun _ => ?_
  refine go tbv21ok 4 rfl rfl ⟨(fun hc => hc), (fun hc => (by rw [hc]; rfl)), (fun hc => rfl), rfl, rfl, trivial⟩ ?_
  refine cnd rfl (fun h2 => ?_) (fun h2 => ?_)
  · refine go tbv21ok 7 rfl rfl trivial ?_
    refine rt1 rfl rfl ?_
    refine ple ?_
    refine congrArg PV.bool (spare_t fun hh => ?_)
    obtain ⟨t1, t2, t3, t4, t5, t6, t7, t8, t9, t10, t11⟩ := told_iff.1 hh
    clear hh
    simp only [Bool.or_eq_true, Bool.and_eq_true, Bool.not_eq_true', decide_eq_true_eq, decide_eq_false_iff_not] at *
    grind
  · have h3 := orl h2
    have h4 := orr h2
    refine go tbv21ok 15 rfl rfl ⟨(fun hc => hc), rfl, rfl, (fun hc => hc), trivial⟩ ?_
    refine callg rfl (fun hc => (r14_SameBind _ (⟨[], [], false, [], [], false⟩ : BindR))) rfl ⟨(fun hc => hc), (fun hc => hc), trivial⟩ rfl rfl fun _ => ?_
    refine go tbv21ok 4 rfl rfl ⟨(fun hc => hc), rfl, rfl, trivial⟩ ?_
    refine cnd rfl (fun h5 => ?_) (fun h5 => ?_)
    · have h6 := bl h5
      have h7 := bl h6
      have h8 := not_t h7
      have p9 := df h8
      have h10 := br h6
      have h11 := not_t h10
      have p12 := df h11
      have h13 := br h5
      have h14 := not_t h13
      have p15 := df h14
      refine go tbv21ok 7 rfl rfl trivial ?_
      refine rt1 rfl rfl ?_
      refine ple ?_
      refine congrArg PV.bool (spare_t fun hh => ?_)
      obtain ⟨t1, t2, t3, t4, t5, t6, t7, t8, t9, t10, t11⟩ := told_iff.1 hh
      clear hh
      simp only [Bool.or_eq_true, Bool.and_eq_true, Bool.not_eq_true', decide_eq_true_eq, decide_eq_false_iff_not] at *
      grind
    · refine go tbv21ok 6 rfl rfl trivial ?_
      refine call (r22_names _) rfl rfl fun w16 => ?_
      refine go tbv21ok 22 rfl rfl ⟨(fun hc => hc), (fun hc => hc), rfl, rfl, (fun hc => hc), (fun hc => hc), (fun hc => hc), (fun hc => hc), (fun hc => hc), (fun hc => hc), (fun hc => hc), (fun hc => hc), (fun hc => (by rw [hc]; rfl)), (fun hc => rfl), (fun hc => hc), (fun hc => (by rw [hc]; rfl)), (fun hc => rfl), rfl, rfl, trivial⟩ ?_
      refine cnd rfl (fun h17 => ?_) (fun h17 => ?_)
      · refine go tbv21ok 7 rfl rfl trivial ?_
        refine rt1 rfl rfl ?_
        refine ple ?_
        refine congrArg PV.bool (spare_t fun hh => ?_)
        obtain ⟨t1, t2, t3, t4, t5, t6, t7, t8, t9, t10, t11⟩ := told_iff.1 hh
        clear hh
        simp only [Bool.or_eq_true, Bool.and_eq_true, Bool.not_eq_true', decide_eq_true_eq, decide_eq_false_iff_not] at *
        grind
      · have h18 := orl h17
        have h19 := orr h17
        refine go tbv21ok 33 rfl rfl ⟨(fun hc => hc), (fun hc => hc), (fun hc => hc), (fun hc => hc), (fun hc => hc), (fun hc => hc), (fun hc => (by rw [hc]; rfl)), (fun hc => rfl), rfl, rfl, (fun hc => hc), (fun hc => hc), (fun hc => hc), (fun hc => hc), (fun hc => hc), (fun hc => hc), (fun hc => hc), (fun hc => hc), (fun hc => (by rw [hc]; rfl)), (fun hc => rfl), (fun hc => hc), (fun hc => (by rw [hc]; rfl)), (fun hc => rfl), rfl, rfl, trivial⟩ ?_
        refine cnd rfl (fun h20 => ?_) (fun h20 => ?_)
        · refine go tbv21ok 7 rfl rfl trivial ?_
          refine rt1 rfl rfl ?_
          refine ple ?_
          refine congrArg PV.bool (spare_t fun hh => ?_)
          obtain ⟨t1, t2, t3, t4, t5, t6, t7, t8, t9, t10, t11⟩ := told_iff.1 hh
          clear hh
          simp only [Bool.or_eq_true, Bool.and_eq_true, Bool.not_eq_true', decide_eq_true_eq, decide_eq_false_iff_not] at *
          grind
        · have h21 := orl h20
          have h22 := orr h20
          refine go tbv21ok 14 rfl rfl ⟨(fun hc => hc), rfl, rfl, (fun hc => hc), trivial⟩ ?_
          refine callg rfl (fun hc => (r13_Same _ (⟨0, [], [], [], [], 0, 0⟩ : Mail))) rfl ⟨(fun hc => hc), (fun hc => hc), trivial⟩ rfl rfl fun _ => ?_
          refine go tbv21ok 6 rfl rfl ⟨(fun hc => hc), rfl, rfl, trivial⟩ ?_
          refine rt1 rfl rfl ?_
          refine ple ?_
          refine congrArg PV.bool ?_
          rw [Bool.eq_iff_iff]
          simp only [Bool.or_eq_false_iff, Bool.and_eq_false_iff, Bool.not_eq_false', Bool.not_eq_true', Bool.and_eq_true, decide_eq_true_eq, decide_eq_false_iff_not] at *
          constructor
          · intro hm hh
            obtain ⟨_, _, _, _, _, _, _, _, _, _, t11⟩ := told_iff.1 hh
            exact hm.2 (t11 hm.1.1 hm.1.2)
          · intro hn
            refine Classical.byContradiction fun q => hn (told_iff.2 ⟨?_, ?_, ?_, ?_, ?_, ?_, ?_, ?_, ?_, ?_, ?_⟩) <;> clear hn <;> grind
theorem r22_checkBind (b : BindR) : Fn Tryz.prog gb 87 [.agg (BindR.pc b)] (.int .i64 (firstE [nameE b.shop, nameE b.to, boundE (decide ((64 : Int) < b.key.length)) 5, headE b.want])) := by
  refine fn_cw tbv21ok Tryz.func87 rfl Tryz.ntmps87 rfl cb87 rfl rfl fun w N H hG => ?_
  have b_want_l : b.want.length ≤ 140737488355328 := w.1.2.2.2.2.1.1
  refine go tbv21ok 2 rfl rfl trivial ?_
  refine ef (boxA 0 rfl rfl rfl fun b1 => ?_)
  refine go tbv21ok 7 rfl rfl trivial ?_
  refine call (r4_Name _) rfl rfl fun w2 => ?_
  refine go tbv21ok 10 rfl rfl trivial ?_
  refine cnd rfl (fun h3 => ?_) (fun h3 => ?_)
  · have p4 := dt h3
    refine go tbv21ok 3 rfl rfl trivial ?_
    refine call (r4_Name _) rfl rfl fun w5 => ?_
    refine go tbv21ok 16 rfl rfl ⟨(fun hc => hc), (fun hc => hc), (fun hc => hc), rfl, rfl, trivial⟩ ?_
    refine cnd rfl (fun h6 => ?_) (fun h6 => ?_)
    · have h7 := bl h6
      have p8 := dt h7
      have h9 := br h6
      have p10 := dt h9
      refine go tbv21ok 11 rfl rfl trivial ?_
      refine cndF rfl (by decide) ?_
      refine go tbv21ok 9 rfl rfl trivial ?_
      refine rt1 rfl rfl ?_
      refine ple ?_
      refine congrArg (PV.int .i64) ?_
      (try simp only [Bool.or_eq_true, Bool.and_eq_true, Bool.not_eq_true', decide_eq_true_eq, Bool.or_eq_false_iff, Bool.and_eq_false_iff, Bool.not_eq_false', decide_eq_false_iff_not, beq_iff_eq, beq_eq_false_iff_ne] at *)
      simp only [firstE, boundE, decide_eq_true_eq]
      (repeat' split) <;> first | rfl | omega | grind
    · refine go tbv21ok 9 rfl rfl trivial ?_
      refine cnd rfl (fun h11 => ?_) (fun h11 => ?_)
      · have p12 := dt h11
        refine go tbv21ok 3 rfl rfl trivial ?_
        refine call (r9_Check _) rfl rfl fun w13 => ?_
        refine go tbv21ok 10 rfl rfl trivial ?_
        refine rt1 rfl rfl ?_
        refine ple ?_
        refine congrArg (PV.int .i64) ?_
        (try simp only [Bool.or_eq_true, Bool.and_eq_true, Bool.not_eq_true', decide_eq_true_eq, Bool.or_eq_false_iff, Bool.and_eq_false_iff, Bool.not_eq_false', decide_eq_false_iff_not, beq_iff_eq, beq_eq_false_iff_ne] at *)
        simp only [firstE, boundE, decide_eq_true_eq]
        (repeat' split) <;> first | rfl | omega | grind
      · have p14 := df h11
        refine go tbv21ok 9 rfl rfl trivial ?_
        refine rt1 rfl rfl ?_
        refine ple ?_
        refine congrArg (PV.int .i64) ?_
        (try simp only [Bool.or_eq_true, Bool.and_eq_true, Bool.not_eq_true', decide_eq_true_eq, Bool.or_eq_false_iff, Bool.and_eq_false_iff, Bool.not_eq_false', decide_eq_false_iff_not, beq_iff_eq, beq_eq_false_iff_ne] at *)
        simp only [firstE, boundE, decide_eq_true_eq]
        (repeat' split) <;> first | rfl | omega | grind
  · have p15 := df h3
    refine go tbv21ok 15 rfl rfl ⟨(fun hc => hc), (fun hc => hc), (fun hc => hc), rfl, rfl, trivial⟩ ?_
    refine cnd rfl (fun h16 => ?_) (fun h16 => ?_)
    · have h17 := bl h16
      have p18 := dt h17
      have h19 := br h16
      have p20 := dt h19
      refine go tbv21ok 11 rfl rfl trivial ?_
      refine cndF rfl (by decide) ?_
      refine go tbv21ok 9 rfl rfl trivial ?_
      refine rt1 rfl rfl ?_
      refine ple ?_
      refine congrArg (PV.int .i64) ?_
      (try simp only [Bool.or_eq_true, Bool.and_eq_true, Bool.not_eq_true', decide_eq_true_eq, Bool.or_eq_false_iff, Bool.and_eq_false_iff, Bool.not_eq_false', decide_eq_false_iff_not, beq_iff_eq, beq_eq_false_iff_ne] at *)
      simp only [firstE, boundE, decide_eq_true_eq]
      (repeat' split) <;> first | rfl | omega | grind
    · refine go tbv21ok 9 rfl rfl trivial ?_
      refine cndF rfl h3 ?_
      refine go tbv21ok 9 rfl rfl trivial ?_
      refine rt1 rfl rfl ?_
      refine ple ?_
      refine congrArg (PV.int .i64) ?_
      (try simp only [Bool.or_eq_true, Bool.and_eq_true, Bool.not_eq_true', decide_eq_true_eq, Bool.or_eq_false_iff, Bool.and_eq_false_iff, Bool.not_eq_false', decide_eq_false_iff_not, beq_iff_eq, beq_eq_false_iff_ne] at *)
      simp only [firstE, boundE, decide_eq_true_eq]
      (repeat' split) <;> first | rfl | omega | grind
theorem r13_Check (m : Mail) : Fn Tryz.prog gb 28 [.agg (Mail.pc m)] (.int .i64 (mailC m)) := by
  refine fn_cw tbv21ok Tryz.func28 rfl Tryz.ntmps28 rfl cb28 rfl rfl fun w N H hG => ?_
  have m_head_l : m.head.length ≤ 140737488355328 := w.1.2.2.2.1.1
  refine go tbv21ok 2 rfl rfl trivial ?_
  refine ef (boxA 0 rfl rfl rfl fun b1 => ?_)
  refine go tbv21ok 7 rfl rfl trivial ?_
  refine call (r4_Name _) rfl rfl fun w2 => ?_
  refine go tbv21ok 10 rfl rfl trivial ?_
  refine cnd rfl (fun h3 => ?_) (fun h3 => ?_)
  · have p4 := dt h3
    refine go tbv21ok 3 rfl rfl trivial ?_
    refine call (r4_Key _ _) rfl rfl fun w5 => ?_
    refine go tbv21ok 10 rfl rfl trivial ?_
    refine cnd rfl (fun h6 => ?_) (fun h6 => ?_)
    · have p7 := dt h6
      refine go tbv21ok 3 rfl rfl trivial ?_
      refine call (r9_Check _) rfl rfl fun w8 => ?_
      refine go tbv21ok 16 rfl rfl ⟨(fun hc => hc), (fun hc => hc), (fun hc => hc), rfl, rfl, trivial⟩ ?_
      refine cnd rfl (fun h9 => ?_) (fun h9 => ?_)
      · have h10 := bl h9
        have p11 := dt h10
        have h12 := br h9
        have p13 := dt h12
        refine go tbv21ok 16 rfl rfl ⟨(fun hc => hc), (fun hc => hc), rfl, rfl, trivial⟩ ?_
        refine cnd rfl (fun h14 => ?_) (fun h14 => ?_)
        · have h15 := bl h14
          have p16 := dt h15
          have h17 := br h14
          have p18 := dt h17
          refine go tbv21ok 11 rfl rfl trivial ?_
          refine rt1 rfl rfl ?_
          refine ple ?_
          have hbo : besidesOf false = [] := rfl
          simp only [hbo] at *
          refine congrArg (PV.int .i64) ?_
          simp only [Bool.or_eq_true, Bool.and_eq_true, Bool.not_eq_true', decide_eq_true_eq, Bool.or_eq_false_iff, Bool.and_eq_false_iff, Bool.not_eq_false', decide_eq_false_iff_not, beq_iff_eq, beq_eq_false_iff_ne] at *
          unfold mailC
          (repeat' split) <;> first | rfl | (exfalso; omega) | (exfalso; simp_all; done) | (exfalso; simp_all; omega) | grind
        · refine go tbv21ok 9 rfl rfl trivial ?_
          refine rt1 rfl rfl ?_
          refine ple ?_
          have hbo : besidesOf false = [] := rfl
          simp only [hbo] at *
          refine congrArg (PV.int .i64) ?_
          simp only [Bool.or_eq_true, Bool.and_eq_true, Bool.not_eq_true', decide_eq_true_eq, Bool.or_eq_false_iff, Bool.and_eq_false_iff, Bool.not_eq_false', decide_eq_false_iff_not, beq_iff_eq, beq_eq_false_iff_ne] at *
          unfold mailC
          (repeat' split) <;> first | rfl | (exfalso; omega) | (exfalso; simp_all; done) | (exfalso; simp_all; omega) | grind
      · refine go tbv21ok 14 rfl rfl ⟨(fun hc => hc), (fun hc => hc), rfl, rfl, trivial⟩ ?_
        refine cnd rfl (fun h19 => ?_) (fun h19 => ?_)
        · have h20 := bl h19
          have p21 := dt h20
          have h22 := br h19
          have p23 := dt h22
          refine go tbv21ok 11 rfl rfl trivial ?_
          refine rt1 rfl rfl ?_
          refine ple ?_
          have hbo : besidesOf false = [] := rfl
          simp only [hbo] at *
          refine congrArg (PV.int .i64) ?_
          simp only [Bool.or_eq_true, Bool.and_eq_true, Bool.not_eq_true', decide_eq_true_eq, Bool.or_eq_false_iff, Bool.and_eq_false_iff, Bool.not_eq_false', decide_eq_false_iff_not, beq_iff_eq, beq_eq_false_iff_ne] at *
          unfold mailC
          (repeat' split) <;> first | rfl | (exfalso; omega) | (exfalso; simp_all; done) | (exfalso; simp_all; omega) | grind
        · refine go tbv21ok 9 rfl rfl trivial ?_
          refine rt1 rfl rfl ?_
          refine ple ?_
          have hbo : besidesOf false = [] := rfl
          simp only [hbo] at *
          refine congrArg (PV.int .i64) ?_
          simp only [Bool.or_eq_true, Bool.and_eq_true, Bool.not_eq_true', decide_eq_true_eq, Bool.or_eq_false_iff, Bool.and_eq_false_iff, Bool.not_eq_false', decide_eq_false_iff_not, beq_iff_eq, beq_eq_false_iff_ne] at *
          unfold mailC
          (repeat' split) <;> first | rfl | (exfalso; omega) | (exfalso; simp_all; done) | (exfalso; simp_all; omega) | grind
    · have p24 := df h6
      refine go tbv21ok 15 rfl rfl ⟨(fun hc => hc), (fun hc => hc), (fun hc => hc), rfl, rfl, trivial⟩ ?_
      refine cnd rfl (fun h25 => ?_) (fun h25 => ?_)
      · have h26 := bl h25
        have p27 := dt h26
        have h28 := br h25
        have p29 := dt h28
        refine go tbv21ok 16 rfl rfl ⟨(fun hc => hc), (fun hc => hc), rfl, rfl, trivial⟩ ?_
        refine cnd rfl (fun h30 => ?_) (fun h30 => ?_)
        · have h31 := bl h30
          have p32 := dt h31
          have h33 := br h30
          have p34 := dt h33
          refine go tbv21ok 11 rfl rfl trivial ?_
          refine rt1 rfl rfl ?_
          refine ple ?_
          have hbo : besidesOf false = [] := rfl
          simp only [hbo] at *
          refine congrArg (PV.int .i64) ?_
          simp only [Bool.or_eq_true, Bool.and_eq_true, Bool.not_eq_true', decide_eq_true_eq, Bool.or_eq_false_iff, Bool.and_eq_false_iff, Bool.not_eq_false', decide_eq_false_iff_not, beq_iff_eq, beq_eq_false_iff_ne] at *
          unfold mailC
          (repeat' split) <;> first | rfl | (exfalso; omega) | (exfalso; simp_all; done) | (exfalso; simp_all; omega) | grind
        · refine go tbv21ok 9 rfl rfl trivial ?_
          refine rt1 rfl rfl ?_
          refine ple ?_
          have hbo : besidesOf false = [] := rfl
          simp only [hbo] at *
          refine congrArg (PV.int .i64) ?_
          simp only [Bool.or_eq_true, Bool.and_eq_true, Bool.not_eq_true', decide_eq_true_eq, Bool.or_eq_false_iff, Bool.and_eq_false_iff, Bool.not_eq_false', decide_eq_false_iff_not, beq_iff_eq, beq_eq_false_iff_ne] at *
          unfold mailC
          (repeat' split) <;> first | rfl | (exfalso; omega) | (exfalso; simp_all; done) | (exfalso; simp_all; omega) | grind
      · refine go tbv21ok 14 rfl rfl ⟨(fun hc => hc), (fun hc => hc), rfl, rfl, trivial⟩ ?_
        refine cnd rfl (fun h35 => ?_) (fun h35 => ?_)
        · have h36 := bl h35
          have p37 := dt h36
          have h38 := br h35
          have p39 := dt h38
          refine go tbv21ok 11 rfl rfl trivial ?_
          refine rt1 rfl rfl ?_
          refine ple ?_
          have hbo : besidesOf false = [] := rfl
          simp only [hbo] at *
          refine congrArg (PV.int .i64) ?_
          simp only [Bool.or_eq_true, Bool.and_eq_true, Bool.not_eq_true', decide_eq_true_eq, Bool.or_eq_false_iff, Bool.and_eq_false_iff, Bool.not_eq_false', decide_eq_false_iff_not, beq_iff_eq, beq_eq_false_iff_ne] at *
          unfold mailC
          (repeat' split) <;> first | rfl | (exfalso; omega) | (exfalso; simp_all; done) | (exfalso; simp_all; omega) | grind
        · refine go tbv21ok 9 rfl rfl trivial ?_
          refine rt1 rfl rfl ?_
          refine ple ?_
          have hbo : besidesOf false = [] := rfl
          simp only [hbo] at *
          refine congrArg (PV.int .i64) ?_
          simp only [Bool.or_eq_true, Bool.and_eq_true, Bool.not_eq_true', decide_eq_true_eq, Bool.or_eq_false_iff, Bool.and_eq_false_iff, Bool.not_eq_false', decide_eq_false_iff_not, beq_iff_eq, beq_eq_false_iff_ne] at *
          unfold mailC
          (repeat' split) <;> first | rfl | (exfalso; omega) | (exfalso; simp_all; done) | (exfalso; simp_all; omega) | grind
  · have p40 := df h3
    refine go tbv21ok 9 rfl rfl trivial ?_
    refine cndF rfl h3 ?_
    refine go tbv21ok 15 rfl rfl ⟨(fun hc => hc), (fun hc => hc), (fun hc => hc), rfl, rfl, trivial⟩ ?_
    refine cnd rfl (fun h41 => ?_) (fun h41 => ?_)
    · have h42 := bl h41
      have p43 := dt h42
      have h44 := br h41
      have p45 := dt h44
      refine go tbv21ok 16 rfl rfl ⟨(fun hc => hc), (fun hc => hc), rfl, rfl, trivial⟩ ?_
      refine cnd rfl (fun h46 => ?_) (fun h46 => ?_)
      · have h47 := bl h46
        have p48 := dt h47
        have h49 := br h46
        have p50 := dt h49
        refine go tbv21ok 11 rfl rfl trivial ?_
        refine rt1 rfl rfl ?_
        refine ple ?_
        have hbo : besidesOf false = [] := rfl
        simp only [hbo] at *
        refine congrArg (PV.int .i64) ?_
        simp only [Bool.or_eq_true, Bool.and_eq_true, Bool.not_eq_true', decide_eq_true_eq, Bool.or_eq_false_iff, Bool.and_eq_false_iff, Bool.not_eq_false', decide_eq_false_iff_not, beq_iff_eq, beq_eq_false_iff_ne] at *
        unfold mailC
        (repeat' split) <;> first | rfl | (exfalso; omega) | (exfalso; simp_all; done) | (exfalso; simp_all; omega) | grind
      · refine go tbv21ok 9 rfl rfl trivial ?_
        refine rt1 rfl rfl ?_
        refine ple ?_
        have hbo : besidesOf false = [] := rfl
        simp only [hbo] at *
        refine congrArg (PV.int .i64) ?_
        simp only [Bool.or_eq_true, Bool.and_eq_true, Bool.not_eq_true', decide_eq_true_eq, Bool.or_eq_false_iff, Bool.and_eq_false_iff, Bool.not_eq_false', decide_eq_false_iff_not, beq_iff_eq, beq_eq_false_iff_ne] at *
        unfold mailC
        (repeat' split) <;> first | rfl | (exfalso; omega) | (exfalso; simp_all; done) | (exfalso; simp_all; omega) | grind
    · refine go tbv21ok 14 rfl rfl ⟨(fun hc => hc), (fun hc => hc), rfl, rfl, trivial⟩ ?_
      refine cnd rfl (fun h51 => ?_) (fun h51 => ?_)
      · have h52 := bl h51
        have p53 := dt h52
        have h54 := br h51
        have p55 := dt h54
        refine go tbv21ok 11 rfl rfl trivial ?_
        refine rt1 rfl rfl ?_
        refine ple ?_
        have hbo : besidesOf false = [] := rfl
        simp only [hbo] at *
        refine congrArg (PV.int .i64) ?_
        simp only [Bool.or_eq_true, Bool.and_eq_true, Bool.not_eq_true', decide_eq_true_eq, Bool.or_eq_false_iff, Bool.and_eq_false_iff, Bool.not_eq_false', decide_eq_false_iff_not, beq_iff_eq, beq_eq_false_iff_ne] at *
        unfold mailC
        (repeat' split) <;> first | rfl | (exfalso; omega) | (exfalso; simp_all; done) | (exfalso; simp_all; omega) | grind
      · refine go tbv21ok 9 rfl rfl trivial ?_
        refine rt1 rfl rfl ?_
        refine ple ?_
        have hbo : besidesOf false = [] := rfl
        simp only [hbo] at *
        refine congrArg (PV.int .i64) ?_
        simp only [Bool.or_eq_true, Bool.and_eq_true, Bool.not_eq_true', decide_eq_true_eq, Bool.or_eq_false_iff, Bool.and_eq_false_iff, Bool.not_eq_false', decide_eq_false_iff_not, beq_iff_eq, beq_eq_false_iff_ne] at *
        unfold mailC
        (repeat' split) <;> first | rfl | (exfalso; omega) | (exfalso; simp_all; done) | (exfalso; simp_all; omega) | grind
theorem r22_Check (d : DeedR) : Fn Tryz.prog gb 44 [.agg (DeedR.pc d)] (.int .i64 (deedE d)) := by
  refine fn_cw tbv21ok Tryz.func44 rfl Tryz.ntmps44 rfl cb44 rfl rfl fun w N H hG => ?_
  have d_w := DeedR.pwf w.1
  have d_w' := d_w
  simp only [DeedR.wf, ShopR.wf, QueueR.wf, BindR.wf, Mail.wf] at d_w'
  have d_bind_want_k := DeedR.kd13 w.1
  have d_bind_want_k2 : d.bind.want.length ≤ 140737488355328 := w.1.2.2.2.2.2.2.2.2.2.2.2.2.2.1.1
  have d_mail_head_k := DeedR.kd24 w.1
  have d_mail_head_k2 : d.mail.head.length ≤ 140737488355328 := w.1.2.2.2.2.2.2.2.2.2.2.2.2.2.2.2.2.2.2.2.2.2.2.2.2.1.1
  refine go tbv21ok 2 rfl rfl trivial ?_
  refine ef (boxA 0 rfl rfl rfl fun b1 => ?_)
  refine go tbv21ok 11 rfl rfl trivial ?_
  refine cnd rfl (fun h2 => ?_) (fun h2 => ?_)
  · have p3 := dt h2
    refine go tbv21ok 7 rfl rfl trivial ?_
    refine rt1 rfl rfl ?_
    refine ple ?_
    refine congrArg (PV.int .i64) ?_
    (try simp only [Bool.or_eq_true, Bool.and_eq_true, Bool.not_eq_true', decide_eq_true_eq, Bool.or_eq_false_iff, Bool.and_eq_false_iff, Bool.not_eq_false', decide_eq_false_iff_not, beq_iff_eq, beq_eq_false_iff_ne] at *)
    unfold deedE
    (repeat (first | rw [if_pos (by omega)] | rw [if_neg (by omega)] | rw [if_pos (by assumption)] | rw [if_neg (by assumption)] | rw [if_neg (not_not_intro (by assumption))]))
    all_goals first | done | rfl | omega | (simp only [firstE, boundE, decide_eq_true_eq]; (repeat (first | rw [if_pos (by omega)] | rw [if_neg (by omega)] | rw [if_pos (by assumption)] | rw [if_neg (by assumption)] | rw [if_neg (not_not_intro (by assumption))])); first | done | rfl | omega | ((repeat' split) <;> first | rfl | omega | grind))
  · have p4 := df h2
    refine go tbv21ok 6 rfl rfl trivial ?_
    refine call (r22_spare _) rfl rfl fun w5 => ?_
    refine go tbv21ok 2 rfl rfl trivial ?_
    refine cnd rfl (fun h6 => ?_) (fun h6 => ?_)
    · have h7 := not_t h6
      have p8 := df h7
      refine go tbv21ok 7 rfl rfl trivial ?_
      refine rt1 rfl rfl ?_
      refine ple ?_
      refine congrArg (PV.int .i64) ?_
      (try simp only [Bool.or_eq_true, Bool.and_eq_true, Bool.not_eq_true', decide_eq_true_eq, Bool.or_eq_false_iff, Bool.and_eq_false_iff, Bool.not_eq_false', decide_eq_false_iff_not, beq_iff_eq, beq_eq_false_iff_ne] at *)
      unfold deedE
      (repeat (first | rw [if_pos (by omega)] | rw [if_neg (by omega)] | rw [if_pos (by assumption)] | rw [if_neg (by assumption)] | rw [if_neg (not_not_intro (by assumption))]))
      all_goals first | done | rfl | omega | (simp only [firstE, boundE, decide_eq_true_eq]; (repeat (first | rw [if_pos (by omega)] | rw [if_neg (by omega)] | rw [if_pos (by assumption)] | rw [if_neg (by assumption)] | rw [if_neg (not_not_intro (by assumption))])); first | done | rfl | omega | ((repeat' split) <;> first | rfl | omega | grind))
    · have h9 := not_f h6
      have p10 := dt h9
      obtain ⟨t1, t2, t3, t4, t5, t6, t7, t8, t9, t10, t11⟩ := told_iff.1 p10
      refine go tbv21ok 21 rfl rfl trivial ?_
      refine cnd rfl (fun h11 => ?_) (fun h11 => ?_)
      · have p12 := dt h11
        refine go tbv21ok 5 rfl rfl trivial ?_
        refine call (r4_Name _) rfl rfl fun w13 => ?_
        refine go tbv21ok 16 rfl rfl ⟨(fun hc => hc), (fun hc => hc), (fun hc => hc), rfl, rfl, trivial⟩ ?_
        refine cnd rfl (fun h14 => ?_) (fun h14 => ?_)
        · have h15 := bl h14
          have p16 := dt h15
          have h17 := br h14
          have p18 := dt h17
          refine go tbv21ok 10 rfl rfl trivial ?_
          refine cndF rfl (by decide) ?_
          refine go tbv21ok 8 rfl rfl trivial ?_
          refine call (r22_names _) rfl rfl fun w19 => ?_
          refine go tbv21ok 2 rfl rfl trivial ?_
          refine cndF rfl (fd (by omega)) ?_
          refine go tbv21ok 14 rfl rfl ⟨(fun hc => hc), (fun hc => hc), rfl, rfl, trivial⟩ ?_
          refine cnd rfl (fun h20 => ?_) (fun h20 => ?_)
          · have h21 := bl h20
            have p22 := dt h21
            have h23 := br h20
            have p24 := dt h23
            refine go tbv21ok 11 rfl rfl trivial ?_
            refine rt1 rfl rfl ?_
            refine ple ?_
            refine congrArg (PV.int .i64) ?_
            (try simp only [Bool.or_eq_true, Bool.and_eq_true, Bool.not_eq_true', decide_eq_true_eq, Bool.or_eq_false_iff, Bool.and_eq_false_iff, Bool.not_eq_false', decide_eq_false_iff_not, beq_iff_eq, beq_eq_false_iff_ne] at *)
            unfold deedE
            (repeat (first | rw [if_pos (by omega)] | rw [if_neg (by omega)] | rw [if_pos (by assumption)] | rw [if_neg (by assumption)] | rw [if_neg (not_not_intro (by assumption))]))
            all_goals first | done | rfl | omega | (simp only [firstE, boundE, decide_eq_true_eq]; (repeat (first | rw [if_pos (by omega)] | rw [if_neg (by omega)] | rw [if_pos (by assumption)] | rw [if_neg (by assumption)] | rw [if_neg (not_not_intro (by assumption))])); first | done | rfl | omega | ((repeat' split) <;> first | rfl | omega | grind))
          · refine go tbv21ok 9 rfl rfl trivial ?_
            refine rt1 rfl rfl ?_
            refine ple ?_
            refine congrArg (PV.int .i64) ?_
            (try simp only [Bool.or_eq_true, Bool.and_eq_true, Bool.not_eq_true', decide_eq_true_eq, Bool.or_eq_false_iff, Bool.and_eq_false_iff, Bool.not_eq_false', decide_eq_false_iff_not, beq_iff_eq, beq_eq_false_iff_ne] at *)
            unfold deedE
            (repeat (first | rw [if_pos (by omega)] | rw [if_neg (by omega)] | rw [if_pos (by assumption)] | rw [if_neg (by assumption)] | rw [if_neg (not_not_intro (by assumption))]))
            all_goals first | done | rfl | omega | (simp only [firstE, boundE, decide_eq_true_eq]; (repeat (first | rw [if_pos (by omega)] | rw [if_neg (by omega)] | rw [if_pos (by assumption)] | rw [if_neg (by assumption)] | rw [if_neg (not_not_intro (by assumption))])); first | done | rfl | omega | ((repeat' split) <;> first | rfl | omega | grind))
        · refine go tbv21ok 8 rfl rfl trivial ?_
          refine cnd rfl (fun h25 => ?_) (fun h25 => ?_)
          · have p26 := dt h25
            refine go tbv21ok 4 rfl rfl trivial ?_
            refine call (r22_maybe _) rfl rfl fun w27 => ?_
            have := maybeE_r d.shop.to
            refine go tbv21ok 9 rfl rfl trivial ?_
            refine call (r22_names _) rfl rfl fun w28 => ?_
            refine go tbv21ok 2 rfl rfl trivial ?_
            refine cndF rfl (fd (by omega)) ?_
            refine go tbv21ok 14 rfl rfl ⟨(fun hc => hc), (fun hc => hc), rfl, rfl, trivial⟩ ?_
            refine cnd rfl (fun h29 => ?_) (fun h29 => ?_)
            · have h30 := bl h29
              have p31 := dt h30
              have h32 := br h29
              have p33 := dt h32
              refine go tbv21ok 11 rfl rfl trivial ?_
              refine rt1 rfl rfl ?_
              refine ple ?_
              refine congrArg (PV.int .i64) ?_
              (try simp only [Bool.or_eq_true, Bool.and_eq_true, Bool.not_eq_true', decide_eq_true_eq, Bool.or_eq_false_iff, Bool.and_eq_false_iff, Bool.not_eq_false', decide_eq_false_iff_not, beq_iff_eq, beq_eq_false_iff_ne] at *)
              unfold deedE
              (repeat (first | rw [if_pos (by omega)] | rw [if_neg (by omega)] | rw [if_pos (by assumption)] | rw [if_neg (by assumption)] | rw [if_neg (not_not_intro (by assumption))]))
              all_goals first | done | rfl | omega | (simp only [firstE, boundE, decide_eq_true_eq]; (repeat (first | rw [if_pos (by omega)] | rw [if_neg (by omega)] | rw [if_pos (by assumption)] | rw [if_neg (by assumption)] | rw [if_neg (not_not_intro (by assumption))])); first | done | rfl | omega | ((repeat' split) <;> first | rfl | omega | grind))
            · refine go tbv21ok 9 rfl rfl trivial ?_
              refine rt1 rfl rfl ?_
              refine ple ?_
              refine congrArg (PV.int .i64) ?_
              (try simp only [Bool.or_eq_true, Bool.and_eq_true, Bool.not_eq_true', decide_eq_true_eq, Bool.or_eq_false_iff, Bool.and_eq_false_iff, Bool.not_eq_false', decide_eq_false_iff_not, beq_iff_eq, beq_eq_false_iff_ne] at *)
              unfold deedE
              (repeat (first | rw [if_pos (by omega)] | rw [if_neg (by omega)] | rw [if_pos (by assumption)] | rw [if_neg (by assumption)] | rw [if_neg (not_not_intro (by assumption))]))
              all_goals first | done | rfl | omega | (simp only [firstE, boundE, decide_eq_true_eq]; (repeat (first | rw [if_pos (by omega)] | rw [if_neg (by omega)] | rw [if_pos (by assumption)] | rw [if_neg (by assumption)] | rw [if_neg (not_not_intro (by assumption))])); first | done | rfl | omega | ((repeat' split) <;> first | rfl | omega | grind))
          · have p34 := df h25
            refine go tbv21ok 8 rfl rfl trivial ?_
            refine call (r22_names _) rfl rfl fun w35 => ?_
            refine go tbv21ok 2 rfl rfl trivial ?_
            refine cndF rfl (fd (by omega)) ?_
            refine go tbv21ok 14 rfl rfl ⟨(fun hc => hc), (fun hc => hc), rfl, rfl, trivial⟩ ?_
            refine cnd rfl (fun h36 => ?_) (fun h36 => ?_)
            · have h37 := bl h36
              have p38 := dt h37
              have h39 := br h36
              have p40 := dt h39
              refine go tbv21ok 11 rfl rfl trivial ?_
              refine rt1 rfl rfl ?_
              refine ple ?_
              refine congrArg (PV.int .i64) ?_
              (try simp only [Bool.or_eq_true, Bool.and_eq_true, Bool.not_eq_true', decide_eq_true_eq, Bool.or_eq_false_iff, Bool.and_eq_false_iff, Bool.not_eq_false', decide_eq_false_iff_not, beq_iff_eq, beq_eq_false_iff_ne] at *)
              unfold deedE
              (repeat (first | rw [if_pos (by omega)] | rw [if_neg (by omega)] | rw [if_pos (by assumption)] | rw [if_neg (by assumption)] | rw [if_neg (not_not_intro (by assumption))]))
              all_goals first | done | rfl | omega | (simp only [firstE, boundE, decide_eq_true_eq]; (repeat (first | rw [if_pos (by omega)] | rw [if_neg (by omega)] | rw [if_pos (by assumption)] | rw [if_neg (by assumption)] | rw [if_neg (not_not_intro (by assumption))])); first | done | rfl | omega | ((repeat' split) <;> first | rfl | omega | grind))
            · refine go tbv21ok 9 rfl rfl trivial ?_
              refine rt1 rfl rfl ?_
              refine ple ?_
              refine congrArg (PV.int .i64) ?_
              (try simp only [Bool.or_eq_true, Bool.and_eq_true, Bool.not_eq_true', decide_eq_true_eq, Bool.or_eq_false_iff, Bool.and_eq_false_iff, Bool.not_eq_false', decide_eq_false_iff_not, beq_iff_eq, beq_eq_false_iff_ne] at *)
              unfold deedE
              (repeat (first | rw [if_pos (by omega)] | rw [if_neg (by omega)] | rw [if_pos (by assumption)] | rw [if_neg (by assumption)] | rw [if_neg (not_not_intro (by assumption))]))
              all_goals first | done | rfl | omega | (simp only [firstE, boundE, decide_eq_true_eq]; (repeat (first | rw [if_pos (by omega)] | rw [if_neg (by omega)] | rw [if_pos (by assumption)] | rw [if_neg (by assumption)] | rw [if_neg (not_not_intro (by assumption))])); first | done | rfl | omega | ((repeat' split) <;> first | rfl | omega | grind))
      · have p41 := df h11
        refine go tbv21ok 6 rfl rfl trivial ?_
        refine cnd rfl (fun h42 => ?_) (fun h42 => ?_)
        · have p43 := dt h42
          refine go tbv21ok 5 rfl rfl trivial ?_
          refine call (r4_Name _) rfl rfl fun w44 => ?_
          refine go tbv21ok 9 rfl rfl trivial ?_
          refine cnd rfl (fun h45 => ?_) (fun h45 => ?_)
          · have p46 := dt h45
            refine go tbv21ok 4 rfl rfl trivial ?_
            refine call (r22_maybe _) rfl rfl fun w47 => ?_
            have := maybeE_r d.queue.dead
            refine go tbv21ok 9 rfl rfl trivial ?_
            refine call (r22_names _) rfl rfl fun w48 => ?_
            refine go tbv21ok 2 rfl rfl trivial ?_
            refine cndF rfl (fd (by omega)) ?_
            refine go tbv21ok 14 rfl rfl ⟨(fun hc => hc), (fun hc => hc), rfl, rfl, trivial⟩ ?_
            refine cnd rfl (fun h49 => ?_) (fun h49 => ?_)
            · have h50 := bl h49
              have p51 := dt h50
              have h52 := br h49
              have p53 := dt h52
              refine go tbv21ok 11 rfl rfl trivial ?_
              refine rt1 rfl rfl ?_
              refine ple ?_
              refine congrArg (PV.int .i64) ?_
              (try simp only [Bool.or_eq_true, Bool.and_eq_true, Bool.not_eq_true', decide_eq_true_eq, Bool.or_eq_false_iff, Bool.and_eq_false_iff, Bool.not_eq_false', decide_eq_false_iff_not, beq_iff_eq, beq_eq_false_iff_ne] at *)
              unfold deedE
              (repeat (first | rw [if_pos (by omega)] | rw [if_neg (by omega)] | rw [if_pos (by assumption)] | rw [if_neg (by assumption)] | rw [if_neg (not_not_intro (by assumption))]))
              all_goals first | done | rfl | omega | (simp only [firstE, boundE, decide_eq_true_eq]; (repeat (first | rw [if_pos (by omega)] | rw [if_neg (by omega)] | rw [if_pos (by assumption)] | rw [if_neg (by assumption)] | rw [if_neg (not_not_intro (by assumption))])); first | done | rfl | omega | ((repeat' split) <;> first | rfl | omega | grind))
            · refine go tbv21ok 9 rfl rfl trivial ?_
              refine rt1 rfl rfl ?_
              refine ple ?_
              refine congrArg (PV.int .i64) ?_
              (try simp only [Bool.or_eq_true, Bool.and_eq_true, Bool.not_eq_true', decide_eq_true_eq, Bool.or_eq_false_iff, Bool.and_eq_false_iff, Bool.not_eq_false', decide_eq_false_iff_not, beq_iff_eq, beq_eq_false_iff_ne] at *)
              unfold deedE
              (repeat (first | rw [if_pos (by omega)] | rw [if_neg (by omega)] | rw [if_pos (by assumption)] | rw [if_neg (by assumption)] | rw [if_neg (not_not_intro (by assumption))]))
              all_goals first | done | rfl | omega | (simp only [firstE, boundE, decide_eq_true_eq]; (repeat (first | rw [if_pos (by omega)] | rw [if_neg (by omega)] | rw [if_pos (by assumption)] | rw [if_neg (by assumption)] | rw [if_neg (not_not_intro (by assumption))])); first | done | rfl | omega | ((repeat' split) <;> first | rfl | omega | grind))
          · have p54 := df h45
            refine go tbv21ok 8 rfl rfl trivial ?_
            refine call (r22_names _) rfl rfl fun w55 => ?_
            refine go tbv21ok 2 rfl rfl trivial ?_
            refine cndF rfl (fd (by omega)) ?_
            refine go tbv21ok 14 rfl rfl ⟨(fun hc => hc), (fun hc => hc), rfl, rfl, trivial⟩ ?_
            refine cnd rfl (fun h56 => ?_) (fun h56 => ?_)
            · have h57 := bl h56
              have p58 := dt h57
              have h59 := br h56
              have p60 := dt h59
              refine go tbv21ok 11 rfl rfl trivial ?_
              refine rt1 rfl rfl ?_
              refine ple ?_
              refine congrArg (PV.int .i64) ?_
              (try simp only [Bool.or_eq_true, Bool.and_eq_true, Bool.not_eq_true', decide_eq_true_eq, Bool.or_eq_false_iff, Bool.and_eq_false_iff, Bool.not_eq_false', decide_eq_false_iff_not, beq_iff_eq, beq_eq_false_iff_ne] at *)
              unfold deedE
              (repeat (first | rw [if_pos (by omega)] | rw [if_neg (by omega)] | rw [if_pos (by assumption)] | rw [if_neg (by assumption)] | rw [if_neg (not_not_intro (by assumption))]))
              all_goals first | done | rfl | omega | (simp only [firstE, boundE, decide_eq_true_eq]; (repeat (first | rw [if_pos (by omega)] | rw [if_neg (by omega)] | rw [if_pos (by assumption)] | rw [if_neg (by assumption)] | rw [if_neg (not_not_intro (by assumption))])); first | done | rfl | omega | ((repeat' split) <;> first | rfl | omega | grind))
            · refine go tbv21ok 9 rfl rfl trivial ?_
              refine rt1 rfl rfl ?_
              refine ple ?_
              refine congrArg (PV.int .i64) ?_
              (try simp only [Bool.or_eq_true, Bool.and_eq_true, Bool.not_eq_true', decide_eq_true_eq, Bool.or_eq_false_iff, Bool.and_eq_false_iff, Bool.not_eq_false', decide_eq_false_iff_not, beq_iff_eq, beq_eq_false_iff_ne] at *)
              unfold deedE
              (repeat (first | rw [if_pos (by omega)] | rw [if_neg (by omega)] | rw [if_pos (by assumption)] | rw [if_neg (by assumption)] | rw [if_neg (not_not_intro (by assumption))]))
              all_goals first | done | rfl | omega | (simp only [firstE, boundE, decide_eq_true_eq]; (repeat (first | rw [if_pos (by omega)] | rw [if_neg (by omega)] | rw [if_pos (by assumption)] | rw [if_neg (by assumption)] | rw [if_neg (not_not_intro (by assumption))])); first | done | rfl | omega | ((repeat' split) <;> first | rfl | omega | grind))
        · have p61 := df h42
          refine go tbv21ok 7 rfl rfl trivial ?_
          refine cnd rfl (fun h62 => ?_) (fun h62 => ?_)
          · have p63 := dt h62
            refine go tbv21ok 2 rfl rfl trivial ?_
            refine cndT rfl h62 ?_
            refine go tbv21ok 3 rfl rfl trivial ?_
            refine call (r22_checkBind _) rfl rfl fun w64 => ?_
            have := bindE_r d.bind
            refine go tbv21ok 9 rfl rfl trivial ?_
            refine call (r22_names _) rfl rfl fun w65 => ?_
            refine go tbv21ok 2 rfl rfl trivial ?_
            refine cndF rfl (fd (by omega)) ?_
            refine go tbv21ok 14 rfl rfl ⟨(fun hc => hc), (fun hc => hc), rfl, rfl, trivial⟩ ?_
            refine cnd rfl (fun h66 => ?_) (fun h66 => ?_)
            · have h67 := bl h66
              have p68 := dt h67
              have h69 := br h66
              have p70 := dt h69
              refine go tbv21ok 11 rfl rfl trivial ?_
              refine rt1 rfl rfl ?_
              refine ple ?_
              refine congrArg (PV.int .i64) ?_
              (try simp only [Bool.or_eq_true, Bool.and_eq_true, Bool.not_eq_true', decide_eq_true_eq, Bool.or_eq_false_iff, Bool.and_eq_false_iff, Bool.not_eq_false', decide_eq_false_iff_not, beq_iff_eq, beq_eq_false_iff_ne] at *)
              unfold deedE
              (repeat (first | rw [if_pos (by omega)] | rw [if_neg (by omega)] | rw [if_pos (by assumption)] | rw [if_neg (by assumption)] | rw [if_neg (not_not_intro (by assumption))]))
              all_goals first | done | rfl | omega | (simp only [firstE, boundE, decide_eq_true_eq]; (repeat (first | rw [if_pos (by omega)] | rw [if_neg (by omega)] | rw [if_pos (by assumption)] | rw [if_neg (by assumption)] | rw [if_neg (not_not_intro (by assumption))])); first | done | rfl | omega | ((repeat' split) <;> first | rfl | omega | grind))
            · refine go tbv21ok 9 rfl rfl trivial ?_
              refine rt1 rfl rfl ?_
              refine ple ?_
              refine congrArg (PV.int .i64) ?_
              (try simp only [Bool.or_eq_true, Bool.and_eq_true, Bool.not_eq_true', decide_eq_true_eq, Bool.or_eq_false_iff, Bool.and_eq_false_iff, Bool.not_eq_false', decide_eq_false_iff_not, beq_iff_eq, beq_eq_false_iff_ne] at *)
              unfold deedE
              (repeat (first | rw [if_pos (by omega)] | rw [if_neg (by omega)] | rw [if_pos (by assumption)] | rw [if_neg (by assumption)] | rw [if_neg (not_not_intro (by assumption))]))
              all_goals first | done | rfl | omega | (simp only [firstE, boundE, decide_eq_true_eq]; (repeat (first | rw [if_pos (by omega)] | rw [if_neg (by omega)] | rw [if_pos (by assumption)] | rw [if_neg (by assumption)] | rw [if_neg (not_not_intro (by assumption))])); first | done | rfl | omega | ((repeat' split) <;> first | rfl | omega | grind))
          · have p71 := df h62
            refine go tbv21ok 5 rfl rfl trivial ?_
            refine cnd rfl (fun h72 => ?_) (fun h72 => ?_)
            · have p73 := dt h72
              refine go tbv21ok 3 rfl rfl trivial ?_
              refine call (r22_checkBind _) rfl rfl fun w74 => ?_
              have := bindE_r d.bind
              refine go tbv21ok 9 rfl rfl trivial ?_
              refine call (r22_names _) rfl rfl fun w75 => ?_
              refine go tbv21ok 2 rfl rfl trivial ?_
              refine cndF rfl (fd (by omega)) ?_
              refine go tbv21ok 14 rfl rfl ⟨(fun hc => hc), (fun hc => hc), rfl, rfl, trivial⟩ ?_
              refine cnd rfl (fun h76 => ?_) (fun h76 => ?_)
              · have h77 := bl h76
                have p78 := dt h77
                have h79 := br h76
                have p80 := dt h79
                refine go tbv21ok 11 rfl rfl trivial ?_
                refine rt1 rfl rfl ?_
                refine ple ?_
                refine congrArg (PV.int .i64) ?_
                (try simp only [Bool.or_eq_true, Bool.and_eq_true, Bool.not_eq_true', decide_eq_true_eq, Bool.or_eq_false_iff, Bool.and_eq_false_iff, Bool.not_eq_false', decide_eq_false_iff_not, beq_iff_eq, beq_eq_false_iff_ne] at *)
                unfold deedE
                (repeat (first | rw [if_pos (by omega)] | rw [if_neg (by omega)] | rw [if_pos (by assumption)] | rw [if_neg (by assumption)] | rw [if_neg (not_not_intro (by assumption))]))
                all_goals first | done | rfl | omega | (simp only [firstE, boundE, decide_eq_true_eq]; (repeat (first | rw [if_pos (by omega)] | rw [if_neg (by omega)] | rw [if_pos (by assumption)] | rw [if_neg (by assumption)] | rw [if_neg (not_not_intro (by assumption))])); first | done | rfl | omega | ((repeat' split) <;> first | rfl | omega | grind))
              · refine go tbv21ok 9 rfl rfl trivial ?_
                refine rt1 rfl rfl ?_
                refine ple ?_
                refine congrArg (PV.int .i64) ?_
                (try simp only [Bool.or_eq_true, Bool.and_eq_true, Bool.not_eq_true', decide_eq_true_eq, Bool.or_eq_false_iff, Bool.and_eq_false_iff, Bool.not_eq_false', decide_eq_false_iff_not, beq_iff_eq, beq_eq_false_iff_ne] at *)
                unfold deedE
                (repeat (first | rw [if_pos (by omega)] | rw [if_neg (by omega)] | rw [if_pos (by assumption)] | rw [if_neg (by assumption)] | rw [if_neg (not_not_intro (by assumption))]))
                all_goals first | done | rfl | omega | (simp only [firstE, boundE, decide_eq_true_eq]; (repeat (first | rw [if_pos (by omega)] | rw [if_neg (by omega)] | rw [if_pos (by assumption)] | rw [if_neg (by assumption)] | rw [if_neg (not_not_intro (by assumption))])); first | done | rfl | omega | ((repeat' split) <;> first | rfl | omega | grind))
            · have p81 := df h72
              refine go tbv21ok 7 rfl rfl trivial ?_
              refine cnd rfl (fun h82 => ?_) (fun h82 => ?_)
              · have p83 := dt h82
                refine go tbv21ok 2 rfl rfl trivial ?_
                refine cndT rfl h82 ?_
                refine go tbv21ok 3 rfl rfl trivial ?_
                refine call (r13_Check _) rfl rfl fun w84 => ?_
                have := mailC_r d.mail
                refine go tbv21ok 9 rfl rfl trivial ?_
                refine call (r22_names _) rfl rfl fun w85 => ?_
                refine go tbv21ok 2 rfl rfl trivial ?_
                refine cndF rfl (fd (by omega)) ?_
                refine go tbv21ok 14 rfl rfl ⟨(fun hc => hc), (fun hc => hc), rfl, rfl, trivial⟩ ?_
                refine cnd rfl (fun h86 => ?_) (fun h86 => ?_)
                · have h87 := bl h86
                  have p88 := dt h87
                  have h89 := br h86
                  have p90 := dt h89
                  refine go tbv21ok 11 rfl rfl trivial ?_
                  refine rt1 rfl rfl ?_
                  refine ple ?_
                  refine congrArg (PV.int .i64) ?_
                  (try simp only [Bool.or_eq_true, Bool.and_eq_true, Bool.not_eq_true', decide_eq_true_eq, Bool.or_eq_false_iff, Bool.and_eq_false_iff, Bool.not_eq_false', decide_eq_false_iff_not, beq_iff_eq, beq_eq_false_iff_ne] at *)
                  unfold deedE
                  (repeat (first | rw [if_pos (by omega)] | rw [if_neg (by omega)] | rw [if_pos (by assumption)] | rw [if_neg (by assumption)] | rw [if_neg (not_not_intro (by assumption))]))
                  all_goals first | done | rfl | omega | (simp only [firstE, boundE, decide_eq_true_eq]; (repeat (first | rw [if_pos (by omega)] | rw [if_neg (by omega)] | rw [if_pos (by assumption)] | rw [if_neg (by assumption)] | rw [if_neg (not_not_intro (by assumption))])); first | done | rfl | omega | ((repeat' split) <;> first | rfl | omega | grind))
                · refine go tbv21ok 9 rfl rfl trivial ?_
                  refine rt1 rfl rfl ?_
                  refine ple ?_
                  refine congrArg (PV.int .i64) ?_
                  (try simp only [Bool.or_eq_true, Bool.and_eq_true, Bool.not_eq_true', decide_eq_true_eq, Bool.or_eq_false_iff, Bool.and_eq_false_iff, Bool.not_eq_false', decide_eq_false_iff_not, beq_iff_eq, beq_eq_false_iff_ne] at *)
                  unfold deedE
                  (repeat (first | rw [if_pos (by omega)] | rw [if_neg (by omega)] | rw [if_pos (by assumption)] | rw [if_neg (by assumption)] | rw [if_neg (not_not_intro (by assumption))]))
                  all_goals first | done | rfl | omega | (simp only [firstE, boundE, decide_eq_true_eq]; (repeat (first | rw [if_pos (by omega)] | rw [if_neg (by omega)] | rw [if_pos (by assumption)] | rw [if_neg (by assumption)] | rw [if_neg (not_not_intro (by assumption))])); first | done | rfl | omega | ((repeat' split) <;> first | rfl | omega | grind))
              · have p91 := df h82
                refine go tbv21ok 5 rfl rfl trivial ?_
                refine cnd rfl (fun h92 => ?_) (fun h92 => ?_)
                · have p93 := dt h92
                  refine go tbv21ok 3 rfl rfl trivial ?_
                  refine call (r13_Check _) rfl rfl fun w94 => ?_
                  have := mailC_r d.mail
                  refine go tbv21ok 9 rfl rfl trivial ?_
                  refine call (r22_names _) rfl rfl fun w95 => ?_
                  refine go tbv21ok 2 rfl rfl trivial ?_
                  refine cndF rfl (fd (by omega)) ?_
                  refine go tbv21ok 14 rfl rfl ⟨(fun hc => hc), (fun hc => hc), rfl, rfl, trivial⟩ ?_
                  refine cnd rfl (fun h96 => ?_) (fun h96 => ?_)
                  · have h97 := bl h96
                    have p98 := dt h97
                    have h99 := br h96
                    have p100 := dt h99
                    refine go tbv21ok 11 rfl rfl trivial ?_
                    refine rt1 rfl rfl ?_
                    refine ple ?_
                    refine congrArg (PV.int .i64) ?_
                    (try simp only [Bool.or_eq_true, Bool.and_eq_true, Bool.not_eq_true', decide_eq_true_eq, Bool.or_eq_false_iff, Bool.and_eq_false_iff, Bool.not_eq_false', decide_eq_false_iff_not, beq_iff_eq, beq_eq_false_iff_ne] at *)
                    unfold deedE
                    (repeat (first | rw [if_pos (by omega)] | rw [if_neg (by omega)] | rw [if_pos (by assumption)] | rw [if_neg (by assumption)] | rw [if_neg (not_not_intro (by assumption))]))
                    all_goals first | done | rfl | omega | (simp only [firstE, boundE, decide_eq_true_eq]; (repeat (first | rw [if_pos (by omega)] | rw [if_neg (by omega)] | rw [if_pos (by assumption)] | rw [if_neg (by assumption)] | rw [if_neg (not_not_intro (by assumption))])); first | done | rfl | omega | ((repeat' split) <;> first | rfl | omega | grind))
                  · refine go tbv21ok 9 rfl rfl trivial ?_
                    refine rt1 rfl rfl ?_
                    refine ple ?_
                    refine congrArg (PV.int .i64) ?_
                    (try simp only [Bool.or_eq_true, Bool.and_eq_true, Bool.not_eq_true', decide_eq_true_eq, Bool.or_eq_false_iff, Bool.and_eq_false_iff, Bool.not_eq_false', decide_eq_false_iff_not, beq_iff_eq, beq_eq_false_iff_ne] at *)
                    unfold deedE
                    (repeat (first | rw [if_pos (by omega)] | rw [if_neg (by omega)] | rw [if_pos (by assumption)] | rw [if_neg (by assumption)] | rw [if_neg (not_not_intro (by assumption))]))
                    all_goals first | done | rfl | omega | (simp only [firstE, boundE, decide_eq_true_eq]; (repeat (first | rw [if_pos (by omega)] | rw [if_neg (by omega)] | rw [if_pos (by assumption)] | rw [if_neg (by assumption)] | rw [if_neg (not_not_intro (by assumption))])); first | done | rfl | omega | ((repeat' split) <;> first | rfl | omega | grind))
                · have p101 := df h92
                  refine go tbv21ok 6 rfl rfl trivial ?_
                  refine cnd rfl (fun h102 => ?_) (fun h102 => ?_)
                  · have p103 := dt h102
                    refine go tbv21ok 8 rfl rfl trivial ?_
                    refine cnd rfl (fun h104 => ?_) (fun h104 => ?_)
                    · have p105 := dt h104
                      refine go tbv21ok 10 rfl rfl trivial ?_
                      refine call (r22_names _) rfl rfl fun w106 => ?_
                      refine go tbv21ok 2 rfl rfl trivial ?_
                      refine cndF rfl (fd (by omega)) ?_
                      refine go tbv21ok 14 rfl rfl ⟨(fun hc => hc), (fun hc => hc), rfl, rfl, trivial⟩ ?_
                      refine cnd rfl (fun h107 => ?_) (fun h107 => ?_)
                      · have h108 := bl h107
                        have p109 := dt h108
                        have h110 := br h107
                        have p111 := dt h110
                        refine go tbv21ok 11 rfl rfl trivial ?_
                        refine rt1 rfl rfl ?_
                        refine ple ?_
                        refine congrArg (PV.int .i64) ?_
                        (try simp only [Bool.or_eq_true, Bool.and_eq_true, Bool.not_eq_true', decide_eq_true_eq, Bool.or_eq_false_iff, Bool.and_eq_false_iff, Bool.not_eq_false', decide_eq_false_iff_not, beq_iff_eq, beq_eq_false_iff_ne] at *)
                        unfold deedE
                        (repeat (first | rw [if_pos (by omega)] | rw [if_neg (by omega)] | rw [if_pos (by assumption)] | rw [if_neg (by assumption)] | rw [if_neg (not_not_intro (by assumption))]))
                        all_goals first | done | rfl | omega | (simp only [firstE, boundE, decide_eq_true_eq]; (repeat (first | rw [if_pos (by omega)] | rw [if_neg (by omega)] | rw [if_pos (by assumption)] | rw [if_neg (by assumption)] | rw [if_neg (not_not_intro (by assumption))])); first | done | rfl | omega | ((repeat' split) <;> first | rfl | omega | grind))
                      · refine go tbv21ok 9 rfl rfl trivial ?_
                        refine rt1 rfl rfl ?_
                        refine ple ?_
                        refine congrArg (PV.int .i64) ?_
                        (try simp only [Bool.or_eq_true, Bool.and_eq_true, Bool.not_eq_true', decide_eq_true_eq, Bool.or_eq_false_iff, Bool.and_eq_false_iff, Bool.not_eq_false', decide_eq_false_iff_not, beq_iff_eq, beq_eq_false_iff_ne] at *)
                        unfold deedE
                        (repeat (first | rw [if_pos (by omega)] | rw [if_neg (by omega)] | rw [if_pos (by assumption)] | rw [if_neg (by assumption)] | rw [if_neg (not_not_intro (by assumption))]))
                        all_goals first | done | rfl | omega | (simp only [firstE, boundE, decide_eq_true_eq]; (repeat (first | rw [if_pos (by omega)] | rw [if_neg (by omega)] | rw [if_pos (by assumption)] | rw [if_neg (by assumption)] | rw [if_neg (not_not_intro (by assumption))])); first | done | rfl | omega | ((repeat' split) <;> first | rfl | omega | grind))
                    · have p112 := df h104
                      refine go tbv21ok 8 rfl rfl trivial ?_
                      refine call (r22_names _) rfl rfl fun w113 => ?_
                      refine go tbv21ok 2 rfl rfl trivial ?_
                      refine cndF rfl (fd (by omega)) ?_
                      refine go tbv21ok 14 rfl rfl ⟨(fun hc => hc), (fun hc => hc), rfl, rfl, trivial⟩ ?_
                      refine cnd rfl (fun h114 => ?_) (fun h114 => ?_)
                      · have h115 := bl h114
                        have p116 := dt h115
                        have h117 := br h114
                        have p118 := dt h117
                        refine go tbv21ok 11 rfl rfl trivial ?_
                        refine rt1 rfl rfl ?_
                        refine ple ?_
                        refine congrArg (PV.int .i64) ?_
                        (try simp only [Bool.or_eq_true, Bool.and_eq_true, Bool.not_eq_true', decide_eq_true_eq, Bool.or_eq_false_iff, Bool.and_eq_false_iff, Bool.not_eq_false', decide_eq_false_iff_not, beq_iff_eq, beq_eq_false_iff_ne] at *)
                        unfold deedE
                        (repeat (first | rw [if_pos (by omega)] | rw [if_neg (by omega)] | rw [if_pos (by assumption)] | rw [if_neg (by assumption)] | rw [if_neg (not_not_intro (by assumption))]))
                        all_goals first | done | rfl | omega | (simp only [firstE, boundE, decide_eq_true_eq]; (repeat (first | rw [if_pos (by omega)] | rw [if_neg (by omega)] | rw [if_pos (by assumption)] | rw [if_neg (by assumption)] | rw [if_neg (not_not_intro (by assumption))])); first | done | rfl | omega | ((repeat' split) <;> first | rfl | omega | grind))
                      · refine go tbv21ok 9 rfl rfl trivial ?_
                        refine rt1 rfl rfl ?_
                        refine ple ?_
                        refine congrArg (PV.int .i64) ?_
                        (try simp only [Bool.or_eq_true, Bool.and_eq_true, Bool.not_eq_true', decide_eq_true_eq, Bool.or_eq_false_iff, Bool.and_eq_false_iff, Bool.not_eq_false', decide_eq_false_iff_not, beq_iff_eq, beq_eq_false_iff_ne] at *)
                        unfold deedE
                        (repeat (first | rw [if_pos (by omega)] | rw [if_neg (by omega)] | rw [if_pos (by assumption)] | rw [if_neg (by assumption)] | rw [if_neg (not_not_intro (by assumption))]))
                        all_goals first | done | rfl | omega | (simp only [firstE, boundE, decide_eq_true_eq]; (repeat (first | rw [if_pos (by omega)] | rw [if_neg (by omega)] | rw [if_pos (by assumption)] | rw [if_neg (by assumption)] | rw [if_neg (not_not_intro (by assumption))])); first | done | rfl | omega | ((repeat' split) <;> first | rfl | omega | grind))
                  · have p119 := df h102
                    refine go tbv21ok 8 rfl rfl trivial ?_
                    refine call (r22_names _) rfl rfl fun w120 => ?_
                    refine go tbv21ok 2 rfl rfl trivial ?_
                    refine cnd rfl (fun h121 => ?_) (fun h121 => ?_)
                    · have p122 := dt h121
                      refine go tbv21ok 3 rfl rfl trivial ?_
                      refine call (r4_Name _) rfl rfl fun w123 => ?_
                      refine go tbv21ok 15 rfl rfl ⟨(fun hc => hc), (fun hc => hc), rfl, rfl, trivial⟩ ?_
                      refine cnd rfl (fun h124 => ?_) (fun h124 => ?_)
                      · have h125 := bl h124
                        have p126 := dt h125
                        have h127 := br h124
                        have p128 := dt h127
                        refine go tbv21ok 11 rfl rfl trivial ?_
                        refine rt1 rfl rfl ?_
                        refine ple ?_
                        refine congrArg (PV.int .i64) ?_
                        (try simp only [Bool.or_eq_true, Bool.and_eq_true, Bool.not_eq_true', decide_eq_true_eq, Bool.or_eq_false_iff, Bool.and_eq_false_iff, Bool.not_eq_false', decide_eq_false_iff_not, beq_iff_eq, beq_eq_false_iff_ne] at *)
                        unfold deedE
                        (repeat (first | rw [if_pos (by omega)] | rw [if_neg (by omega)] | rw [if_pos (by assumption)] | rw [if_neg (by assumption)] | rw [if_neg (not_not_intro (by assumption))]))
                        all_goals first | done | rfl | omega | (simp only [firstE, boundE, decide_eq_true_eq]; (repeat (first | rw [if_pos (by omega)] | rw [if_neg (by omega)] | rw [if_pos (by assumption)] | rw [if_neg (by assumption)] | rw [if_neg (not_not_intro (by assumption))])); first | done | rfl | omega | ((repeat' split) <;> first | rfl | omega | grind))
                      · refine go tbv21ok 9 rfl rfl trivial ?_
                        refine rt1 rfl rfl ?_
                        refine ple ?_
                        refine congrArg (PV.int .i64) ?_
                        (try simp only [Bool.or_eq_true, Bool.and_eq_true, Bool.not_eq_true', decide_eq_true_eq, Bool.or_eq_false_iff, Bool.and_eq_false_iff, Bool.not_eq_false', decide_eq_false_iff_not, beq_iff_eq, beq_eq_false_iff_ne] at *)
                        unfold deedE
                        (repeat (first | rw [if_pos (by omega)] | rw [if_neg (by omega)] | rw [if_pos (by assumption)] | rw [if_neg (by assumption)] | rw [if_neg (not_not_intro (by assumption))]))
                        all_goals first | done | rfl | omega | (simp only [firstE, boundE, decide_eq_true_eq]; (repeat (first | rw [if_pos (by omega)] | rw [if_neg (by omega)] | rw [if_pos (by assumption)] | rw [if_neg (by assumption)] | rw [if_neg (not_not_intro (by assumption))])); first | done | rfl | omega | ((repeat' split) <;> first | rfl | omega | grind))
                    · have p129 := df h121
                      refine go tbv21ok 14 rfl rfl ⟨(fun hc => hc), (fun hc => hc), rfl, rfl, trivial⟩ ?_
                      refine cnd rfl (fun h130 => ?_) (fun h130 => ?_)
                      · have h131 := bl h130
                        have p132 := dt h131
                        have h133 := br h130
                        have p134 := dt h133
                        refine go tbv21ok 11 rfl rfl trivial ?_
                        refine rt1 rfl rfl ?_
                        refine ple ?_
                        refine congrArg (PV.int .i64) ?_
                        (try simp only [Bool.or_eq_true, Bool.and_eq_true, Bool.not_eq_true', decide_eq_true_eq, Bool.or_eq_false_iff, Bool.and_eq_false_iff, Bool.not_eq_false', decide_eq_false_iff_not, beq_iff_eq, beq_eq_false_iff_ne] at *)
                        unfold deedE
                        (repeat (first | rw [if_pos (by omega)] | rw [if_neg (by omega)] | rw [if_pos (by assumption)] | rw [if_neg (by assumption)] | rw [if_neg (not_not_intro (by assumption))]))
                        all_goals first | done | rfl | omega | (simp only [firstE, boundE, decide_eq_true_eq]; (repeat (first | rw [if_pos (by omega)] | rw [if_neg (by omega)] | rw [if_pos (by assumption)] | rw [if_neg (by assumption)] | rw [if_neg (not_not_intro (by assumption))])); first | done | rfl | omega | ((repeat' split) <;> first | rfl | omega | grind))
                      · refine go tbv21ok 9 rfl rfl trivial ?_
                        refine rt1 rfl rfl ?_
                        refine ple ?_
                        refine congrArg (PV.int .i64) ?_
                        (try simp only [Bool.or_eq_true, Bool.and_eq_true, Bool.not_eq_true', decide_eq_true_eq, Bool.or_eq_false_iff, Bool.and_eq_false_iff, Bool.not_eq_false', decide_eq_false_iff_not, beq_iff_eq, beq_eq_false_iff_ne] at *)
                        unfold deedE
                        (repeat (first | rw [if_pos (by omega)] | rw [if_neg (by omega)] | rw [if_pos (by assumption)] | rw [if_neg (by assumption)] | rw [if_neg (not_not_intro (by assumption))]))
                        all_goals first | done | rfl | omega | (simp only [firstE, boundE, decide_eq_true_eq]; (repeat (first | rw [if_pos (by omega)] | rw [if_neg (by omega)] | rw [if_pos (by assumption)] | rw [if_neg (by assumption)] | rw [if_neg (not_not_intro (by assumption))])); first | done | rfl | omega | ((repeat' split) <;> first | rfl | omega | grind))
end Go.SW.V
set_option linter.unusedVariables false
set_option maxRecDepth 100000
set_option maxHeartbeats 4000000
namespace Go.SW.V
open Go.SW Go.Proofs
theorem cb148 : Callable Tryz.prog 148 := callable_of Tryz.func148 (by kernel_rfl) (by kernel_rfl)
theorem cb152 : Callable Tryz.prog 152 := callable_of Tryz.func152 (by kernel_rfl) (by kernel_rfl)
theorem cb168 : Callable Tryz.prog 168 := callable_of Tryz.func168 (by kernel_rfl) (by kernel_rfl)
theorem cb172 : Callable Tryz.prog 172 := callable_of Tryz.func172 (by kernel_rfl) (by kernel_rfl)
def tbv22 : Tb := [(4, ⟨.bool, 1, 1, [.bool false]⟩),
  (5, ⟨.int .u8, 1, 1, [.int .u8 0]⟩),
  (9, ⟨.str, 1, 16, [.str []]⟩),
  (47, ⟨.slc 139, 1, 24, [.sl Pair.pc []]⟩),
  (139, ⟨.agg [(0, 1), (1, 1), (2, 1), (3, 1)], 4, 48, [.str [], .int .u8 0, .int .i64 0, .str []]⟩),
  (206, ⟨.agg [(0, 1), (1, 1), (2, 1), (3, 1)], 4, 56, [.int .u8 0, .str [], .sl Pair.pc [], .bool false]⟩)]
theorem tbv22ok : tbB Tryz.prog tbv22 = true := by kernel_rfl
theorem rule_Check (r : Rule) : Fn Tryz.prog gb 148 [.agg (Rule.pc r)] (.int .i64 (ruleE r)) := by
  refine fn_cw tbv22ok Tryz.func148 rfl Tryz.ntmps148 rfl cb148 rfl rfl fun w N H hG => ?_
  have r_w := Rule.pwf w.1
  have r_w' := r_w
  simp only [Rule.wf] at r_w'
  have r_want_k := Rule.kd2 w.1
  have r_want_k2 : r.want.length ≤ 140737488355328 := w.1.2.2.1.1
  refine go tbv22ok 2 rfl rfl trivial ?_
  refine ef (boxA 0 rfl rfl rfl fun b1 => ?_)
  refine go tbv22ok 18 rfl rfl trivial ?_
  refine cnd rfl (fun h2 => ?_) (fun h2 => ?_)
  · have p3 := dt h2
    refine go tbv22ok 8 rfl rfl trivial ?_
    refine rt1 rfl rfl ?_
    refine ple ?_
    refine congrArg (PV.int .i64) ?_
    (try simp only [Bool.or_eq_true, Bool.and_eq_true, Bool.not_eq_true', decide_eq_true_eq, Bool.or_eq_false_iff, Bool.and_eq_false_iff, Bool.not_eq_false', decide_eq_false_iff_not, beq_iff_eq, beq_eq_false_iff_ne] at *)
    unfold ruleE
    repeat (first | rw [if_pos (by omega)] | rw [if_neg (by omega)])
    all_goals first | done | rfl | omega
  · have p4 := df h2
    refine go tbv22ok 8 rfl rfl trivial ?_
    refine cnd rfl (fun h5 => ?_) (fun h5 => ?_)
    · have p6 := dt h5
      refine go tbv22ok 3 rfl rfl trivial ?_
      refine call (words_Key _) rfl rfl fun w7 => ?_
      refine go tbv22ok 11 rfl rfl trivial ?_
      refine cnd rfl (fun h8 => ?_) (fun h8 => ?_)
      · have h9 := not_t h8
        have p10 := df h9
        refine go tbv22ok 8 rfl rfl trivial ?_
        refine rt1 rfl rfl ?_
        refine ple ?_
        refine congrArg (PV.int .i64) ?_
        (try simp only [Bool.or_eq_true, Bool.and_eq_true, Bool.not_eq_true', decide_eq_true_eq, Bool.or_eq_false_iff, Bool.and_eq_false_iff, Bool.not_eq_false', decide_eq_false_iff_not, beq_iff_eq, beq_eq_false_iff_ne] at *)
        unfold ruleE
        repeat (first | rw [if_pos (by omega)] | rw [if_neg (by omega)])
        all_goals first | done | rfl | omega
      · have h11 := not_f h8
        have p12 := dt h11
        refine go tbv22ok 6 rfl rfl trivial ?_
        refine call (head_Check _) rfl rfl fun w13 => ?_
        refine go tbv22ok 4 rfl rfl trivial ?_
        refine rt1 rfl rfl ?_
        refine ple ?_
        refine congrArg (PV.int .i64) ?_
        (try simp only [Bool.or_eq_true, Bool.and_eq_true, Bool.not_eq_true', decide_eq_true_eq, Bool.or_eq_false_iff, Bool.and_eq_false_iff, Bool.not_eq_false', decide_eq_false_iff_not, beq_iff_eq, beq_eq_false_iff_ne] at *)
        unfold ruleE
        repeat (first | rw [if_pos (by omega)] | rw [if_neg (by omega)])
        all_goals first | done | rfl | omega
    · have p14 := df h5
      refine go tbv22ok 3 rfl rfl trivial ?_
      refine call (words_Pattern _) rfl rfl fun w15 => ?_
      refine go tbv22ok 11 rfl rfl trivial ?_
      refine cnd rfl (fun h16 => ?_) (fun h16 => ?_)
      · have h17 := not_t h16
        have p18 := df h17
        refine go tbv22ok 8 rfl rfl trivial ?_
        refine rt1 rfl rfl ?_
        refine ple ?_
        refine congrArg (PV.int .i64) ?_
        (try simp only [Bool.or_eq_true, Bool.and_eq_true, Bool.not_eq_true', decide_eq_true_eq, Bool.or_eq_false_iff, Bool.and_eq_false_iff, Bool.not_eq_false', decide_eq_false_iff_not, beq_iff_eq, beq_eq_false_iff_ne] at *)
        unfold ruleE
        repeat (first | rw [if_pos (by omega)] | rw [if_neg (by omega)])
        all_goals first | done | rfl | omega
      · have h19 := not_f h16
        have p20 := dt h19
        refine go tbv22ok 6 rfl rfl trivial ?_
        refine call (head_Check _) rfl rfl fun w21 => ?_
        refine go tbv22ok 4 rfl rfl trivial ?_
        refine rt1 rfl rfl ?_
        refine ple ?_
        refine congrArg (PV.int .i64) ?_
        (try simp only [Bool.or_eq_true, Bool.and_eq_true, Bool.not_eq_true', decide_eq_true_eq, Bool.or_eq_false_iff, Bool.and_eq_false_iff, Bool.not_eq_false', decide_eq_false_iff_not, beq_iff_eq, beq_eq_false_iff_ne] at *)
        unfold ruleE
        repeat (first | rw [if_pos (by omega)] | rw [if_neg (by omega)])
        all_goals first | done | rfl | omega
theorem rule_heads (r : Rule) (h : List Pair) : Fn Tryz.prog gb 168 [.agg (Rule.pc r), .sl Pair.pc h] (.bool (headsGo r.all h r.want)) := by
  refine fn_cw tbv22ok Tryz.func168 rfl Tryz.ntmps168 rfl cb168 rfl rfl fun w N H hG => ?_
  have r_want_l : r.want.length ≤ 140737488355328 := w.1.2.2.1.1
  have h_l : h.length ≤ 140737488355328 := w.2.1.1
  refine go tbv22ok 2 rfl rfl trivial ?_
  refine ef (boxA 0 rfl rfl rfl fun b1 => ?_)
  refine go tbv22ok 17 rfl rfl trivial ?_
  refine loop (ι := Nat) [0, 1, 2, 10, 11, 12] [0] (fun k => [(13, .int .i64 (k : Int))]) (fun k => []) (fun k => k ≤ r.want.length ∧ headsGo r.all h r.want = headsGo r.all h (r.want.drop k)) (fun k => r.want.length - k) 0 ⟨rfl, trivial⟩ trivial ?_ ?_
  · exact ⟨Nat.zero_le _, rfl⟩
  · rintro k hp2
    obtain ⟨hk1, hk2⟩ := hp2
    refine go tbv22ok 6 rfl rfl trivial ?_
    refine cnd rfl (fun h3 => ?_) (fun h3 => ?_)
    · have p4 := dt h3
      obtain ⟨c5, hc6⟩ := getE (xs := r.want) (m := k) (by omega)
      have c5_w := Pair.pwf (w.1.2.2.1.2 c5 (List.mem_of_getElem? hc6))
      refine go tbv22ok 6 rfl rfl trivial ?_
      refine q1 (qidx tbv22ok k rfl rfl rfl hc6 rfl rfl rfl rfl) rfl fun w7 => ?_
      refine go tbv22ok 1 rfl rfl trivial ?_
      refine ef (alloc tbv22ok 1 rfl rfl rfl rfl fun b8 => ?_)
      refine ef (storeA tbv22ok rfl rfl rfl rfl rfl rfl rfl rfl rfl rfl ?_)
      refine go tbv22ok 7 rfl rfl trivial ?_
      refine call (head_Find _ _) rfl rfl fun w9 => ?_
      refine go tbv22ok 3 rfl rfl trivial ?_
      refine ef (alloc tbv22ok 2 rfl rfl rfl rfl fun b10 => ?_)
      refine ef (storeA tbv22ok rfl rfl rfl rfl rfl rfl rfl rfl rfl rfl ?_)
      refine go tbv22ok 9 rfl rfl trivial ?_
      refine q1g [26, 27] rfl (fun hc => saeq rfl rfl eqg139 (veq139 ((findP h c5.key).getD Pair.zero) c5)) ⟨(fun hc => hc), (fun hc => hc), trivial⟩ rfl rfl rfl fun _ => ?_
      refine go tbv22ok 15 rfl rfl ⟨rfl, rfl, (fun hc => hc), rfl, rfl, trivial⟩ ?_
      refine cnd rfl (fun h11 => ?_) (fun h11 => ?_)
      · have h12 := bl h11
        have h13 := bl h12
        have h14 := br h12
        have p15 := dt h14
        have h16 := br h11
        refine go tbv22ok 8 rfl rfl ⟨(by omega), trivial⟩ ?_
        refine next (k + 1) rfl rfl ⟨rfl, trivial⟩ trivial ?_ ?_
        · omega
        · refine ⟨by omega, ?_⟩
          rw [hk2, dropE hc6]
          simp only [headsGo]
          first | (simp only [hasP]; simp [*]; done) | (unfold hasP; simp_all; done) | (unfold hasP; grind)
      · refine go tbv22ok 6 rfl rfl trivial ?_
        refine cnd rfl (fun h17 => ?_) (fun h17 => ?_)
        · have h18 := bl h17
          have h19 := br h17
          have p20 := dt h19
          refine go tbv22ok 13 rfl rfl trivial ?_
          refine rt1 rfl rfl ?_
          refine ple ?_
          refine congrArg PV.bool ?_
          rw [hk2, dropE hc6]
          simp only [headsGo]
          first | (simp only [hasP]; simp [*]; done) | (unfold hasP; simp_all; done) | (unfold hasP; grind)
        · refine go tbv22ok 7 rfl rfl trivial ?_
          refine cnd rfl (fun h21 => ?_) (fun h21 => ?_)
          · refine go tbv22ok 13 rfl rfl trivial ?_
            refine rt1 rfl rfl ?_
            refine ple ?_
            refine congrArg PV.bool ?_
            rw [hk2, dropE hc6]
            simp only [headsGo]
            first | (simp only [hasP]; simp [*]; done) | (unfold hasP; simp_all; done) | (unfold hasP; grind)
          · refine go tbv22ok 8 rfl rfl ⟨(by omega), trivial⟩ ?_
            refine next (k + 1) rfl rfl ⟨rfl, trivial⟩ trivial ?_ ?_
            · omega
            · refine ⟨by omega, ?_⟩
              rw [hk2, dropE hc6]
              simp only [headsGo]
              first | (simp only [hasP]; simp [*]; done) | (unfold hasP; simp_all; done) | (unfold hasP; grind)
    · have p22 := df h3
      refine go tbv22ok 14 rfl rfl trivial ?_
      refine rt1 rfl rfl ?_
      refine ple ?_
      refine congrArg PV.bool ?_
      rw [hk2, List.drop_of_length_le (by omega)]
      rfl
theorem rule_Goes (r : Rule) (key : Bs) (h : List Pair) (hrk : r.key.length < 4294967281) (hk : key.length < 4294967281) : Fn Tryz.prog gb 152 [.agg (Rule.pc r), .str key, .sl Pair.pc h] (.bool (goesR r key h)) := by
  refine fn_cw tbv22ok Tryz.func152 rfl Tryz.ntmps152 rfl cb152 rfl rfl fun w N H hG => ?_
  have r_want_l : r.want.length ≤ 140737488355328 := w.1.2.2.1.1
  have key_l : key.length ≤ 9223372036854775807 := w.2.1
  have h_l : h.length ≤ 140737488355328 := w.2.2.1.1
  refine go tbv22ok 2 rfl rfl trivial ?_
  refine ef (boxA 0 rfl rfl rfl fun b1 => ?_)
  refine go tbv22ok 17 rfl rfl trivial ?_
  refine cnd rfl (fun h2 => ?_) (fun h2 => ?_)
  · have p3 := dt h2
    refine go tbv22ok 12 rfl rfl trivial ?_
    refine rt1 rfl rfl ?_
    refine ple ?_
    refine congrArg PV.bool ?_
    first | (simp [goesR, *]; done) | (simp [goesR, *]; omega)
  · have p4 := df h2
    refine go tbv22ok 6 rfl rfl trivial ?_
    refine cnd rfl (fun h5 => ?_) (fun h5 => ?_)
    · have p6 := dt h5
      refine go tbv22ok 5 rfl rfl trivial ?_
      refine call (words_Matches _ _ (by first | omega | (simp; done) | decide) (by first | omega | (simp; done) | decide)) rfl rfl fun w7 => ?_
      refine go tbv22ok 6 rfl rfl trivial ?_
      refine rt1 rfl rfl ?_
      refine ple ?_
      refine congrArg PV.bool ?_
      first | (simp [goesR, *]; done) | (simp [goesR, *]; omega)
    · have p8 := df h5
      refine go tbv22ok 6 rfl rfl trivial ?_
      refine cnd rfl (fun h9 => ?_) (fun h9 => ?_)
      · have p10 := dt h9
        refine go tbv22ok 4 rfl rfl trivial ?_
        refine call (rule_heads _ _) rfl rfl fun w11 => ?_
        refine go tbv22ok 6 rfl rfl trivial ?_
        refine rt1 rfl rfl ?_
        refine ple ?_
        refine congrArg PV.bool ?_
        first | (simp [goesR, *]; done) | (simp [goesR, *]; omega)
      · have p12 := df h9
        refine go tbv22ok 9 rfl rfl trivial ?_
        refine rt1 rfl rfl ?_
        refine ple ?_
        refine congrArg PV.bool ?_
        first | (simp [goesR, *]; done) | (simp [goesR, *]; omega)
theorem match_Same (a : Rule) (b : Rule) : Fn Tryz.prog gb 172 [.agg (Rule.pc a), .agg (Rule.pc b)] (.bool (decide (a = b))) := by
  refine fn_cw tbv22ok Tryz.func172 rfl Tryz.ntmps172 rfl cb172 rfl rfl fun w N H hG => ?_
  have a_want_l : a.want.length ≤ 140737488355328 := w.1.2.2.1.1
  have b_want_l : b.want.length ≤ 140737488355328 := w.2.1.2.2.1.1
  refine go tbv22ok 2 rfl rfl trivial ?_
  refine ef (boxA 0 rfl rfl rfl fun b1 => ?_)
  refine ef (boxA 1 rfl rfl rfl fun b2 => ?_)
  refine go tbv22ok 29 rfl rfl ⟨(fun hc => hc), (fun hc => hc), (fun hc => hc), (fun hc => hc), rfl, rfl, (fun hc => hc), (fun hc => hc), (fun hc => hc), (fun hc => hc), rfl, rfl, (fun hc => hc), (fun hc => hc), trivial⟩ ?_
  refine callg rfl (fun hc => (eq_Pair _ _)) rfl ⟨(fun hc => hc), (fun hc => hc), trivial⟩ rfl rfl fun _ => ?_
  refine go tbv22ok 5 rfl rfl ⟨rfl, rfl, trivial⟩ ?_
  refine rt1 rfl rfl ?_
  refine ple ?_
  exact congrArg PV.bool (by rw [Bool.eq_iff_iff]; first | (simp [Rule.eq_iff, and_assoc]; done) | (simp [Rule.eq_iff]; grind))
end Go.SW.V
set_option linter.unusedVariables false
set_option maxRecDepth 100000
set_option maxHeartbeats 4000000
namespace Go.SW.V
open Go.SW Go.Proofs
theorem cb138 : Callable Tryz.prog 138 := callable_of Tryz.func138 (by kernel_rfl) (by kernel_rfl)
theorem cb144 : Callable Tryz.prog 144 := callable_of Tryz.func144 (by kernel_rfl) (by kernel_rfl)
theorem cb145 : Callable Tryz.prog 145 := callable_of Tryz.func145 (by kernel_rfl) (by kernel_rfl)
theorem cb169 : Callable Tryz.prog 169 := callable_of Tryz.func169 (by kernel_rfl) (by kernel_rfl)
theorem cb173 : Callable Tryz.prog 173 := callable_of Tryz.func173 (by kernel_rfl) (by kernel_rfl)
def tbv23 : Tb := [(5, ⟨.int .u8, 1, 1, [.int .u8 0]⟩),
  (9, ⟨.str, 1, 16, [.str []]⟩),
  (44, ⟨.agg [(0, 1), (1, 1), (2, 1)], 3, 40, [.str [], .int .u8 0, .str []]⟩),
  (146, ⟨.slc 9, 1, 24, [.sl strc []]⟩),
  (188, ⟨.slc 44, 1, 24, [.sl ShopR.pc []]⟩),
  (191, ⟨.agg [(0, 1), (1, 1)], 2, 48, [.sl ShopR.pc [], .sl BindR.pc []]⟩)]
theorem tbv23ok : tbB Tryz.prog tbv23 = true := by kernel_rfl
theorem eq_Str (a : List Bs) (b : List Bs) : Fn Tryz.prog gb 138 [.sl strc a, .sl strc b] (.bool (decide (a = b))) := by
  refine fn_cw tbv23ok Tryz.func138 rfl Tryz.ntmps138 rfl cb138 rfl rfl fun w N H hG => ?_
  have a_l : a.length ≤ 140737488355328 := w.1.1
  have b_l : b.length ≤ 140737488355328 := w.2.1.1
  refine go tbv23ok 15 rfl rfl trivial ?_
  refine cnd rfl (fun h1 => ?_) (fun h1 => ?_)
  · have h2 := not_t h1
    have p3 := df h2
    refine go tbv23ok 7 rfl rfl trivial ?_
    refine rt1 rfl rfl ?_
    refine ple ?_
    exact congrArg PV.bool (eqL_len (by assumption)).symm
  · have h4 := not_f h1
    have p5 := dt h4
    refine go tbv23ok 11 rfl rfl trivial ?_
    refine loop (ι := Nat) [0, 1, 6, 7, 8, 9, 10, 11, 12] [] (fun k => [(13, .int .i64 (k : Int))]) (fun k => []) (fun k => k ≤ a.length ∧ decide (a = b) = decide (a.drop k = b.drop k)) (fun k => a.length - k) 0 ⟨rfl, trivial⟩ trivial ?_ ?_
    · exact ⟨Nat.zero_le _, rfl⟩
    · rintro k hp6
      obtain ⟨hk1, hk2⟩ := hp6
      refine go tbv23ok 6 rfl rfl trivial ?_
      refine cnd rfl (fun h7 => ?_) (fun h7 => ?_)
      · have p8 := dt h7
        refine go tbv23ok 11 rfl rfl trivial ?_
        refine any [0, 1, 2, 3, 4, 5] 9 mixd rfl ?_
        refine gov tbv23ok [0, 1] 7 rfl (by kernel_rfl) rfl rfl trivial ?_
        obtain ⟨c9, hc10⟩ := getE (xs := a) (m := k) (by omega)
        have c9_l : c9.length ≤ 9223372036854775807 := (w.1.2 c9 (List.mem_of_getElem? hc10)).1
        refine vq 2 (qidx tbv23ok k rfl rfl rfl hc10 rfl rfl rfl rfl) rfl (by kernel_rfl) rfl fun w11 => ?_
        refine gov tbv23ok [3, 4, 5] 3 rfl (by kernel_rfl) rfl rfl trivial ?_
        obtain ⟨c12, hc13⟩ := getE (xs := b) (m := k) (by omega)
        have c12_l : c12.length ≤ 9223372036854775807 := (w.2.1.2 c12 (List.mem_of_getElem? hc13)).1
        refine vq 6 (qidx tbv23ok k rfl rfl rfl hc13 rfl rfl rfl rfl) rfl (by kernel_rfl) rfl fun w14 => ?_
        refine gov tbv23ok [7, 8] 0 rfl (by kernel_rfl) rfl rfl trivial ?_
        refine vdone (by kernel_rfl) ?_
        refine go tbv23ok 1 rfl rfl trivial ?_
        refine cnd rfl (fun h15 => ?_) (fun h15 => ?_)
        · have h16 := not_t h15
          have p17 := df h16
          refine go tbv23ok 11 rfl rfl trivial ?_
          refine rt1 rfl rfl ?_
          refine ple ?_
          exact congrArg PV.bool (eqL_miss hk2 (dropE hc10) (dropE hc13) (by assumption)).symm
        · have h18 := not_f h15
          have p19 := dt h18
          refine go tbv23ok 7 rfl rfl ⟨(by omega), trivial⟩ ?_
          refine next (k + 1) rfl rfl ⟨rfl, trivial⟩ trivial ?_ ?_
          · omega
          · exact ⟨by omega, eqL_step hk2 (dropE hc10) (dropE hc13) (by assumption)⟩
      · have p20 := df h7
        refine go tbv23ok 11 rfl rfl trivial ?_
        refine rt1 rfl rfl ?_
        refine ple ?_
        exact congrArg PV.bool (eqL_end hk2 (by omega) (by omega)).symm
theorem index_Str (l : List Bs) (x : Bs) : Fn Tryz.prog gb 173 [.sl strc l, .str x] (.int .i64 (idxP (fun y => decide (x = y)) l)) := by
  refine fn_cw tbv23ok Tryz.func173 rfl Tryz.ntmps173 rfl cb173 rfl rfl fun w N H hG => ?_
  have l_l : l.length ≤ 140737488355328 := w.1.1
  have x_l : x.length ≤ 9223372036854775807 := w.2.1
  refine go tbv23ok 14 rfl rfl trivial ?_
  refine loop (ι := Nat) [0, 1, 6, 7] [] (fun k => [(8, .int .i64 (k : Int))]) (fun k => []) (fun k => k ≤ l.length ∧ idxP (fun y => decide (x = y)) l = idxF (fun y => decide (x = y)) k (l.drop k)) (fun k => l.length - k) 0 ⟨rfl, trivial⟩ trivial ?_ ?_
  · exact ⟨Nat.zero_le _, rfl⟩
  · rintro k hp1
    obtain ⟨hik1, hik2⟩ := hp1
    refine go tbv23ok 6 rfl rfl trivial ?_
    refine cnd rfl (fun h2 => ?_) (fun h2 => ?_)
    · have p3 := dt h2
      obtain ⟨c4, hc5⟩ := getE (xs := l) (m := k) (by omega)
      have c4_l : c4.length ≤ 9223372036854775807 := (w.1.2 c4 (List.mem_of_getElem? hc5)).1
      refine go tbv23ok 15 rfl rfl trivial ?_
      refine q1 (qidx tbv23ok k rfl rfl rfl hc5 rfl rfl rfl rfl) rfl fun w6 => ?_
      refine go tbv23ok 4 rfl rfl trivial ?_
      refine cnd rfl (fun h7 => ?_) (fun h7 => ?_)
      · have p8 := dt h7
        refine go tbv23ok 12 rfl rfl trivial ?_
        refine rt1 rfl rfl ?_
        refine ple ?_
        exact congrArg (PV.int .i64) (idx_hit hik2 (dropE hc5) (by first | assumption | (simp [*]; done))).symm
      · have p9 := df h7
        refine go tbv23ok 7 rfl rfl ⟨(by omega), trivial⟩ ?_
        refine next (k + 1) rfl rfl ⟨rfl, trivial⟩ trivial ?_ ?_
        · omega
        · exact ⟨by omega, idx_miss hik2 (dropE hc5) (by assumption)⟩
    · have p10 := df h2
      refine go tbv23ok 11 rfl rfl trivial ?_
      refine rt1 rfl rfl ?_
      refine ple ?_
      exact congrArg (PV.int .i64) (idx_end hik2 (by omega)).symm
theorem contains_Str (l : List Bs) (x : Bs) : Fn Tryz.prog gb 169 [.sl strc l, .str x] (.bool (decide (x ∈ l))) := by
  refine fn_cw tbv23ok Tryz.func169 rfl Tryz.ntmps169 rfl cb169 rfl rfl fun w N H hG => ?_
  have l_l : l.length ≤ 140737488355328 := w.1.1
  have x_l : x.length ≤ 9223372036854775807 := w.2.1
  refine go tbv23ok 9 rfl rfl trivial ?_
  refine call (index_Str _ _) rfl rfl fun w1 => ?_
  have := idxP_r (fun y => decide (x = y)) l
  refine go tbv23ok 5 rfl rfl trivial ?_
  refine rt1 rfl rfl ?_
  refine ple ?_
  refine congrArg PV.bool ?_
  rw [Bool.eq_iff_iff, decide_eq_true_eq, decide_eq_true_eq, idxP_any]
  simp
theorem shop_check (x : ShopR) : Fn Tryz.prog gb 144 [.agg (ShopR.pc x)] (.int .i64 (shopE x)) := by
  refine fn_cw tbv23ok Tryz.func144 rfl Tryz.ntmps144 rfl cb144 rfl rfl fun w N H hG => ?_
  refine go tbv23ok 2 rfl rfl trivial ?_
  refine ef (boxA 0 rfl rfl rfl fun b1 => ?_)
  refine go tbv23ok 8 rfl rfl trivial ?_
  refine call (words_Name _) rfl rfl fun w2 => ?_
  refine go tbv23ok 9 rfl rfl trivial ?_
  refine cnd rfl (fun h3 => ?_) (fun h3 => ?_)
  · have h4 := not_t h3
    have p5 := df h4
    refine go tbv23ok 8 rfl rfl trivial ?_
    refine rt1 rfl rfl ?_
    refine ple ?_
    refine congrArg (PV.int .i64) ?_
    simp only [Bool.or_eq_true, Bool.and_eq_true, Bool.not_eq_true', decide_eq_true_eq, Bool.or_eq_false_iff, Bool.and_eq_false_iff, Bool.not_eq_false', decide_eq_false_iff_not, beq_iff_eq, beq_eq_false_iff_ne] at *
    unfold shopE
    (repeat' split) <;> first | rfl | (exfalso; omega) | (exfalso; simp_all; done) | (exfalso; simp_all; omega) | grind
  · have h6 := not_f h3
    have p7 := dt h6
    refine go tbv23ok 12 rfl rfl trivial ?_
    refine cnd rfl (fun h8 => ?_) (fun h8 => ?_)
    · have p9 := dt h8
      refine go tbv23ok 8 rfl rfl trivial ?_
      refine rt1 rfl rfl ?_
      refine ple ?_
      refine congrArg (PV.int .i64) ?_
      simp only [Bool.or_eq_true, Bool.and_eq_true, Bool.not_eq_true', decide_eq_true_eq, Bool.or_eq_false_iff, Bool.and_eq_false_iff, Bool.not_eq_false', decide_eq_false_iff_not, beq_iff_eq, beq_eq_false_iff_ne] at *
      unfold shopE
      (repeat' split) <;> first | rfl | (exfalso; omega) | (exfalso; simp_all; done) | (exfalso; simp_all; omega) | grind
    · have p10 := df h8
      refine go tbv23ok 8 rfl rfl trivial ?_
      refine cnd rfl (fun h11 => ?_) (fun h11 => ?_)
      · have p12 := dt h11
        refine go tbv23ok 4 rfl rfl trivial ?_
        refine call (words_Name _) rfl rfl fun w13 => ?_
        refine go tbv23ok 6 rfl rfl trivial ?_
        refine rt1 rfl rfl ?_
        refine ple ?_
        refine congrArg (PV.int .i64) ?_
        simp only [Bool.or_eq_true, Bool.and_eq_true, Bool.not_eq_true', decide_eq_true_eq, Bool.or_eq_false_iff, Bool.and_eq_false_iff, Bool.not_eq_false', decide_eq_false_iff_not, beq_iff_eq, beq_eq_false_iff_ne] at *
        unfold shopE
        (repeat' split) <;> first | rfl | (exfalso; omega) | (exfalso; simp_all; done) | (exfalso; simp_all; omega) | grind
      · have p14 := df h11
        refine go tbv23ok 8 rfl rfl trivial ?_
        refine cnd rfl (fun h15 => ?_) (fun h15 => ?_)
        · have h16 := not_t h15
          have p17 := df h16
          refine go tbv23ok 8 rfl rfl trivial ?_
          refine rt1 rfl rfl ?_
          refine ple ?_
          refine congrArg (PV.int .i64) ?_
          simp only [Bool.or_eq_true, Bool.and_eq_true, Bool.not_eq_true', decide_eq_true_eq, Bool.or_eq_false_iff, Bool.and_eq_false_iff, Bool.not_eq_false', decide_eq_false_iff_not, beq_iff_eq, beq_eq_false_iff_ne] at *
          unfold shopE
          (repeat' split) <;> first | rfl | (exfalso; omega) | (exfalso; simp_all; done) | (exfalso; simp_all; omega) | grind
        · have h18 := not_f h15
          have p19 := dt h18
          refine go tbv23ok 9 rfl rfl trivial ?_
          refine rt1 rfl rfl ?_
          refine ple ?_
          refine congrArg (PV.int .i64) ?_
          simp only [Bool.or_eq_true, Bool.and_eq_true, Bool.not_eq_true', decide_eq_true_eq, Bool.or_eq_false_iff, Bool.and_eq_false_iff, Bool.not_eq_false', decide_eq_false_iff_not, beq_iff_eq, beq_eq_false_iff_ne] at *
          unfold shopE
          (repeat' split) <;> first | rfl | (exfalso; omega) | (exfalso; simp_all; done) | (exfalso; simp_all; omega) | grind
theorem book_Shop (b : BookR) (name : Bs) : Fn Tryz.prog gb 145 [.agg (BookR.pc b), .str name] (.tup [.agg (ShopR.pc ((shopOf b.shops name).getD ShopR.zero)), .bool ((shopOf b.shops name).isSome)]) := by
  refine fn_cw tbv23ok Tryz.func145 rfl Tryz.ntmps145 rfl cb145 rfl rfl fun w N H hG => ?_
  have b_shops_l : b.shops.length ≤ 140737488355328 := w.1.1.1
  have b_binds_l : b.binds.length ≤ 140737488355328 := w.1.2.1.1
  have name_l : name.length ≤ 9223372036854775807 := w.2.1
  refine go tbv23ok 2 rfl rfl trivial ?_
  refine ef (boxA 0 rfl rfl rfl fun b1 => ?_)
  refine ef (alloc tbv23ok 1 rfl rfl rfl rfl fun b2 => ?_)
  refine go tbv23ok 13 rfl rfl trivial ?_
  refine loop (ι := Nat) [0, 1, 2, 4, 8, 9, 10] [0, 1] (fun k => [(11, .int .i64 (k : Int))]) (fun k => []) (fun k => k ≤ b.shops.length ∧ shopOf b.shops name = shopOf (b.shops.drop k) name) (fun k => b.shops.length - k) 0 ⟨rfl, trivial⟩ trivial ?_ ?_
  · exact ⟨Nat.zero_le _, rfl⟩
  · rintro k hp3
    obtain ⟨hk1, hk2⟩ := hp3
    refine go tbv23ok 6 rfl rfl trivial ?_
    refine cnd rfl (fun h4 => ?_) (fun h4 => ?_)
    · have p5 := dt h4
      obtain ⟨c6, hc7⟩ := getE (xs := b.shops) (m := k) (by omega)
      have c6_w := ShopR.pwf (w.1.1.2 c6 (List.mem_of_getElem? hc7))
      refine go tbv23ok 6 rfl rfl trivial ?_
      refine q1 (qidx tbv23ok k rfl rfl rfl hc7 rfl rfl rfl rfl) rfl fun w8 => ?_
      refine go tbv23ok 1 rfl rfl trivial ?_
      refine ef (alloc tbv23ok 2 rfl rfl rfl rfl fun b9 => ?_)
      refine ef (storeA tbv23ok rfl rfl rfl rfl rfl rfl rfl rfl rfl rfl ?_)
      refine go tbv23ok 10 rfl rfl trivial ?_
      refine cnd rfl (fun h10 => ?_) (fun h10 => ?_)
      · have p11 := dt h10
        refine go tbv23ok 3 rfl rfl trivial ?_
        refine ef (storeA tbv23ok rfl rfl rfl rfl rfl rfl rfl rfl rfl rfl ?_)
        refine go tbv23ok 9 rfl rfl trivial ?_
        refine rt2 rfl rfl ?_
        refine ple ?_
        have e := shopOf_hit hk2 (dropE hc7) (by assumption)
        rw [e]
        rfl
      · have p12 := df h10
        refine go tbv23ok 7 rfl rfl ⟨(by omega), trivial⟩ ?_
        refine next (k + 1) rfl rfl ⟨rfl, trivial⟩ trivial ?_ ?_
        · (try simp only []); omega
        · exact ⟨by omega, shopOf_miss hk2 (dropE hc7) (by assumption)⟩
    · have p13 := df h4
      refine go tbv23ok 8 rfl rfl trivial ?_
      refine ef (storeA tbv23ok rfl rfl rfl rfl rfl rfl rfl rfl rfl rfl ?_)
      refine go tbv23ok 4 rfl rfl trivial ?_
      refine rt2 rfl rfl ?_
      refine ple ?_
      rw [List.drop_of_length_le (by omega)] at hk2
      rw [hk2]
      rfl
end Go.SW.V
set_option linter.unusedVariables false
set_option maxRecDepth 100000
set_option maxHeartbeats 4000000
namespace Go.SW.V
open Go.SW Go.Proofs
theorem cb147 : Callable Tryz.prog 147 := callable_of Tryz.func147 (by kernel_rfl) (by kernel_rfl)
theorem cb151 : Callable Tryz.prog 151 := callable_of Tryz.func151 (by kernel_rfl) (by kernel_rfl)
theorem cb164 : Callable Tryz.prog 164 := callable_of Tryz.func164 (by kernel_rfl) (by kernel_rfl)
theorem cb165 : Callable Tryz.prog 165 := callable_of Tryz.func165 (by kernel_rfl) (by kernel_rfl)
theorem cb84 : Callable Tryz.prog 84 := callable_of Tryz.func84 (by kernel_rfl) (by kernel_rfl)
def tbv24 : Tb := [(4, ⟨.bool, 1, 1, [.bool false]⟩),
  (9, ⟨.str, 1, 16, [.str []]⟩),
  (47, ⟨.slc 139, 1, 24, [.sl Pair.pc []]⟩),
  (49, ⟨.agg [(0, 1), (1, 1), (2, 1), (3, 1), (4, 1), (5, 1)], 6, 88, [.str [], .str [], .bool false, .str [], .sl Pair.pc [], .bool false]⟩),
  (139, ⟨.agg [(0, 1), (1, 1), (2, 1), (3, 1)], 4, 48, [.str [], .int .u8 0, .int .i64 0, .str []]⟩),
  (189, ⟨.slc 49, 1, 24, [.sl BindR.pc []]⟩),
  (206, ⟨.agg [(0, 1), (1, 1), (2, 1), (3, 1)], 4, 56, [.int .u8 0, .str [], .sl Pair.pc [], .bool false]⟩)]
theorem tbv24ok : tbB Tryz.prog tbv24 = true := by kernel_rfl
theorem bind_rule (x : BindR) (sort : Int) : Fn Tryz.prog gb 147 [.agg (BindR.pc x), .int .u8 sort] (.agg (Rule.pc (bindRule x sort))) := by
  refine fn_cw tbv24ok Tryz.func147 rfl Tryz.ntmps147 rfl cb147 rfl rfl fun w N H hG => ?_
  have x_want_l : x.want.length ≤ 140737488355328 := w.1.2.2.2.2.1.1
  have sort_r : 0 ≤ sort ∧ sort ≤ 255 := w.2.1
  refine go tbv24ok 2 rfl rfl trivial ?_
  refine ef (boxA 0 rfl rfl rfl fun b1 => ?_)
  refine ef (alloc tbv24ok 1 rfl rfl rfl rfl fun b2 => ?_)
  refine go tbv24ok 12 rfl rfl trivial ?_
  refine ef (storeA tbv24ok rfl rfl rfl rfl rfl rfl rfl rfl rfl rfl ?_)
  refine go tbv24ok 3 rfl rfl trivial ?_
  refine rt1 rfl rfl ?_
  refine ple ?_
  rfl
theorem bind_same (x : BindR) (y : BindR) : Fn Tryz.prog gb 165 [.agg (BindR.pc x), .agg (BindR.pc y)] (.bool (decide (x = y))) := by
  refine fn_cw tbv24ok Tryz.func165 rfl Tryz.ntmps165 rfl cb165 rfl rfl fun w N H hG => ?_
  have x_want_l : x.want.length ≤ 140737488355328 := w.1.2.2.2.2.1.1
  have y_want_l : y.want.length ≤ 140737488355328 := w.2.1.2.2.2.2.1.1
  refine go tbv24ok 2 rfl rfl trivial ?_
  refine ef (boxA 0 rfl rfl rfl fun b1 => ?_)
  refine ef (boxA 1 rfl rfl rfl fun b2 => ?_)
  refine go tbv24ok 4 rfl rfl trivial ?_
  refine any [2, 3, 4, 5, 6, 7] 27 mixd rfl ?_
  refine gov tbv24ok [0, 1, 2, 3, 4, 5, 6, 7, 8, 9, 10, 11, 12, 13, 14, 15, 16, 17, 18, 19, 20, 22] 5 rfl (by kernel_rfl) rfl rfl ⟨(fun hc => hc), (fun hc => hc), (fun hc => hc), (fun hc => hc), rfl, rfl, (fun hc => hc), (fun hc => hc), (fun hc => hc), (fun hc => hc), rfl, rfl, trivial⟩ ?_
  refine ve 21 rfl (by kernel_rfl) rfl (ecallg rfl (fun hc => (bind_rule _ _)) rfl ⟨(fun hc => hc), trivial⟩ rfl rfl fun _ => ?_)
  refine ve 23 rfl (by kernel_rfl) rfl (ecallg rfl (fun hc => (bind_rule _ _)) rfl ⟨(fun hc => hc), trivial⟩ rfl rfl fun _ => ?_)
  refine vcallg 24 rfl (by kernel_rfl) rfl (fun hc => (match_Same _ _)) rfl rfl ⟨(fun hc => hc), (fun hc => hc), trivial⟩ rfl fun _ => ?_
  refine gov tbv24ok [25, 26] 0 rfl (by kernel_rfl) rfl rfl ⟨rfl, rfl, trivial⟩ ?_
  refine vdone (by kernel_rfl) ?_
  refine go tbv24ok 2 rfl rfl trivial ?_
  refine rt1 rfl rfl ?_
  refine ple ?_
  exact congrArg PV.bool (by rw [Bool.eq_iff_iff]; first | (simp [BindR.eq_iff, bindRule, and_assoc]; done) | (simp [BindR.eq_iff, bindRule]; grind))
theorem clone_Pair (s : List Pair) (hl : s.length ≤ 1000000) : Fn Tryz.prog gb 84 [.sl Pair.pc s] (.sl Pair.pc s) := by
  refine fn_cw tbv24ok Tryz.func84 rfl Tryz.ntmps84 rfl cb84 rfl rfl fun w N H hG => ?_
  have s_l : s.length ≤ 140737488355328 := w.1.1
  refine go tbv24ok 9 rfl rfl trivial ?_
  refine ef (lnil tbv24ok rfl rfl rfl rfl rfl fun b1 hb2 => ?_)
  refine go tbv24ok 2 rfl rfl trivial ?_
  refine cnd rfl (fun h3 => ?_) (fun h3 => ?_)
  · refine go tbv24ok 7 rfl rfl trivial ?_
    refine rt1 rfl rfl ?_
    refine ple_nilx ?_
    exact hb2 (by assumption)
  · refine go tbv24ok 4 rfl rfl trivial ?_
    refine ef (bsl 0 Pair.pc [] tbv24ok rfl rfl rfl rfl rfl (fun _ => rfl) rfl (by decide) (by decide) rfl fun u4 => ?_)
    refine go tbv24ok 1 rfl rfl trivial ?_
    refine ef (app tbv24ok s rfl rfl rfl rfl rfl rfl rfl rfl rfl (src_l rfl (fun _ => rfl)) (by first | omega | (simp; omega)) rfl fun u5 => ?_)
    refine go tbv24ok 3 rfl rfl trivial ?_
    refine givec 0 rfl ?_
    refine go tbv24ok 1 rfl rfl trivial ?_
    refine rt1 rfl rfl ?_
    refine ple ?_
    simp
theorem bind_clone (x : BindR) (hl : x.want.length ≤ 1000000) : Fn Tryz.prog gb 151 [.agg (BindR.pc x)] (.agg (BindR.pc x)) := by
  refine fn_cw tbv24ok Tryz.func151 rfl Tryz.ntmps151 rfl cb151 rfl rfl fun w N H hG => ?_
  have x_want_l : x.want.length ≤ 140737488355328 := w.1.2.2.2.2.1.1
  refine go tbv24ok 2 rfl rfl trivial ?_
  refine ef (boxA 0 rfl rfl rfl fun b1 => ?_)
  refine ef (alloc tbv24ok 1 rfl rfl rfl rfl fun b2 => ?_)
  refine go tbv24ok 6 rfl rfl trivial ?_
  refine call (clone_Pair _ (by first | omega | (simp; done) | (simp; omega))) rfl rfl fun w3 => ?_
  refine go tbv24ok 1 rfl rfl trivial ?_
  refine ef (store1 tbv24ok rfl rfl rfl rfl rfl rfl rfl rfl rfl ?_)
  refine go tbv24ok 5 rfl rfl trivial ?_
  refine ef (storeA tbv24ok rfl rfl rfl rfl rfl rfl rfl rfl rfl rfl ?_)
  refine go tbv24ok 3 rfl rfl trivial ?_
  refine rt1 rfl rfl ?_
  refine ple ?_
  rfl
theorem idxF_Bind (s : List BindR) (f : FuncId) (f_fst f_cap : List PV) (f_p : BindR → Bool) (f_h : ∀ x, Fn Tryz.prog gb f (argsP.apL f_fst ((.agg (BindR.pc x)) :: f_cap)) (.bool (f_p x))) : Fn Tryz.prog gb 164 [.sl BindR.pc s, .fn f f_fst f_cap] (.int .i64 (idxP f_p s)) := by
  refine fn_cw tbv24ok Tryz.func164 rfl Tryz.ntmps164 rfl cb164 rfl rfl fun w N H hG => ?_
  have s_l : s.length ≤ 140737488355328 := w.1.1
  refine go tbv24ok 14 rfl rfl trivial ?_
  refine loop (ι := Nat) [0, 1, 6, 7] [] (fun k => [(8, .int .i64 (k : Int))]) (fun k => []) (fun k => k ≤ s.length ∧ idxP f_p s = idxF f_p k (s.drop k)) (fun k => s.length - k) 0 ⟨rfl, trivial⟩ trivial ?_ ?_
  · exact ⟨Nat.zero_le _, rfl⟩
  · rintro k hp1
    obtain ⟨hk1, hk2⟩ := hp1
    refine go tbv24ok 6 rfl rfl trivial ?_
    refine cnd rfl (fun h2 => ?_) (fun h2 => ?_)
    · have p3 := dt h2
      obtain ⟨c4, hc5⟩ := getE (xs := s) (m := k) (by omega)
      have c4_w := BindR.pwf (w.1.2 c4 (List.mem_of_getElem? hc5))
      refine go tbv24ok 15 rfl rfl trivial ?_
      refine q1 (qidx tbv24ok k rfl rfl rfl hc5 rfl rfl rfl rfl) rfl fun w6 => ?_
      refine go tbv24ok 1 rfl rfl trivial ?_
      refine call (f_h c4) rfl rfl fun w7 => ?_
      refine go tbv24ok 2 rfl rfl trivial ?_
      refine cnd rfl (fun h8 => ?_) (fun h8 => ?_)
      · refine go tbv24ok 12 rfl rfl trivial ?_
        refine rt1 rfl rfl ?_
        refine ple ?_
        exact congrArg (PV.int .i64) (idx_hit hk2 (dropE hc5) (by assumption)).symm
      · refine go tbv24ok 7 rfl rfl ⟨(by omega), trivial⟩ ?_
        refine next (k + 1) rfl rfl ⟨rfl, trivial⟩ trivial ?_ ?_
        · omega
        · exact ⟨by omega, idx_miss hk2 (dropE hc5) (by assumption)⟩
    · have p9 := df h2
      refine go tbv24ok 11 rfl rfl trivial ?_
      refine rt1 rfl rfl ?_
      refine ple ?_
      exact congrArg (PV.int .i64) (idx_end hk2 (by omega)).symm
end Go.SW.V
set_option linter.unusedVariables false
set_option maxRecDepth 100000
set_option maxHeartbeats 4000000
namespace Go.SW.V
open Go.SW Go.Proofs
theorem cb101 : Callable Tryz.prog 101 := callable_of Tryz.func101 (by kernel_rfl) (by kernel_rfl)
theorem cb123 : Callable Tryz.prog 123 := callable_of Tryz.func123 (by kernel_rfl) (by kernel_rfl)
theorem cb132 : Callable Tryz.prog 132 := callable_of Tryz.func132 (by kernel_rfl) (by kernel_rfl)
theorem cb136 : Callable Tryz.prog 136 := callable_of Tryz.func136 (by kernel_rfl) (by kernel_rfl)
theorem cb137 : Callable Tryz.prog 137 := callable_of Tryz.func137 (by kernel_rfl) (by kernel_rfl)
theorem cb143 : Callable Tryz.prog 143 := callable_of Tryz.func143 (by kernel_rfl) (by kernel_rfl)
theorem cb154 : Callable Tryz.prog 154 := callable_of Tryz.func154 (by kernel_rfl) (by kernel_rfl)
theorem cb155 : Callable Tryz.prog 155 := callable_of Tryz.func155 (by kernel_rfl) (by kernel_rfl)
theorem cb161 : Callable Tryz.prog 161 := callable_of Tryz.func161 (by kernel_rfl) (by kernel_rfl)
theorem cb171 : Callable Tryz.prog 171 := callable_of Tryz.func171 (by kernel_rfl) (by kernel_rfl)
def tbv25 : Tb := [(9, ⟨.str, 1, 16, [.str []]⟩),
  (51, ⟨.agg [(0, 1), (1, 1), (2, 1), (3, 1), (4, 1), (5, 1), (6, 1)], 7, 96, [.int .u64 0, .str [], .str [], .sl Pair.pc [], .str [], .int .u64 0, .int .u8 0]⟩),
  (170, ⟨.agg [(0, 1), (1, 1)], 2, 24, [.str [], .int .i64 0]⟩),
  (206, ⟨.agg [(0, 1), (1, 1), (2, 1), (3, 1)], 4, 56, [.int .u8 0, .str [], .sl Pair.pc [], .bool false]⟩)]
theorem tbv25ok : tbB Tryz.prog tbv25 = true := by kernel_rfl
theorem l01_awake : Fn Tryz.prog gb 171 [] (.bool true) := by
  refine fn_cw tbv25ok Tryz.func171 rfl Tryz.ntmps171 rfl cb171 rfl rfl fun w N H hG => ?_
  refine go tbv25ok 8 rfl rfl trivial ?_
  refine call (out_Num (⟨[], 0⟩ : Out) _ _ (by first | omega | (have := hrl (by assumption); omega) | (simp [outNum, outRaw, numB_len, numK] <;> omega) | (have := hrl (by assumption); simp [outNum, outRaw, numB_len, numK] <;> omega))) rfl rfl fun w1 => ?_
  have nl0 : (⟨[], 0⟩ : Out).s.length = 0 := rfl
  have := outNum_len (⟨[], 0⟩ : Out) 258 2
  refine call (out_String _) rfl rfl fun w2 => ?_
  refine go tbv25ok 1 rfl rfl trivial ?_
  refine so_rt (t := 4) (p' := .bool true) (ple (congrArg PV.bool (show decide (((outNum (⟨[], 0⟩ : Out) 258 2).s) = [1, 2]) = true by decide +kernel))) rfl ?_
  refine go tbv25ok 1 rfl rfl trivial ?_
  refine ungd rfl rfl ?_
  refine go tbv25ok 1 rfl rfl trivial ?_
  refine ungd rfl rfl ?_
  refine call (out_Text (⟨[], 0⟩ : Out) _ (by first | omega | (have := hrl (by assumption); omega) | (simp [outNum, outRaw, numB_len, numK] <;> omega) | (have := hrl (by assumption); simp [outNum, outRaw, numB_len, numK] <;> omega))) rfl rfl fun w3 => ?_
  have nl0 : (⟨[], 0⟩ : Out).s.length = 0 := rfl
  have := outText_len (⟨[], 0⟩ : Out) [97, 98]
  refine ungd rfl rfl ?_
  refine call (out_String _) rfl rfl fun w4 => ?_
  refine ungd rfl rfl ?_
  refine go tbv25ok 1 rfl rfl trivial ?_
  refine so_rt (t := 9) (p' := .bool true) (ple (congrArg PV.bool (show decide (((outText (⟨[], 0⟩ : Out) [97, 98]).s) = [0, 2, 97, 98]) = true by decide +kernel))) rfl ?_
  refine go tbv25ok 2 rfl rfl trivial ?_
  refine ungd rfl rfl ?_
  refine ef (ecallb 0 (octet_New _) rfl rfl fun w5 b6 => ?_)
  refine ungd rfl rfl ?_
  refine ef (ecallm (in_Num (⟨[1, 2], 0⟩) _) rfl rfl rfl rfl rfl fun w7 w7p => ?_)
  have := inNum_r (⟨[1, 2], 0⟩) 2
  refine ungd rfl rfl ?_
  refine go tbv25ok 1 rfl rfl trivial ?_
  refine so_rt (t := 14) (p' := .bool true) (ple (congrArg PV.bool (show decide ((((inNum (⟨[1, 2], 0⟩) 2)).1) = 258) = true by decide +kernel))) rfl ?_
  refine go tbv25ok 5 rfl rfl trivial ?_
  refine rt1 rfl rfl ?_
  refine ple ?_
  exact congrArg PV.bool (by first | rfl | decide +kernel)
theorem l01_Awake : Fn Tryz.prog gb 161 [] (.bool true) := by
  refine fn_cw tbv25ok Tryz.func161 rfl Tryz.ntmps161 rfl cb161 rfl rfl fun w N H hG => ?_
  refine go tbv25ok 7 rfl rfl trivial ?_
  refine call l01_awake rfl rfl fun w1 => ?_
  refine go tbv25ok 4 rfl rfl trivial ?_
  refine rt1 rfl rfl ?_
  refine ple ?_
  rfl
theorem l04_awake : Fn Tryz.prog gb 154 [] (.bool true) := by
  refine fn_cw tbv25ok Tryz.func154 rfl Tryz.ntmps154 rfl cb154 rfl rfl fun w N H hG => ?_
  refine go tbv25ok 7 rfl rfl trivial ?_
  refine call (words_Matches _ _ (by first | omega | (simp; done) | decide) (by first | omega | (simp; done) | decide)) rfl rfl fun w1 => ?_
  refine so_rt (t := 1) (p' := .bool true) (ple (congrArg PV.bool (show mt (wordsOf [97, 46, 42, 46, 35]) (wordsOf [97, 46, 98]) = true by decide +kernel))) rfl ?_
  refine go tbv25ok 1 rfl rfl trivial ?_
  refine ungd rfl rfl ?_
  refine call (words_Matches _ _ (by first | omega | (simp; done) | decide) (by first | omega | (simp; done) | decide)) rfl rfl fun w2 => ?_
  refine so_rt (t := 3) (p' := .bool true) (ple (congrArg PV.bool (show mt (wordsOf [97, 46, 42, 46, 35]) (wordsOf [97, 46, 98, 46, 99, 46, 100]) = true by decide +kernel))) rfl ?_
  refine go tbv25ok 2 rfl rfl trivial ?_
  refine ungd rfl rfl ?_
  refine call (words_Matches _ _ (by first | omega | (simp; done) | decide) (by first | omega | (simp; done) | decide)) rfl rfl fun w3 => ?_
  refine so_rt (t := 6) (p' := .bool false) (ple (congrArg PV.bool (show mt (wordsOf [97, 46, 42, 46, 35]) (wordsOf [97]) = false by decide +kernel))) rfl ?_
  refine ungd rfl rfl ?_
  refine go tbv25ok 1 rfl rfl trivial ?_
  refine so_rt (t := 7) (p' := .bool true) (ple (congrArg PV.bool (show !false = true by decide +kernel))) rfl ?_
  refine go tbv25ok 2 rfl rfl trivial ?_
  refine ungd rfl rfl ?_
  refine call (words_Name _) rfl rfl fun w4 => ?_
  refine ungd rfl rfl ?_
  refine go tbv25ok 1 rfl rfl trivial ?_
  refine so_rt (t := 11) (p' := .bool true) (ple (congrArg PV.bool (show decide ((nameE [97, 45, 49]) = 0) = true by decide +kernel))) rfl ?_
  refine go tbv25ok 5 rfl rfl trivial ?_
  refine rt1 rfl rfl ?_
  refine ple ?_
  exact congrArg PV.bool (by first | rfl | decide +kernel)
theorem l04_Awake : Fn Tryz.prog gb 136 [] (.bool true) := by
  refine fn_cw tbv25ok Tryz.func136 rfl Tryz.ntmps136 rfl cb136 rfl rfl fun w N H hG => ?_
  refine go tbv25ok 7 rfl rfl trivial ?_
  refine call l04_awake rfl rfl fun w1 => ?_
  refine go tbv25ok 4 rfl rfl trivial ?_
  refine rt1 rfl rfl ?_
  refine ple ?_
  rfl
theorem l09_awake : Fn Tryz.prog gb 143 [] (.bool true) := by
  refine fn_cw tbv25ok Tryz.func143 rfl Tryz.ntmps143 rfl cb143 rfl rfl fun w N H hG => ?_
  refine go tbv25ok 7 rfl rfl trivial ?_
  refine call (Fn.le (head_Bytes []) (ples_cons ple_nil ples_nil) (ple rfl) rfl) rfl rfl fun w1 => ?_
  have := headBytes_len []
  refine go tbv25ok 9 rfl rfl trivial ?_
  refine call l01_Awake rfl rfl fun w2 => ?_
  refine go tbv25ok 1 rfl rfl trivial ?_
  refine ungd rfl rfl ?_
  refine call l04_Awake rfl rfl fun w3 => ?_
  refine go tbv25ok 2 rfl rfl trivial ?_
  refine ungd rfl rfl ?_
  refine go tbv25ok 1 rfl rfl trivial ?_
  refine ungd rfl rfl ?_
  refine go tbv25ok 1 rfl rfl trivial ?_
  refine so_rt (t := 13) (p' := .bool true) (ple (congrArg PV.bool (show decide ((headE []) = 0) = true by decide +kernel))) rfl ?_
  refine go tbv25ok 2 rfl rfl trivial ?_
  refine ungd rfl rfl ?_
  refine go tbv25ok 1 rfl rfl trivial ?_
  refine ungd rfl rfl ?_
  refine go tbv25ok 1 rfl rfl trivial ?_
  refine so_rt (t := 17) (p' := .bool true) (ple (congrArg PV.bool (show decide ((headBytes []) = [0]) = true by decide +kernel))) rfl ?_
  refine go tbv25ok 5 rfl rfl trivial ?_
  refine rt1 rfl rfl ?_
  refine ple ?_
  exact congrArg PV.bool (by first | rfl | decide +kernel)
theorem l09_Awake : Fn Tryz.prog gb 132 [] (.bool true) := by
  refine fn_cw tbv25ok Tryz.func132 rfl Tryz.ntmps132 rfl cb132 rfl rfl fun w N H hG => ?_
  refine go tbv25ok 7 rfl rfl trivial ?_
  refine call l09_awake rfl rfl fun w1 => ?_
  refine go tbv25ok 4 rfl rfl trivial ?_
  refine rt1 rfl rfl ?_
  refine ple ?_
  rfl
theorem l10_awake : Fn Tryz.prog gb 155 [] (.bool true) := by
  refine fn_cw tbv25ok Tryz.func155 rfl Tryz.ntmps155 rfl cb155 rfl rfl fun w N H hG => ?_
  refine go tbv25ok 8 rfl rfl trivial ?_
  refine ef (alloc tbv25ok 0 rfl rfl rfl rfl fun b1 => ?_)
  refine ef (storeA tbv25ok rfl rfl rfl rfl rfl rfl rfl rfl rfl rfl ?_)
  refine go tbv25ok 4 rfl rfl trivial ?_
  refine call l04_Awake rfl rfl fun w2 => ?_
  refine go tbv25ok 1 rfl rfl trivial ?_
  refine ungd rfl rfl ?_
  refine call l09_Awake rfl rfl fun w3 => ?_
  refine go tbv25ok 2 rfl rfl trivial ?_
  refine ungd rfl rfl ?_
  refine go tbv25ok 1 rfl rfl trivial ?_
  refine ungd rfl rfl ?_
  refine call (rule_Check (⟨2, [97, 46, 35], [], false⟩ : Rule)) rfl rfl fun w4 => ?_
  refine ungd rfl rfl ?_
  refine go tbv25ok 1 rfl rfl trivial ?_
  refine so_rt (t := 10) (p' := .bool true) (ple (congrArg PV.bool (show decide ((ruleE (⟨2, [97, 46, 35], [], false⟩ : Rule)) = 0) = true by decide +kernel))) rfl ?_
  refine go tbv25ok 2 rfl rfl trivial ?_
  refine ungd rfl rfl ?_
  refine go tbv25ok 1 rfl rfl trivial ?_
  refine ungd rfl rfl ?_
  refine call (Fn.le (rule_Goes (⟨2, [97, 46, 35], [], false⟩ : Rule) _ [] (by first | omega | (simp; done) | decide) (by first | omega | (simp; done) | decide)) (ples_cons (ple rfl) (ples_cons (ple rfl) (ples_cons ple_nil ples_nil))) (ple rfl) rfl) rfl rfl fun w5 => ?_
  refine so_rt (t := 14) (p' := .bool true) (ple (congrArg PV.bool (show goesR (⟨2, [97, 46, 35], [], false⟩ : Rule) [97, 46, 98] [] = true by decide +kernel))) rfl ?_
  refine go tbv25ok 2 rfl rfl trivial ?_
  refine ungd rfl rfl ?_
  refine go tbv25ok 1 rfl rfl trivial ?_
  refine ungd rfl rfl ?_
  refine call (Fn.le (rule_Goes (⟨2, [97, 46, 35], [], false⟩ : Rule) _ [] (by first | omega | (simp; done) | decide) (by first | omega | (simp; done) | decide)) (ples_cons (ple rfl) (ples_cons (ple rfl) (ples_cons ple_nil ples_nil))) (ple rfl) rfl) rfl rfl fun w6 => ?_
  refine so_rt (t := 18) (p' := .bool false) (ple (congrArg PV.bool (show goesR (⟨2, [97, 46, 35], [], false⟩ : Rule) [98] [] = false by decide +kernel))) rfl ?_
  refine ungd rfl rfl ?_
  refine go tbv25ok 1 rfl rfl trivial ?_
  refine so_rt (t := 19) (p' := .bool true) (ple (congrArg PV.bool (show !false = true by decide +kernel))) rfl ?_
  refine go tbv25ok 5 rfl rfl trivial ?_
  refine rt1 rfl rfl ?_
  refine ple ?_
  exact congrArg PV.bool (by first | rfl | decide +kernel)
theorem l10_Awake : Fn Tryz.prog gb 137 [] (.bool true) := by
  refine fn_cw tbv25ok Tryz.func137 rfl Tryz.ntmps137 rfl cb137 rfl rfl fun w N H hG => ?_
  refine go tbv25ok 7 rfl rfl trivial ?_
  refine call l10_awake rfl rfl fun w1 => ?_
  refine go tbv25ok 4 rfl rfl trivial ?_
  refine rt1 rfl rfl ?_
  refine ple ?_
  rfl
theorem l13_awake : Fn Tryz.prog gb 123 [] (.bool true) := by
  refine fn_cw tbv25ok Tryz.func123 rfl Tryz.ntmps123 rfl cb123 rfl rfl fun w N H hG => ?_
  refine go tbv25ok 8 rfl rfl trivial ?_
  refine call (mail_Bytes (⟨0, [97], [], [], [], 0, 0⟩ : Mail)) rfl rfl fun w1 => ?_
  have := mailBytes_len (⟨0, [97], [], [], [], 0, 0⟩ : Mail)
  refine go tbv25ok 9 rfl rfl trivial ?_
  refine call l09_Awake rfl rfl fun w2 => ?_
  refine go tbv25ok 1 rfl rfl trivial ?_
  refine ungd rfl rfl ?_
  refine go tbv25ok 1 rfl rfl trivial ?_
  refine ungd rfl rfl ?_
  refine go tbv25ok 1 rfl rfl trivial ?_
  refine so_rt (t := 11) (p' := .bool true) (ple (congrArg PV.bool (show decide ((mailC (⟨0, [97], [], [], [], 0, 0⟩ : Mail)) = 0) = true by decide +kernel))) rfl ?_
  refine go tbv25ok 2 rfl rfl trivial ?_
  refine ungd rfl rfl ?_
  refine go tbv25ok 1 rfl rfl trivial ?_
  refine ungd rfl rfl ?_
  refine go tbv25ok 1 rfl rfl trivial ?_
  refine ungd rfl rfl ?_
  refine go tbv25ok 1 rfl rfl trivial ?_
  refine so_rt (t := 16) (p' := .bool true) (ple (congrArg PV.bool (show decide (((mailBytes (⟨0, [97], [], [], [], 0, 0⟩ : Mail)).length : Int) = 25) = true by decide +kernel))) rfl ?_
  refine go tbv25ok 5 rfl rfl trivial ?_
  refine rt1 rfl rfl ?_
  refine ple ?_
  exact congrArg PV.bool (by first | rfl | decide +kernel)
theorem l13_Awake : Fn Tryz.prog gb 101 [] (.bool true) := by
  refine fn_cw tbv25ok Tryz.func101 rfl Tryz.ntmps101 rfl cb101 rfl rfl fun w N H hG => ?_
  refine go tbv25ok 7 rfl rfl trivial ?_
  refine call l13_awake rfl rfl fun w1 => ?_
  refine go tbv25ok 4 rfl rfl trivial ?_
  refine rt1 rfl rfl ?_
  refine ple ?_
  rfl
end Go.SW.V
set_option linter.unusedVariables false
set_option maxRecDepth 100000
set_option maxHeartbeats 4000000
namespace Go.SW.V
open Go.SW Go.Proofs
theorem cb112 : Callable Tryz.prog 112 := callable_of Tryz.func112 (by kernel_rfl) (by kernel_rfl)
theorem cb114 : Callable Tryz.prog 114 := callable_of Tryz.func114 (by kernel_rfl) (by kernel_rfl)
theorem cb146 : Callable Tryz.prog 146 := callable_of Tryz.func146 (by kernel_rfl) (by kernel_rfl)
theorem cb150 : Callable Tryz.prog 150 := callable_of Tryz.func150 (by kernel_rfl) (by kernel_rfl)
theorem cb162 : Callable Tryz.prog 162 := callable_of Tryz.func162 (by kernel_rfl) (by kernel_rfl)
theorem cb166 : Callable Tryz.prog 166 := callable_of Tryz.func166 (by kernel_rfl) (by kernel_rfl)
theorem cb37 : Callable Tryz.prog 37 := callable_of Tryz.func37 (by kernel_rfl) (by kernel_rfl)
theorem cb38 : Callable Tryz.prog 38 := callable_of Tryz.func38 (by kernel_rfl) (by kernel_rfl)
theorem cb42 : Callable Tryz.prog 42 := callable_of Tryz.func42 (by kernel_rfl) (by kernel_rfl)
theorem cb48 : Callable Tryz.prog 48 := callable_of Tryz.func48 (by kernel_rfl) (by kernel_rfl)
theorem cb54 : Callable Tryz.prog 54 := callable_of Tryz.func54 (by kernel_rfl) (by kernel_rfl)
theorem cb80 : Callable Tryz.prog 80 := callable_of Tryz.func80 (by kernel_rfl) (by kernel_rfl)
theorem cb83 : Callable Tryz.prog 83 := callable_of Tryz.func83 (by kernel_rfl) (by kernel_rfl)
theorem cb91 : Callable Tryz.prog 91 := callable_of Tryz.func91 (by kernel_rfl) (by kernel_rfl)
theorem cb96 : Callable Tryz.prog 96 := callable_of Tryz.func96 (by kernel_rfl) (by kernel_rfl)
theorem cb99 : Callable Tryz.prog 99 := callable_of Tryz.func99 (by kernel_rfl) (by kernel_rfl)
theorem eqg39 : Tryz.prog.eqGuardType Tryz.prog.depth 39 = false := by kernel_rfl
theorem veq39 (p q : LentR) : ∀ (H : Hp) (vs us : List Value), Sims H (LentR.pc p) vs → Sims H (LentR.pc q) us → EqV Tryz.prog 10000 39 (.agg vs.toArray) (.agg us.toArray) (decide (p = q)) := by
  intro H vs us hv hu
  obtain ⟨_, _, rfl, v0, v_0⟩ := hv.inv_cons
  obtain ⟨_, _, rfl, v1, v_1⟩ := v_0.inv_cons
  cases v_1.inv_nil
  cases v0.inv_int.1; cases v1.inv_str.1
  obtain ⟨_, _, rfl, u0, u_0⟩ := hu.inv_cons
  obtain ⟨_, _, rfl, u1, u_1⟩ := u_0.inv_cons
  cases u_1.inv_nil
  cases u0.inv_int.1; cases u1.inv_str.1
  exact EqV.to (eqv_agg Tryz.underlying39 (by kernel_rfl) (eqf_1 (by decide) ag22 rfl rfl (eqv_int Tryz.underlying22) (eqf_1 (by decide) ag9 rfl rfl (eqv_str Tryz.underlying9) eqf_nil))) (by obtain ⟨a0, a1⟩ := p; obtain ⟨b0, b1⟩ := q; rw [Bool.eq_iff_iff]; simp)
def tbv40 : Tb := [(3, ⟨.int .i64, 1, 8, [.int .i64 0]⟩),
  (24, ⟨.slc 126, 1, 24, [.sl TakerR.pc []]⟩),
  (25, ⟨.slc 39, 1, 24, [.sl LentR.pc []]⟩),
  (26, ⟨.slc 53, 1, 24, [.sl DeedR.pc []]⟩),
  (39, ⟨.agg [(0, 1), (1, 1)], 2, 24, [.int .u64 0, .str []]⟩),
  (44, ⟨.agg [(0, 1), (1, 1), (2, 1)], 3, 40, [.str [], .int .u8 0, .str []]⟩),
  (49, ⟨.agg [(0, 1), (1, 1), (2, 1), (3, 1), (4, 1), (5, 1)], 6, 88, [.str [], .str [], .bool false, .str [], .sl Pair.pc [], .bool false]⟩),
  (53, ⟨.agg [(0, 1), (1, 1), (2, 3), (5, 4), (9, 6), (15, 1), (16, 1), (17, 1), (18, 1), (19, 1), (20, 1), (21, 7), (28, 1)], 29, 344, [.int .u8 0, .int .u64 0, .str [], .int .u8 0, .str [], .str [], .int .u64 0, .int .u64 0, .str [], .str [], .str [], .bool false, .str [], .sl Pair.pc [], .bool false, .str [], .int .u64 0, .int .u8 0, .int .u8 0, .int .u8 0, .int .u64 0, .int .u64 0, .str [], .str [], .sl Pair.pc [], .str [], .int .u64 0, .int .u8 0, .str []]⟩),
  (126, ⟨.agg [(0, 1), (1, 1)], 2, 24, [.int .u64 0, .str []]⟩),
  (132, ⟨.slc 25, 1, 24, [.sl (slc LentR.pc) []]⟩),
  (135, ⟨.slc 26, 1, 24, [.sl (slc DeedR.pc) []]⟩),
  (166, ⟨.slc 24, 1, 24, [.sl (slc TakerR.pc) []]⟩),
  (188, ⟨.slc 44, 1, 24, [.sl ShopR.pc []]⟩),
  (189, ⟨.slc 49, 1, 24, [.sl BindR.pc []]⟩),
  (217, ⟨.slc 188, 1, 24, [.sl (slc ShopR.pc) []]⟩),
  (221, ⟨.slc 189, 1, 24, [.sl (slc BindR.pc) []]⟩)]
theorem tbv40ok : tbB Tryz.prog tbv40 = true := by kernel_rfl
theorem grow_Deed (n : Int) (hn : 0 ≤ n ∧ n ≤ 1000000) : Fo Tryz.prog gb 83 [.val (.slice none 0 0), .int .i64 n] (fun u => .val u) 29 53 DeedR.pc ([] : List DeedR) := by
  refine fo_cw tbv40ok Tryz.func83 rfl Tryz.ntmps83 rfl cb83 (fun _ => rfl) rfl fun w N H hG => ?_
  have n_r : -9223372036854775808 ≤ n ∧ n ≤ 9223372036854775807 := w.2.1
  refine go tbv40ok 12 rfl rfl trivial ?_
  refine cnd rfl (fun h1 => ?_) (fun h1 => ?_)
  · have p2 := dt h1
    exfalso; omega
  · have p3 := df h1
    refine go tbv40ok 7 rfl rfl trivial ?_
    refine q1 (qcap0 tbv40ok rfl rfl rfl) rfl fun w4 => ?_
    refine go tbv40ok 1 rfl rfl trivial ?_
    refine q1 (qlen0 tbv40ok rfl rfl rfl) rfl fun w5 => ?_
    refine go tbv40ok 11 rfl rfl ⟨(by omega), (by omega), trivial⟩ ?_
    refine cnd rfl (fun h6 => ?_) (fun h6 => ?_)
    · have p7 := dt h6
      refine go tbv40ok 3 rfl rfl trivial ?_
      refine q1 (qcap0 tbv40ok rfl rfl rfl) rfl fun w8 => ?_
      refine q1 (qcut0 tbv40ok rfl rfl rfl rfl rfl (by omega)) rfl fun w9 => ?_
      refine go tbv40ok 1 rfl rfl trivial ?_
      refine ef (appz (m := ((n - (0 - 0))).toNat) 0 tbv40ok rfl rfl rfl rfl rfl rfl rfl rfl rfl rfl (by omega) (by omega) (by (try simp only []); omega) rfl rfl fun u10 => ?_)
      refine go tbv40ok 1 rfl rfl trivial ?_
      refine q1 (qlen0 tbv40ok rfl rfl rfl) rfl fun w11 => ?_
      refine ef (ocut DeedR.pc tbv40ok rfl rfl rfl rfl rfl rfl (by omega) rfl fun u12 => ?_)
      refine go tbv40ok 9 rfl rfl trivial ?_
      refine sw_val (t := 4) (i := 0) rfl rfl ?_
      refine go tbv40ok 1 rfl rfl trivial ?_
      refine ro1 (j := 0) rfl rfl rfl ?_
      rfl
    · have p13 := df h6
      refine go tbv40ok 8 rfl rfl trivial ?_
      refine sw_own (t := 4) (k := 29) (e := 53) 0 DeedR.pc rfl rfl ?_
      refine sw_val (t := 4) (i := 0) rfl rfl ?_
      refine go tbv40ok 1 rfl rfl trivial ?_
      refine ro1 (j := 0) rfl rfl rfl ?_
      rfl
theorem concat_Deed (ls : List (List DeedR)) (hl : ls.flatten.length ≤ 1000000) : Fn Tryz.prog gb 42 [.sl (slc DeedR.pc) ls] (.sl DeedR.pc ls.flatten) := by
  refine fn_cw tbv40ok Tryz.func42 rfl Tryz.ntmps42 rfl cb42 rfl rfl fun w N H hG => ?_
  have ls_l : ls.length ≤ 140737488355328 := w.1.1
  refine go tbv40ok 19 rfl rfl trivial ?_
  refine loop (ι := Nat × Int) [0, 2, 9, 10] [] (fun ⟨k, n⟩ => [(3, .int .i64 n), (11, .int .i64 (k : Int))]) (fun ⟨k, n⟩ => []) (fun ⟨k, n⟩ => k ≤ ls.length ∧ n = ((ls.take k).flatten.length : Int)) (fun ⟨k, n⟩ => ls.length - k) ⟨0, 0⟩ ⟨rfl, rfl, trivial⟩ trivial ?_ ?_
  · exact ⟨Nat.zero_le _, by simp⟩
  · rintro ⟨k, n⟩ hp1
    obtain ⟨hk1, hk2⟩ := hp1
    have hg0 := flat_le ls k
    refine go tbv40ok 6 rfl rfl trivial ?_
    refine cnd rfl (fun h2 => ?_) (fun h2 => ?_)
    · have p3 := dt h2
      obtain ⟨c4, hc5⟩ := getE (xs := ls) (m := k) (by omega)
      refine go tbv40ok 6 rfl rfl trivial ?_
      refine q1 (qidx tbv40ok k rfl rfl rfl hc5 rfl rfl rfl rfl) rfl fun w6 => ?_
      refine go tbv40ok 19 rfl rfl ⟨(by have hg := flat_le ls (k + 1); have hfl := congrArg List.length (flat_step (by assumption : ls[k]? = some _)); simp only [List.length_append] at hfl; omega), trivial⟩ ?_
      refine cnd rfl (fun h7 => ?_) (fun h7 => ?_)
      · have p8 := dt h7
        exfalso; omega
      · have p9 := df h7
        refine go tbv40ok 7 rfl rfl ⟨(by have hg := flat_le ls (k + 1); have hfl := congrArg List.length (flat_step (by assumption : ls[k]? = some _)); simp only [List.length_append] at hfl; omega), trivial⟩ ?_
        refine next ⟨(k + 1), (n + (c4.length : Int))⟩ rfl rfl ⟨rfl, rfl, trivial⟩ trivial ?_ ?_
        · (try simp only []); omega
        · have hf := flat_step hc5
          have hg := flat_le ls (k + 1)
          have hfl := congrArg List.length hf
          simp only [List.length_append] at hfl
          exact ⟨by omega, by (try simp only []); omega⟩
    · have p10 := df h2
      refine go tbv40ok 8 rfl rfl trivial ?_
      refine ef (ecallo 0 (grow_Deed _ (by omega)) rfl rfl fun u12 w11 => ?_)
      refine go tbv40ok 12 rfl rfl trivial ?_
      refine sw_osl (t := 6) 0 rfl rfl ?_
      refine loop (ι := Nat × (List DeedR) × Value) [0, 2, 3, 9, 10, 11, 12, 23, 24, 25, 26] [] (fun ⟨k, out, u_out⟩ => [(6, .osl 0), (27, .int .i64 (k : Int))]) (fun ⟨k, out, u_out⟩ => [(0, .arr u_out 29 53 DeedR.pc out)]) (fun ⟨k, out, u_out⟩ => k ≤ ls.length ∧ out = (ls.take k).flatten) (fun ⟨k, out, u_out⟩ => ls.length - k) ⟨0, ([] : List DeedR), (u12)⟩ ⟨rfl, rfl, trivial⟩ ⟨rfl, trivial⟩ ?_ ?_
      · exact ⟨Nat.zero_le _, by simp⟩
      · rintro ⟨k, out, u_out⟩ hp13
        obtain ⟨hk1, hk2⟩ := hp13
        refine go tbv40ok 6 rfl rfl trivial ?_
        refine cnd rfl (fun h14 => ?_) (fun h14 => ?_)
        · have p15 := dt h14
          obtain ⟨c16, hc17⟩ := getE (xs := ls) (m := k) (by omega)
          refine go tbv40ok 6 rfl rfl trivial ?_
          refine q1 (qidx tbv40ok k rfl rfl rfl hc17 rfl rfl rfl rfl) rfl fun w18 => ?_
          refine go tbv40ok 7 rfl rfl trivial ?_
          refine ef (app tbv40ok c16 rfl rfl rfl rfl rfl rfl rfl rfl rfl (src_l rfl (fun _ => rfl)) (by have hg := flat_le ls (k + 1); have hfl := congrArg List.length (flat_step (by assumption : ls[k]? = some _)); simp only [List.length_append] at hfl; subst hk2; (try simp only []); omega) rfl fun u19 => ?_)
          refine go tbv40ok 8 rfl rfl ⟨(by have hg := flat_le ls (k + 1); have hfl := congrArg List.length (flat_step (by assumption : ls[k]? = some _)); simp only [List.length_append] at hfl; omega), trivial⟩ ?_
          refine next ⟨(k + 1), (out ++ c16), (u19)⟩ rfl rfl ⟨rfl, rfl, trivial⟩ ⟨rfl, trivial⟩ ?_ ?_
          · (try simp only []); omega
          · exact ⟨by omega, by (try simp only []); rw [flat_step hc17, hk2]⟩
        · have p20 := df h14
          refine go tbv40ok 11 rfl rfl trivial ?_
          refine givec 0 rfl ?_
          refine go tbv40ok 1 rfl rfl trivial ?_
          refine rt1 rfl rfl ?_
          refine ple ?_
          rw [hk2, flat_full (by omega)]
theorem idxF_Deed (s : List DeedR) (f : FuncId) (f_fst f_cap : List PV) (f_p : DeedR → Bool) (f_h : ∀ x, Fn Tryz.prog gb f (argsP.apL f_fst ((.agg (DeedR.pc x)) :: f_cap)) (.bool (f_p x))) : Fn Tryz.prog gb 91 [.sl DeedR.pc s, .fn f f_fst f_cap] (.int .i64 (idxP f_p s)) := by
  refine fn_cw tbv40ok Tryz.func91 rfl Tryz.ntmps91 rfl cb91 rfl rfl fun w N H hG => ?_
  have s_l : s.length ≤ 140737488355328 := w.1.1
  refine go tbv40ok 14 rfl rfl trivial ?_
  refine loop (ι := Nat) [0, 1, 6, 7] [] (fun k => [(8, .int .i64 (k : Int))]) (fun k => []) (fun k => k ≤ s.length ∧ idxP f_p s = idxF f_p k (s.drop k)) (fun k => s.length - k) 0 ⟨rfl, trivial⟩ trivial ?_ ?_
  · exact ⟨Nat.zero_le _, rfl⟩
  · rintro k hp1
    obtain ⟨hk1, hk2⟩ := hp1
    refine go tbv40ok 6 rfl rfl trivial ?_
    refine cnd rfl (fun h2 => ?_) (fun h2 => ?_)
    · have p3 := dt h2
      obtain ⟨c4, hc5⟩ := getE (xs := s) (m := k) (by omega)
      have c4_w := DeedR.pwf (w.1.2 c4 (List.mem_of_getElem? hc5))
      refine go tbv40ok 15 rfl rfl trivial ?_
      refine q1 (qidx tbv40ok k rfl rfl rfl hc5 rfl rfl rfl rfl) rfl fun w6 => ?_
      refine go tbv40ok 1 rfl rfl trivial ?_
      refine call (f_h c4) rfl rfl fun w7 => ?_
      refine go tbv40ok 2 rfl rfl trivial ?_
      refine cnd rfl (fun h8 => ?_) (fun h8 => ?_)
      · refine go tbv40ok 12 rfl rfl trivial ?_
        refine rt1 rfl rfl ?_
        refine ple ?_
        exact congrArg (PV.int .i64) (idx_hit hk2 (dropE hc5) (by assumption)).symm
      · refine go tbv40ok 7 rfl rfl ⟨(by omega), trivial⟩ ?_
        refine next (k + 1) rfl rfl ⟨rfl, trivial⟩ trivial ?_ ?_
        · omega
        · exact ⟨by omega, idx_miss hk2 (dropE hc5) (by assumption)⟩
    · have p9 := df h2
      refine go tbv40ok 11 rfl rfl trivial ?_
      refine rt1 rfl rfl ?_
      refine ple ?_
      exact congrArg (PV.int .i64) (idx_end hk2 (by omega)).symm
theorem cF_Deed (s : List DeedR) (f : FuncId) (f_fst f_cap : List PV) (f_p : DeedR → Bool) (f_h : ∀ x, Fn Tryz.prog gb f (argsP.apL f_fst ((.agg (DeedR.pc x)) :: f_cap)) (.bool (f_p x))) : Fn Tryz.prog gb 48 [.sl DeedR.pc s, .fn f f_fst f_cap] (.bool (decide (0 ≤ idxP f_p s))) := by
  refine fn_cw tbv40ok Tryz.func48 rfl Tryz.ntmps48 rfl cb48 rfl rfl fun w N H hG => ?_
  have s_l : s.length ≤ 140737488355328 := w.1.1
  refine go tbv40ok 9 rfl rfl trivial ?_
  refine call (idxF_Deed _ f f_fst f_cap f_p f_h) rfl rfl fun w1 => ?_
  have hix1 := idxP_b f_p s
  refine go tbv40ok 5 rfl rfl trivial ?_
  refine rt1 rfl rfl ?_
  refine ple ?_
  rfl
theorem grow_Taker (n : Int) (hn : 0 ≤ n ∧ n ≤ 1000000) : Fo Tryz.prog gb 114 [.val (.slice none 0 0), .int .i64 n] (fun u => .val u) 2 126 TakerR.pc ([] : List TakerR) := by
  refine fo_cw tbv40ok Tryz.func114 rfl Tryz.ntmps114 rfl cb114 (fun _ => rfl) rfl fun w N H hG => ?_
  have n_r : -9223372036854775808 ≤ n ∧ n ≤ 9223372036854775807 := w.2.1
  refine go tbv40ok 12 rfl rfl trivial ?_
  refine cnd rfl (fun h1 => ?_) (fun h1 => ?_)
  · have p2 := dt h1
    exfalso; omega
  · have p3 := df h1
    refine go tbv40ok 7 rfl rfl trivial ?_
    refine q1 (qcap0 tbv40ok rfl rfl rfl) rfl fun w4 => ?_
    refine go tbv40ok 1 rfl rfl trivial ?_
    refine q1 (qlen0 tbv40ok rfl rfl rfl) rfl fun w5 => ?_
    refine go tbv40ok 11 rfl rfl ⟨(by omega), (by omega), trivial⟩ ?_
    refine cnd rfl (fun h6 => ?_) (fun h6 => ?_)
    · have p7 := dt h6
      refine go tbv40ok 3 rfl rfl trivial ?_
      refine q1 (qcap0 tbv40ok rfl rfl rfl) rfl fun w8 => ?_
      refine q1 (qcut0 tbv40ok rfl rfl rfl rfl rfl (by omega)) rfl fun w9 => ?_
      refine go tbv40ok 1 rfl rfl trivial ?_
      refine ef (appz (m := ((n - (0 - 0))).toNat) 0 tbv40ok rfl rfl rfl rfl rfl rfl rfl rfl rfl rfl (by omega) (by omega) (by (try simp only []); omega) rfl rfl fun u10 => ?_)
      refine go tbv40ok 1 rfl rfl trivial ?_
      refine q1 (qlen0 tbv40ok rfl rfl rfl) rfl fun w11 => ?_
      refine ef (ocut TakerR.pc tbv40ok rfl rfl rfl rfl rfl rfl (by omega) rfl fun u12 => ?_)
      refine go tbv40ok 9 rfl rfl trivial ?_
      refine sw_val (t := 4) (i := 0) rfl rfl ?_
      refine go tbv40ok 1 rfl rfl trivial ?_
      refine ro1 (j := 0) rfl rfl rfl ?_
      rfl
    · have p13 := df h6
      refine go tbv40ok 8 rfl rfl trivial ?_
      refine sw_own (t := 4) (k := 2) (e := 126) 0 TakerR.pc rfl rfl ?_
      refine sw_val (t := 4) (i := 0) rfl rfl ?_
      refine go tbv40ok 1 rfl rfl trivial ?_
      refine ro1 (j := 0) rfl rfl rfl ?_
      rfl
theorem concat_Taker (ls : List (List TakerR)) (hl : ls.flatten.length ≤ 1000000) : Fn Tryz.prog gb 96 [.sl (slc TakerR.pc) ls] (.sl TakerR.pc ls.flatten) := by
  refine fn_cw tbv40ok Tryz.func96 rfl Tryz.ntmps96 rfl cb96 rfl rfl fun w N H hG => ?_
  have ls_l : ls.length ≤ 140737488355328 := w.1.1
  refine go tbv40ok 19 rfl rfl trivial ?_
  refine loop (ι := Nat × Int) [0, 2, 9, 10] [] (fun ⟨k, n⟩ => [(3, .int .i64 n), (11, .int .i64 (k : Int))]) (fun ⟨k, n⟩ => []) (fun ⟨k, n⟩ => k ≤ ls.length ∧ n = ((ls.take k).flatten.length : Int)) (fun ⟨k, n⟩ => ls.length - k) ⟨0, 0⟩ ⟨rfl, rfl, trivial⟩ trivial ?_ ?_
  · exact ⟨Nat.zero_le _, by simp⟩
  · rintro ⟨k, n⟩ hp1
    obtain ⟨hk1, hk2⟩ := hp1
    have hg0 := flat_le ls k
    refine go tbv40ok 6 rfl rfl trivial ?_
    refine cnd rfl (fun h2 => ?_) (fun h2 => ?_)
    · have p3 := dt h2
      obtain ⟨c4, hc5⟩ := getE (xs := ls) (m := k) (by omega)
      refine go tbv40ok 6 rfl rfl trivial ?_
      refine q1 (qidx tbv40ok k rfl rfl rfl hc5 rfl rfl rfl rfl) rfl fun w6 => ?_
      refine go tbv40ok 19 rfl rfl ⟨(by have hg := flat_le ls (k + 1); have hfl := congrArg List.length (flat_step (by assumption : ls[k]? = some _)); simp only [List.length_append] at hfl; omega), trivial⟩ ?_
      refine cnd rfl (fun h7 => ?_) (fun h7 => ?_)
      · have p8 := dt h7
        exfalso; omega
      · have p9 := df h7
        refine go tbv40ok 7 rfl rfl ⟨(by have hg := flat_le ls (k + 1); have hfl := congrArg List.length (flat_step (by assumption : ls[k]? = some _)); simp only [List.length_append] at hfl; omega), trivial⟩ ?_
        refine next ⟨(k + 1), (n + (c4.length : Int))⟩ rfl rfl ⟨rfl, rfl, trivial⟩ trivial ?_ ?_
        · (try simp only []); omega
        · have hf := flat_step hc5
          have hg := flat_le ls (k + 1)
          have hfl := congrArg List.length hf
          simp only [List.length_append] at hfl
          exact ⟨by omega, by (try simp only []); omega⟩
    · have p10 := df h2
      refine go tbv40ok 8 rfl rfl trivial ?_
      refine ef (ecallo 0 (grow_Taker _ (by omega)) rfl rfl fun u12 w11 => ?_)
      refine go tbv40ok 12 rfl rfl trivial ?_
      refine sw_osl (t := 6) 0 rfl rfl ?_
      refine loop (ι := Nat × (List TakerR) × Value) [0, 2, 3, 9, 10, 11, 12, 23, 24, 25, 26] [] (fun ⟨k, out, u_out⟩ => [(6, .osl 0), (27, .int .i64 (k : Int))]) (fun ⟨k, out, u_out⟩ => [(0, .arr u_out 2 126 TakerR.pc out)]) (fun ⟨k, out, u_out⟩ => k ≤ ls.length ∧ out = (ls.take k).flatten) (fun ⟨k, out, u_out⟩ => ls.length - k) ⟨0, ([] : List TakerR), (u12)⟩ ⟨rfl, rfl, trivial⟩ ⟨rfl, trivial⟩ ?_ ?_
      · exact ⟨Nat.zero_le _, by simp⟩
      · rintro ⟨k, out, u_out⟩ hp13
        obtain ⟨hk1, hk2⟩ := hp13
        refine go tbv40ok 6 rfl rfl trivial ?_
        refine cnd rfl (fun h14 => ?_) (fun h14 => ?_)
        · have p15 := dt h14
          obtain ⟨c16, hc17⟩ := getE (xs := ls) (m := k) (by omega)
          refine go tbv40ok 6 rfl rfl trivial ?_
          refine q1 (qidx tbv40ok k rfl rfl rfl hc17 rfl rfl rfl rfl) rfl fun w18 => ?_
          refine go tbv40ok 7 rfl rfl trivial ?_
          refine ef (app tbv40ok c16 rfl rfl rfl rfl rfl rfl rfl rfl rfl (src_l rfl (fun _ => rfl)) (by have hg := flat_le ls (k + 1); have hfl := congrArg List.length (flat_step (by assumption : ls[k]? = some _)); simp only [List.length_append] at hfl; subst hk2; (try simp only []); omega) rfl fun u19 => ?_)
          refine go tbv40ok 8 rfl rfl ⟨(by have hg := flat_le ls (k + 1); have hfl := congrArg List.length (flat_step (by assumption : ls[k]? = some _)); simp only [List.length_append] at hfl; omega), trivial⟩ ?_
          refine next ⟨(k + 1), (out ++ c16), (u19)⟩ rfl rfl ⟨rfl, rfl, trivial⟩ ⟨rfl, trivial⟩ ?_ ?_
          · (try simp only []); omega
          · exact ⟨by omega, by (try simp only []); rw [flat_step hc17, hk2]⟩
        · have p20 := df h14
          refine go tbv40ok 11 rfl rfl trivial ?_
          refine givec 0 rfl ?_
          refine go tbv40ok 1 rfl rfl trivial ?_
          refine rt1 rfl rfl ?_
          refine ple ?_
          rw [hk2, flat_full (by omega)]
theorem clone_Taker (s : List TakerR) (hl : s.length ≤ 1000000) : Fn Tryz.prog gb 99 [.sl TakerR.pc s] (.sl TakerR.pc s) := by
  refine fn_cw tbv40ok Tryz.func99 rfl Tryz.ntmps99 rfl cb99 rfl rfl fun w N H hG => ?_
  have s_l : s.length ≤ 140737488355328 := w.1.1
  refine go tbv40ok 9 rfl rfl trivial ?_
  refine ef (lnil tbv40ok rfl rfl rfl rfl rfl fun b1 hb2 => ?_)
  refine go tbv40ok 2 rfl rfl trivial ?_
  refine cnd rfl (fun h3 => ?_) (fun h3 => ?_)
  · refine go tbv40ok 7 rfl rfl trivial ?_
    refine rt1 rfl rfl ?_
    refine ple_nilx ?_
    exact hb2 (by assumption)
  · refine go tbv40ok 4 rfl rfl trivial ?_
    refine ef (bsl 0 TakerR.pc [] tbv40ok rfl rfl rfl rfl rfl (fun _ => rfl) rfl (by decide) (by decide) rfl fun u4 => ?_)
    refine go tbv40ok 1 rfl rfl trivial ?_
    refine ef (app tbv40ok s rfl rfl rfl rfl rfl rfl rfl rfl rfl (src_l rfl (fun _ => rfl)) (by first | omega | (simp; omega)) rfl fun u5 => ?_)
    refine go tbv40ok 3 rfl rfl trivial ?_
    refine givec 0 rfl ?_
    refine go tbv40ok 1 rfl rfl trivial ?_
    refine rt1 rfl rfl ?_
    refine ple ?_
    simp
theorem idxF_Taker (s : List TakerR) (f : FuncId) (f_fst f_cap : List PV) (f_p : TakerR → Bool) (f_h : ∀ x, Fn Tryz.prog gb f (argsP.apL f_fst ((.agg (TakerR.pc x)) :: f_cap)) (.bool (f_p x))) : Fn Tryz.prog gb 112 [.sl TakerR.pc s, .fn f f_fst f_cap] (.int .i64 (idxP f_p s)) := by
  refine fn_cw tbv40ok Tryz.func112 rfl Tryz.ntmps112 rfl cb112 rfl rfl fun w N H hG => ?_
  have s_l : s.length ≤ 140737488355328 := w.1.1
  refine go tbv40ok 14 rfl rfl trivial ?_
  refine loop (ι := Nat) [0, 1, 6, 7] [] (fun k => [(8, .int .i64 (k : Int))]) (fun k => []) (fun k => k ≤ s.length ∧ idxP f_p s = idxF f_p k (s.drop k)) (fun k => s.length - k) 0 ⟨rfl, trivial⟩ trivial ?_ ?_
  · exact ⟨Nat.zero_le _, rfl⟩
  · rintro k hp1
    obtain ⟨hk1, hk2⟩ := hp1
    refine go tbv40ok 6 rfl rfl trivial ?_
    refine cnd rfl (fun h2 => ?_) (fun h2 => ?_)
    · have p3 := dt h2
      obtain ⟨c4, hc5⟩ := getE (xs := s) (m := k) (by omega)
      refine go tbv40ok 15 rfl rfl trivial ?_
      refine q1 (qidx tbv40ok k rfl rfl rfl hc5 rfl rfl rfl rfl) rfl fun w6 => ?_
      refine go tbv40ok 1 rfl rfl trivial ?_
      refine call (f_h c4) rfl rfl fun w7 => ?_
      refine go tbv40ok 2 rfl rfl trivial ?_
      refine cnd rfl (fun h8 => ?_) (fun h8 => ?_)
      · refine go tbv40ok 12 rfl rfl trivial ?_
        refine rt1 rfl rfl ?_
        refine ple ?_
        exact congrArg (PV.int .i64) (idx_hit hk2 (dropE hc5) (by assumption)).symm
      · refine go tbv40ok 7 rfl rfl ⟨(by omega), trivial⟩ ?_
        refine next (k + 1) rfl rfl ⟨rfl, trivial⟩ trivial ?_ ?_
        · omega
        · exact ⟨by omega, idx_miss hk2 (dropE hc5) (by assumption)⟩
    · have p9 := df h2
      refine go tbv40ok 11 rfl rfl trivial ?_
      refine rt1 rfl rfl ?_
      refine ple ?_
      exact congrArg (PV.int .i64) (idx_end hk2 (by omega)).symm
theorem grow_Lent (n : Int) (hn : 0 ≤ n ∧ n ≤ 1000000) : Fo Tryz.prog gb 80 [.val (.slice none 0 0), .int .i64 n] (fun u => .val u) 2 39 LentR.pc ([] : List LentR) := by
  refine fo_cw tbv40ok Tryz.func80 rfl Tryz.ntmps80 rfl cb80 (fun _ => rfl) rfl fun w N H hG => ?_
  have n_r : -9223372036854775808 ≤ n ∧ n ≤ 9223372036854775807 := w.2.1
  refine go tbv40ok 12 rfl rfl trivial ?_
  refine cnd rfl (fun h1 => ?_) (fun h1 => ?_)
  · have p2 := dt h1
    exfalso; omega
  · have p3 := df h1
    refine go tbv40ok 7 rfl rfl trivial ?_
    refine q1 (qcap0 tbv40ok rfl rfl rfl) rfl fun w4 => ?_
    refine go tbv40ok 1 rfl rfl trivial ?_
    refine q1 (qlen0 tbv40ok rfl rfl rfl) rfl fun w5 => ?_
    refine go tbv40ok 11 rfl rfl ⟨(by omega), (by omega), trivial⟩ ?_
    refine cnd rfl (fun h6 => ?_) (fun h6 => ?_)
    · have p7 := dt h6
      refine go tbv40ok 3 rfl rfl trivial ?_
      refine q1 (qcap0 tbv40ok rfl rfl rfl) rfl fun w8 => ?_
      refine q1 (qcut0 tbv40ok rfl rfl rfl rfl rfl (by omega)) rfl fun w9 => ?_
      refine go tbv40ok 1 rfl rfl trivial ?_
      refine ef (appz (m := ((n - (0 - 0))).toNat) 0 tbv40ok rfl rfl rfl rfl rfl rfl rfl rfl rfl rfl (by omega) (by omega) (by (try simp only []); omega) rfl rfl fun u10 => ?_)
      refine go tbv40ok 1 rfl rfl trivial ?_
      refine q1 (qlen0 tbv40ok rfl rfl rfl) rfl fun w11 => ?_
      refine ef (ocut LentR.pc tbv40ok rfl rfl rfl rfl rfl rfl (by omega) rfl fun u12 => ?_)
      refine go tbv40ok 9 rfl rfl trivial ?_
      refine sw_val (t := 4) (i := 0) rfl rfl ?_
      refine go tbv40ok 1 rfl rfl trivial ?_
      refine ro1 (j := 0) rfl rfl rfl ?_
      rfl
    · have p13 := df h6
      refine go tbv40ok 8 rfl rfl trivial ?_
      refine sw_own (t := 4) (k := 2) (e := 39) 0 LentR.pc rfl rfl ?_
      refine sw_val (t := 4) (i := 0) rfl rfl ?_
      refine go tbv40ok 1 rfl rfl trivial ?_
      refine ro1 (j := 0) rfl rfl rfl ?_
      rfl
theorem concat_Lent (ls : List (List LentR)) (hl : ls.flatten.length ≤ 1000000) : Fn Tryz.prog gb 38 [.sl (slc LentR.pc) ls] (.sl LentR.pc ls.flatten) := by
  refine fn_cw tbv40ok Tryz.func38 rfl Tryz.ntmps38 rfl cb38 rfl rfl fun w N H hG => ?_
  have ls_l : ls.length ≤ 140737488355328 := w.1.1
  refine go tbv40ok 19 rfl rfl trivial ?_
  refine loop (ι := Nat × Int) [0, 2, 9, 10] [] (fun ⟨k, n⟩ => [(3, .int .i64 n), (11, .int .i64 (k : Int))]) (fun ⟨k, n⟩ => []) (fun ⟨k, n⟩ => k ≤ ls.length ∧ n = ((ls.take k).flatten.length : Int)) (fun ⟨k, n⟩ => ls.length - k) ⟨0, 0⟩ ⟨rfl, rfl, trivial⟩ trivial ?_ ?_
  · exact ⟨Nat.zero_le _, by simp⟩
  · rintro ⟨k, n⟩ hp1
    obtain ⟨hk1, hk2⟩ := hp1
    have hg0 := flat_le ls k
    refine go tbv40ok 6 rfl rfl trivial ?_
    refine cnd rfl (fun h2 => ?_) (fun h2 => ?_)
    · have p3 := dt h2
      obtain ⟨c4, hc5⟩ := getE (xs := ls) (m := k) (by omega)
      refine go tbv40ok 6 rfl rfl trivial ?_
      refine q1 (qidx tbv40ok k rfl rfl rfl hc5 rfl rfl rfl rfl) rfl fun w6 => ?_
      refine go tbv40ok 19 rfl rfl ⟨(by have hg := flat_le ls (k + 1); have hfl := congrArg List.length (flat_step (by assumption : ls[k]? = some _)); simp only [List.length_append] at hfl; omega), trivial⟩ ?_
      refine cnd rfl (fun h7 => ?_) (fun h7 => ?_)
      · have p8 := dt h7
        exfalso; omega
      · have p9 := df h7
        refine go tbv40ok 7 rfl rfl ⟨(by have hg := flat_le ls (k + 1); have hfl := congrArg List.length (flat_step (by assumption : ls[k]? = some _)); simp only [List.length_append] at hfl; omega), trivial⟩ ?_
        refine next ⟨(k + 1), (n + (c4.length : Int))⟩ rfl rfl ⟨rfl, rfl, trivial⟩ trivial ?_ ?_
        · (try simp only []); omega
        · have hf := flat_step hc5
          have hg := flat_le ls (k + 1)
          have hfl := congrArg List.length hf
          simp only [List.length_append] at hfl
          exact ⟨by omega, by (try simp only []); omega⟩
    · have p10 := df h2
      refine go tbv40ok 8 rfl rfl trivial ?_
      refine ef (ecallo 0 (grow_Lent _ (by omega)) rfl rfl fun u12 w11 => ?_)
      refine go tbv40ok 12 rfl rfl trivial ?_
      refine sw_osl (t := 6) 0 rfl rfl ?_
      refine loop (ι := Nat × (List LentR) × Value) [0, 2, 3, 9, 10, 11, 12, 23, 24, 25, 26] [] (fun ⟨k, out, u_out⟩ => [(6, .osl 0), (27, .int .i64 (k : Int))]) (fun ⟨k, out, u_out⟩ => [(0, .arr u_out 2 39 LentR.pc out)]) (fun ⟨k, out, u_out⟩ => k ≤ ls.length ∧ out = (ls.take k).flatten) (fun ⟨k, out, u_out⟩ => ls.length - k) ⟨0, ([] : List LentR), (u12)⟩ ⟨rfl, rfl, trivial⟩ ⟨rfl, trivial⟩ ?_ ?_
      · exact ⟨Nat.zero_le _, by simp⟩
      · rintro ⟨k, out, u_out⟩ hp13
        obtain ⟨hk1, hk2⟩ := hp13
        refine go tbv40ok 6 rfl rfl trivial ?_
        refine cnd rfl (fun h14 => ?_) (fun h14 => ?_)
        · have p15 := dt h14
          obtain ⟨c16, hc17⟩ := getE (xs := ls) (m := k) (by omega)
          refine go tbv40ok 6 rfl rfl trivial ?_
          refine q1 (qidx tbv40ok k rfl rfl rfl hc17 rfl rfl rfl rfl) rfl fun w18 => ?_
          refine go tbv40ok 7 rfl rfl trivial ?_
          refine ef (app tbv40ok c16 rfl rfl rfl rfl rfl rfl rfl rfl rfl (src_l rfl (fun _ => rfl)) (by have hg := flat_le ls (k + 1); have hfl := congrArg List.length (flat_step (by assumption : ls[k]? = some _)); simp only [List.length_append] at hfl; subst hk2; (try simp only []); omega) rfl fun u19 => ?_)
          refine go tbv40ok 8 rfl rfl ⟨(by have hg := flat_le ls (k + 1); have hfl := congrArg List.length (flat_step (by assumption : ls[k]? = some _)); simp only [List.length_append] at hfl; omega), trivial⟩ ?_
          refine next ⟨(k + 1), (out ++ c16), (u19)⟩ rfl rfl ⟨rfl, rfl, trivial⟩ ⟨rfl, trivial⟩ ?_ ?_
          · (try simp only []); omega
          · exact ⟨by omega, by (try simp only []); rw [flat_step hc17, hk2]⟩
        · have p20 := df h14
          refine go tbv40ok 11 rfl rfl trivial ?_
          refine givec 0 rfl ?_
          refine go tbv40ok 1 rfl rfl trivial ?_
          refine rt1 rfl rfl ?_
          refine ple ?_
          rw [hk2, flat_full (by omega)]
theorem clone_Lent (s : List LentR) (hl : s.length ≤ 1000000) : Fn Tryz.prog gb 37 [.sl LentR.pc s] (.sl LentR.pc s) := by
  refine fn_cw tbv40ok Tryz.func37 rfl Tryz.ntmps37 rfl cb37 rfl rfl fun w N H hG => ?_
  have s_l : s.length ≤ 140737488355328 := w.1.1
  refine go tbv40ok 9 rfl rfl trivial ?_
  refine ef (lnil tbv40ok rfl rfl rfl rfl rfl fun b1 hb2 => ?_)
  refine go tbv40ok 2 rfl rfl trivial ?_
  refine cnd rfl (fun h3 => ?_) (fun h3 => ?_)
  · refine go tbv40ok 7 rfl rfl trivial ?_
    refine rt1 rfl rfl ?_
    refine ple_nilx ?_
    exact hb2 (by assumption)
  · refine go tbv40ok 4 rfl rfl trivial ?_
    refine ef (bsl 0 LentR.pc [] tbv40ok rfl rfl rfl rfl rfl (fun _ => rfl) rfl (by decide) (by decide) rfl fun u4 => ?_)
    refine go tbv40ok 1 rfl rfl trivial ?_
    refine ef (app tbv40ok s rfl rfl rfl rfl rfl rfl rfl rfl rfl (src_l rfl (fun _ => rfl)) (by first | omega | (simp; omega)) rfl fun u5 => ?_)
    refine go tbv40ok 3 rfl rfl trivial ?_
    refine givec 0 rfl ?_
    refine go tbv40ok 1 rfl rfl trivial ?_
    refine rt1 rfl rfl ?_
    refine ple ?_
    simp
theorem index_Lent (l : List LentR) (x : LentR) : Fn Tryz.prog gb 54 [.sl LentR.pc l, .agg (LentR.pc x)] (.int .i64 (idxP (fun y => decide (x = y)) l)) := by
  refine fn_cw tbv40ok Tryz.func54 rfl Tryz.ntmps54 rfl cb54 rfl rfl fun w N H hG => ?_
  have l_l : l.length ≤ 140737488355328 := w.1.1
  refine go tbv40ok 2 rfl rfl trivial ?_
  refine ef (boxA 0 rfl rfl rfl fun b1 => ?_)
  refine go tbv40ok 12 rfl rfl trivial ?_
  refine loop (ι := Nat) [0, 1, 3, 6, 7] [0] (fun k => [(8, .int .i64 (k : Int))]) (fun k => []) (fun k => k ≤ l.length ∧ idxP (fun y => decide (x = y)) l = idxF (fun y => decide (x = y)) k (l.drop k)) (fun k => l.length - k) 0 ⟨rfl, trivial⟩ trivial ?_ ?_
  · exact ⟨Nat.zero_le _, rfl⟩
  · rintro k hp2
    obtain ⟨hik1, hik2⟩ := hp2
    refine go tbv40ok 6 rfl rfl trivial ?_
    refine cnd rfl (fun h3 => ?_) (fun h3 => ?_)
    · have p4 := dt h3
      refine go tbv40ok 11 rfl rfl trivial ?_
      refine any [1, 2, 3, 4, 5, 6] 6 mixd rfl ?_
      refine gov tbv40ok [0, 1, 2] 3 rfl (by kernel_rfl) rfl rfl trivial ?_
      obtain ⟨c5, hc6⟩ := getE (xs := l) (m := k) (by omega)
      refine vq 3 (qidx tbv40ok k rfl rfl rfl hc6 rfl rfl rfl rfl) rfl (by kernel_rfl) rfl fun w7 => ?_
      refine gov tbv40ok [4] 1 rfl (by kernel_rfl) rfl rfl trivial ?_
      refine vq 5 (saeq rfl rfl eqg39 (veq39 x c5)) rfl (by kernel_rfl) rfl fun w8 => ?_
      refine vdone (by kernel_rfl) ?_
      refine go tbv40ok 1 rfl rfl trivial ?_
      refine cnd rfl (fun h9 => ?_) (fun h9 => ?_)
      · have p10 := dt h9
        refine go tbv40ok 12 rfl rfl trivial ?_
        refine rt1 rfl rfl ?_
        refine ple ?_
        exact congrArg (PV.int .i64) (idx_hit hik2 (dropE hc6) (by first | assumption | (simp [*]; done))).symm
      · have p11 := df h9
        refine go tbv40ok 7 rfl rfl ⟨(by omega), trivial⟩ ?_
        refine next (k + 1) rfl rfl ⟨rfl, trivial⟩ trivial ?_ ?_
        · omega
        · exact ⟨by omega, idx_miss hik2 (dropE hc6) (by first | assumption | (simp [*]; done) | grind)⟩
    · have p12 := df h3
      refine go tbv40ok 11 rfl rfl trivial ?_
      refine rt1 rfl rfl ?_
      refine ple ?_
      exact congrArg (PV.int .i64) (idx_end hik2 (by omega)).symm
theorem grow_Shop (n : Int) (hn : 0 ≤ n ∧ n ≤ 1000000) : Fo Tryz.prog gb 162 [.val (.slice none 0 0), .int .i64 n] (fun u => .val u) 3 44 ShopR.pc ([] : List ShopR) := by
  refine fo_cw tbv40ok Tryz.func162 rfl Tryz.ntmps162 rfl cb162 (fun _ => rfl) rfl fun w N H hG => ?_
  have n_r : -9223372036854775808 ≤ n ∧ n ≤ 9223372036854775807 := w.2.1
  refine go tbv40ok 12 rfl rfl trivial ?_
  refine cnd rfl (fun h1 => ?_) (fun h1 => ?_)
  · have p2 := dt h1
    exfalso; omega
  · have p3 := df h1
    refine go tbv40ok 7 rfl rfl trivial ?_
    refine q1 (qcap0 tbv40ok rfl rfl rfl) rfl fun w4 => ?_
    refine go tbv40ok 1 rfl rfl trivial ?_
    refine q1 (qlen0 tbv40ok rfl rfl rfl) rfl fun w5 => ?_
    refine go tbv40ok 11 rfl rfl ⟨(by omega), (by omega), trivial⟩ ?_
    refine cnd rfl (fun h6 => ?_) (fun h6 => ?_)
    · have p7 := dt h6
      refine go tbv40ok 3 rfl rfl trivial ?_
      refine q1 (qcap0 tbv40ok rfl rfl rfl) rfl fun w8 => ?_
      refine q1 (qcut0 tbv40ok rfl rfl rfl rfl rfl (by omega)) rfl fun w9 => ?_
      refine go tbv40ok 1 rfl rfl trivial ?_
      refine ef (appz (m := ((n - (0 - 0))).toNat) 0 tbv40ok rfl rfl rfl rfl rfl rfl rfl rfl rfl rfl (by omega) (by omega) (by (try simp only []); omega) rfl rfl fun u10 => ?_)
      refine go tbv40ok 1 rfl rfl trivial ?_
      refine q1 (qlen0 tbv40ok rfl rfl rfl) rfl fun w11 => ?_
      refine ef (ocut ShopR.pc tbv40ok rfl rfl rfl rfl rfl rfl (by omega) rfl fun u12 => ?_)
      refine go tbv40ok 9 rfl rfl trivial ?_
      refine sw_val (t := 4) (i := 0) rfl rfl ?_
      refine go tbv40ok 1 rfl rfl trivial ?_
      refine ro1 (j := 0) rfl rfl rfl ?_
      rfl
    · have p13 := df h6
      refine go tbv40ok 8 rfl rfl trivial ?_
      refine sw_own (t := 4) (k := 3) (e := 44) 0 ShopR.pc rfl rfl ?_
      refine sw_val (t := 4) (i := 0) rfl rfl ?_
      refine go tbv40ok 1 rfl rfl trivial ?_
      refine ro1 (j := 0) rfl rfl rfl ?_
      rfl
theorem concat_Shop (ls : List (List ShopR)) (hl : ls.flatten.length ≤ 1000000) : Fn Tryz.prog gb 146 [.sl (slc ShopR.pc) ls] (.sl ShopR.pc ls.flatten) := by
  refine fn_cw tbv40ok Tryz.func146 rfl Tryz.ntmps146 rfl cb146 rfl rfl fun w N H hG => ?_
  have ls_l : ls.length ≤ 140737488355328 := w.1.1
  refine go tbv40ok 19 rfl rfl trivial ?_
  refine loop (ι := Nat × Int) [0, 2, 9, 10] [] (fun ⟨k, n⟩ => [(3, .int .i64 n), (11, .int .i64 (k : Int))]) (fun ⟨k, n⟩ => []) (fun ⟨k, n⟩ => k ≤ ls.length ∧ n = ((ls.take k).flatten.length : Int)) (fun ⟨k, n⟩ => ls.length - k) ⟨0, 0⟩ ⟨rfl, rfl, trivial⟩ trivial ?_ ?_
  · exact ⟨Nat.zero_le _, by simp⟩
  · rintro ⟨k, n⟩ hp1
    obtain ⟨hk1, hk2⟩ := hp1
    have hg0 := flat_le ls k
    refine go tbv40ok 6 rfl rfl trivial ?_
    refine cnd rfl (fun h2 => ?_) (fun h2 => ?_)
    · have p3 := dt h2
      obtain ⟨c4, hc5⟩ := getE (xs := ls) (m := k) (by omega)
      refine go tbv40ok 6 rfl rfl trivial ?_
      refine q1 (qidx tbv40ok k rfl rfl rfl hc5 rfl rfl rfl rfl) rfl fun w6 => ?_
      refine go tbv40ok 19 rfl rfl ⟨(by have hg := flat_le ls (k + 1); have hfl := congrArg List.length (flat_step (by assumption : ls[k]? = some _)); simp only [List.length_append] at hfl; omega), trivial⟩ ?_
      refine cnd rfl (fun h7 => ?_) (fun h7 => ?_)
      · have p8 := dt h7
        exfalso; omega
      · have p9 := df h7
        refine go tbv40ok 7 rfl rfl ⟨(by have hg := flat_le ls (k + 1); have hfl := congrArg List.length (flat_step (by assumption : ls[k]? = some _)); simp only [List.length_append] at hfl; omega), trivial⟩ ?_
        refine next ⟨(k + 1), (n + (c4.length : Int))⟩ rfl rfl ⟨rfl, rfl, trivial⟩ trivial ?_ ?_
        · (try simp only []); omega
        · have hf := flat_step hc5
          have hg := flat_le ls (k + 1)
          have hfl := congrArg List.length hf
          simp only [List.length_append] at hfl
          exact ⟨by omega, by (try simp only []); omega⟩
    · have p10 := df h2
      refine go tbv40ok 8 rfl rfl trivial ?_
      refine ef (ecallo 0 (grow_Shop _ (by omega)) rfl rfl fun u12 w11 => ?_)
      refine go tbv40ok 12 rfl rfl trivial ?_
      refine sw_osl (t := 6) 0 rfl rfl ?_
      refine loop (ι := Nat × (List ShopR) × Value) [0, 2, 3, 9, 10, 11, 12, 23, 24, 25, 26] [] (fun ⟨k, out, u_out⟩ => [(6, .osl 0), (27, .int .i64 (k : Int))]) (fun ⟨k, out, u_out⟩ => [(0, .arr u_out 3 44 ShopR.pc out)]) (fun ⟨k, out, u_out⟩ => k ≤ ls.length ∧ out = (ls.take k).flatten) (fun ⟨k, out, u_out⟩ => ls.length - k) ⟨0, ([] : List ShopR), (u12)⟩ ⟨rfl, rfl, trivial⟩ ⟨rfl, trivial⟩ ?_ ?_
      · exact ⟨Nat.zero_le _, by simp⟩
      · rintro ⟨k, out, u_out⟩ hp13
        obtain ⟨hk1, hk2⟩ := hp13
        refine go tbv40ok 6 rfl rfl trivial ?_
        refine cnd rfl (fun h14 => ?_) (fun h14 => ?_)
        · have p15 := dt h14
          obtain ⟨c16, hc17⟩ := getE (xs := ls) (m := k) (by omega)
          refine go tbv40ok 6 rfl rfl trivial ?_
          refine q1 (qidx tbv40ok k rfl rfl rfl hc17 rfl rfl rfl rfl) rfl fun w18 => ?_
          refine go tbv40ok 7 rfl rfl trivial ?_
          refine ef (app tbv40ok c16 rfl rfl rfl rfl rfl rfl rfl rfl rfl (src_l rfl (fun _ => rfl)) (by have hg := flat_le ls (k + 1); have hfl := congrArg List.length (flat_step (by assumption : ls[k]? = some _)); simp only [List.length_append] at hfl; subst hk2; (try simp only []); omega) rfl fun u19 => ?_)
          refine go tbv40ok 8 rfl rfl ⟨(by have hg := flat_le ls (k + 1); have hfl := congrArg List.length (flat_step (by assumption : ls[k]? = some _)); simp only [List.length_append] at hfl; omega), trivial⟩ ?_
          refine next ⟨(k + 1), (out ++ c16), (u19)⟩ rfl rfl ⟨rfl, rfl, trivial⟩ ⟨rfl, trivial⟩ ?_ ?_
          · (try simp only []); omega
          · exact ⟨by omega, by (try simp only []); rw [flat_step hc17, hk2]⟩
        · have p20 := df h14
          refine go tbv40ok 11 rfl rfl trivial ?_
          refine givec 0 rfl ?_
          refine go tbv40ok 1 rfl rfl trivial ?_
          refine rt1 rfl rfl ?_
          refine ple ?_
          rw [hk2, flat_full (by omega)]
theorem grow_Bind (n : Int) (hn : 0 ≤ n ∧ n ≤ 1000000) : Fo Tryz.prog gb 166 [.val (.slice none 0 0), .int .i64 n] (fun u => .val u) 6 49 BindR.pc ([] : List BindR) := by
  refine fo_cw tbv40ok Tryz.func166 rfl Tryz.ntmps166 rfl cb166 (fun _ => rfl) rfl fun w N H hG => ?_
  have n_r : -9223372036854775808 ≤ n ∧ n ≤ 9223372036854775807 := w.2.1
  refine go tbv40ok 12 rfl rfl trivial ?_
  refine cnd rfl (fun h1 => ?_) (fun h1 => ?_)
  · have p2 := dt h1
    exfalso; omega
  · have p3 := df h1
    refine go tbv40ok 7 rfl rfl trivial ?_
    refine q1 (qcap0 tbv40ok rfl rfl rfl) rfl fun w4 => ?_
    refine go tbv40ok 1 rfl rfl trivial ?_
    refine q1 (qlen0 tbv40ok rfl rfl rfl) rfl fun w5 => ?_
    refine go tbv40ok 11 rfl rfl ⟨(by omega), (by omega), trivial⟩ ?_
    refine cnd rfl (fun h6 => ?_) (fun h6 => ?_)
    · have p7 := dt h6
      refine go tbv40ok 3 rfl rfl trivial ?_
      refine q1 (qcap0 tbv40ok rfl rfl rfl) rfl fun w8 => ?_
      refine q1 (qcut0 tbv40ok rfl rfl rfl rfl rfl (by omega)) rfl fun w9 => ?_
      refine go tbv40ok 1 rfl rfl trivial ?_
      refine ef (appz (m := ((n - (0 - 0))).toNat) 0 tbv40ok rfl rfl rfl rfl rfl rfl rfl rfl rfl rfl (by omega) (by omega) (by (try simp only []); omega) rfl rfl fun u10 => ?_)
      refine go tbv40ok 1 rfl rfl trivial ?_
      refine q1 (qlen0 tbv40ok rfl rfl rfl) rfl fun w11 => ?_
      refine ef (ocut BindR.pc tbv40ok rfl rfl rfl rfl rfl rfl (by omega) rfl fun u12 => ?_)
      refine go tbv40ok 9 rfl rfl trivial ?_
      refine sw_val (t := 4) (i := 0) rfl rfl ?_
      refine go tbv40ok 1 rfl rfl trivial ?_
      refine ro1 (j := 0) rfl rfl rfl ?_
      rfl
    · have p13 := df h6
      refine go tbv40ok 8 rfl rfl trivial ?_
      refine sw_own (t := 4) (k := 6) (e := 49) 0 BindR.pc rfl rfl ?_
      refine sw_val (t := 4) (i := 0) rfl rfl ?_
      refine go tbv40ok 1 rfl rfl trivial ?_
      refine ro1 (j := 0) rfl rfl rfl ?_
      rfl
theorem concat_Bind (ls : List (List BindR)) (hl : ls.flatten.length ≤ 1000000) : Fn Tryz.prog gb 150 [.sl (slc BindR.pc) ls] (.sl BindR.pc ls.flatten) := by
  refine fn_cw tbv40ok Tryz.func150 rfl Tryz.ntmps150 rfl cb150 rfl rfl fun w N H hG => ?_
  have ls_l : ls.length ≤ 140737488355328 := w.1.1
  refine go tbv40ok 19 rfl rfl trivial ?_
  refine loop (ι := Nat × Int) [0, 2, 9, 10] [] (fun ⟨k, n⟩ => [(3, .int .i64 n), (11, .int .i64 (k : Int))]) (fun ⟨k, n⟩ => []) (fun ⟨k, n⟩ => k ≤ ls.length ∧ n = ((ls.take k).flatten.length : Int)) (fun ⟨k, n⟩ => ls.length - k) ⟨0, 0⟩ ⟨rfl, rfl, trivial⟩ trivial ?_ ?_
  · exact ⟨Nat.zero_le _, by simp⟩
  · rintro ⟨k, n⟩ hp1
    obtain ⟨hk1, hk2⟩ := hp1
    have hg0 := flat_le ls k
    refine go tbv40ok 6 rfl rfl trivial ?_
    refine cnd rfl (fun h2 => ?_) (fun h2 => ?_)
    · have p3 := dt h2
      obtain ⟨c4, hc5⟩ := getE (xs := ls) (m := k) (by omega)
      refine go tbv40ok 6 rfl rfl trivial ?_
      refine q1 (qidx tbv40ok k rfl rfl rfl hc5 rfl rfl rfl rfl) rfl fun w6 => ?_
      refine go tbv40ok 19 rfl rfl ⟨(by have hg := flat_le ls (k + 1); have hfl := congrArg List.length (flat_step (by assumption : ls[k]? = some _)); simp only [List.length_append] at hfl; omega), trivial⟩ ?_
      refine cnd rfl (fun h7 => ?_) (fun h7 => ?_)
      · have p8 := dt h7
        exfalso; omega
      · have p9 := df h7
        refine go tbv40ok 7 rfl rfl ⟨(by have hg := flat_le ls (k + 1); have hfl := congrArg List.length (flat_step (by assumption : ls[k]? = some _)); simp only [List.length_append] at hfl; omega), trivial⟩ ?_
        refine next ⟨(k + 1), (n + (c4.length : Int))⟩ rfl rfl ⟨rfl, rfl, trivial⟩ trivial ?_ ?_
        · (try simp only []); omega
        · have hf := flat_step hc5
          have hg := flat_le ls (k + 1)
          have hfl := congrArg List.length hf
          simp only [List.length_append] at hfl
          exact ⟨by omega, by (try simp only []); omega⟩
    · have p10 := df h2
      refine go tbv40ok 8 rfl rfl trivial ?_
      refine ef (ecallo 0 (grow_Bind _ (by omega)) rfl rfl fun u12 w11 => ?_)
      refine go tbv40ok 12 rfl rfl trivial ?_
      refine sw_osl (t := 6) 0 rfl rfl ?_
      refine loop (ι := Nat × (List BindR) × Value) [0, 2, 3, 9, 10, 11, 12, 23, 24, 25, 26] [] (fun ⟨k, out, u_out⟩ => [(6, .osl 0), (27, .int .i64 (k : Int))]) (fun ⟨k, out, u_out⟩ => [(0, .arr u_out 6 49 BindR.pc out)]) (fun ⟨k, out, u_out⟩ => k ≤ ls.length ∧ out = (ls.take k).flatten) (fun ⟨k, out, u_out⟩ => ls.length - k) ⟨0, ([] : List BindR), (u12)⟩ ⟨rfl, rfl, trivial⟩ ⟨rfl, trivial⟩ ?_ ?_
      · exact ⟨Nat.zero_le _, by simp⟩
      · rintro ⟨k, out, u_out⟩ hp13
        obtain ⟨hk1, hk2⟩ := hp13
        refine go tbv40ok 6 rfl rfl trivial ?_
        refine cnd rfl (fun h14 => ?_) (fun h14 => ?_)
        · have p15 := dt h14
          obtain ⟨c16, hc17⟩ := getE (xs := ls) (m := k) (by omega)
          refine go tbv40ok 6 rfl rfl trivial ?_
          refine q1 (qidx tbv40ok k rfl rfl rfl hc17 rfl rfl rfl rfl) rfl fun w18 => ?_
          refine go tbv40ok 7 rfl rfl trivial ?_
          refine ef (app tbv40ok c16 rfl rfl rfl rfl rfl rfl rfl rfl rfl (src_l rfl (fun _ => rfl)) (by have hg := flat_le ls (k + 1); have hfl := congrArg List.length (flat_step (by assumption : ls[k]? = some _)); simp only [List.length_append] at hfl; subst hk2; (try simp only []); omega) rfl fun u19 => ?_)
          refine go tbv40ok 8 rfl rfl ⟨(by have hg := flat_le ls (k + 1); have hfl := congrArg List.length (flat_step (by assumption : ls[k]? = some _)); simp only [List.length_append] at hfl; omega), trivial⟩ ?_
          refine next ⟨(k + 1), (out ++ c16), (u19)⟩ rfl rfl ⟨rfl, rfl, trivial⟩ ⟨rfl, trivial⟩ ?_ ?_
          · (try simp only []); omega
          · exact ⟨by omega, by (try simp only []); rw [flat_step hc17, hk2]⟩
        · have p20 := df h14
          refine go tbv40ok 11 rfl rfl trivial ?_
          refine givec 0 rfl ?_
          refine go tbv40ok 1 rfl rfl trivial ?_
          refine rt1 rfl rfl ?_
          refine ple ?_
          rw [hk2, flat_full (by omega)]
end Go.SW.V
set_option linter.unusedVariables false
set_option maxRecDepth 100000
set_option maxHeartbeats 4000000
namespace Go.SW.V
open Go.SW Go.Proofs
theorem cb10 : Callable Tryz.prog 10 := callable_of Tryz.func10 (by kernel_rfl) (by kernel_rfl)
theorem cb11 : Callable Tryz.prog 11 := callable_of Tryz.func11 (by kernel_rfl) (by kernel_rfl)
theorem cb113 : Callable Tryz.prog 113 := callable_of Tryz.func113 (by kernel_rfl) (by kernel_rfl)
theorem cb12 : Callable Tryz.prog 12 := callable_of Tryz.func12 (by kernel_rfl) (by kernel_rfl)
theorem cb25 : Callable Tryz.prog 25 := callable_of Tryz.func25 (by kernel_rfl) (by kernel_rfl)
theorem cb26 : Callable Tryz.prog 26 := callable_of Tryz.func26 (by kernel_rfl) (by kernel_rfl)
theorem cb34 : Callable Tryz.prog 34 := callable_of Tryz.func34 (by kernel_rfl) (by kernel_rfl)
theorem cb41 : Callable Tryz.prog 41 := callable_of Tryz.func41 (by kernel_rfl) (by kernel_rfl)
theorem cb43 : Callable Tryz.prog 43 := callable_of Tryz.func43 (by kernel_rfl) (by kernel_rfl)
theorem cb49 : Callable Tryz.prog 49 := callable_of Tryz.func49 (by kernel_rfl) (by kernel_rfl)
theorem cb55 : Callable Tryz.prog 55 := callable_of Tryz.func55 (by kernel_rfl) (by kernel_rfl)
theorem cb62 : Callable Tryz.prog 62 := callable_of Tryz.func62 (by kernel_rfl) (by kernel_rfl)
theorem cb63 : Callable Tryz.prog 63 := callable_of Tryz.func63 (by kernel_rfl) (by kernel_rfl)
theorem cb64 : Callable Tryz.prog 64 := callable_of Tryz.func64 (by kernel_rfl) (by kernel_rfl)
theorem cb65 : Callable Tryz.prog 65 := callable_of Tryz.func65 (by kernel_rfl) (by kernel_rfl)
theorem cb66 : Callable Tryz.prog 66 := callable_of Tryz.func66 (by kernel_rfl) (by kernel_rfl)
theorem cb67 : Callable Tryz.prog 67 := callable_of Tryz.func67 (by kernel_rfl) (by kernel_rfl)
theorem cb70 : Callable Tryz.prog 70 := callable_of Tryz.func70 (by kernel_rfl) (by kernel_rfl)
theorem cb71 : Callable Tryz.prog 71 := callable_of Tryz.func71 (by kernel_rfl) (by kernel_rfl)
theorem cb75 : Callable Tryz.prog 75 := callable_of Tryz.func75 (by kernel_rfl) (by kernel_rfl)
theorem cb76 : Callable Tryz.prog 76 := callable_of Tryz.func76 (by kernel_rfl) (by kernel_rfl)
theorem cb77 : Callable Tryz.prog 77 := callable_of Tryz.func77 (by kernel_rfl) (by kernel_rfl)
theorem cb78 : Callable Tryz.prog 78 := callable_of Tryz.func78 (by kernel_rfl) (by kernel_rfl)
theorem cb79 : Callable Tryz.prog 79 := callable_of Tryz.func79 (by kernel_rfl) (by kernel_rfl)
theorem cb95 : Callable Tryz.prog 95 := callable_of Tryz.func95 (by kernel_rfl) (by kernel_rfl)
theorem eqg113 : Tryz.prog.eqGuardType Tryz.prog.depth 113 = false := by kernel_rfl
theorem eqg127 : Tryz.prog.eqGuardType Tryz.prog.depth 127 = false := by kernel_rfl
theorem veq113 (p q : LentR) : ∀ (H : Hp) (vs us : List Value), Sims H (LentR.pc p) vs → Sims H (LentR.pc q) us → EqV Tryz.prog 10000 113 (.agg vs.toArray) (.agg us.toArray) (decide (p = q)) := by
  intro H vs us hv hu
  obtain ⟨_, _, rfl, v0, v_0⟩ := hv.inv_cons
  obtain ⟨_, _, rfl, v1, v_1⟩ := v_0.inv_cons
  cases v_1.inv_nil
  cases v0.inv_int.1; cases v1.inv_str.1
  obtain ⟨_, _, rfl, u0, u_0⟩ := hu.inv_cons
  obtain ⟨_, _, rfl, u1, u_1⟩ := u_0.inv_cons
  cases u_1.inv_nil
  cases u0.inv_int.1; cases u1.inv_str.1
  exact EqV.to (eqv_agg Tryz.underlying113 (by kernel_rfl) (eqf_1 (by decide) ag22 rfl rfl (eqv_int Tryz.underlying22) (eqf_1 (by decide) ag9 rfl rfl (eqv_str Tryz.underlying9) eqf_nil))) (by obtain ⟨a0, a1⟩ := p; obtain ⟨b0, b1⟩ := q; rw [Bool.eq_iff_iff]; simp)
theorem veq127 (p q : TakerR) : ∀ (H : Hp) (vs us : List Value), Sims H (TakerR.pc p) vs → Sims H (TakerR.pc q) us → EqV Tryz.prog 10000 127 (.agg vs.toArray) (.agg us.toArray) (decide (p = q)) := by
  intro H vs us hv hu
  obtain ⟨_, _, rfl, v0, v_0⟩ := hv.inv_cons
  obtain ⟨_, _, rfl, v1, v_1⟩ := v_0.inv_cons
  cases v_1.inv_nil
  cases v0.inv_int.1; cases v1.inv_str.1
  obtain ⟨_, _, rfl, u0, u_0⟩ := hu.inv_cons
  obtain ⟨_, _, rfl, u1, u_1⟩ := u_0.inv_cons
  cases u_1.inv_nil
  cases u0.inv_int.1; cases u1.inv_str.1
  exact EqV.to (eqv_agg Tryz.underlying127 (by kernel_rfl) (eqf_1 (by decide) ag22 rfl rfl (eqv_int Tryz.underlying22) (eqf_1 (by decide) ag9 rfl rfl (eqv_str Tryz.underlying9) eqf_nil))) (by obtain ⟨a0, a1⟩ := p; obtain ⟨b0, b1⟩ := q; rw [Bool.eq_iff_iff]; simp)
def tbv41 : Tb := [(3, ⟨.int .i64, 1, 8, [.int .i64 0]⟩),
  (4, ⟨.bool, 1, 1, [.bool false]⟩),
  (5, ⟨.int .u8, 1, 1, [.int .u8 0]⟩),
  (9, ⟨.str, 1, 16, [.str []]⟩),
  (22, ⟨.int .u64, 1, 8, [.int .u64 0]⟩),
  (24, ⟨.slc 126, 1, 24, [.sl TakerR.pc []]⟩),
  (25, ⟨.slc 39, 1, 24, [.sl LentR.pc []]⟩),
  (26, ⟨.slc 53, 1, 24, [.sl DeedR.pc []]⟩),
  (28, ⟨.agg [(0, 1)], 1, 24, [.sl DeedR.pc []]⟩),
  (30, ⟨.agg [(0, 1), (1, 1), (2, 1), (3, 1), (4, 1), (5, 1), (6, 1)], 7, 96, [.int .i64 0, .sl TakerR.pc [], .sl LentR.pc [], .bool false, .bool false, .int .u64 0, .sl DeedR.pc []]⟩),
  (42, ⟨.slc 62, 1, 24, [.sl DeedR.pc []]⟩),
  (47, ⟨.slc 139, 1, 24, [.sl Pair.pc []]⟩),
  (51, ⟨.agg [(0, 1), (1, 1), (2, 1), (3, 1), (4, 1), (5, 1), (6, 1)], 7, 96, [.int .u64 0, .str [], .str [], .sl Pair.pc [], .str [], .int .u64 0, .int .u8 0]⟩),
  (53, ⟨.agg [(0, 1), (1, 1), (2, 3), (5, 4), (9, 6), (15, 1), (16, 1), (17, 1), (18, 1), (19, 1), (20, 1), (21, 7), (28, 1)], 29, 344, [.int .u8 0, .int .u64 0, .str [], .int .u8 0, .str [], .str [], .int .u64 0, .int .u64 0, .str [], .str [], .str [], .bool false, .str [], .sl Pair.pc [], .bool false, .str [], .int .u64 0, .int .u8 0, .int .u8 0, .int .u8 0, .int .u64 0, .int .u64 0, .str [], .str [], .sl Pair.pc [], .str [], .int .u64 0, .int .u8 0, .str []]⟩),
  (62, ⟨.agg [(0, 1), (1, 1), (2, 3), (5, 4), (9, 6), (15, 1), (16, 1), (17, 1), (18, 1), (19, 1), (20, 1), (21, 7), (28, 1)], 29, 344, [.int .u8 0, .int .u64 0, .str [], .int .u8 0, .str [], .str [], .int .u64 0, .int .u64 0, .str [], .str [], .str [], .bool false, .str [], .sl Pair.pc [], .bool false, .str [], .int .u64 0, .int .u8 0, .int .u8 0, .int .u8 0, .int .u64 0, .int .u64 0, .str [], .str [], .sl Pair.pc [], .str [], .int .u64 0, .int .u8 0, .str []]⟩),
  (84, ⟨.slc 127, 1, 24, [.sl TakerR.pc []]⟩),
  (85, ⟨.slc 113, 1, 24, [.sl LentR.pc []]⟩),
  (87, ⟨.agg [(0, 1), (1, 1), (2, 1), (3, 1), (4, 1), (5, 1), (6, 1)], 7, 96, [.int .i64 0, .sl TakerR.pc [], .sl LentR.pc [], .bool false, .bool false, .int .u64 0, .sl DeedR.pc []]⟩),
  (113, ⟨.agg [(0, 1), (1, 1)], 2, 24, [.int .u64 0, .str []]⟩),
  (126, ⟨.agg [(0, 1), (1, 1)], 2, 24, [.int .u64 0, .str []]⟩),
  (127, ⟨.agg [(0, 1), (1, 1)], 2, 24, [.int .u64 0, .str []]⟩)]
theorem tbv41ok : tbB Tryz.prog tbv41 = true := by kernel_rfl
theorem draft_Settles1_ok (d : DeedR) (x1 : Bs) (x2 : Int) : Fn Tryz.prog gb 49 [.agg (DeedR.pc d), .el [.str x1] 0, .el [.int .u64 x2] 0] (.bool (draft_Settles1 d x1 x2)) := by
  refine fn_cw tbv41ok Tryz.func49 rfl Tryz.ntmps49 rfl cb49 rfl rfl fun w N H hG => ?_
  have d_bind_want_l : d.bind.want.length ≤ 140737488355328 := w.1.2.2.2.2.2.2.2.2.2.2.2.2.2.1.1
  have d_mail_head_l : d.mail.head.length ≤ 140737488355328 := w.1.2.2.2.2.2.2.2.2.2.2.2.2.2.2.2.2.2.2.2.2.2.2.2.2.1.1
  have e0 := draft_Settles1.eq_1 d x1 x2
  refine go tbv41ok 2 rfl rfl trivial ?_
  refine ef (boxA 0 rfl rfl rfl fun b1 => ?_)
  refine go tbv41ok 24 rfl rfl ⟨(fun hc => hc), (fun hc => hc), (fun hc => hc), rfl, rfl, (fun hc => hc), (fun hc => hc), (fun hc => hc), rfl, rfl, trivial⟩ ?_
  exact rt1 rfl rfl (ple_of (fun r : Bool => .bool r) e0 (ple rfl))
theorem draft_Draft_Settles_ok (x : DraftR) (name : Bs) (id : Int) : Fn Tryz.prog gb 25 [.agg (DraftR.pc x), .str name, .int .u64 id] (.bool (draft_Draft_Settles x name id)) := by
  refine fn_cw tbv41ok Tryz.func25 rfl Tryz.ntmps25 rfl cb25 rfl rfl fun w N H hG => ?_
  have x_l_l : x.l.length ≤ 140737488355328 := w.1.1.1
  have name_l : name.length ≤ 9223372036854775807 := w.2.1
  have id_r : 0 ≤ id ∧ id ≤ 18446744073709551615 := w.2.2.1
  have e0 := draft_Draft_Settles.eq_1 x name id
  refine go tbv41ok 2 rfl rfl trivial ?_
  refine ef (boxA 0 rfl rfl rfl fun b1 => ?_)
  refine ef (box1 1 rfl rfl rfl fun b2 => ?_)
  refine ef (box1 2 rfl rfl rfl fun b3 => ?_)
  refine go tbv41ok 7 rfl rfl trivial ?_
  refine freeze (i := 1) (t := 4) rfl rfl rfl rfl ?_
  refine freeze (i := 2) (t := 5) rfl rfl rfl rfl ?_
  refine go tbv41ok 1 rfl rfl trivial ?_
  refine call (cF_Deed _ _ _ _ (fun z_4 : DeedR => (draft_Settles1 z_4 name id)) (fun z_4 => draft_Settles1_ok z_4 name id)) rfl rfl fun w5 => ?_
  refine go tbv41ok 4 rfl rfl trivial ?_
  exact rt1 rfl rfl (ple_of (fun r : Bool => .bool r) e0 (ple rfl))
theorem draft_clone_ok (d : DeedR) (hl : d.mail.head.length ≤ 1000000) : Fn Tryz.prog gb 43 [.agg (DeedR.pc d)] (.agg (DeedR.pc (draft_clone d))) := by
  refine fn_cw tbv41ok Tryz.func43 rfl Tryz.ntmps43 rfl cb43 rfl rfl fun w N H hG => ?_
  have d_bind_want_l : d.bind.want.length ≤ 140737488355328 := w.1.2.2.2.2.2.2.2.2.2.2.2.2.2.1.1
  have d_mail_head_l : d.mail.head.length ≤ 140737488355328 := w.1.2.2.2.2.2.2.2.2.2.2.2.2.2.2.2.2.2.2.2.2.2.2.2.2.1.1
  have e0 := draft_clone.eq_1 d
  refine go tbv41ok 2 rfl rfl trivial ?_
  refine ef (boxA 0 rfl rfl rfl fun b1 => ?_)
  refine ef (alloc tbv41ok 1 rfl rfl rfl rfl fun b2 => ?_)
  refine go tbv41ok 7 rfl rfl trivial ?_
  refine call (clone_Pair _ (by first | omega | (simp; done) | (simp; omega))) rfl rfl fun w3 => ?_
  refine go tbv41ok 2 rfl rfl trivial ?_
  refine ef (store1 tbv41ok rfl rfl rfl rfl rfl rfl rfl rfl rfl ?_)
  refine go tbv41ok 5 rfl rfl trivial ?_
  refine ef (storeA tbv41ok rfl rfl rfl rfl rfl rfl rfl rfl rfl rfl ?_)
  refine go tbv41ok 3 rfl rfl trivial ?_
  exact rt1 rfl rfl (ple_of (fun r : DeedR => .agg (DeedR.pc r)) e0 (ple rfl))
theorem draft_Draft_check_ok (x : DraftR) (d : DeedR) : Fn Tryz.prog gb 41 [.agg (DraftR.pc x), .agg (DeedR.pc d)] (.int .i64 (draft_Draft_check x d)) := by
  refine fn_cw tbv41ok Tryz.func41 rfl Tryz.ntmps41 rfl cb41 rfl rfl fun w N H hG => ?_
  have x_l_l : x.l.length ≤ 140737488355328 := w.1.1.1
  have d_bind_want_l : d.bind.want.length ≤ 140737488355328 := w.2.1.2.2.2.2.2.2.2.2.2.2.2.2.2.1.1
  have d_mail_head_l : d.mail.head.length ≤ 140737488355328 := w.2.1.2.2.2.2.2.2.2.2.2.2.2.2.2.2.2.2.2.2.2.2.2.2.2.2.1.1
  have e0 := draft_Draft_check.eq_1 x d
  refine go tbv41ok 2 rfl rfl trivial ?_
  refine ef (boxA 0 rfl rfl rfl fun b1 => ?_)
  refine ef (boxA 1 rfl rfl rfl fun b2 => ?_)
  refine go tbv41ok 4 rfl rfl trivial ?_
  obtain ⟨o, e_o, q_o⟩ := lp0_split e0
  refine joinc (ι := Unit) [2, 3] [0, 1] (fun _ => []) (fun _ => []) (fun _ => o = .fin ()) ?_ ?_
  · refine go tbv41ok 14 rfl rfl trivial ?_
    refine cnd rfl (fun h3 => ?_) (fun h3 => ?_)
    · have p4 := dt h3
      have e5 := e_o.trans (condT h3)
      refine go tbv41ok 2 rfl rfl trivial ?_
      refine cndT rfl h3 ?_
      refine go tbv41ok 2 rfl rfl trivial ?_
      refine next () rfl rfl trivial trivial (by decide) ?_
      exact e5
    · have p6 := df h3
      have e7 := e_o.trans (condF h3)
      refine go tbv41ok 5 rfl rfl trivial ?_
      refine cnd rfl (fun h8 => ?_) (fun h8 => ?_)
      · have p9 := dt h8
        have e10 := e7.trans (condT h8)
        refine go tbv41ok 2 rfl rfl trivial ?_
        refine next () rfl rfl trivial trivial (by decide) ?_
        exact e10
      · have p11 := df h8
        have e12 := e7.trans (condF h8)
        refine go tbv41ok 9 rfl rfl trivial ?_
        have e13 := lp0_ret q_o e12
        exact rt1 rfl rfl (ple_of (fun r : Int => .int .i64 r) e13 (ple rfl))
  · rintro _ hp14
    have e15 := lp0_fin q_o hp14
    refine go tbv41ok 5 rfl rfl trivial ?_
    refine call (deed_Check _) rfl rfl fun w16 => ?_
    have := deedE_r d
    refine go tbv41ok 11 rfl rfl trivial ?_
    refine cnd rfl (fun h17 => ?_) (fun h17 => ?_)
    · have h18 := not_t h17
      have p19 := df h18
      have e20 := e15.trans (condT h17)
      refine go tbv41ok 9 rfl rfl trivial ?_
      exact rt1 rfl rfl (ple_of (fun r : Int => .int .i64 r) e20 (ple rfl))
    · have h21 := not_f h17
      have p22 := dt h21
      have e23 := e15.trans (condF h17)
      refine go tbv41ok 11 rfl rfl ⟨(fun hc => hc), (fun hc => hc), trivial⟩ ?_
      refine callg rfl (fun hc => (draft_Draft_Settles_ok _ _ _)) rfl ⟨(fun hc => hc), (fun hc => hc), (fun hc => hc), trivial⟩ rfl rfl fun _ => ?_
      refine go tbv41ok 4 rfl rfl ⟨rfl, rfl, trivial⟩ ?_
      refine cnd rfl (fun h24 => ?_) (fun h24 => ?_)
      · have h25 := bl h24
        have p26 := dt h25
        have h27 := br h24
        have e28 := e23.trans (condT h24)
        refine go tbv41ok 8 rfl rfl trivial ?_
        exact rt1 rfl rfl (ple_of (fun r : Int => .int .i64 r) e28 (ple rfl))
      · have e29 := e23.trans (condF h24)
        refine go tbv41ok 9 rfl rfl trivial ?_
        refine cnd rfl (fun h30 => ?_) (fun h30 => ?_)
        · have p31 := dt h30
          have e32 := e29.trans (condT h30)
          refine go tbv41ok 8 rfl rfl trivial ?_
          exact rt1 rfl rfl (ple_of (fun r : Int => .int .i64 r) e32 (ple rfl))
        · have p33 := df h30
          have e34 := e29.trans (condF h30)
          refine go tbv41ok 9 rfl rfl trivial ?_
          exact rt1 rfl rfl (ple_of (fun r : Int => .int .i64 r) e34 (ple rfl))
theorem r26_Settles_ok (x : List DeedR) (name : Bs) (id : Int) : Fn Tryz.prog gb 26 [.sl DeedR.pc x, .str name, .int .u64 id] (.bool (r26_Settles x name id)) := by
  refine fn_cw tbv41ok Tryz.func26 rfl Tryz.ntmps26 rfl cb26 rfl rfl fun w N H hG => ?_
  have x_l : x.length ≤ 140737488355328 := w.1.1
  have name_l : name.length ≤ 9223372036854775807 := w.2.1
  have id_r : 0 ≤ id ∧ id ≤ 18446744073709551615 := w.2.2.1
  have e0 := r26_Settles.eq_1 x name id
  refine go tbv41ok 14 rfl rfl trivial ?_
  refine loop (ι := Nat) [1, 2, 9, 10] [] (fun k => [(11, .int .i64 (k : Int))]) (fun k => []) (fun k => k ≤ x.length ∧ r26_Settles x name id = r26_Settles_l0 name id (x.drop k) ) (fun k => x.length - k) 0 ⟨rfl, trivial⟩ trivial ?_ ?_
  · exact ⟨Nat.zero_le _, e0⟩
  · rintro k ⟨hp1_1, hp1_2⟩
    refine go tbv41ok 6 rfl rfl trivial ?_
    refine cnd rfl (fun h2 => ?_) (fun h2 => ?_)
    · have p3 := dt h2
      have e4 := lstep (f := fun zz => r26_Settles_l0 name id zz ) hp1_2 (dropG (by omega)) (r26_Settles_l0.eq_2 _ _ _ _)
      have hc5 := getG (xs := x) (k := k) (by omega)
      refine go tbv41ok 6 rfl rfl trivial ?_
      refine q1 (qidx tbv41ok k rfl rfl rfl hc5 rfl rfl rfl rfl) rfl fun w6 => ?_
      refine go tbv41ok 1 rfl rfl trivial ?_
      refine ef (alloc tbv41ok 0 rfl rfl rfl rfl fun b7 => ?_)
      refine ef (storeA tbv41ok rfl rfl rfl rfl rfl rfl rfl rfl rfl rfl ?_)
      refine go tbv41ok 21 rfl rfl ⟨(fun hc => hc), (fun hc => hc), (fun hc => hc), rfl, rfl, (fun hc => hc), (fun hc => hc), (fun hc => hc), rfl, rfl, trivial⟩ ?_
      refine cnd rfl (fun h8 => ?_) (fun h8 => ?_)
      · have h9 := bl h8
        have h10 := bl h9
        have p11 := dt h10
        have h12 := br h9
        have p13 := dt h12
        have h14 := br h8
        have p15 := dt h14
        have e16 := e4.trans (condT h8)
        refine go tbv41ok 11 rfl rfl trivial ?_
        exact rt1 rfl rfl (ple_of (fun r : Bool => .bool r) e16 (ple rfl))
      · have e17 := e4.trans (condF h8)
        refine go tbv41ok 7 rfl rfl ⟨(by omega), trivial⟩ ?_
        refine next (k + 1) rfl rfl ⟨rfl, trivial⟩ trivial ?_ ?_
        · (try simp only []); omega
        · exact ⟨by (try simp only []); omega, e17⟩
    · have p18 := df h2
      have e19 := lstep (f := fun zz => r26_Settles_l0 name id zz ) hp1_2 (dropN (by omega)) (r26_Settles_l0.eq_1 _ _)
      refine go tbv41ok 11 rfl rfl trivial ?_
      exact rt1 rfl rfl (ple_of (fun r : Bool => .bool r) e19 (ple rfl))
theorem chans_New_ok : Fn Tryz.prog gb 10 [] (.agg (ChanR.pc (chans_New))) := by
  refine fn_cw tbv41ok Tryz.func10 rfl Tryz.ntmps10 rfl cb10 rfl rfl fun w N H hG => ?_
  have e0 := chans_New.eq_1
  refine go tbv41ok 2 rfl rfl trivial ?_
  refine ef (alloc tbv41ok 0 rfl rfl rfl rfl fun b1 => ?_)
  refine go tbv41ok 5 rfl rfl trivial ?_
  refine ef (storeA tbv41ok rfl rfl rfl rfl rfl rfl rfl rfl rfl rfl ?_)
  refine go tbv41ok 3 rfl rfl trivial ?_
  exact rt1 rfl rfl (ple_of (fun r : ChanR => .agg (ChanR.pc r)) e0 (ple rfl))
theorem chans_Chan_Credit_ok (c : ChanR) (n : Int) : Fn Tryz.prog gb 11 [.agg (ChanR.pc c), .int .u64 n] (.tup [.agg (ChanR.pc ((chans_Chan_Credit c n).1)), .int .i64 ((chans_Chan_Credit c n).2)]) := by
  refine fn_cw tbv41ok Tryz.func11 rfl Tryz.ntmps11 rfl cb11 rfl rfl fun w N H hG => ?_
  have c_takers_l : c.takers.length ≤ 140737488355328 := w.1.2.1.1
  have c_lent_l : c.lent.length ≤ 140737488355328 := w.1.2.2.1.1
  have c_held_l_l : c.held.l.length ≤ 140737488355328 := w.1.2.2.2.2.2.2.1.1
  have n_r : 0 ≤ n ∧ n ≤ 18446744073709551615 := w.2.1
  have e0 := chans_Chan_Credit.eq_1 c n
  refine go tbv41ok 2 rfl rfl trivial ?_
  refine ef (boxA 0 rfl rfl rfl fun b1 => ?_)
  refine ef (alloc tbv41ok 1 rfl rfl rfl rfl fun b2 => ?_)
  refine go tbv41ok 14 rfl rfl ⟨(fun hc => hc), rfl, rfl, trivial⟩ ?_
  refine cnd rfl (fun h3 => ?_) (fun h3 => ?_)
  · have e4 := e0.trans (condT h3)
    refine go tbv41ok 3 rfl rfl trivial ?_
    refine ef (storeA tbv41ok rfl rfl rfl rfl rfl rfl rfl rfl rfl rfl ?_)
    refine go tbv41ok 5 rfl rfl trivial ?_
    exact rt2 rfl rfl (ple_of (fun r : ChanR × Int => .tup [.agg (ChanR.pc r.1), .int .i64 r.2]) e4 (ple rfl))
  · have h5 := orl h3
    have p6 := df h5
    have h7 := orr h3
    have p8 := df h7
    have e9 := e0.trans (condF h3)
    refine go tbv41ok 7 rfl rfl trivial ?_
    refine ef (store1 tbv41ok rfl rfl rfl rfl rfl rfl rfl rfl rfl ?_)
    refine go tbv41ok 5 rfl rfl trivial ?_
    refine ef (storeA tbv41ok rfl rfl rfl rfl rfl rfl rfl rfl rfl rfl ?_)
    refine go tbv41ok 4 rfl rfl trivial ?_
    exact rt2 rfl rfl (ple_of (fun r : ChanR × Int => .tup [.agg (ChanR.pc r.1), .int .i64 r.2]) e9 (ple rfl))
theorem chans_Chan_Room_ok (c : ChanR) (hc : 0 ≤ c.credit ∧ c.credit ≤ 1000) : Fn Tryz.prog gb 12 [.agg (ChanR.pc c)] (.int .i64 (chans_Chan_Room c)) := by
  refine fn_cw tbv41ok Tryz.func12 rfl Tryz.ntmps12 rfl cb12 rfl rfl fun w N H hG => ?_
  have c_takers_l : c.takers.length ≤ 140737488355328 := w.1.2.1.1
  have c_lent_l : c.lent.length ≤ 140737488355328 := w.1.2.2.1.1
  have c_held_l_l : c.held.l.length ≤ 140737488355328 := w.1.2.2.2.2.2.2.1.1
  have e0 := chans_Chan_Room.eq_1 c
  refine go tbv41ok 2 rfl rfl trivial ?_
  refine ef (boxA 0 rfl rfl rfl fun b1 => ?_)
  refine go tbv41ok 16 rfl rfl ⟨(by omega), trivial⟩ ?_
  exact rt1 rfl rfl (ple_of (fun r : Int => .int .i64 r) e0 (ple rfl))
theorem chans_of1_ok (t : TakerR) (x1 : Int) : Fn Tryz.prog gb 113 [.agg (TakerR.pc t), .el [.int .u64 x1] 0] (.bool (chans_of1 t x1)) := by
  refine fn_cw tbv41ok Tryz.func113 rfl Tryz.ntmps113 rfl cb113 rfl rfl fun w N H hG => ?_
  have e0 := chans_of1.eq_1 t x1
  refine go tbv41ok 2 rfl rfl trivial ?_
  refine ef (boxA 0 rfl rfl rfl fun b1 => ?_)
  refine go tbv41ok 13 rfl rfl trivial ?_
  exact rt1 rfl rfl (ple_of (fun r : Bool => .bool r) e0 (ple rfl))
theorem chans_Chan_of_ok (c : ChanR) (tag : Int) : Fn Tryz.prog gb 95 [.agg (ChanR.pc c), .int .u64 tag] (.int .i64 (chans_Chan_of c tag)) := by
  refine fn_cw tbv41ok Tryz.func95 rfl Tryz.ntmps95 rfl cb95 rfl rfl fun w N H hG => ?_
  have c_takers_l : c.takers.length ≤ 140737488355328 := w.1.2.1.1
  have c_lent_l : c.lent.length ≤ 140737488355328 := w.1.2.2.1.1
  have c_held_l_l : c.held.l.length ≤ 140737488355328 := w.1.2.2.2.2.2.2.1.1
  have tag_r : 0 ≤ tag ∧ tag ≤ 18446744073709551615 := w.2.1
  have e0 := chans_Chan_of.eq_1 c tag
  refine go tbv41ok 2 rfl rfl trivial ?_
  refine ef (boxA 0 rfl rfl rfl fun b1 => ?_)
  refine ef (box1 1 rfl rfl rfl fun b2 => ?_)
  refine go tbv41ok 7 rfl rfl trivial ?_
  refine freeze (i := 1) (t := 3) rfl rfl rfl rfl ?_
  refine go tbv41ok 1 rfl rfl trivial ?_
  refine call (idxF_Taker _ _ _ _ (fun z_3 : TakerR => (chans_of1 z_3 tag)) (fun z_3 => chans_of1_ok z_3 tag)) rfl rfl fun w4 => ?_
  have hix4 := idxP_b (fun z_3 : TakerR => (chans_of1 z_3 tag)) c.takers
  refine go tbv41ok 4 rfl rfl trivial ?_
  exact rt1 rfl rfl (ple_of (fun r : Int => .int .i64 r) e0 (ple rfl))
theorem chans_Chan_Sure_ok (c : ChanR) : Fn Tryz.prog gb 62 [.agg (ChanR.pc c)] (.tup [.agg (ChanR.pc ((chans_Chan_Sure c).1)), .int .i64 ((chans_Chan_Sure c).2)]) := by
  refine fn_cw tbv41ok Tryz.func62 rfl Tryz.ntmps62 rfl cb62 rfl rfl fun w N H hG => ?_
  have c_takers_l : c.takers.length ≤ 140737488355328 := w.1.2.1.1
  have c_lent_l : c.lent.length ≤ 140737488355328 := w.1.2.2.1.1
  have c_held_l_l : c.held.l.length ≤ 140737488355328 := w.1.2.2.2.2.2.2.1.1
  have e0 := chans_Chan_Sure.eq_1 c
  refine go tbv41ok 2 rfl rfl trivial ?_
  refine ef (boxA 0 rfl rfl rfl fun b1 => ?_)
  refine ef (alloc tbv41ok 1 rfl rfl rfl rfl fun b2 => ?_)
  refine go tbv41ok 10 rfl rfl trivial ?_
  refine cnd rfl (fun h3 => ?_) (fun h3 => ?_)
  · have e4 := e0.trans (condT h3)
    refine go tbv41ok 3 rfl rfl trivial ?_
    refine ef (storeA tbv41ok rfl rfl rfl rfl rfl rfl rfl rfl rfl rfl ?_)
    refine go tbv41ok 5 rfl rfl trivial ?_
    exact rt2 rfl rfl (ple_of (fun r : ChanR × Int => .tup [.agg (ChanR.pc r.1), .int .i64 r.2]) e4 (ple rfl))
  · have e5 := e0.trans (condF h3)
    refine go tbv41ok 5 rfl rfl trivial ?_
    refine ef (store1 tbv41ok rfl rfl rfl rfl rfl rfl rfl rfl rfl ?_)
    refine go tbv41ok 5 rfl rfl trivial ?_
    refine ef (storeA tbv41ok rfl rfl rfl rfl rfl rfl rfl rfl rfl rfl ?_)
    refine go tbv41ok 4 rfl rfl trivial ?_
    exact rt2 rfl rfl (ple_of (fun r : ChanR × Int => .tup [.agg (ChanR.pc r.1), .int .i64 r.2]) e5 (ple rfl))
theorem chans_Chan_Put_ok (c : ChanR) : Fn Tryz.prog gb 64 [.agg (ChanR.pc c)] (.tup [.agg (ChanR.pc ((chans_Chan_Put c).1)), .int .u64 ((chans_Chan_Put c).2)]) := by
  refine fn_cw tbv41ok Tryz.func64 rfl Tryz.ntmps64 rfl cb64 rfl rfl fun w N H hG => ?_
  have c_takers_l : c.takers.length ≤ 140737488355328 := w.1.2.1.1
  have c_lent_l : c.lent.length ≤ 140737488355328 := w.1.2.2.1.1
  have c_held_l_l : c.held.l.length ≤ 140737488355328 := w.1.2.2.2.2.2.2.1.1
  have e0 := chans_Chan_Put.eq_1 c
  refine go tbv41ok 2 rfl rfl trivial ?_
  refine ef (boxA 0 rfl rfl rfl fun b1 => ?_)
  refine ef (alloc tbv41ok 1 rfl rfl rfl rfl fun b2 => ?_)
  refine go tbv41ok 11 rfl rfl trivial ?_
  refine cnd rfl (fun h3 => ?_) (fun h3 => ?_)
  · have h4 := not_t h3
    have e5 := e0.trans (condT h3)
    refine go tbv41ok 3 rfl rfl trivial ?_
    refine ef (storeA tbv41ok rfl rfl rfl rfl rfl rfl rfl rfl rfl rfl ?_)
    refine go tbv41ok 5 rfl rfl trivial ?_
    exact rt2 rfl rfl (ple_of (fun r : ChanR × Int => .tup [.agg (ChanR.pc r.1), .int .u64 r.2]) e5 (ple rfl))
  · have h6 := not_f h3
    have e7 := e0.trans (condF h3)
    have := wr_u64 (c.puts + 1)
    refine go tbv41ok 8 rfl rfl trivial ?_
    refine ef (store1 tbv41ok rfl rfl rfl rfl rfl rfl rfl rfl rfl ?_)
    refine go tbv41ok 3 rfl rfl trivial ?_
    refine any [1, 2, 3, 4, 5, 6, 7] 5 mixd rfl ?_
    refine gov tbv41ok [0, 1, 2] 2 rfl (by kernel_rfl) rfl rfl trivial ?_
    refine ve 3 rfl (by kernel_rfl) rfl (storeA tbv41ok rfl rfl rfl rfl rfl rfl rfl rfl rfl rfl ?_)
    refine gov tbv41ok [4] 0 rfl (by kernel_rfl) rfl rfl trivial ?_
    refine vdone (by kernel_rfl) ?_
    refine go tbv41ok 2 rfl rfl trivial ?_
    exact rt2 rfl rfl (ple_of (fun r : ChanR × Int => .tup [.agg (ChanR.pc r.1), .int .u64 r.2]) e7 (ple rfl))
theorem chans_Chan_Number_ok (c : ChanR) : Fn Tryz.prog gb 79 [.agg (ChanR.pc c)] (.int .u64 (chans_Chan_Number c)) := by
  refine fn_cw tbv41ok Tryz.func79 rfl Tryz.ntmps79 rfl cb79 rfl rfl fun w N H hG => ?_
  have c_takers_l : c.takers.length ≤ 140737488355328 := w.1.2.1.1
  have c_lent_l : c.lent.length ≤ 140737488355328 := w.1.2.2.1.1
  have c_held_l_l : c.held.l.length ≤ 140737488355328 := w.1.2.2.2.2.2.2.1.1
  have e0 := chans_Chan_Number.eq_1 c
  refine go tbv41ok 2 rfl rfl trivial ?_
  refine ef (boxA 0 rfl rfl rfl fun b1 => ?_)
  refine go tbv41ok 11 rfl rfl trivial ?_
  exact rt1 rfl rfl (ple_of (fun r : Int => .int .u64 r) e0 (ple rfl))
theorem chans_Chan_Draft_ok (c : ChanR) : Fn Tryz.prog gb 66 [.agg (ChanR.pc c)] (.tup [.agg (ChanR.pc ((chans_Chan_Draft c).1)), .int .i64 ((chans_Chan_Draft c).2)]) := by
  refine fn_cw tbv41ok Tryz.func66 rfl Tryz.ntmps66 rfl cb66 rfl rfl fun w N H hG => ?_
  have c_takers_l : c.takers.length ≤ 140737488355328 := w.1.2.1.1
  have c_lent_l : c.lent.length ≤ 140737488355328 := w.1.2.2.1.1
  have c_held_l_l : c.held.l.length ≤ 140737488355328 := w.1.2.2.2.2.2.2.1.1
  have e0 := chans_Chan_Draft.eq_1 c
  refine go tbv41ok 2 rfl rfl trivial ?_
  refine ef (boxA 0 rfl rfl rfl fun b1 => ?_)
  refine ef (alloc tbv41ok 1 rfl rfl rfl rfl fun b2 => ?_)
  refine go tbv41ok 14 rfl rfl ⟨(fun hc => hc), rfl, rfl, trivial⟩ ?_
  refine cnd rfl (fun h3 => ?_) (fun h3 => ?_)
  · have e4 := e0.trans (condT h3)
    refine go tbv41ok 3 rfl rfl trivial ?_
    refine ef (storeA tbv41ok rfl rfl rfl rfl rfl rfl rfl rfl rfl rfl ?_)
    refine go tbv41ok 5 rfl rfl trivial ?_
    exact rt2 rfl rfl (ple_of (fun r : ChanR × Int => .tup [.agg (ChanR.pc r.1), .int .i64 r.2]) e4 (ple rfl))
  · have h5 := orl h3
    have h6 := orr h3
    have e7 := e0.trans (condF h3)
    refine go tbv41ok 5 rfl rfl trivial ?_
    refine ef (store1 tbv41ok rfl rfl rfl rfl rfl rfl rfl rfl rfl ?_)
    refine go tbv41ok 5 rfl rfl trivial ?_
    refine ef (storeA tbv41ok rfl rfl rfl rfl rfl rfl rfl rfl rfl rfl ?_)
    refine go tbv41ok 4 rfl rfl trivial ?_
    exact rt2 rfl rfl (ple_of (fun r : ChanR × Int => .tup [.agg (ChanR.pc r.1), .int .i64 r.2]) e7 (ple rfl))
theorem chans_Chan_Drafts_ok (c : ChanR) : Fn Tryz.prog gb 78 [.agg (ChanR.pc c)] (.bool (chans_Chan_Drafts c)) := by
  refine fn_cw tbv41ok Tryz.func78 rfl Tryz.ntmps78 rfl cb78 rfl rfl fun w N H hG => ?_
  have c_takers_l : c.takers.length ≤ 140737488355328 := w.1.2.1.1
  have c_lent_l : c.lent.length ≤ 140737488355328 := w.1.2.2.1.1
  have c_held_l_l : c.held.l.length ≤ 140737488355328 := w.1.2.2.2.2.2.2.1.1
  have e0 := chans_Chan_Drafts.eq_1 c
  refine go tbv41ok 2 rfl rfl trivial ?_
  refine ef (boxA 0 rfl rfl rfl fun b1 => ?_)
  refine go tbv41ok 11 rfl rfl trivial ?_
  exact rt1 rfl rfl (ple_of (fun r : Bool => .bool r) e0 (ple rfl))
theorem chans_Chan_Undo_ok (c : ChanR) : Fn Tryz.prog gb 70 [.agg (ChanR.pc c)] (.tup [.agg (ChanR.pc ((chans_Chan_Undo c).1)), .int .i64 ((chans_Chan_Undo c).2)]) := by
  refine fn_cw tbv41ok Tryz.func70 rfl Tryz.ntmps70 rfl cb70 rfl rfl fun w N H hG => ?_
  have c_takers_l : c.takers.length ≤ 140737488355328 := w.1.2.1.1
  have c_lent_l : c.lent.length ≤ 140737488355328 := w.1.2.2.1.1
  have c_held_l_l : c.held.l.length ≤ 140737488355328 := w.1.2.2.2.2.2.2.1.1
  have e0 := chans_Chan_Undo.eq_1 c
  refine go tbv41ok 2 rfl rfl trivial ?_
  refine ef (boxA 0 rfl rfl rfl fun b1 => ?_)
  refine ef (alloc tbv41ok 1 rfl rfl rfl rfl fun b2 => ?_)
  refine go tbv41ok 11 rfl rfl trivial ?_
  refine cnd rfl (fun h3 => ?_) (fun h3 => ?_)
  · have h4 := not_t h3
    have e5 := e0.trans (condT h3)
    refine go tbv41ok 3 rfl rfl trivial ?_
    refine ef (storeA tbv41ok rfl rfl rfl rfl rfl rfl rfl rfl rfl rfl ?_)
    refine go tbv41ok 5 rfl rfl trivial ?_
    exact rt2 rfl rfl (ple_of (fun r : ChanR × Int => .tup [.agg (ChanR.pc r.1), .int .i64 r.2]) e5 (ple rfl))
  · have h6 := not_f h3
    have e7 := e0.trans (condF h3)
    refine go tbv41ok 6 rfl rfl trivial ?_
    refine ef (storeA tbv41ok rfl rfl rfl rfl rfl rfl rfl rfl rfl rfl ?_)
    refine go tbv41ok 5 rfl rfl trivial ?_
    refine ef (storeA tbv41ok rfl rfl rfl rfl rfl rfl rfl rfl rfl rfl ?_)
    refine go tbv41ok 4 rfl rfl trivial ?_
    exact rt2 rfl rfl (ple_of (fun r : ChanR × Int => .tup [.agg (ChanR.pc r.1), .int .i64 r.2]) e7 (ple rfl))
theorem r27_New_ok : Fn Tryz.prog gb 34 [] (.agg (ChanR.pc (r27_New))) := by
  refine fn_cw tbv41ok Tryz.func34 rfl Tryz.ntmps34 rfl cb34 rfl rfl fun w N H hG => ?_
  have e0 := r27_New.eq_1
  refine go tbv41ok 2 rfl rfl trivial ?_
  refine ef (alloc tbv41ok 0 rfl rfl rfl rfl fun b1 => ?_)
  refine go tbv41ok 5 rfl rfl trivial ?_
  refine ef (storeA tbv41ok rfl rfl rfl rfl rfl rfl rfl rfl rfl rfl ?_)
  refine go tbv41ok 3 rfl rfl trivial ?_
  exact rt1 rfl rfl (ple_of (fun r : ChanR => .agg (ChanR.pc r)) e0 (ple rfl))
theorem r27_Credit_ok (c : ChanR) (n : Int) : Fn Tryz.prog gb 55 [.agg (ChanR.pc c), .int .u64 n] (.tup [.agg (ChanR.pc ((r27_Credit c n).1)), .int .i64 ((r27_Credit c n).2)]) := by
  refine fn_cw tbv41ok Tryz.func55 rfl Tryz.ntmps55 rfl cb55 rfl rfl fun w N H hG => ?_
  have c_takers_l : c.takers.length ≤ 140737488355328 := w.1.2.1.1
  have c_lent_l : c.lent.length ≤ 140737488355328 := w.1.2.2.1.1
  have c_held_l_l : c.held.l.length ≤ 140737488355328 := w.1.2.2.2.2.2.2.1.1
  have n_r : 0 ≤ n ∧ n ≤ 18446744073709551615 := w.2.1
  have e0 := r27_Credit.eq_1 c n
  refine go tbv41ok 2 rfl rfl trivial ?_
  refine ef (boxA 0 rfl rfl rfl fun b1 => ?_)
  refine ef (alloc tbv41ok 1 rfl rfl rfl rfl fun b2 => ?_)
  refine go tbv41ok 14 rfl rfl ⟨(fun hc => hc), rfl, rfl, trivial⟩ ?_
  refine cnd rfl (fun h3 => ?_) (fun h3 => ?_)
  · have e4 := e0.trans (condT h3)
    refine go tbv41ok 3 rfl rfl trivial ?_
    refine ef (storeA tbv41ok rfl rfl rfl rfl rfl rfl rfl rfl rfl rfl ?_)
    refine go tbv41ok 5 rfl rfl trivial ?_
    exact rt2 rfl rfl (ple_of (fun r : ChanR × Int => .tup [.agg (ChanR.pc r.1), .int .i64 r.2]) e4 (ple rfl))
  · have h5 := orl h3
    have p6 := df h5
    have h7 := orr h3
    have p8 := df h7
    have e9 := e0.trans (condF h3)
    refine go tbv41ok 7 rfl rfl trivial ?_
    refine ef (store1 tbv41ok rfl rfl rfl rfl rfl rfl rfl rfl rfl ?_)
    refine go tbv41ok 5 rfl rfl trivial ?_
    refine ef (storeA tbv41ok rfl rfl rfl rfl rfl rfl rfl rfl rfl rfl ?_)
    refine go tbv41ok 4 rfl rfl trivial ?_
    exact rt2 rfl rfl (ple_of (fun r : ChanR × Int => .tup [.agg (ChanR.pc r.1), .int .i64 r.2]) e9 (ple rfl))
theorem r27_Room_ok (c : ChanR) (hc : 0 ≤ c.credit ∧ c.credit ≤ 1000) : Fn Tryz.prog gb 77 [.agg (ChanR.pc c)] (.int .i64 (r27_Room c)) := by
  refine fn_cw tbv41ok Tryz.func77 rfl Tryz.ntmps77 rfl cb77 rfl rfl fun w N H hG => ?_
  have c_takers_l : c.takers.length ≤ 140737488355328 := w.1.2.1.1
  have c_lent_l : c.lent.length ≤ 140737488355328 := w.1.2.2.1.1
  have c_held_l_l : c.held.l.length ≤ 140737488355328 := w.1.2.2.2.2.2.2.1.1
  have e0 := r27_Room.eq_1 c
  refine go tbv41ok 2 rfl rfl trivial ?_
  refine ef (boxA 0 rfl rfl rfl fun b1 => ?_)
  refine go tbv41ok 14 rfl rfl trivial ?_
  refine cnd rfl (fun h2 => ?_) (fun h2 => ?_)
  · have p3 := dt h2
    have e4 := e0.trans (condT h2)
    refine go tbv41ok 7 rfl rfl trivial ?_
    exact rt1 rfl rfl (ple_of (fun r : Int => .int .i64 r) e4 (ple rfl))
  · have p5 := df h2
    have e6 := e0.trans (condF h2)
    refine go tbv41ok 14 rfl rfl ⟨(by omega), trivial⟩ ?_
    exact rt1 rfl rfl (ple_of (fun r : Int => .int .i64 r) e6 (ple rfl))
theorem r27_Sure_ok (c : ChanR) : Fn Tryz.prog gb 63 [.agg (ChanR.pc c)] (.tup [.agg (ChanR.pc ((r27_Sure c).1)), .int .i64 ((r27_Sure c).2)]) := by
  refine fn_cw tbv41ok Tryz.func63 rfl Tryz.ntmps63 rfl cb63 rfl rfl fun w N H hG => ?_
  have c_takers_l : c.takers.length ≤ 140737488355328 := w.1.2.1.1
  have c_lent_l : c.lent.length ≤ 140737488355328 := w.1.2.2.1.1
  have c_held_l_l : c.held.l.length ≤ 140737488355328 := w.1.2.2.2.2.2.2.1.1
  have e0 := r27_Sure.eq_1 c
  refine go tbv41ok 2 rfl rfl trivial ?_
  refine ef (boxA 0 rfl rfl rfl fun b1 => ?_)
  refine ef (alloc tbv41ok 1 rfl rfl rfl rfl fun b2 => ?_)
  refine go tbv41ok 10 rfl rfl trivial ?_
  refine cnd rfl (fun h3 => ?_) (fun h3 => ?_)
  · have e4 := e0.trans (condT h3)
    refine go tbv41ok 3 rfl rfl trivial ?_
    refine ef (storeA tbv41ok rfl rfl rfl rfl rfl rfl rfl rfl rfl rfl ?_)
    refine go tbv41ok 5 rfl rfl trivial ?_
    exact rt2 rfl rfl (ple_of (fun r : ChanR × Int => .tup [.agg (ChanR.pc r.1), .int .i64 r.2]) e4 (ple rfl))
  · have e5 := e0.trans (condF h3)
    refine go tbv41ok 5 rfl rfl trivial ?_
    refine ef (store1 tbv41ok rfl rfl rfl rfl rfl rfl rfl rfl rfl ?_)
    refine go tbv41ok 5 rfl rfl trivial ?_
    refine ef (storeA tbv41ok rfl rfl rfl rfl rfl rfl rfl rfl rfl rfl ?_)
    refine go tbv41ok 4 rfl rfl trivial ?_
    exact rt2 rfl rfl (ple_of (fun r : ChanR × Int => .tup [.agg (ChanR.pc r.1), .int .i64 r.2]) e5 (ple rfl))
theorem r27_Put_ok (c : ChanR) : Fn Tryz.prog gb 65 [.agg (ChanR.pc c)] (.tup [.agg (ChanR.pc ((r27_Put c).1)), .int .u64 ((r27_Put c).2)]) := by
  refine fn_cw tbv41ok Tryz.func65 rfl Tryz.ntmps65 rfl cb65 rfl rfl fun w N H hG => ?_
  have c_takers_l : c.takers.length ≤ 140737488355328 := w.1.2.1.1
  have c_lent_l : c.lent.length ≤ 140737488355328 := w.1.2.2.1.1
  have c_held_l_l : c.held.l.length ≤ 140737488355328 := w.1.2.2.2.2.2.2.1.1
  have e0 := r27_Put.eq_1 c
  refine go tbv41ok 2 rfl rfl trivial ?_
  refine ef (boxA 0 rfl rfl rfl fun b1 => ?_)
  refine ef (alloc tbv41ok 1 rfl rfl rfl rfl fun b2 => ?_)
  refine go tbv41ok 10 rfl rfl trivial ?_
  refine cnd rfl (fun h3 => ?_) (fun h3 => ?_)
  · have e4 := e0.trans (condT h3)
    have := wr_u64 (c.puts + 1)
    refine go tbv41ok 5 rfl rfl trivial ?_
    refine ef (store1 tbv41ok rfl rfl rfl rfl rfl rfl rfl rfl rfl ?_)
    refine go tbv41ok 3 rfl rfl trivial ?_
    refine any [1, 2, 3, 4, 5, 6, 7] 5 mixd rfl ?_
    refine gov tbv41ok [0, 1, 2] 2 rfl (by kernel_rfl) rfl rfl trivial ?_
    refine ve 3 rfl (by kernel_rfl) rfl (storeA tbv41ok rfl rfl rfl rfl rfl rfl rfl rfl rfl rfl ?_)
    refine gov tbv41ok [4] 0 rfl (by kernel_rfl) rfl rfl trivial ?_
    refine vdone (by kernel_rfl) ?_
    refine go tbv41ok 2 rfl rfl trivial ?_
    exact rt2 rfl rfl (ple_of (fun r : ChanR × Int => .tup [.agg (ChanR.pc r.1), .int .u64 r.2]) e4 (ple rfl))
  · have e5 := e0.trans (condF h3)
    refine go tbv41ok 3 rfl rfl trivial ?_
    refine any [1, 2, 3, 4, 5, 6, 7] 5 mixd rfl ?_
    refine gov tbv41ok [0, 1, 2] 2 rfl (by kernel_rfl) rfl rfl trivial ?_
    refine ve 3 rfl (by kernel_rfl) rfl (storeA tbv41ok rfl rfl rfl rfl rfl rfl rfl rfl rfl rfl ?_)
    refine gov tbv41ok [4] 0 rfl (by kernel_rfl) rfl rfl trivial ?_
    refine vdone (by kernel_rfl) ?_
    refine go tbv41ok 2 rfl rfl trivial ?_
    exact rt2 rfl rfl (ple_of (fun r : ChanR × Int => .tup [.agg (ChanR.pc r.1), .int .u64 r.2]) e5 (ple rfl))
theorem r27_Draft_ok (c : ChanR) : Fn Tryz.prog gb 67 [.agg (ChanR.pc c)] (.tup [.agg (ChanR.pc ((r27_Draft c).1)), .int .i64 ((r27_Draft c).2)]) := by
  refine fn_cw tbv41ok Tryz.func67 rfl Tryz.ntmps67 rfl cb67 rfl rfl fun w N H hG => ?_
  have c_takers_l : c.takers.length ≤ 140737488355328 := w.1.2.1.1
  have c_lent_l : c.lent.length ≤ 140737488355328 := w.1.2.2.1.1
  have c_held_l_l : c.held.l.length ≤ 140737488355328 := w.1.2.2.2.2.2.2.1.1
  have e0 := r27_Draft.eq_1 c
  refine go tbv41ok 2 rfl rfl trivial ?_
  refine ef (boxA 0 rfl rfl rfl fun b1 => ?_)
  refine ef (alloc tbv41ok 1 rfl rfl rfl rfl fun b2 => ?_)
  refine go tbv41ok 14 rfl rfl ⟨(fun hc => hc), rfl, rfl, trivial⟩ ?_
  refine cnd rfl (fun h3 => ?_) (fun h3 => ?_)
  · have e4 := e0.trans (condT h3)
    refine go tbv41ok 3 rfl rfl trivial ?_
    refine ef (storeA tbv41ok rfl rfl rfl rfl rfl rfl rfl rfl rfl rfl ?_)
    refine go tbv41ok 5 rfl rfl trivial ?_
    exact rt2 rfl rfl (ple_of (fun r : ChanR × Int => .tup [.agg (ChanR.pc r.1), .int .i64 r.2]) e4 (ple rfl))
  · have h5 := orl h3
    have h6 := orr h3
    have e7 := e0.trans (condF h3)
    refine go tbv41ok 5 rfl rfl trivial ?_
    refine ef (store1 tbv41ok rfl rfl rfl rfl rfl rfl rfl rfl rfl ?_)
    refine go tbv41ok 5 rfl rfl trivial ?_
    refine ef (storeA tbv41ok rfl rfl rfl rfl rfl rfl rfl rfl rfl rfl ?_)
    refine go tbv41ok 4 rfl rfl trivial ?_
    exact rt2 rfl rfl (ple_of (fun r : ChanR × Int => .tup [.agg (ChanR.pc r.1), .int .i64 r.2]) e7 (ple rfl))
theorem r27_Undo_ok (c : ChanR) : Fn Tryz.prog gb 71 [.agg (ChanR.pc c)] (.tup [.agg (ChanR.pc ((r27_Undo c).1)), .int .i64 ((r27_Undo c).2)]) := by
  refine fn_cw tbv41ok Tryz.func71 rfl Tryz.ntmps71 rfl cb71 rfl rfl fun w N H hG => ?_
  have c_takers_l : c.takers.length ≤ 140737488355328 := w.1.2.1.1
  have c_lent_l : c.lent.length ≤ 140737488355328 := w.1.2.2.1.1
  have c_held_l_l : c.held.l.length ≤ 140737488355328 := w.1.2.2.2.2.2.2.1.1
  have e0 := r27_Undo.eq_1 c
  refine go tbv41ok 2 rfl rfl trivial ?_
  refine ef (boxA 0 rfl rfl rfl fun b1 => ?_)
  refine ef (alloc tbv41ok 1 rfl rfl rfl rfl fun b2 => ?_)
  refine go tbv41ok 11 rfl rfl trivial ?_
  refine cnd rfl (fun h3 => ?_) (fun h3 => ?_)
  · have h4 := not_t h3
    have e5 := e0.trans (condT h3)
    refine go tbv41ok 3 rfl rfl trivial ?_
    refine ef (storeA tbv41ok rfl rfl rfl rfl rfl rfl rfl rfl rfl rfl ?_)
    refine go tbv41ok 5 rfl rfl trivial ?_
    exact rt2 rfl rfl (ple_of (fun r : ChanR × Int => .tup [.agg (ChanR.pc r.1), .int .i64 r.2]) e5 (ple rfl))
  · have h6 := not_f h3
    have e7 := e0.trans (condF h3)
    refine go tbv41ok 5 rfl rfl trivial ?_
    refine ef (store1 tbv41ok rfl rfl rfl rfl rfl rfl rfl rfl rfl ?_)
    refine box_nil (i := 0) (off := 6) (enc := DeedR.pc) rfl rfl rfl ?_
    refine go tbv41ok 5 rfl rfl trivial ?_
    refine ef (storeA tbv41ok rfl rfl rfl rfl rfl rfl rfl rfl rfl rfl ?_)
    refine go tbv41ok 4 rfl rfl trivial ?_
    exact rt2 rfl rfl (ple_of (fun r : ChanR × Int => .tup [.agg (ChanR.pc r.1), .int .i64 r.2]) e7 (ple rfl))
theorem r27_SameTakers_ok (a : List TakerR) (b : List TakerR) : Fn Tryz.prog gb 75 [.sl TakerR.pc a, .sl TakerR.pc b] (.bool (r27_SameTakers a b)) := by
  refine fn_cw tbv41ok Tryz.func75 rfl Tryz.ntmps75 rfl cb75 rfl rfl fun w N H hG => ?_
  have a_l : a.length ≤ 140737488355328 := w.1.1
  have b_l : b.length ≤ 140737488355328 := w.2.1.1
  have e0 := r27_SameTakers.eq_1 a b
  refine go tbv41ok 15 rfl rfl trivial ?_
  refine cnd rfl (fun h1 => ?_) (fun h1 => ?_)
  · have h2 := not_t h1
    have p3 := df h2
    have e4 := e0.trans (condT h1)
    refine go tbv41ok 7 rfl rfl trivial ?_
    exact rt1 rfl rfl (ple_of (fun r : Bool => .bool r) e4 (ple rfl))
  · have h5 := not_f h1
    have p6 := dt h5
    have e7 := e0.trans (condF h1)
    refine go tbv41ok 11 rfl rfl trivial ?_
    refine loop (ι := Nat) [0, 1, 12] [] (fun k => [(13, .int .i64 (k : Int))]) (fun k => []) (fun k => k ≤ a.length ∧ r27_SameTakers a b = r27_SameTakers_l0 b (a.drop k) k) (fun k => a.length - k) 0 ⟨rfl, trivial⟩ trivial ?_ ?_
    · exact ⟨Nat.zero_le _, e7⟩
    · rintro k ⟨hp8_1, hp8_2⟩
      refine go tbv41ok 6 rfl rfl trivial ?_
      refine cnd rfl (fun h9 => ?_) (fun h9 => ?_)
      · have p10 := dt h9
        have e11 := lstep (f := fun zz => r27_SameTakers_l0 b zz k) hp8_2 (dropG (by omega)) (r27_SameTakers_l0.eq_2 _ _ _ _)
        refine go tbv41ok 11 rfl rfl trivial ?_
        refine any [0, 1, 2, 3, 4, 5] 9 mixd rfl ?_
        refine gov tbv41ok [0, 1] 7 rfl (by kernel_rfl) rfl rfl trivial ?_
        have hc12 := getG (xs := a) (k := k) (by omega)
        refine vq 2 (qidx tbv41ok k rfl rfl rfl hc12 rfl rfl rfl rfl) rfl (by kernel_rfl) rfl fun w13 => ?_
        refine gov tbv41ok [3, 4, 5] 3 rfl (by kernel_rfl) rfl rfl trivial ?_
        have hc14 := getG (xs := b) (k := k) (by omega)
        refine vq 6 (qidx tbv41ok k rfl rfl rfl hc14 rfl rfl rfl rfl) rfl (by kernel_rfl) rfl fun w15 => ?_
        refine gov tbv41ok [7] 1 rfl (by kernel_rfl) rfl rfl trivial ?_
        refine vq 8 (sane rfl rfl eqg127 (veq127 (gt a k) (gt b k))) rfl (by kernel_rfl) rfl fun w16 => ?_
        refine vdone (by kernel_rfl) ?_
        refine go tbv41ok 1 rfl rfl trivial ?_
        refine cnd rfl (fun h17 => ?_) (fun h17 => ?_)
        · have h18 := not_t h17
          have p19 := df h18
          have e20 := e11.trans (condT h17)
          refine go tbv41ok 11 rfl rfl trivial ?_
          exact rt1 rfl rfl (ple_of (fun r : Bool => .bool r) e20 (ple rfl))
        · have h21 := not_f h17
          have p22 := dt h21
          have e23 := e11.trans (condF h17)
          refine go tbv41ok 7 rfl rfl ⟨(by omega), trivial⟩ ?_
          refine next (k + 1) rfl rfl ⟨rfl, trivial⟩ trivial ?_ ?_
          · (try simp only []); omega
          · exact ⟨by (try simp only []); omega, e23⟩
      · have p24 := df h9
        have e25 := lstep (f := fun zz => r27_SameTakers_l0 b zz k) hp8_2 (dropN (by omega)) (r27_SameTakers_l0.eq_1 _ _)
        refine go tbv41ok 11 rfl rfl trivial ?_
        exact rt1 rfl rfl (ple_of (fun r : Bool => .bool r) e25 (ple rfl))
theorem r27_SameLent_ok (a : List LentR) (b : List LentR) : Fn Tryz.prog gb 76 [.sl LentR.pc a, .sl LentR.pc b] (.bool (r27_SameLent a b)) := by
  refine fn_cw tbv41ok Tryz.func76 rfl Tryz.ntmps76 rfl cb76 rfl rfl fun w N H hG => ?_
  have a_l : a.length ≤ 140737488355328 := w.1.1
  have b_l : b.length ≤ 140737488355328 := w.2.1.1
  have e0 := r27_SameLent.eq_1 a b
  refine go tbv41ok 15 rfl rfl trivial ?_
  refine cnd rfl (fun h1 => ?_) (fun h1 => ?_)
  · have h2 := not_t h1
    have p3 := df h2
    have e4 := e0.trans (condT h1)
    refine go tbv41ok 7 rfl rfl trivial ?_
    exact rt1 rfl rfl (ple_of (fun r : Bool => .bool r) e4 (ple rfl))
  · have h5 := not_f h1
    have p6 := dt h5
    have e7 := e0.trans (condF h1)
    refine go tbv41ok 11 rfl rfl trivial ?_
    refine loop (ι := Nat) [0, 1, 12] [] (fun k => [(13, .int .i64 (k : Int))]) (fun k => []) (fun k => k ≤ a.length ∧ r27_SameLent a b = r27_SameLent_l0 b (a.drop k) k) (fun k => a.length - k) 0 ⟨rfl, trivial⟩ trivial ?_ ?_
    · exact ⟨Nat.zero_le _, e7⟩
    · rintro k ⟨hp8_1, hp8_2⟩
      refine go tbv41ok 6 rfl rfl trivial ?_
      refine cnd rfl (fun h9 => ?_) (fun h9 => ?_)
      · have p10 := dt h9
        have e11 := lstep (f := fun zz => r27_SameLent_l0 b zz k) hp8_2 (dropG (by omega)) (r27_SameLent_l0.eq_2 _ _ _ _)
        refine go tbv41ok 11 rfl rfl trivial ?_
        refine any [0, 1, 2, 3, 4, 5] 9 mixd rfl ?_
        refine gov tbv41ok [0, 1] 7 rfl (by kernel_rfl) rfl rfl trivial ?_
        have hc12 := getG (xs := a) (k := k) (by omega)
        refine vq 2 (qidx tbv41ok k rfl rfl rfl hc12 rfl rfl rfl rfl) rfl (by kernel_rfl) rfl fun w13 => ?_
        refine gov tbv41ok [3, 4, 5] 3 rfl (by kernel_rfl) rfl rfl trivial ?_
        have hc14 := getG (xs := b) (k := k) (by omega)
        refine vq 6 (qidx tbv41ok k rfl rfl rfl hc14 rfl rfl rfl rfl) rfl (by kernel_rfl) rfl fun w15 => ?_
        refine gov tbv41ok [7] 1 rfl (by kernel_rfl) rfl rfl trivial ?_
        refine vq 8 (sane rfl rfl eqg113 (veq113 (gt a k) (gt b k))) rfl (by kernel_rfl) rfl fun w16 => ?_
        refine vdone (by kernel_rfl) ?_
        refine go tbv41ok 1 rfl rfl trivial ?_
        refine cnd rfl (fun h17 => ?_) (fun h17 => ?_)
        · have h18 := not_t h17
          have p19 := df h18
          have e20 := e11.trans (condT h17)
          refine go tbv41ok 11 rfl rfl trivial ?_
          exact rt1 rfl rfl (ple_of (fun r : Bool => .bool r) e20 (ple rfl))
        · have h21 := not_f h17
          have p22 := dt h21
          have e23 := e11.trans (condF h17)
          refine go tbv41ok 7 rfl rfl ⟨(by omega), trivial⟩ ?_
          refine next (k + 1) rfl rfl ⟨rfl, trivial⟩ trivial ?_ ?_
          · (try simp only []); omega
          · exact ⟨by (try simp only []); omega, e23⟩
      · have p24 := df h9
        have e25 := lstep (f := fun zz => r27_SameLent_l0 b zz k) hp8_2 (dropN (by omega)) (r27_SameLent_l0.eq_1 _ _)
        refine go tbv41ok 11 rfl rfl trivial ?_
        exact rt1 rfl rfl (ple_of (fun r : Bool => .bool r) e25 (ple rfl))
end Go.SW.V
set_option linter.unusedVariables false
set_option maxRecDepth 100000
set_option maxHeartbeats 4000000
namespace Go.SW.V
open Go.SW Go.Proofs
theorem cb133 : Callable Tryz.prog 133 := callable_of Tryz.func133 (by kernel_rfl) (by kernel_rfl)
theorem cb149 : Callable Tryz.prog 149 := callable_of Tryz.func149 (by kernel_rfl) (by kernel_rfl)
theorem cb153 : Callable Tryz.prog 153 := callable_of Tryz.func153 (by kernel_rfl) (by kernel_rfl)
def tbv45 : Tb := [(9, ⟨.str, 1, 16, [.str []]⟩),
  (44, ⟨.agg [(0, 1), (1, 1), (2, 1)], 3, 40, [.str [], .int .u8 0, .str []]⟩),
  (49, ⟨.agg [(0, 1), (1, 1), (2, 1), (3, 1), (4, 1), (5, 1)], 6, 88, [.str [], .str [], .bool false, .str [], .sl Pair.pc [], .bool false]⟩),
  (146, ⟨.slc 9, 1, 24, [.sl strc []]⟩),
  (188, ⟨.slc 44, 1, 24, [.sl ShopR.pc []]⟩),
  (189, ⟨.slc 49, 1, 24, [.sl BindR.pc []]⟩),
  (191, ⟨.agg [(0, 1), (1, 1)], 2, 48, [.sl ShopR.pc [], .sl BindR.pc []]⟩),
  (217, ⟨.slc 188, 1, 24, [.sl (slc ShopR.pc) []]⟩)]
theorem tbv45ok : tbB Tryz.prog tbv45 = true := by kernel_rfl
theorem route_put_ok (l : List Bs) (s : Bs) (hl : l.length ≤ 100000) : Fl Tryz.prog gb 153 [.str s] (fun u => .val u) 1 9 strc l (route_put l s) := by
  refine fl_cw tbv45ok Tryz.func153 rfl Tryz.ntmps153 rfl cb153 (fun _ => rfl) rfl fun w l_l u0 N H hG => ?_
  have s_l : s.length ≤ 9223372036854775807 := w.1
  have e0 := route_put.eq_1 l s
  refine go tbv45ok 10 rfl rfl trivial ?_
  refine ef (calll 0 rfl (contains_Str _ _) rfl rfl rfl fun w1 => ?_)
  refine go tbv45ok 2 rfl rfl trivial ?_
  refine cnd rfl (fun h2 => ?_) (fun h2 => ?_)
  · have p3 := dt h2
    have e4 := e0.trans (condT h2)
    refine go tbv45ok 6 rfl rfl trivial ?_
    refine sw_val (t := 4) (i := 0) rfl rfl ?_
    refine go tbv45ok 2 rfl rfl trivial ?_
    refine ro1 (j := 0) rfl rfl rfl ?_
    · exact (congrArg (fun r : (List Bs) => r) e4).symm
  · have p5 := df h2
    have e6 := e0.trans (condF h2)
    refine go tbv45ok 6 rfl rfl trivial ?_
    refine ef (bsl 1 strc [s] tbv45ok rfl rfl rfl rfl rfl (fun _ => rfl) rfl (by decide) (by decide) rfl fun u7 => ?_)
    refine ef (app tbv45ok [s] rfl rfl rfl rfl rfl rfl rfl rfl rfl (src_o rfl rfl) (by first | omega | (simp; omega)) rfl fun u8 => ?_)
    refine go tbv45ok 3 rfl rfl trivial ?_
    refine sw_val (t := 4) (i := 0) rfl rfl ?_
    refine go tbv45ok 1 rfl rfl trivial ?_
    refine ro1 (j := 0) rfl rfl rfl ?_
    · exact (congrArg (fun r : (List Bs) => r) e6).symm
theorem route_Book_Make_ok (b : BookR) (x : ShopR) (hs : b.shops.length ≤ 1000) : Fn Tryz.prog gb 133 [.agg (BookR.pc b), .agg (ShopR.pc x)] (.tup [.agg (BookR.pc ((route_Book_Make b x).1)), .int .i64 ((route_Book_Make b x).2)]) := by
  refine fn_cw tbv45ok Tryz.func133 rfl Tryz.ntmps133 rfl cb133 rfl rfl fun w N H hG => ?_
  have b_shops_l : b.shops.length ≤ 140737488355328 := w.1.1.1
  have b_binds_l : b.binds.length ≤ 140737488355328 := w.1.2.1.1
  have e0 := route_Book_Make.eq_1 b x
  refine go tbv45ok 2 rfl rfl trivial ?_
  refine ef (boxA 0 rfl rfl rfl fun b1 => ?_)
  refine ef (boxA 1 rfl rfl rfl fun b2 => ?_)
  refine ef (alloc tbv45ok 2 rfl rfl rfl rfl fun b3 => ?_)
  refine go tbv45ok 7 rfl rfl trivial ?_
  refine call (shop_check _) rfl rfl fun w4 => ?_
  have := shopE_r x
  refine go tbv45ok 9 rfl rfl trivial ?_
  refine cnd rfl (fun h5 => ?_) (fun h5 => ?_)
  · have h6 := not_t h5
    have p7 := df h6
    have e8 := e0.trans (condT h5)
    refine go tbv45ok 4 rfl rfl trivial ?_
    refine ef (storeA tbv45ok rfl rfl rfl rfl rfl rfl rfl rfl rfl rfl ?_)
    refine go tbv45ok 5 rfl rfl trivial ?_
    exact rt2 rfl rfl (ple_of (fun r : BookR × Int => .tup [.agg (BookR.pc r.1), .int .i64 r.2]) e8 (ple rfl))
  · have h9 := not_f h5
    have p10 := dt h9
    have e11 := e0.trans (condF h5)
    refine go tbv45ok 7 rfl rfl trivial ?_
    refine call (book_Shop _ _) rfl rfl fun w12 => ?_
    refine go tbv45ok 3 rfl rfl trivial ?_
    refine ef (alloc tbv45ok 3 rfl rfl rfl rfl fun b13 => ?_)
    refine ef (storeA tbv45ok rfl rfl rfl rfl rfl rfl rfl rfl rfl rfl ?_)
    refine go tbv45ok 11 rfl rfl trivial ?_
    refine q1g [25, 26] rfl (fun hc => saeq rfl rfl eqg44 (veq44 x ((shopOf b.shops x.name).getD ShopR.zero))) ⟨(fun hc => hc), (fun hc => hc), trivial⟩ rfl rfl rfl fun _ => ?_
    refine go tbv45ok 4 rfl rfl ⟨rfl, rfl, trivial⟩ ?_
    refine cnd rfl (fun h14 => ?_) (fun h14 => ?_)
    · have h15 := bl h14
      have h16 := br h14
      have p17 := dt h16
      have e18 := e11.trans (condT h14)
      refine go tbv45ok 3 rfl rfl trivial ?_
      refine ef (storeA tbv45ok rfl rfl rfl rfl rfl rfl rfl rfl rfl rfl ?_)
      refine go tbv45ok 6 rfl rfl trivial ?_
      exact rt2 rfl rfl (ple_of (fun r : BookR × Int => .tup [.agg (BookR.pc r.1), .int .i64 r.2]) e18 (ple rfl))
    · have e19 := e11.trans (condF h14)
      refine go tbv45ok 6 rfl rfl trivial ?_
      refine cnd rfl (fun h20 => ?_) (fun h20 => ?_)
      · have e21 := e19.trans (condT h20)
        refine go tbv45ok 3 rfl rfl trivial ?_
        refine ef (storeA tbv45ok rfl rfl rfl rfl rfl rfl rfl rfl rfl rfl ?_)
        refine go tbv45ok 6 rfl rfl trivial ?_
        exact rt2 rfl rfl (ple_of (fun r : BookR × Int => .tup [.agg (BookR.pc r.1), .int .i64 r.2]) e21 (ple rfl))
      · have e22 := e19.trans (condF h20)
        refine go tbv45ok 9 rfl rfl trivial ?_
        refine cnd rfl (fun h23 => ?_) (fun h23 => ?_)
        · have p24 := dt h23
          have e25 := e22.trans (condT h23)
          refine go tbv45ok 3 rfl rfl trivial ?_
          refine ef (storeA tbv45ok rfl rfl rfl rfl rfl rfl rfl rfl rfl rfl ?_)
          refine go tbv45ok 6 rfl rfl trivial ?_
          exact rt2 rfl rfl (ple_of (fun r : BookR × Int => .tup [.agg (BookR.pc r.1), .int .i64 r.2]) e25 (ple rfl))
        · have p26 := df h23
          have e27 := e22.trans (condF h23)
          refine go tbv45ok 8 rfl rfl trivial ?_
          refine ef (bsl 4 ShopR.pc [x] tbv45ok rfl rfl rfl rfl rfl (fun _ => rfl) rfl (by decide) (by decide) rfl fun u28 => ?_)
          refine give 4 rfl ?_
          refine ef (bsl 4 (slc ShopR.pc) [b.shops, [x]] tbv45ok rfl rfl rfl rfl rfl (fun _ => rfl) rfl (by decide) (by decide) rfl fun u29 => ?_)
          refine give 4 rfl ?_
          refine call (concat_Shop _ (by first | omega | (simp; done) | (simp; omega) | (simp only [List.flatten_cons, List.flatten_nil, List.length_append, List.append_nil]; simp; omega))) rfl rfl fun w30 => ?_
          refine go tbv45ok 1 rfl rfl trivial ?_
          refine ef (store1 tbv45ok rfl rfl rfl rfl rfl rfl rfl rfl rfl ?_)
          refine go tbv45ok 5 rfl rfl trivial ?_
          refine ef (storeA tbv45ok rfl rfl rfl rfl rfl rfl rfl rfl rfl rfl ?_)
          refine go tbv45ok 4 rfl rfl trivial ?_
          exact rt2 rfl rfl (ple_of (fun r : BookR × Int => .tup [.agg (BookR.pc r.1), .int .i64 r.2]) e27 (ple rfl))
theorem route_Book_there_ok (b : BookR) (x : BindR) : Fn Tryz.prog gb 149 [.agg (BookR.pc b), .agg (BindR.pc x)] (.int .i64 (route_Book_there b x)) := by
  refine fn_cw tbv45ok Tryz.func149 rfl Tryz.ntmps149 rfl cb149 rfl rfl fun w N H hG => ?_
  have b_shops_l : b.shops.length ≤ 140737488355328 := w.1.1.1
  have b_binds_l : b.binds.length ≤ 140737488355328 := w.1.2.1.1
  have x_want_l : x.want.length ≤ 140737488355328 := w.2.1.2.2.2.2.1.1
  have e0 := route_Book_there.eq_1 b x
  refine go tbv45ok 2 rfl rfl trivial ?_
  refine ef (boxA 0 rfl rfl rfl fun b1 => ?_)
  refine ef (boxA 1 rfl rfl rfl fun b2 => ?_)
  refine go tbv45ok 9 rfl rfl trivial ?_
  refine call (idxF_Bind _ _ _ _ (fun z_3 : BindR => decide (x = z_3)) (fun z_3 => bind_same x z_3)) rfl rfl fun w4 => ?_
  have hix4 := idxP_b (fun z_3 : BindR => decide (x = z_3)) b.binds
  refine go tbv45ok 4 rfl rfl trivial ?_
  exact rt1 rfl rfl (ple_of (fun r : Int => .int .i64 r) e0 (ple rfl))
end Go.SW.V
